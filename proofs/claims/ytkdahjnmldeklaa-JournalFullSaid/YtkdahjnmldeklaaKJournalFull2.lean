/- What this claim uses of this session's own texts, put together by a program: GVfs3 NameIter HVfsN GVfs4 GVfs5 GVfsA GJour2. -/
import Derived.Test.YtkdahjnmldeklaaKJournalFull1
import Derived.Test.YtkdahjnmldeklaaProg
import Derived.Test.YtkdahjnmldeklaaRows
section
namespace Go.Proofs.Ytkdahjnmldeklaa.PA
open Go.RowKit Go.Proofs.YtkdahjnmldeklaaW.PrintWords Go.Proofs.YtkdahjnmldeklaaW.PrintLast Go.Proofs.YtkdahjnmldeklaaW.PrintMore
set_option linter.unusedVariables false
set_option linter.unusedSimpArgs false
namespace GVfs3_
theorem gwagg23 : ∀ w, (isAgg 23).run Try.prog w = .ok false w := fun _ => by kernel_rfl
theorem gwagg28 : ∀ w, (isAgg 28).run Try.prog w = .ok false w := fun _ => by kernel_rfl
theorem gwagg3 : ∀ w, (isAgg 3).run Try.prog w = .ok false w := fun _ => by kernel_rfl
theorem gwagg4 : ∀ w, (isAgg 4).run Try.prog w = .ok false w := fun _ => by kernel_rfl
theorem gwagg74 : ∀ w, (isAgg 74).run Try.prog w = .ok false w := fun _ => by kernel_rfl
theorem gwagg78 : ∀ w, (isAgg 78).run Try.prog w = .ok false w := fun _ => by kernel_rfl
theorem gwagg9 : ∀ w, (isAgg 9).run Try.prog w = .ok false w := fun _ => by kernel_rfl
theorem gwfld76_0 (g off : Nat) : ∀ w, (Instr.fieldAt 76 (.pointer (some ⟨g, off, none⟩)) 0).run Try.prog w = .ok (.pointer (some ⟨g, off + 0, none⟩)) w := fun _ => by kernel_rfl
theorem gwfld76_2 (g off : Nat) : ∀ w, (Instr.fieldAt 76 (.pointer (some ⟨g, off, none⟩)) 2).run Try.prog w = .ok (.pointer (some ⟨g, off + 2, none⟩)) w := fun _ => by kernel_rfl
theorem gwfld76_4 (g off : Nat) : ∀ w, (Instr.fieldAt 76 (.pointer (some ⟨g, off, none⟩)) 4).run Try.prog w = .ok (.pointer (some ⟨g, off + 4, none⟩)) w := fun _ => by kernel_rfl
theorem gwfld81_0 (g off : Nat) : ∀ w, (Instr.fieldAt 81 (.pointer (some ⟨g, off, none⟩)) 0).run Try.prog w = .ok (.pointer (some ⟨g, off + 0, none⟩)) w := fun _ => by kernel_rfl
theorem gwfld81_1 (g off : Nat) : ∀ w, (Instr.fieldAt 81 (.pointer (some ⟨g, off, none⟩)) 1).run Try.prog w = .ok (.pointer (some ⟨g, off + 1, none⟩)) w := fun _ => by kernel_rfl
theorem gwsiz28 : ∀ w, (sizeOf 28).run Try.prog w = .ok 1 w := fun _ => by kernel_rfl
theorem gwsiz3 : ∀ w, (sizeOf 3).run Try.prog w = .ok 1 w := fun _ => by kernel_rfl
theorem gwsiz5 : ∀ w, (sizeOf 5).run Try.prog w = .ok 1 w := fun _ => by kernel_rfl
theorem gwsiz78 : ∀ w, (sizeOf 78).run Try.prog w = .ok 1 w := fun _ => by kernel_rfl
theorem gwzer78 : ∀ w, (zeroValue 78).run Try.prog w = .ok (.pointer none) w := fun _ => by kernel_rfl
set_option maxHeartbeats 4000000 in
set_option maxRecDepth 100000 in
theorem cut1 (w0 w : World) (R : Chunk) (gd gm : Nat) (d : PD) (x : XF) (bd bf bk : Nat) (n : Int) (hn0 : 0 ≤ n ∧ n ≤ x.p.b.length) (hu : 0 ≤ d.used ∧ d.used ≤ 9223372036854775807) (hub : (x.p.b.length : Int) ≤ d.used) (HO : Own w0 w [R, Bk gd [.map (some gm), .int .i64 d.most, .int .i64 d.used, .int .i64 d.fuse, .bool d.down] 76, Bk x.g [.slice x.A x.p.b.length x.c, .int .i64 x.p.sf] 81, Chunk.row (Kd.int .u8) 5 w0.heap.size x.S (.slice x.A x.p.b.length x.c) x.p.b, Bk bd [.pointer (some ⟨gd, 0, none⟩)] 23, Bk bf [.pointer (some ⟨x.g, 0, none⟩)] 78, Bk bk [.int .i64 n] 3]) :
    Calls Try.prog 67 #[.pointer (some ⟨bd, 0, none⟩), .pointer (some ⟨bf, 0, none⟩), .pointer (some ⟨bk, 0, none⟩)] w fun e w' => e = .returned (.tuple #[]) ∧ Own w0 w' [R, Chunk.blk x.g (.cells #[.slice x.A (x.p.b.take n.toNat).length x.c, .int .i64 (mn x.p.sf n)] 81 (0, 0)), Chunk.row (Kd.int .u8) 5 w0.heap.size x.S (.slice x.A (x.p.b.take n.toNat).length x.c) (x.p.b.take n.toNat), Chunk.blk gd (.cells (dcells gm { d with used := d.used - ((x.p.b.length : Int) - n) }) 76 (0, 0))] := by
 refine gw_startO (N := 35) (vs := [.pointer (some ⟨bd, 0, none⟩), .pointer (some ⟨bf, 0, none⟩), .pointer (some ⟨bk, 0, none⟩)]) Try.func67 rfl rfl (by simp) fun a HF => ?_
 refine gw_seq fun K1 hK1 => ?_
 refine gx_draw (M := [R, Bk gd [.map (some gm), J d.most, J d.used, J d.fuse, .bool d.down] 76, Bk x.g [.slice x.A x.p.b.length x.c, J x.p.sf] 81, Chunk.row (Kd.int .u8) 5 w0.heap.size x.S (.slice x.A x.p.b.length x.c) x.p.b, Bk bd [.pointer (some ⟨gd, 0, none⟩)] 23, Bk bf [.pointer (some ⟨x.g, 0, none⟩)] 78, Bk bk [J n] 3]) (fun j_ => j_ == 14) HO (by kernel_rfl) fun w2 O3 => ?_
 clear HO
 refine gx_take 0 rfl (by kernel_rfl) HF (by exact O3.sel [0, 1, 2, 3, 4, 5, 6] (by decide)) (want_none rfl) rfl (by decide) (fun wq HO => (op_load1 gwagg23 rfl (HF.ev rfl) (blk_at (HO.get 4 rfl) rfl))) ?_
 intro _ H5; clear HF
 refine gx_take 1 rfl (by kernel_rfl) H5 (by exact O3.sel [0, 1, 2, 3, 4, 5, 6] (by decide)) (want_none rfl) rfl (by decide) (fun wq HO => (op_nil rfl (H5.ev rfl))) ?_
 intro _ H7; clear H5
 refine gx_take 2 rfl (by kernel_rfl) H7 (by exact O3.sel [0, 1, 2, 3, 4, 5, 6] (by decide)) (want_none rfl) rfl (by decide) (fun wq HO => (op_field (gwfld76_2 _ _) rfl (H7.ev rfl))) ?_
 intro _ H9; clear H7
 refine gx_take 3 rfl (by kernel_rfl) H9 (by exact O3.sel [0, 1, 2, 3, 4, 5, 6] (by decide)) (want_none rfl) rfl (by decide) (fun wq HO => (op_load1 gwagg3 rfl (H9.ev rfl) (blk_at (HO.get 1 rfl) rfl))) ?_
 intro _ H11; clear H9
 refine gx_take 4 rfl (by kernel_rfl) H11 (by exact O3.sel [0, 1, 2, 3, 4, 5, 6] (by decide)) (want_none rfl) rfl (by decide) (fun wq HO => (op_load1 gwagg78 rfl (H11.ev rfl) (blk_at (HO.get 5 rfl) rfl))) ?_
 intro _ H13; clear H11
 refine gx_take 5 rfl (by kernel_rfl) H13 (by exact O3.sel [0, 1, 2, 3, 4, 5, 6] (by decide)) (want_none rfl) rfl (by decide) (fun wq HO => (op_nil rfl (H13.ev rfl))) ?_
 intro _ H15; clear H13
 refine gx_take 6 rfl (by kernel_rfl) H15 (by exact O3.sel [0, 1, 2, 3, 4, 5, 6] (by decide)) (want_none rfl) rfl (by decide) (fun wq HO => (op_field (gwfld81_0 _ _) rfl (H15.ev rfl))) ?_
 intro _ H17; clear H15
 refine gx_take 7 rfl (by kernel_rfl) H17 (by exact O3.sel [0, 1, 2, 3, 4, 5, 6] (by decide)) (want_none rfl) rfl (by decide) (fun wq HO => (op_load1 gwagg28 rfl (H17.ev rfl) (blk_at (HO.get 2 rfl) rfl))) ?_
 intro _ H19; clear H17
 refine gx_take 8 rfl (by kernel_rfl) H19 (by exact O3.sel [0, 1, 2, 3, 4, 5, 6] (by decide)) (want_none rfl) rfl (by decide) (fun wq HO => (op_len Try.underlying28 rfl (H19.ev rfl))) ?_
 intro _ H21; clear H19
 refine gx_take 9 rfl (by kernel_rfl) H21 (by exact O3.sel [0, 1, 2, 3, 4, 5, 6] (by decide)) (want_none rfl) rfl (by decide) (fun wq HO => (op_load1 gwagg3 rfl (H21.ev rfl) (blk_at (HO.get 6 rfl) rfl))) ?_
 intro _ H23; clear H21
 refine gx_take 10 rfl (by kernel_rfl) H23 (by exact O3.sel [0, 1, 2, 3, 4, 5, 6] (by decide)) (want_none rfl) rfl (by decide) (fun wq HO => (op_sub rfl (H23.ev rfl) (H23.ev rfl) (by omega))) ?_
 intro _ H25; clear H23
 refine gx_take 11 rfl (by kernel_rfl) H25 (by exact O3.sel [0, 1, 2, 3, 4, 5, 6] (by decide)) (want_none rfl) rfl (by decide) (fun wq HO => (op_sub rfl (H25.ev rfl) (H25.ev rfl) (by omega))) ?_
 intro _ H27; clear H25
 refine gx_step 12 rfl (by kernel_rfl) ?_
 refine V H27 (op_nil rfl (H27.ev rfl)) ?_
 intro _ H29; clear H27
 refine gx_on (i := 12) (B := (fun j_ => j_ == 14)) (M := [R, Bk gd [.map (some gm), J d.most, J d.used, J d.fuse, .bool d.down] 76, Bk x.g [.slice x.A x.p.b.length x.c, J x.p.sf] 81, Chunk.row (Kd.int .u8) 5 w0.heap.size x.S (.slice x.A x.p.b.length x.c) x.p.b, Bk bd [.pointer (some ⟨gd, 0, none⟩)] 23, Bk bf [.pointer (some ⟨x.g, 0, none⟩)] 78, Bk bk [J n] 3]) (fun _ => (by exact O3.sel [0, 1, 2, 3, 4, 5, 6] (by decide))) ?_
 refine gx_take 13 rfl (by kernel_rfl) H29 (by exact O3.sel [0, 1, 2, 3, 4, 5, 6] (by decide)) (want_none rfl) rfl (by decide) (fun wq HO => (op_field (gwfld76_2 _ _) rfl (H29.ev rfl))) ?_
 intro _ H31; clear H29
 refine gx_step 14 rfl (by kernel_rfl) ?_
 refine gw_set 1 H31 O3 rfl (want_none rfl) rfl (op_store1 gwsiz3 rfl (H31.ev rfl) (H31.ev rfl) rfl (blk_at (O3.get 1 rfl) rfl) (blkf (O3.get 1 rfl))) ?_
 intro _ w34 H33 O35; clear H31 O3
 have O36 : Own w0 w34 [R, Bk gd [.map (some gm), J d.most, J (d.used - ((x.p.b.length : Int) - n)), J d.fuse, .bool d.down] 76, Bk x.g [.slice x.A x.p.b.length x.c, J x.p.sf] 81, Chunk.row (Kd.int .u8) 5 w0.heap.size x.S (.slice x.A x.p.b.length x.c) x.p.b, Bk bd [.pointer (some ⟨gd, 0, none⟩)] 23, Bk bf [.pointer (some ⟨x.g, 0, none⟩)] 78, Bk bk [J n] 3] := O35
 clear O35
 refine gx_on (i := 14) (B := (fun j_ => j_ == 14)) (M := [R, Bk gd [.map (some gm), J d.most, J d.used, J d.fuse, .bool d.down] 76, Bk x.g [.slice x.A x.p.b.length x.c, J x.p.sf] 81, Chunk.row (Kd.int .u8) 5 w0.heap.size x.S (.slice x.A x.p.b.length x.c) x.p.b, Bk bd [.pointer (some ⟨gd, 0, none⟩)] 23, Bk bf [.pointer (some ⟨x.g, 0, none⟩)] 78, Bk bk [J n] 3]) (fun h_ => by cases h_) ?_
 refine gx_done (by kernel_rfl) ?_
 refine gw_nx (hK1 _ _ ?_)
 refine gw_seq fun K37 hK37 => ?_
 refine gx_draw (M := [R, Bk gd [.map (some gm), J d.most, J (d.used - ((x.p.b.length : Int) - n)), J d.fuse, .bool d.down] 76, Bk x.g [.slice x.A x.p.b.length x.c, J x.p.sf] 81, Chunk.row (Kd.int .u8) 5 w0.heap.size x.S (.slice x.A x.p.b.length x.c) x.p.b, Bk bd [.pointer (some ⟨gd, 0, none⟩)] 23, Bk bf [.pointer (some ⟨x.g, 0, none⟩)] 78, Bk bk [J n] 3]) (fun j_ => j_ == 9) O36 (by kernel_rfl) fun w38 O39 => ?_
 clear O36
 refine gx_take 0 rfl (by kernel_rfl) H33 (by exact O39.sel [0, 1, 2, 3, 4, 5, 6] (by decide)) (want_none rfl) rfl (by decide) (fun wq HO => (op_load1 gwagg78 rfl (H33.ev rfl) (blk_at (HO.get 5 rfl) rfl))) ?_
 intro _ H41; clear H33
 refine gx_take 1 rfl (by kernel_rfl) H41 (by exact O39.sel [0, 1, 2, 3, 4, 5, 6] (by decide)) (want_none rfl) rfl (by decide) (fun wq HO => (op_load1 gwagg78 rfl (H41.ev rfl) (blk_at (HO.get 5 rfl) rfl))) ?_
 intro _ H43; clear H41
 refine gx_take 2 rfl (by kernel_rfl) H43 (by exact O39.sel [0, 1, 2, 3, 4, 5, 6] (by decide)) (want_none rfl) rfl (by decide) (fun wq HO => (op_nil rfl (H43.ev rfl))) ?_
 intro _ H45; clear H43
 refine gx_take 3 rfl (by kernel_rfl) H45 (by exact O39.sel [0, 1, 2, 3, 4, 5, 6] (by decide)) (want_none rfl) rfl (by decide) (fun wq HO => (op_field (gwfld81_0 _ _) rfl (H45.ev rfl))) ?_
 intro _ H47; clear H45
 refine gx_take 4 rfl (by kernel_rfl) H47 (by exact O39.sel [0, 1, 2, 3, 4, 5, 6] (by decide)) (want_none rfl) rfl (by decide) (fun wq HO => (op_load1 gwagg28 rfl (H47.ev rfl) (blk_at (HO.get 2 rfl) rfl))) ?_
 intro _ H49; clear H47
 refine gx_take 5 rfl (by kernel_rfl) H49 (by exact O39.sel [0, 1, 2, 3, 4, 5, 6] (by decide)) (want_none rfl) rfl (by decide) (fun wq HO => (op_load1 gwagg3 rfl (H49.ev rfl) (blk_at (HO.get 6 rfl) rfl))) ?_
 intro _ H51; clear H49
 obtain ⟨hr52, hc53, hC54⟩ := cut_hi (P := Try.prog) (d := (Kd.int .u8)) (t := 28) (e := 5) Try.underlying28 gwsiz5 x.A x.c x.p.b (row_cap (O39.get 3 rfl)) n (by omega) (by omega)
 refine gx_take 6 rfl (by kernel_rfl) H51 (by exact O39.sel [0, 1, 2, 3, 4, 5, 6] (by decide)) (want_none rfl) rfl (by decide) (fun wq HO => (op_cut Try.underlying28 hr52 rfl (H51.ev rfl) rfl (some_ev (H51.ev rfl)))) ?_
 intro _ H56; clear H51
 refine gx_step 7 rfl (by kernel_rfl) ?_
 refine V H56 (op_nil rfl (H56.ev rfl)) ?_
 intro _ H58; clear H56
 refine gx_on (i := 7) (B := (fun j_ => j_ == 9)) (M := [R, Bk gd [.map (some gm), J d.most, J (d.used - ((x.p.b.length : Int) - n)), J d.fuse, .bool d.down] 76, Bk x.g [.slice x.A x.p.b.length x.c, J x.p.sf] 81, Chunk.row (Kd.int .u8) 5 w0.heap.size x.S (.slice x.A x.p.b.length x.c) x.p.b, Bk bd [.pointer (some ⟨gd, 0, none⟩)] 23, Bk bf [.pointer (some ⟨x.g, 0, none⟩)] 78, Bk bk [J n] 3]) (fun _ => (by exact O39.sel [0, 1, 2, 3, 4, 5, 6] (by decide))) ?_
 refine gx_take 8 rfl (by kernel_rfl) H58 (by exact O39.sel [0, 1, 2, 3, 4, 5, 6] (by decide)) (want_none rfl) rfl (by decide) (fun wq HO => (op_field (gwfld81_0 _ _) rfl (H58.ev rfl))) ?_
 intro _ H60; clear H58
 refine gx_step 9 rfl (by kernel_rfl) ?_
 refine gw_set 2 H60 O39 rfl (want_none rfl) rfl (op_store1 gwsiz28 rfl (H60.ev rfl) (H60.ev rfl) rfl (blk_at (O39.get 2 rfl) rfl) (blkf (O39.get 2 rfl))) ?_
 intro _ w63 H62 O64; clear H60 O39
 have O65 : Own w0 w63 [R, Bk gd [.map (some gm), J d.most, J (d.used - ((x.p.b.length : Int) - n)), J d.fuse, .bool d.down] 76, Bk x.g [.slice x.A ((x.p.b.take n.toNat).length) x.c, J x.p.sf] 81, Chunk.row (Kd.int .u8) 5 w0.heap.size x.S (.slice x.A x.p.b.length x.c) x.p.b, Bk bd [.pointer (some ⟨gd, 0, none⟩)] 23, Bk bf [.pointer (some ⟨x.g, 0, none⟩)] 78, Bk bk [J n] 3] := O64
 clear O64
 refine gx_on (i := 9) (B := (fun j_ => j_ == 9)) (M := [R, Bk gd [.map (some gm), J d.most, J (d.used - ((x.p.b.length : Int) - n)), J d.fuse, .bool d.down] 76, Bk x.g [.slice x.A x.p.b.length x.c, J x.p.sf] 81, Chunk.row (Kd.int .u8) 5 w0.heap.size x.S (.slice x.A x.p.b.length x.c) x.p.b, Bk bd [.pointer (some ⟨gd, 0, none⟩)] 23, Bk bf [.pointer (some ⟨x.g, 0, none⟩)] 78, Bk bk [J n] 3]) (fun h_ => by cases h_) ?_
 refine gx_done (by kernel_rfl) ?_
 have O66 := O65.row_takeL 3 rfl n.toNat (by omega)
 clear O65
 have O67 : Own w0 w63 [R, Bk gd [.map (some gm), J d.most, J (d.used - ((x.p.b.length : Int) - n)), J d.fuse, .bool d.down] 76, Bk x.g [.slice x.A ((x.p.b.take n.toNat).length) x.c, J x.p.sf] 81, Chunk.row (Kd.int .u8) 5 w0.heap.size x.S (.slice x.A ((x.p.b.take n.toNat).length) x.c) (x.p.b.take n.toNat), Bk bd [.pointer (some ⟨gd, 0, none⟩)] 23, Bk bf [.pointer (some ⟨x.g, 0, none⟩)] 78, Bk bk [J n] 3] := O66
 clear O66
 refine gw_nx (hK37 _ _ ?_)
 refine gx_draw (M := [R, Bk gd [.map (some gm), J d.most, J (d.used - ((x.p.b.length : Int) - n)), J d.fuse, .bool d.down] 76, Bk x.g [.slice x.A ((x.p.b.take n.toNat).length) x.c, J x.p.sf] 81, Chunk.row (Kd.int .u8) 5 w0.heap.size x.S (.slice x.A ((x.p.b.take n.toNat).length) x.c) (x.p.b.take n.toNat), Bk bd [.pointer (some ⟨gd, 0, none⟩)] 23, Bk bf [.pointer (some ⟨x.g, 0, none⟩)] 78, Bk bk [J n] 3]) (fun j_ => j_ == 9) O67 (by kernel_rfl) fun w68 O69 => ?_
 clear O67
 refine gx_take 0 rfl (by kernel_rfl) H62 (by exact O69.sel [0, 1, 2, 3, 4, 5, 6] (by decide)) (want_none rfl) rfl (by decide) (fun wq HO => (op_load1 gwagg78 rfl (H62.ev rfl) (blk_at (HO.get 5 rfl) rfl))) ?_
 intro _ H71; clear H62
 refine gx_take 1 rfl (by kernel_rfl) H71 (by exact O69.sel [0, 1, 2, 3, 4, 5, 6] (by decide)) (want_none rfl) rfl (by decide) (fun wq HO => (op_load1 gwagg78 rfl (H71.ev rfl) (blk_at (HO.get 5 rfl) rfl))) ?_
 intro _ H73; clear H71
 refine gx_take 2 rfl (by kernel_rfl) H73 (by exact O69.sel [0, 1, 2, 3, 4, 5, 6] (by decide)) (want_none rfl) rfl (by decide) (fun wq HO => (op_nil rfl (H73.ev rfl))) ?_
 intro _ H75; clear H73
 refine gx_take 3 rfl (by kernel_rfl) H75 (by exact O69.sel [0, 1, 2, 3, 4, 5, 6] (by decide)) (want_none rfl) rfl (by decide) (fun wq HO => (op_field (gwfld81_1 _ _) rfl (H75.ev rfl))) ?_
 intro _ H77; clear H75
 refine gx_take 4 rfl (by kernel_rfl) H77 (by exact O69.sel [0, 1, 2, 3, 4, 5, 6] (by decide)) (want_none rfl) rfl (by decide) (fun wq HO => (op_load1 gwagg3 rfl (H77.ev rfl) (blk_at (HO.get 2 rfl) rfl))) ?_
 intro _ H79; clear H77
 refine gx_take 5 rfl (by kernel_rfl) H79 (by exact O69.sel [0, 1, 2, 3, 4, 5, 6] (by decide)) (want_none rfl) rfl (by decide) (fun wq HO => (op_load1 gwagg3 rfl (H79.ev rfl) (blk_at (HO.get 6 rfl) rfl))) ?_
 intro _ H81; clear H79
 refine gx_take 6 rfl (by kernel_rfl) H81 (by exact O69.sel [0, 1, 2, 3, 4, 5, 6] (by decide)) (want_none rfl) rfl (by decide) (fun wq HO => (op_min rfl (H81.ev rfl) (H81.ev rfl))) ?_
 intro _ H83; clear H81
 refine gx_step 7 rfl (by kernel_rfl) ?_
 refine V H83 (op_nil rfl (H83.ev rfl)) ?_
 intro _ H85; clear H83
 refine gx_on (i := 7) (B := (fun j_ => j_ == 9)) (M := [R, Bk gd [.map (some gm), J d.most, J (d.used - ((x.p.b.length : Int) - n)), J d.fuse, .bool d.down] 76, Bk x.g [.slice x.A ((x.p.b.take n.toNat).length) x.c, J x.p.sf] 81, Chunk.row (Kd.int .u8) 5 w0.heap.size x.S (.slice x.A ((x.p.b.take n.toNat).length) x.c) (x.p.b.take n.toNat), Bk bd [.pointer (some ⟨gd, 0, none⟩)] 23, Bk bf [.pointer (some ⟨x.g, 0, none⟩)] 78, Bk bk [J n] 3]) (fun _ => (by exact O69.sel [0, 1, 2, 3, 4, 5, 6] (by decide))) ?_
 refine gx_take 8 rfl (by kernel_rfl) H85 (by exact O69.sel [0, 1, 2, 3, 4, 5, 6] (by decide)) (want_none rfl) rfl (by decide) (fun wq HO => (op_field (gwfld81_1 _ _) rfl (H85.ev rfl))) ?_
 intro _ H87; clear H85
 refine gx_step 9 rfl (by kernel_rfl) ?_
 refine gw_set 2 H87 O69 rfl (want_none rfl) rfl (op_store1 gwsiz3 rfl (H87.ev rfl) (H87.ev rfl) rfl (blk_at (O69.get 2 rfl) rfl) (blkf (O69.get 2 rfl))) ?_
 intro _ w90 H89 O91; clear H87 O69
 have O92 : Own w0 w90 [R, Bk gd [.map (some gm), J d.most, J (d.used - ((x.p.b.length : Int) - n)), J d.fuse, .bool d.down] 76, Bk x.g [.slice x.A ((x.p.b.take n.toNat).length) x.c, J (mn x.p.sf n)] 81, Chunk.row (Kd.int .u8) 5 w0.heap.size x.S (.slice x.A ((x.p.b.take n.toNat).length) x.c) (x.p.b.take n.toNat), Bk bd [.pointer (some ⟨gd, 0, none⟩)] 23, Bk bf [.pointer (some ⟨x.g, 0, none⟩)] 78, Bk bk [J n] 3] := O91
 clear O91
 refine gx_on (i := 9) (B := (fun j_ => j_ == 9)) (M := [R, Bk gd [.map (some gm), J d.most, J (d.used - ((x.p.b.length : Int) - n)), J d.fuse, .bool d.down] 76, Bk x.g [.slice x.A ((x.p.b.take n.toNat).length) x.c, J x.p.sf] 81, Chunk.row (Kd.int .u8) 5 w0.heap.size x.S (.slice x.A ((x.p.b.take n.toNat).length) x.c) (x.p.b.take n.toNat), Bk bd [.pointer (some ⟨gd, 0, none⟩)] 23, Bk bf [.pointer (some ⟨x.g, 0, none⟩)] 78, Bk bk [J n] 3]) (fun h_ => by cases h_) ?_
 refine gx_done (by kernel_rfl) ?_
 refine gw_end0 H89 rfl ?_
 exact ⟨rfl, O92.sel [0, 2, 3, 1] (by decide)⟩
set_option maxHeartbeats 4000000 in
set_option maxRecDepth 100000 in
theorem cut_calls (w0 w : World) (R : Chunk) (gd : Nat) (S : Nat → Prop) (d : PD) (nm : ByteArray) (n : Int) (hw : wfD d) (hn : nm.size ≤ 9223372036854775807) (HO : Own w0 w [R, Chunk.disk w0.heap.size gd S d]) :
    Calls Try.prog 51 #[.pointer (some ⟨gd, 0, none⟩), .string nm, .int .i64 n] w fun e w' => e = .returned (.int .i64 (cutD nm n d).2) ∧ ∃ S', Own w0 w' [R, Chunk.disk w0.heap.size gd S' (cutD nm n d).1] := by
 have hu0 := hw.used
 have hm0 := hw.most
 have hfu := hw.fuse
 obtain ⟨gm, xs, hxs, hon, HO⟩ := disk_open2 HO
 refine gw_startO (N := 34) (vs := [.pointer (some ⟨gd, 0, none⟩), .string nm, J n]) Try.func51 rfl rfl (by simp) fun a HF => ?_
 rcases look3 nm d hxs hon with hdn | ⟨hdn, hl, hgd, hno⟩ | ⟨hdn, pre, x, post, rfl, hnm, hl, hgd, hoth⟩
 ·
  refine gw_seq fun K1 hK1 => ?_
  refine wp_region_lit ?_
  refine gw_new HF HO (want_none rfl) rfl (by decide) (op_box rfl (HF.ev rfl)) ?_
  intro g2 _ w4 H5 O6; clear HF HO
  have O7 : Own w0 w4 [Bk g2 [.pointer (some ⟨gd, 0, none⟩)] 23, R, Bk gd [.map (some gm), J d.most, J d.used, J d.fuse, .bool d.down] 76, Chunk.lmap Try.prog 9 gm (xs.map XF.ent), Chunk.files w0.heap.size xs] := O6
  clear O6
  refine gw_new H5 O7 (want_none rfl) rfl (by decide) (op_box rfl (H5.ev rfl)) ?_
  intro g8 _ w10 H11 O12; clear H5 O7
  have O13 : Own w0 w10 [Bk g8 [J n] 3, Bk g2 [.pointer (some ⟨gd, 0, none⟩)] 23, R, Bk gd [.map (some gm), J d.most, J d.used, J d.fuse, .bool d.down] 76, Chunk.lmap Try.prog 9 gm (xs.map XF.ent), Chunk.files w0.heap.size xs] := O12
  clear O12
  refine V H11 (op_assign rfl (ev_c _ _)) ?_
  intro _ H15; clear H11
  refine wpList_nil ?_
  refine gw_nx (hK1 _ _ ?_)
  refine gw_seq fun K16 hK16 => ?_
  refine wp_region_lit ?_
  refine V H15 (op_load1 gwagg23 rfl (H15.ev rfl) (blk_at (O13.get 1 rfl) rfl)) ?_
  intro _ H18; clear H15
  refine V H18 (op_move rfl (H18.ev rfl)) ?_
  intro _ H20; clear H18
  refine gw_call H20 (want_none rfl) rfl (by decide) (op_callL Try.func42 (by kernel_rfl) rfl rfl (ar_cons (H20.ev rfl) (ar_cons (H20.ev rfl) ar_nil))) (find_down gd gm d nm (xs.map XF.ent) _ (by exact O13.get 3 rfl) (O13.get 4 rfl) hdn hn) ?_
  rintro e21 w22 ⟨rfl, hb23⟩
  refine ⟨_, rfl, fun _ H25 => ?_⟩
  have O26 := O13.after hb23
  clear H20 O13 hb23
  refine V H25 (op_move rfl (H25.ev rfl)) ?_
  intro _ H29; clear H25
  refine V H29 (op_extract rfl (H29.ev rfl) rfl) ?_
  intro _ H31; clear H29
  refine V H31 (op_extract rfl (H31.ev rfl) rfl) ?_
  intro _ H33; clear H31
  refine gw_new H33 O26 (want_none rfl) rfl (by decide) (op_alloc gwzer78 rfl) ?_
  intro g34 _ w36 H37 O38; clear H33 O26
  have O39 : Own w0 w36 [Bk g34 [.pointer none] 78, Bk g8 [J n] 3, Bk g2 [.pointer (some ⟨gd, 0, none⟩)] 23, R, Bk gd [.map (some gm), J d.most, J d.used, J d.fuse, .bool d.down] 76, Chunk.lmap Try.prog 9 gm (xs.map XF.ent), Chunk.files w0.heap.size xs] := O38
  clear O38
  refine gw_set 0 H37 O39 rfl (want_none rfl) rfl (op_store1 gwsiz78 rfl (H37.ev rfl) (H37.ev rfl) rfl (blk_at (O39.get 0 rfl) rfl) (blkf (O39.get 0 rfl))) ?_
  intro _ w42 H41 O43; clear H37 O39
  have O44 : Own w0 w42 [Bk g34 [.pointer none] 78, Bk g8 [J n] 3, Bk g2 [.pointer (some ⟨gd, 0, none⟩)] 23, R, Bk gd [.map (some gm), J d.most, J d.used, J d.fuse, .bool d.down] 76, Chunk.lmap Try.prog 9 gm (xs.map XF.ent), Chunk.files w0.heap.size xs] := O43
  clear O43
  refine V H41 (op_assign rfl (H41.ev rfl)) ?_
  intro _ H46; clear H41
  refine wpList_nil ?_
  refine gw_nx (hK16 _ _ ?_)
  refine gw_seq fun K47 hK47 => ?_
  refine wp_block ?_
  refine gw_seq fun K48 hK48 => ?_
  refine wp_region_lit ?_
  refine V H46 (op_move rfl (H46.ev rfl)) ?_
  intro _ H50; clear H46
  refine V H50 (op_nei rfl (H50.ev rfl) (ev_c _ _)) ?_
  intro _ H52; clear H50
  have H53 := H52.lit (b := true) (by decide)
  clear H52
  refine V H53 (op_assign rfl (H53.ev rfl)) ?_
  intro _ H55; clear H53
  refine wpList_nil ?_
  refine gw_nx (hK48 _ _ ?_)
  refine gw_cond H55 rfl (fun hb56 => ?_) (fun hb56 => ?_)
  rotate_left
  ·
   cases hb56
  refine gw_seq fun K57 hK57 => ?_
  refine wp_region_lit ?_
  refine V H55 (op_move rfl (H55.ev rfl)) ?_
  intro _ H59; clear H55
  refine V H59 (op_assign rfl (H59.ev rfl)) ?_
  intro _ H61; clear H59
  refine wpList_nil ?_
  refine gw_nx (hK57 _ _ ?_)
  refine wp_ret ?_
  refine gw_blr ?_
  refine gw_thr ?_
  refine gw_ret1 H61 rfl rfl ?_
  exact disk_fin (gd := gd) (gm := gm) (d' := d) (xs := xs) (with_down hdn) hxs (by exact O44.sel [3, 4, 5, 6] (by decide))
 ·
  refine gw_seq fun K62 hK62 => ?_
  refine wp_region_lit ?_
  refine gw_new HF HO (want_none rfl) rfl (by decide) (op_box rfl (HF.ev rfl)) ?_
  intro g63 _ w65 H66 O67; clear HF HO
  have O68 : Own w0 w65 [Bk g63 [.pointer (some ⟨gd, 0, none⟩)] 23, R, Bk gd [.map (some gm), J d.most, J d.used, J d.fuse, .bool d.down] 76, Chunk.lmap Try.prog 9 gm (xs.map XF.ent), Chunk.files w0.heap.size xs] := O67
  clear O67
  refine gw_new H66 O68 (want_none rfl) rfl (by decide) (op_box rfl (H66.ev rfl)) ?_
  intro g69 _ w71 H72 O73; clear H66 O68
  have O74 : Own w0 w71 [Bk g69 [J n] 3, Bk g63 [.pointer (some ⟨gd, 0, none⟩)] 23, R, Bk gd [.map (some gm), J d.most, J d.used, J d.fuse, .bool d.down] 76, Chunk.lmap Try.prog 9 gm (xs.map XF.ent), Chunk.files w0.heap.size xs] := O73
  clear O73
  refine V H72 (op_assign rfl (ev_c _ _)) ?_
  intro _ H76; clear H72
  refine wpList_nil ?_
  refine gw_nx (hK62 _ _ ?_)
  refine gw_seq fun K77 hK77 => ?_
  refine wp_region_lit ?_
  refine V H76 (op_load1 gwagg23 rfl (H76.ev rfl) (blk_at (O74.get 1 rfl) rfl)) ?_
  intro _ H79; clear H76
  refine V H79 (op_move rfl (H79.ev rfl)) ?_
  intro _ H81; clear H79
  refine gw_call H81 (want_none rfl) rfl (by decide) (op_callL Try.func42 (by kernel_rfl) rfl rfl (ar_cons (H81.ev rfl) (ar_cons (H81.ev rfl) ar_nil))) (find_none gd gm d nm (xs.map XF.ent) _ (by exact O74.get 3 rfl) (O74.get 4 rfl) hdn hl hn) ?_
  rintro e82 w83 ⟨rfl, hb84⟩
  refine ⟨_, rfl, fun _ H86 => ?_⟩
  have O87 := O74.after hb84
  clear H81 O74 hb84
  refine V H86 (op_move rfl (H86.ev rfl)) ?_
  intro _ H90; clear H86
  refine V H90 (op_extract rfl (H90.ev rfl) rfl) ?_
  intro _ H92; clear H90
  refine V H92 (op_extract rfl (H92.ev rfl) rfl) ?_
  intro _ H94; clear H92
  refine gw_new H94 O87 (want_none rfl) rfl (by decide) (op_alloc gwzer78 rfl) ?_
  intro g95 _ w97 H98 O99; clear H94 O87
  have O100 : Own w0 w97 [Bk g95 [.pointer none] 78, Bk g69 [J n] 3, Bk g63 [.pointer (some ⟨gd, 0, none⟩)] 23, R, Bk gd [.map (some gm), J d.most, J d.used, J d.fuse, .bool d.down] 76, Chunk.lmap Try.prog 9 gm (xs.map XF.ent), Chunk.files w0.heap.size xs] := O99
  clear O99
  refine gw_set 0 H98 O100 rfl (want_none rfl) rfl (op_store1 gwsiz78 rfl (H98.ev rfl) (H98.ev rfl) rfl (blk_at (O100.get 0 rfl) rfl) (blkf (O100.get 0 rfl))) ?_
  intro _ w103 H102 O104; clear H98 O100
  have O105 : Own w0 w103 [Bk g95 [.pointer none] 78, Bk g69 [J n] 3, Bk g63 [.pointer (some ⟨gd, 0, none⟩)] 23, R, Bk gd [.map (some gm), J d.most, J d.used, J d.fuse, .bool d.down] 76, Chunk.lmap Try.prog 9 gm (xs.map XF.ent), Chunk.files w0.heap.size xs] := O104
  clear O104
  refine V H102 (op_assign rfl (H102.ev rfl)) ?_
  intro _ H107; clear H102
  refine wpList_nil ?_
  refine gw_nx (hK77 _ _ ?_)
  refine gw_seq fun K108 hK108 => ?_
  refine wp_block ?_
  refine gw_seq fun K109 hK109 => ?_
  refine wp_region_lit ?_
  refine V H107 (op_move rfl (H107.ev rfl)) ?_
  intro _ H111; clear H107
  refine V H111 (op_nei rfl (H111.ev rfl) (ev_c _ _)) ?_
  intro _ H113; clear H111
  have H114 := H113.lit (b := true) (by decide)
  clear H113
  refine V H114 (op_assign rfl (H114.ev rfl)) ?_
  intro _ H116; clear H114
  refine wpList_nil ?_
  refine gw_nx (hK109 _ _ ?_)
  refine gw_cond H116 rfl (fun hb117 => ?_) (fun hb117 => ?_)
  rotate_left
  ·
   cases hb117
  refine gw_seq fun K118 hK118 => ?_
  refine wp_region_lit ?_
  refine V H116 (op_move rfl (H116.ev rfl)) ?_
  intro _ H120; clear H116
  refine V H120 (op_assign rfl (H120.ev rfl)) ?_
  intro _ H122; clear H120
  refine wpList_nil ?_
  refine gw_nx (hK118 _ _ ?_)
  refine wp_ret ?_
  refine gw_blr ?_
  refine gw_thr ?_
  refine gw_ret1 H122 rfl rfl ?_
  exact disk_fin (gd := gd) (gm := gm) (d' := d) (xs := xs) (with_none hdn hgd) hxs (by exact O105.sel [3, 4, 5, 6] (by decide))
 ·
  have HO := Own.sel (Own.file_open (Own.sel HO [3, 0, 1, 2] (by decide))) [3, 4, 5, 0, 1, 2] (by decide)
  have hxl := wf_len hw (getF_mem hgd).1
  have hxs1 := hw.sf _ (getF_mem hgd).1
  have O123 : Own w0 w [R, Bk gd [.map (some gm), J d.most, J d.used, J d.fuse, .bool d.down] 76, Chunk.lmap Try.prog 9 gm ((pre ++ x :: post).map XF.ent), Bk x.g [.slice x.A x.p.b.length x.c, J x.p.sf] 81, Chunk.row (Kd.int .u8) 5 w0.heap.size x.S (.slice x.A x.p.b.length x.c) x.p.b, Chunk.files w0.heap.size (pre ++ post)] := HO
  clear HO
  refine gw_seq fun K124 hK124 => ?_
  refine wp_region_lit ?_
  refine gw_new HF O123 (want_none rfl) rfl (by decide) (op_box rfl (HF.ev rfl)) ?_
  intro g125 _ w127 H128 O129; clear HF O123
  have O130 : Own w0 w127 [Bk g125 [.pointer (some ⟨gd, 0, none⟩)] 23, R, Bk gd [.map (some gm), J d.most, J d.used, J d.fuse, .bool d.down] 76, Chunk.lmap Try.prog 9 gm ((pre ++ x :: post).map XF.ent), Bk x.g [.slice x.A x.p.b.length x.c, J x.p.sf] 81, Chunk.row (Kd.int .u8) 5 w0.heap.size x.S (.slice x.A x.p.b.length x.c) x.p.b, Chunk.files w0.heap.size (pre ++ post)] := O129
  clear O129
  refine gw_new H128 O130 (want_none rfl) rfl (by decide) (op_box rfl (H128.ev rfl)) ?_
  intro g131 _ w133 H134 O135; clear H128 O130
  have O136 : Own w0 w133 [Bk g131 [J n] 3, Bk g125 [.pointer (some ⟨gd, 0, none⟩)] 23, R, Bk gd [.map (some gm), J d.most, J d.used, J d.fuse, .bool d.down] 76, Chunk.lmap Try.prog 9 gm ((pre ++ x :: post).map XF.ent), Bk x.g [.slice x.A x.p.b.length x.c, J x.p.sf] 81, Chunk.row (Kd.int .u8) 5 w0.heap.size x.S (.slice x.A x.p.b.length x.c) x.p.b, Chunk.files w0.heap.size (pre ++ post)] := O135
  clear O135
  refine V H134 (op_assign rfl (ev_c _ _)) ?_
  intro _ H138; clear H134
  refine wpList_nil ?_
  refine gw_nx (hK124 _ _ ?_)
  refine gw_seq fun K139 hK139 => ?_
  refine wp_region_lit ?_
  refine V H138 (op_load1 gwagg23 rfl (H138.ev rfl) (blk_at (O136.get 1 rfl) rfl)) ?_
  intro _ H141; clear H138
  refine V H141 (op_move rfl (H141.ev rfl)) ?_
  intro _ H143; clear H141
  refine gw_call H143 (want_none rfl) rfl (by decide) (op_callL Try.func42 (by kernel_rfl) rfl rfl (ar_cons (H143.ev rfl) (ar_cons (H143.ev rfl) ar_nil))) (find_some gd gm d nm ((pre ++ x :: post).map XF.ent) x.g _ (by exact O136.get 3 rfl) (O136.get 4 rfl) hdn hl hn) ?_
  rintro e144 w145 ⟨rfl, hb146⟩
  refine ⟨_, rfl, fun _ H148 => ?_⟩
  have O149 := O136.after hb146
  clear H143 O136 hb146
  refine V H148 (op_move rfl (H148.ev rfl)) ?_
  intro _ H152; clear H148
  refine V H152 (op_extract rfl (H152.ev rfl) rfl) ?_
  intro _ H154; clear H152
  refine V H154 (op_extract rfl (H154.ev rfl) rfl) ?_
  intro _ H156; clear H154
  refine gw_new H156 O149 (want_none rfl) rfl (by decide) (op_alloc gwzer78 rfl) ?_
  intro g157 _ w159 H160 O161; clear H156 O149
  have O162 : Own w0 w159 [Bk g157 [.pointer none] 78, Bk g131 [J n] 3, Bk g125 [.pointer (some ⟨gd, 0, none⟩)] 23, R, Bk gd [.map (some gm), J d.most, J d.used, J d.fuse, .bool d.down] 76, Chunk.lmap Try.prog 9 gm ((pre ++ x :: post).map XF.ent), Bk x.g [.slice x.A x.p.b.length x.c, J x.p.sf] 81, Chunk.row (Kd.int .u8) 5 w0.heap.size x.S (.slice x.A x.p.b.length x.c) x.p.b, Chunk.files w0.heap.size (pre ++ post)] := O161
  clear O161
  refine gw_set 0 H160 O162 rfl (want_none rfl) rfl (op_store1 gwsiz78 rfl (H160.ev rfl) (H160.ev rfl) rfl (blk_at (O162.get 0 rfl) rfl) (blkf (O162.get 0 rfl))) ?_
  intro _ w165 H164 O166; clear H160 O162
  have O167 : Own w0 w165 [Bk g157 [.pointer (some ⟨x.g, 0, none⟩)] 78, Bk g131 [J n] 3, Bk g125 [.pointer (some ⟨gd, 0, none⟩)] 23, R, Bk gd [.map (some gm), J d.most, J d.used, J d.fuse, .bool d.down] 76, Chunk.lmap Try.prog 9 gm ((pre ++ x :: post).map XF.ent), Bk x.g [.slice x.A x.p.b.length x.c, J x.p.sf] 81, Chunk.row (Kd.int .u8) 5 w0.heap.size x.S (.slice x.A x.p.b.length x.c) x.p.b, Chunk.files w0.heap.size (pre ++ post)] := O166
  clear O166
  refine V H164 (op_assign rfl (H164.ev rfl)) ?_
  intro _ H169; clear H164
  refine wpList_nil ?_
  refine gw_nx (hK139 _ _ ?_)
  refine gw_seq fun K170 hK170 => ?_
  refine wp_block ?_
  refine gw_seq fun K171 hK171 => ?_
  refine wp_region_lit ?_
  refine V H169 (op_move rfl (H169.ev rfl)) ?_
  intro _ H173; clear H169
  refine V H173 (op_nei rfl (H173.ev rfl) (ev_c _ _)) ?_
  intro _ H175; clear H173
  have H176 := H175.lit (b := false) (by decide)
  clear H175
  refine V H176 (op_assign rfl (H176.ev rfl)) ?_
  intro _ H178; clear H176
  refine wpList_nil ?_
  refine gw_nx (hK171 _ _ ?_)
  refine gw_cond H178 rfl (fun hb179 => ?_) (fun hb179 => ?_)
  skip
  ·
   cases hb179
  refine gw_seq fun K180 hK180 => ?_
  refine gw_drawB O167 (by kernel_rfl) (by kernel_rfl) fun w181 O182 => ?_
  clear O167
  refine gq_ev H178 (want_none rfl) rfl (by decide) (fun wq hq => have HO := O182.after hq; (op_load1 gwagg3 rfl (H178.ev rfl) (blk_at (HO.get 1 rfl) rfl))) ?_
  intro _ H184; clear H178
  refine gq_ev H184 (want_none rfl) rfl (by decide) (fun wq hq => have HO := O182.after hq; (op_lss rfl (H184.ev rfl) (ev_c _ _))) ?_
  intro _ H186; clear H184
  refine gq_ev H186 (want_none rfl) rfl (by decide) (fun wq hq => have HO := O182.after hq; (op_move rfl (H186.ev rfl))) ?_
  intro _ H188; clear H186
  refine gq_evG H188 rfl rfl rfl rfl (on_f _) rfl (by decide) (fun h_ wq hq => have HO := O182.after hq; (op_load1 gwagg3 rfl (H188.ev rfl) (blk_at (HO.get 1 rfl) rfl))) ?_
  intro _ H190; clear H188
  refine gq_evG H190 rfl rfl rfl rfl (on_f _) rfl (by decide) (fun h_ wq hq => have HO := O182.after hq; (op_load1 gwagg78 rfl (H190.ev rfl) (blk_at (HO.get 0 rfl) rfl))) ?_
  intro _ H192; clear H190
  refine gq_evG H192 rfl rfl rfl rfl (on_f _) rfl (by decide) (fun h_ wq hq => have HO := O182.after hq; (op_nil rfl (ev_gv (H192.ev rfl) h_))) ?_
  intro _ H194; clear H192
  refine gq_evG H194 rfl rfl rfl rfl (on_f _) rfl (by decide) (fun h_ wq hq => have HO := O182.after hq; (op_field (gwfld81_0 _ _) rfl (ev_gv (H194.ev rfl) h_))) ?_
  intro _ H196; clear H194
  refine gq_evG H196 rfl rfl rfl rfl (on_f _) rfl (by decide) (fun h_ wq hq => have HO := O182.after hq; (op_load1 gwagg28 rfl (ev_gv (H196.ev rfl) h_) (blk_at (HO.get 6 rfl) rfl))) ?_
  intro _ H198; clear H196
  refine gq_evG H198 rfl rfl rfl rfl (on_f _) rfl (by decide) (fun h_ wq hq => have HO := O182.after hq; (op_len Try.underlying28 rfl (ev_gv (H198.ev rfl) h_))) ?_
  intro _ H200; clear H198
  refine gq_evG H200 rfl rfl rfl rfl (on_f _) rfl (by decide) (fun h_ wq hq => have HO := O182.after hq; (op_gtr rfl (ev_gv (H200.ev rfl) h_) (ev_gv (H200.ev rfl) h_))) ?_
  intro _ H202; clear H200
  refine gq_ev H202 (want_none rfl) rfl (by decide) (fun wq hq => have HO := O182.after hq; (op_pick_or rfl (H202.ev rfl) (ev_c _ _) (fun hp_ => (ev_gv (H202.ev rfl) (not_t hp_))))) ?_
  intro _ H204; clear H202
  refine gq_ev H204 (want_none rfl) rfl (by decide) (fun wq hq => have HO := O182.after hq; (op_assign rfl (H204.ev rfl))) ?_
  intro _ H206; clear H204
  refine wpQuiet_nil ?_
  intro w207 hq
  have O208 := O182.after hq
  clear O182 hq
  refine gw_nx (hK180 _ _ ?_)
  refine gw_cond H206 rfl (fun hb209 => ?_) (fun hb209 => ?_)
  ·
   have H210 := H206.subst_ (d := 19) (b := true) rfl hb209
   clear H206
   (try simp only [Bool.and_eq_true, Bool.or_eq_true, Bool.and_eq_false_iff, Bool.or_eq_false_iff, Bool.not_and, Bool.not_or, Bool.not_not, decide_eq_true_eq, decide_eq_false_iff_not, Bool.not_eq_true', Bool.not_eq_false', Bool.not_eq_true, Bool.not_eq_false, ne_eq, Decidable.not_not, Int.not_lt, Int.not_le, not_true_eq_false, not_false_eq_true, bne_iff_ne, beq_iff_eq, bne_eq_false_iff_eq, beq_eq_false_iff_ne] at hb209)
   refine gw_seq fun K211 hK211 => ?_
   refine wp_region_lit ?_
   refine V H210 (op_assign rfl (ev_c _ _)) ?_
   intro _ H213; clear H210
   refine wpList_nil ?_
   refine gw_nx (hK211 _ _ ?_)
   refine wp_ret ?_
   refine gw_blr ?_
   refine gw_thr ?_
   refine gw_ret1 H213 rfl rfl ?_
   have O214 := Own.file_close (x := x) (pre := pre) (post := post) (by exact O208.sel [6, 7, 8, 0, 1, 2, 3, 4, 5] (by decide))
   exact disk_fin (gd := gd) (gm := gm) (d' := d) (xs := pre ++ x :: post) (cut_bad hdn hgd (by omega)) hxs (by exact O214.sel [4, 5, 6, 0] (by decide))
  ·
   have H215 := H206.subst_ (d := 19) (b := false) rfl hb209
   clear H206
   (try simp only [Bool.and_eq_true, Bool.or_eq_true, Bool.and_eq_false_iff, Bool.or_eq_false_iff, Bool.not_and, Bool.not_or, Bool.not_not, decide_eq_true_eq, decide_eq_false_iff_not, Bool.not_eq_true', Bool.not_eq_false', Bool.not_eq_true, Bool.not_eq_false, ne_eq, Decidable.not_not, Int.not_lt, Int.not_le, not_true_eq_false, not_false_eq_true, bne_iff_ne, beq_iff_eq, bne_eq_false_iff_eq, beq_eq_false_iff_ne] at hb209)
   refine wp_skip ?_
   refine gw_blk ?_
   refine gw_nx (hK170 _ _ ?_)
   refine gw_seq fun K216 hK216 => ?_
   refine wp_region_lit ?_
   refine V H215 (op_load1 gwagg23 rfl (H215.ev rfl) (blk_at (O208.get 2 rfl) rfl)) ?_
   intro _ H218; clear H215
   refine V H218 (op_func rfl (ar_cons (H218.ev rfl) (ar_cons (H218.ev rfl) (ar_cons (H218.ev rfl) ar_nil)))) ?_
   intro _ H220; clear H218
   have O227 : Own w0 _ [(Chunk.all [Bk g157 [.pointer (some ⟨x.g, 0, none⟩)] 78, Bk g131 [J n] 3, Bk g125 [.pointer (some ⟨gd, 0, none⟩)] 23, R, Chunk.lmap Try.prog 9 gm ((pre ++ x :: post).map XF.ent), Bk x.g [.slice x.A x.p.b.length x.c, J x.p.sf] 81, Chunk.row (Kd.int .u8) 5 w0.heap.size x.S (.slice x.A x.p.b.length x.c) x.p.b, Chunk.files w0.heap.size (pre ++ post)]), Bk gd [.map (some gm), J d.most, J d.used, J d.fuse, .bool d.down] 76] := Own.bundle (A := [Bk g157 [.pointer (some ⟨x.g, 0, none⟩)] 78, Bk g131 [J n] 3, Bk g125 [.pointer (some ⟨gd, 0, none⟩)] 23, R, Chunk.lmap Try.prog 9 gm ((pre ++ x :: post).map XF.ent), Bk x.g [.slice x.A x.p.b.length x.c, J x.p.sf] 81, Chunk.row (Kd.int .u8) 5 w0.heap.size x.S (.slice x.A x.p.b.length x.c) x.p.b, Chunk.files w0.heap.size (pre ++ post)]) (L := [Bk gd [.map (some gm), J d.most, J d.used, J d.fuse, .bool d.down] 76]) (O208.sel [0, 1, 2, 3, 5, 6, 7, 8, 4] (by decide))
   refine gw_call H220 (want_none rfl) rfl (by decide) (op_callL Try.func40 (by kernel_rfl) rfl rfl (ar_cons (H220.ev rfl) (ar_cons (H220.ev rfl) ar_nil))) (step_calls w0 _ (Chunk.all [Bk g157 [.pointer (some ⟨x.g, 0, none⟩)] 78, Bk g131 [J n] 3, Bk g125 [.pointer (some ⟨gd, 0, none⟩)] 23, R, Chunk.lmap Try.prog 9 gm ((pre ++ x :: post).map XF.ent), Bk x.g [.slice x.A x.p.b.length x.c, J x.p.sf] 81, Chunk.row (Kd.int .u8) 5 w0.heap.size x.S (.slice x.A x.p.b.length x.c) x.p.b, Chunk.files w0.heap.size (pre ++ post)]) gd gm d 67 _ [.pointer (some ⟨g125, 0, none⟩), .pointer (some ⟨g157, 0, none⟩), .pointer (some ⟨g131, 0, none⟩)] (fun w_ => Own w0 w_ [(Chunk.all [R, Chunk.lmap Try.prog 9 gm ((pre ++ x :: post).map XF.ent), Chunk.files w0.heap.size (pre ++ post)]), Bk x.g [.slice x.A ((x.p.b.take n.toNat).length) x.c, J (mn x.p.sf n)] 81, Chunk.row (Kd.int .u8) 5 w0.heap.size x.S (.slice x.A ((x.p.b.take n.toNat).length) x.c) (x.p.b.take n.toNat), Bk gd [.map (some gm), J (({ d with fuse := decF d.fuse } : PD).most), J (d.used - ((x.p.b.length : Int) - n)), J (({ d with fuse := decF d.fuse } : PD).fuse), .bool (({ d with fuse := decF d.fuse } : PD).down)] 76]) Try.func67 (by kernel_rfl) rfl hfu (fun hf1 w1 h_ => cut1 w0 w1 (Chunk.all [R, Chunk.lmap Try.prog 9 gm ((pre ++ x :: post).map XF.ent), Chunk.files w0.heap.size (pre ++ post)]) gd gm ({ d with fuse := decF d.fuse } : PD) x g125 g157 g131 n (by omega) (by show 0 ≤ d.used ∧ d.used ≤ _; omega) (by show _ ≤ d.used; omega) (Own.bundle (A := [R, Chunk.lmap Try.prog 9 gm ((pre ++ x :: post).map XF.ent), Chunk.files w0.heap.size (pre ++ post)]) (L := [Bk gd [.map (some gm), J (({ d with fuse := decF d.fuse } : PD).most), J (({ d with fuse := decF d.fuse } : PD).used), J (({ d with fuse := decF d.fuse } : PD).fuse), .bool (({ d with fuse := decF d.fuse } : PD).down)] 76, Bk x.g [.slice x.A x.p.b.length x.c, J x.p.sf] 81, Chunk.row (Kd.int .u8) 5 w0.heap.size x.S (.slice x.A x.p.b.length x.c) x.p.b, Bk g125 [.pointer (some ⟨gd, 0, none⟩)] 23, Bk g157 [.pointer (some ⟨x.g, 0, none⟩)] 78, Bk g131 [J n] 3]) ((Own.unbundle (A := [Bk g157 [.pointer (some ⟨x.g, 0, none⟩)] 78, Bk g131 [J n] 3, Bk g125 [.pointer (some ⟨gd, 0, none⟩)] 23, R, Chunk.lmap Try.prog 9 gm ((pre ++ x :: post).map XF.ent), Bk x.g [.slice x.A x.p.b.length x.c, J x.p.sf] 81, Chunk.row (Kd.int .u8) 5 w0.heap.size x.S (.slice x.A x.p.b.length x.c) x.p.b, Chunk.files w0.heap.size (pre ++ post)]) (L := [Bk gd [.map (some gm), J (({ d with fuse := decF d.fuse } : PD).most), J (({ d with fuse := decF d.fuse } : PD).used), J (({ d with fuse := decF d.fuse } : PD).fuse), .bool (({ d with fuse := decF d.fuse } : PD).down)] 76]) (by exact h_)).sel [3, 4, 7, 8, 5, 6, 2, 0, 1] (by decide)))) (by exact O227)) ?_
   rintro e221 w222 (⟨hf1, rfl, hb223⟩ | ⟨hf1, rfl, hb223⟩)
   ·
    refine ⟨_, rfl, fun _ H225 => ?_⟩
    have O226 : Own w0 w222 [Bk g157 [.pointer (some ⟨x.g, 0, none⟩)] 78, Bk g131 [J n] 3, Bk g125 [.pointer (some ⟨gd, 0, none⟩)] 23, R, Chunk.lmap Try.prog 9 gm ((pre ++ x :: post).map XF.ent), Bk x.g [.slice x.A x.p.b.length x.c, J x.p.sf] 81, Chunk.row (Kd.int .u8) 5 w0.heap.size x.S (.slice x.A x.p.b.length x.c) x.p.b, Chunk.files w0.heap.size (pre ++ post), Bk gd [.map (some gm), J d.most, J d.used, J 0, .bool true] 76] := Own.unbundle (A := [Bk g157 [.pointer (some ⟨x.g, 0, none⟩)] 78, Bk g131 [J n] 3, Bk g125 [.pointer (some ⟨gd, 0, none⟩)] 23, R, Chunk.lmap Try.prog 9 gm ((pre ++ x :: post).map XF.ent), Bk x.g [.slice x.A x.p.b.length x.c, J x.p.sf] 81, Chunk.row (Kd.int .u8) 5 w0.heap.size x.S (.slice x.A x.p.b.length x.c) x.p.b, Chunk.files w0.heap.size (pre ++ post)]) (L := [Bk gd [.map (some gm), J d.most, J d.used, J 0, .bool true] 76]) (by exact hb223)
    clear O227 hb223
    clear H220 O208
    refine V H225 (op_assign rfl (H225.ev rfl)) ?_
    intro _ H229; clear H225
    refine wpList_nil ?_
    refine gw_nx (hK216 _ _ ?_)
    refine wp_ret ?_
    refine gw_ret1 H229 rfl rfl ?_
    have O230 := Own.file_close (x := x) (pre := pre) (post := post) (by exact O226.sel [5, 6, 7, 0, 1, 2, 3, 4, 8] (by decide))
    exact disk_fin (gd := gd) (gm := gm) (d' := { d with fuse := 0, down := true }) (xs := pre ++ x :: post) ((cut_go hdn hgd (by omega)).trans (step_off hf1)) hxs (by exact O230.sel [4, 6, 5, 0] (by decide))
   ·
    refine ⟨_, rfl, fun _ H225 => ?_⟩
    have O226 : Own w0 w222 [R, Chunk.lmap Try.prog 9 gm ((pre ++ x :: post).map XF.ent), Chunk.files w0.heap.size (pre ++ post), Bk x.g [.slice x.A ((x.p.b.take n.toNat).length) x.c, J (mn x.p.sf n)] 81, Chunk.row (Kd.int .u8) 5 w0.heap.size x.S (.slice x.A ((x.p.b.take n.toNat).length) x.c) (x.p.b.take n.toNat), Bk gd [.map (some gm), J (({ d with fuse := decF d.fuse } : PD).most), J (d.used - ((x.p.b.length : Int) - n)), J (({ d with fuse := decF d.fuse } : PD).fuse), .bool (({ d with fuse := decF d.fuse } : PD).down)] 76] := Own.unbundle (A := [R, Chunk.lmap Try.prog 9 gm ((pre ++ x :: post).map XF.ent), Chunk.files w0.heap.size (pre ++ post)]) (L := [Bk x.g [.slice x.A ((x.p.b.take n.toNat).length) x.c, J (mn x.p.sf n)] 81, Chunk.row (Kd.int .u8) 5 w0.heap.size x.S (.slice x.A ((x.p.b.take n.toNat).length) x.c) (x.p.b.take n.toNat), Bk gd [.map (some gm), J (({ d with fuse := decF d.fuse } : PD).most), J (d.used - ((x.p.b.length : Int) - n)), J (({ d with fuse := decF d.fuse } : PD).fuse), .bool (({ d with fuse := decF d.fuse } : PD).down)] 76]) hb223
    clear O227 hb223
    clear H220 O208
    refine V H225 (op_assign rfl (H225.ev rfl)) ?_
    intro _ H232; clear H225
    refine wpList_nil ?_
    refine gw_nx (hK216 _ _ ?_)
    refine wp_ret ?_
    refine gw_ret1 H232 rfl rfl ?_
    have O233 := Own.file_close (x := (⟨⟨x.p.nm, x.p.b.take n.toNat, mn x.p.sf n⟩, x.g, x.A, x.c, x.S⟩ : XF)) (pre := pre) (post := post) (by exact O226.sel [3, 4, 2, 0, 1, 5] (by decide))
    have el_ : (pre ++ x :: post).map XF.ent = (pre ++ (⟨⟨x.p.nm, x.p.b.take n.toNat, mn x.p.sf n⟩, x.g, x.A, x.c, x.S⟩ : XF) :: post).map XF.ent := by simp [XF.ent]
    rw [el_] at O233
    exact disk_fin (gd := gd) (gm := gm) (d' := _) (xs := pre ++ (⟨⟨x.p.nm, x.p.b.take n.toNat, mn x.p.sf n⟩, x.g, x.A, x.c, x.S⟩ : XF) :: post) ((cut_go hdn hgd (by omega)).trans (step_on hf1 hfu.1)) (by show _ = updF nm _ d.fs; rw [← hxs, upd_mid hnm hoth]; simp) (by exact O233.sel [1, 3, 2, 0] (by decide))
set_option maxHeartbeats 4000000 in
set_option maxRecDepth 100000 in
theorem drop1 (w0 w : World) (R : Chunk) (gd gm : Nat) (d : PD) (xs : List XF) (nm : ByteArray) (hxs : xs.map XF.p = d.fs) (hon : onceX xs) (hub : ∀ x ∈ xs, (x.p.b.length : Int) ≤ d.used) (hu : 0 ≤ d.used ∧ d.used ≤ 9223372036854775807) (hn : nm.size ≤ 9223372036854775807) (HO : Own w0 w [R, Bk gd [.map (some gm), .int .i64 d.most, .int .i64 d.used, .int .i64 d.fuse, .bool d.down] 76, Chunk.lmap Try.prog 9 gm (xs.map XF.ent), Chunk.files w0.heap.size xs]) :
    Calls Try.prog 47 #[.pointer (some ⟨gd, 0, none⟩), .string nm] w fun e w' => e = .returned (.tuple #[]) ∧ Own w0 w' (R :: diskL w0.heap.size gd gm (dropD nm d) (delX nm xs)) := by
 refine gw_startO (N := 30) (vs := [.pointer (some ⟨gd, 0, none⟩), .string nm]) Try.func47 rfl rfl (by simp) fun a HF => ?_
 rcases look_cases nm hon with ⟨hl, hgd, hno⟩ | ⟨pre, x, post, rfl, hnm, hl, hgd, hoth⟩
 ·
  rw [hxs] at hgd
  refine gw_seq fun K1 hK1 => ?_
  refine wp_region_lit ?_
  refine V HF (op_move rfl (HF.ev rfl)) ?_
  intro _ H3; clear HF
  refine V H3 (op_nil rfl (H3.ev rfl)) ?_
  intro _ H5; clear H3
  refine V H5 (op_field (gwfld76_0 _ _) rfl (H5.ev rfl)) ?_
  intro _ H7; clear H5
  refine V H7 (op_load1 gwagg74 rfl (H7.ev rfl) (blk_at (HO.get 1 rfl) rfl)) ?_
  intro _ H9; clear H7
  refine V H9 (op_move rfl (H9.ev rfl)) ?_
  intro _ H11; clear H9
  refine V H11 (op_ml_none strKey Try.underlying74 gwzer78 rfl (H11.ev rfl) (H11.ev rfl) (keyS (hn)) (HO.get 2 rfl) (hl)) ?_
  intro _ H13; clear H11
  refine V H13 (op_assign rfl (H13.ev rfl)) ?_
  intro _ H15; clear H13
  refine wpList_nil ?_
  refine gw_nx (hK1 _ _ ?_)
  refine gw_seq fun K16 hK16 => ?_
  refine wp_region_lit ?_
  refine V H15 (op_move rfl (H15.ev rfl)) ?_
  intro _ H18; clear H15
  refine V H18 (op_nep_nils Try.underlying78 rfl (H18.ev rfl)) ?_
  intro _ H20; clear H18
  refine wpList_nil ?_
  refine gw_nx (hK16 _ _ ?_)
  refine gw_cond H20 rfl (fun hb21 => ?_) (fun hb21 => ?_)
  skip
  ·
   cases hb21
  refine wp_skip ?_
  refine gw_end0 H20 rfl ?_
  rw [drop_none hgd, delX_none hno]
  exact ⟨rfl, HO.sel [0, 1, 2, 3] (by decide)⟩
 ·
  rw [hxs] at hgd
  have hxl := hub x (by simp)
  have HO := Own.sel (Own.file_open (Own.sel HO [3, 0, 1, 2] (by decide))) [3, 4, 5, 0, 1, 2] (by decide)
  have O22 : Own w0 w [R, Bk gd [.map (some gm), J d.most, J d.used, J d.fuse, .bool d.down] 76, Chunk.lmap Try.prog 9 gm ((pre ++ x :: post).map XF.ent), Bk x.g [.slice x.A x.p.b.length x.c, J x.p.sf] 81, Chunk.row (Kd.int .u8) 5 w0.heap.size x.S (.slice x.A x.p.b.length x.c) x.p.b, Chunk.files w0.heap.size (pre ++ post)] := HO
  clear HO
  refine gw_seq fun K23 hK23 => ?_
  refine wp_region_lit ?_
  refine V HF (op_move rfl (HF.ev rfl)) ?_
  intro _ H25; clear HF
  refine V H25 (op_nil rfl (H25.ev rfl)) ?_
  intro _ H27; clear H25
  refine V H27 (op_field (gwfld76_0 _ _) rfl (H27.ev rfl)) ?_
  intro _ H29; clear H27
  refine V H29 (op_load1 gwagg74 rfl (H29.ev rfl) (blk_at (O22.get 1 rfl) rfl)) ?_
  intro _ H31; clear H29
  refine V H31 (op_move rfl (H31.ev rfl)) ?_
  intro _ H33; clear H31
  refine V H33 (op_ml_some strKey Try.underlying74 gwzer78 rfl (H33.ev rfl) (H33.ev rfl) (keyS (hn)) (O22.get 2 rfl) (hl)) ?_
  intro _ H35; clear H33
  refine V H35 (op_assign rfl (H35.ev rfl)) ?_
  intro _ H37; clear H35
  refine wpList_nil ?_
  refine gw_nx (hK23 _ _ ?_)
  refine gw_seq fun K38 hK38 => ?_
  refine wp_region_lit ?_
  refine V H37 (op_move rfl (H37.ev rfl)) ?_
  intro _ H40; clear H37
  refine V H40 (op_nep_nil Try.underlying78 rfl (H40.ev rfl)) ?_
  intro _ H42; clear H40
  refine wpList_nil ?_
  refine gw_nx (hK38 _ _ ?_)
  refine gw_cond H42 rfl (fun hb43 => ?_) (fun hb43 => ?_)
  rotate_left
  ·
   cases hb43
  refine gw_seq fun K44 hK44 => ?_
  refine gx_draw (M := [R, Bk gd [.map (some gm), J d.most, J d.used, J d.fuse, .bool d.down] 76, Chunk.lmap Try.prog 9 gm ((pre ++ x :: post).map XF.ent), Bk x.g [.slice x.A x.p.b.length x.c, J x.p.sf] 81, Chunk.row (Kd.int .u8) 5 w0.heap.size x.S (.slice x.A x.p.b.length x.c) x.p.b, Chunk.files w0.heap.size (pre ++ post)]) (fun j_ => j_ == 12) O22 (by kernel_rfl) fun w45 O46 => ?_
  clear O22
  refine gx_take 0 rfl (by kernel_rfl) H42 (by exact O46.sel [0, 1, 2, 3, 4, 5] (by decide)) (want_none rfl) rfl (by decide) (fun wq HO => (op_move rfl (H42.ev rfl))) ?_
  intro _ H48; clear H42
  refine gx_take 1 rfl (by kernel_rfl) H48 (by exact O46.sel [0, 1, 2, 3, 4, 5] (by decide)) (want_none rfl) rfl (by decide) (fun wq HO => (op_nil rfl (H48.ev rfl))) ?_
  intro _ H50; clear H48
  refine gx_take 2 rfl (by kernel_rfl) H50 (by exact O46.sel [0, 1, 2, 3, 4, 5] (by decide)) (want_none rfl) rfl (by decide) (fun wq HO => (op_field (gwfld76_2 _ _) rfl (H50.ev rfl))) ?_
  intro _ H52; clear H50
  refine gx_take 3 rfl (by kernel_rfl) H52 (by exact O46.sel [0, 1, 2, 3, 4, 5] (by decide)) (want_none rfl) rfl (by decide) (fun wq HO => (op_load1 gwagg3 rfl (H52.ev rfl) (blk_at (HO.get 1 rfl) rfl))) ?_
  intro _ H54; clear H52
  refine gx_take 4 rfl (by kernel_rfl) H54 (by exact O46.sel [0, 1, 2, 3, 4, 5] (by decide)) (want_none rfl) rfl (by decide) (fun wq HO => (op_move rfl (H54.ev rfl))) ?_
  intro _ H56; clear H54
  refine gx_take 5 rfl (by kernel_rfl) H56 (by exact O46.sel [0, 1, 2, 3, 4, 5] (by decide)) (want_none rfl) rfl (by decide) (fun wq HO => (op_nil rfl (H56.ev rfl))) ?_
  intro _ H58; clear H56
  refine gx_take 6 rfl (by kernel_rfl) H58 (by exact O46.sel [0, 1, 2, 3, 4, 5] (by decide)) (want_none rfl) rfl (by decide) (fun wq HO => (op_field (gwfld81_0 _ _) rfl (H58.ev rfl))) ?_
  intro _ H60; clear H58
  refine gx_take 7 rfl (by kernel_rfl) H60 (by exact O46.sel [0, 1, 2, 3, 4, 5] (by decide)) (want_none rfl) rfl (by decide) (fun wq HO => (op_load1 gwagg28 rfl (H60.ev rfl) (blk_at (HO.get 3 rfl) rfl))) ?_
  intro _ H62; clear H60
  refine gx_take 8 rfl (by kernel_rfl) H62 (by exact O46.sel [0, 1, 2, 3, 4, 5] (by decide)) (want_none rfl) rfl (by decide) (fun wq HO => (op_len Try.underlying28 rfl (H62.ev rfl))) ?_
  intro _ H64; clear H62
  refine gx_take 9 rfl (by kernel_rfl) H64 (by exact O46.sel [0, 1, 2, 3, 4, 5] (by decide)) (want_none rfl) rfl (by decide) (fun wq HO => (op_sub rfl (H64.ev rfl) (H64.ev rfl) (by omega))) ?_
  intro _ H66; clear H64
  refine gx_step 10 rfl (by kernel_rfl) ?_
  refine V H66 (op_nil rfl (H66.ev rfl)) ?_
  intro _ H68; clear H66
  refine gx_on (i := 10) (B := (fun j_ => j_ == 12)) (M := [R, Bk gd [.map (some gm), J d.most, J d.used, J d.fuse, .bool d.down] 76, Chunk.lmap Try.prog 9 gm ((pre ++ x :: post).map XF.ent), Bk x.g [.slice x.A x.p.b.length x.c, J x.p.sf] 81, Chunk.row (Kd.int .u8) 5 w0.heap.size x.S (.slice x.A x.p.b.length x.c) x.p.b, Chunk.files w0.heap.size (pre ++ post)]) (fun _ => (by exact O46.sel [0, 1, 2, 3, 4, 5] (by decide))) ?_
  refine gx_take 11 rfl (by kernel_rfl) H68 (by exact O46.sel [0, 1, 2, 3, 4, 5] (by decide)) (want_none rfl) rfl (by decide) (fun wq HO => (op_field (gwfld76_2 _ _) rfl (H68.ev rfl))) ?_
  intro _ H70; clear H68
  refine gx_step 12 rfl (by kernel_rfl) ?_
  refine gw_set 1 H70 O46 rfl (want_none rfl) rfl (op_store1 gwsiz3 rfl (H70.ev rfl) (H70.ev rfl) rfl (blk_at (O46.get 1 rfl) rfl) (blkf (O46.get 1 rfl))) ?_
  intro _ w73 H72 O74; clear H70 O46
  have O75 : Own w0 w73 [R, Bk gd [.map (some gm), J d.most, J (d.used - (x.p.b.length : Int)), J d.fuse, .bool d.down] 76, Chunk.lmap Try.prog 9 gm ((pre ++ x :: post).map XF.ent), Bk x.g [.slice x.A x.p.b.length x.c, J x.p.sf] 81, Chunk.row (Kd.int .u8) 5 w0.heap.size x.S (.slice x.A x.p.b.length x.c) x.p.b, Chunk.files w0.heap.size (pre ++ post)] := O74
  clear O74
  refine gx_on (i := 12) (B := (fun j_ => j_ == 12)) (M := [R, Bk gd [.map (some gm), J d.most, J d.used, J d.fuse, .bool d.down] 76, Chunk.lmap Try.prog 9 gm ((pre ++ x :: post).map XF.ent), Bk x.g [.slice x.A x.p.b.length x.c, J x.p.sf] 81, Chunk.row (Kd.int .u8) 5 w0.heap.size x.S (.slice x.A x.p.b.length x.c) x.p.b, Chunk.files w0.heap.size (pre ++ post)]) (fun h_ => by cases h_) ?_
  refine gx_done (by kernel_rfl) ?_
  refine gw_nx (hK44 _ _ ?_)
  refine wp_region_lit ?_
  refine V H72 (op_move rfl (H72.ev rfl)) ?_
  intro _ H77; clear H72
  refine V H77 (op_nil rfl (H77.ev rfl)) ?_
  intro _ H79; clear H77
  refine V H79 (op_field (gwfld76_0 _ _) rfl (H79.ev rfl)) ?_
  intro _ H81; clear H79
  refine V H81 (op_load1 gwagg74 rfl (H81.ev rfl) (blk_at (O75.get 1 rfl) rfl)) ?_
  intro _ H83; clear H81
  refine V H83 (op_move rfl (H83.ev rfl)) ?_
  intro _ H85; clear H83
  refine gw_mdel 2 strKey Try.underlying74 H85 O75 rfl (want_none rfl) rfl rfl (H85.ev rfl) (H85.ev rfl) (keyS (hn)) ?_
  intro _ w87 H88 O89; clear H85 O75
  have O90 : Own w0 w87 [R, Bk gd [.map (some gm), J d.most, J (d.used - (x.p.b.length : Int)), J d.fuse, .bool d.down] 76, Chunk.lmap Try.prog 9 gm (ldel (litS nm) ((pre ++ x :: post).map XF.ent)), Bk x.g [.slice x.A x.p.b.length x.c, J x.p.sf] 81, Chunk.row (Kd.int .u8) 5 w0.heap.size x.S (.slice x.A x.p.b.length x.c) x.p.b, Chunk.files w0.heap.size (pre ++ post)] := O89
  clear O89
  refine wpList_nil ?_
  refine gw_end0 H88 rfl ?_
  have el_ : ldel (litS nm) ((pre ++ x :: post).map XF.ent) = (pre ++ post).map XF.ent := by rw [← delX_ent, delX_mid hnm hoth]
  rw [el_] at O90
  rw [drop_some hgd, delX_mid hnm hoth]
  exact ⟨rfl, O90.sel [0, 1, 2, 5] (by decide)⟩
set_option maxHeartbeats 4000000 in
set_option maxRecDepth 100000 in
theorem remove1 (w0 w : World) (R : Chunk) (gd gm : Nat) (d : PD) (xs : List XF) (nm : ByteArray) (hxs : xs.map XF.p = d.fs) (hon : onceX xs) (hub : ∀ x ∈ xs, (x.p.b.length : Int) ≤ d.used) (hu : 0 ≤ d.used ∧ d.used ≤ 9223372036854775807) (bd bn : Nat) (hn : nm.size ≤ 9223372036854775807) (HO : Own w0 w [R, Bk gd [.map (some gm), .int .i64 d.most, .int .i64 d.used, .int .i64 d.fuse, .bool d.down] 76, Chunk.lmap Try.prog 9 gm (xs.map XF.ent), Chunk.files w0.heap.size xs, Bk bd [.pointer (some ⟨gd, 0, none⟩)] 23, Bk bn [.string nm] 9]) :
    Calls Try.prog 46 #[.pointer (some ⟨bd, 0, none⟩), .pointer (some ⟨bn, 0, none⟩)] w fun e w' => e = .returned (.tuple #[]) ∧ Own w0 w' (R :: diskL w0.heap.size gd gm (dropD nm d) (delX nm xs)) := by
 refine gw_startO (N := 5) (vs := [.pointer (some ⟨bd, 0, none⟩), .pointer (some ⟨bn, 0, none⟩)]) Try.func46 rfl rfl (by simp) fun a HF => ?_
 refine wp_region_lit ?_
 refine V HF (op_load1 gwagg23 rfl (HF.ev rfl) (blk_at (HO.get 4 rfl) rfl)) ?_
 intro _ H2; clear HF
 refine V H2 (op_load1 gwagg9 rfl (H2.ev rfl) (blk_at (HO.get 5 rfl) rfl)) ?_
 intro _ H4; clear H2
 have O11 : Own w0 _ [(Chunk.all [R, Bk bd [.pointer (some ⟨gd, 0, none⟩)] 23, Bk bn [.string nm] 9]), Bk gd [.map (some gm), J d.most, J d.used, J d.fuse, .bool d.down] 76, Chunk.lmap Try.prog 9 gm (xs.map XF.ent), Chunk.files w0.heap.size xs] := Own.bundle (A := [R, Bk bd [.pointer (some ⟨gd, 0, none⟩)] 23, Bk bn [.string nm] 9]) (L := [Bk gd [.map (some gm), J d.most, J d.used, J d.fuse, .bool d.down] 76, Chunk.lmap Try.prog 9 gm (xs.map XF.ent), Chunk.files w0.heap.size xs]) (HO.sel [0, 4, 5, 1, 2, 3] (by decide))
 refine gw_call H4 (want_none rfl) rfl (by decide) (op_callL Try.func47 (by kernel_rfl) rfl rfl (ar_cons (H4.ev rfl) (ar_cons (H4.ev rfl) ar_nil))) (drop1 w0 _ (Chunk.all [R, Bk bd [.pointer (some ⟨gd, 0, none⟩)] 23, Bk bn [.string nm] 9]) gd gm d xs nm hxs hon hub hu hn (by exact O11)) ?_
 rintro e5 w6 ⟨rfl, hb7⟩
 refine ⟨_, rfl, fun _ H9 => ?_⟩
 have O10 : Own w0 w6 [R, Bk bd [.pointer (some ⟨gd, 0, none⟩)] 23, Bk bn [.string nm] 9, Bk gd [.map (some gm), J ((dropD nm d).most), J ((dropD nm d).used), J ((dropD nm d).fuse), .bool ((dropD nm d).down)] 76, Chunk.lmap Try.prog 9 gm ((delX nm xs).map XF.ent), Chunk.files w0.heap.size (delX nm xs)] := Own.unbundle (A := [R, Bk bd [.pointer (some ⟨gd, 0, none⟩)] 23, Bk bn [.string nm] 9]) (L := [Bk gd [.map (some gm), J ((dropD nm d).most), J ((dropD nm d).used), J ((dropD nm d).fuse), .bool ((dropD nm d).down)] 76, Chunk.lmap Try.prog 9 gm ((delX nm xs).map XF.ent), Chunk.files w0.heap.size (delX nm xs)]) (hb7.sel [0, 1, 2, 3] (by decide))
 clear O11
 clear H4 HO hb7
 have O13 : Own w0 w6 [R, Bk bd [.pointer (some ⟨gd, 0, none⟩)] 23, Bk bn [.string nm] 9, Bk gd [.map (some gm), J ((dropD nm d).most), J ((dropD nm d).used), J ((dropD nm d).fuse), .bool ((dropD nm d).down)] 76, Chunk.lmap Try.prog 9 gm ((delX nm xs).map XF.ent), Chunk.files w0.heap.size (delX nm xs)] := O10
 clear O10
 refine wpList_nil ?_
 refine gw_end0 H9 rfl ?_
 exact ⟨rfl, O13.sel [0, 3, 4, 5] (by decide)⟩
set_option maxHeartbeats 4000000 in
set_option maxRecDepth 100000 in
theorem remove_calls (w0 w : World) (R : Chunk) (gd : Nat) (S : Nat → Prop) (d : PD) (nm : ByteArray) (hw : wfD d) (hn : nm.size ≤ 9223372036854775807) (HO : Own w0 w [R, Chunk.disk w0.heap.size gd S d]) :
    Calls Try.prog 20 #[.pointer (some ⟨gd, 0, none⟩), .string nm] w fun e w' => e = .returned (.int .i64 (removeD nm d).2) ∧ ∃ S', Own w0 w' [R, Chunk.disk w0.heap.size gd S' (removeD nm d).1] := by
 have hu0 := hw.used
 have hm0 := hw.most
 have hfu := hw.fuse
 obtain ⟨gm, xs, hxs, hon, HO⟩ := disk_open2 HO
 refine gw_startO (N := 19) (vs := [.pointer (some ⟨gd, 0, none⟩), .string nm]) Try.func20 rfl rfl (by simp) fun a HF => ?_
 rcases look3 nm d hxs hon with hdn | ⟨hdn, hl, hgd, hno⟩ | ⟨hdn, pre, x, post, rfl, hnm, hl, hgd, hoth⟩
 ·
  refine gw_seq fun K1 hK1 => ?_
  refine wp_region_lit ?_
  refine gw_new HF HO (want_none rfl) rfl (by decide) (op_box rfl (HF.ev rfl)) ?_
  intro g2 _ w4 H5 O6; clear HF HO
  have O7 : Own w0 w4 [Bk g2 [.pointer (some ⟨gd, 0, none⟩)] 23, R, Bk gd [.map (some gm), J d.most, J d.used, J d.fuse, .bool d.down] 76, Chunk.lmap Try.prog 9 gm (xs.map XF.ent), Chunk.files w0.heap.size xs] := O6
  clear O6
  refine gw_new H5 O7 (want_none rfl) rfl (by decide) (op_box rfl (H5.ev rfl)) ?_
  intro g8 _ w10 H11 O12; clear H5 O7
  have O13 : Own w0 w10 [Bk g8 [.string nm] 9, Bk g2 [.pointer (some ⟨gd, 0, none⟩)] 23, R, Bk gd [.map (some gm), J d.most, J d.used, J d.fuse, .bool d.down] 76, Chunk.lmap Try.prog 9 gm (xs.map XF.ent), Chunk.files w0.heap.size xs] := O12
  clear O12
  refine V H11 (op_assign rfl (ev_c _ _)) ?_
  intro _ H15; clear H11
  refine wpList_nil ?_
  refine gw_nx (hK1 _ _ ?_)
  refine gw_seq fun K16 hK16 => ?_
  refine gw_seq fun K17 hK17 => ?_
  refine wp_region_lit ?_
  refine V H15 (op_load1 gwagg23 rfl (H15.ev rfl) (blk_at (O13.get 1 rfl) rfl)) ?_
  intro _ H19; clear H15
  refine V H19 (op_load1 gwagg9 rfl (H19.ev rfl) (blk_at (O13.get 0 rfl) rfl)) ?_
  intro _ H21; clear H19
  refine gw_call H21 (want_none rfl) rfl (by decide) (op_callL Try.func42 (by kernel_rfl) rfl rfl (ar_cons (H21.ev rfl) (ar_cons (H21.ev rfl) ar_nil))) (find_down gd gm d nm (xs.map XF.ent) _ (by exact O13.get 3 rfl) (O13.get 4 rfl) hdn hn) ?_
  rintro e22 w23 ⟨rfl, hb24⟩
  refine ⟨_, rfl, fun _ H26 => ?_⟩
  have O27 := O13.after hb24
  clear H21 O13 hb24
  refine V H26 (op_move rfl (H26.ev rfl)) ?_
  intro _ H30; clear H26
  refine V H30 (op_extract rfl (H30.ev rfl) rfl) ?_
  intro _ H32; clear H30
  refine V H32 (op_extract rfl (H32.ev rfl) rfl) ?_
  intro _ H34; clear H32
  refine V H34 (op_assign rfl (H34.ev rfl)) ?_
  intro _ H36; clear H34
  refine V H36 (op_assign rfl (H36.ev rfl)) ?_
  intro _ H38; clear H36
  refine wpList_nil ?_
  refine gw_nx (hK17 _ _ ?_)
  refine gw_seq fun K39 hK39 => ?_
  refine wp_region_lit ?_
  refine V H38 (op_move rfl (H38.ev rfl)) ?_
  intro _ H41; clear H38
  refine V H41 (op_nei rfl (H41.ev rfl) (ev_c _ _)) ?_
  intro _ H43; clear H41
  have H44 := H43.lit (b := true) (by decide)
  clear H43
  refine wpList_nil ?_
  refine gw_nx (hK39 _ _ ?_)
  refine gw_cond H44 rfl (fun hb45 => ?_) (fun hb45 => ?_)
  rotate_left
  ·
   cases hb45
  refine gw_seq fun K46 hK46 => ?_
  refine wp_region_lit ?_
  refine V H44 (op_move rfl (H44.ev rfl)) ?_
  intro _ H48; clear H44
  refine V H48 (op_assign rfl (H48.ev rfl)) ?_
  intro _ H50; clear H48
  refine wpList_nil ?_
  refine gw_nx (hK46 _ _ ?_)
  refine wp_ret ?_
  refine gw_thr ?_
  refine gw_ret1 H50 rfl rfl ?_
  exact disk_fin (gd := gd) (gm := gm) (d' := d) (xs := xs) (with_down hdn) hxs (by exact O27.sel [2, 3, 4, 5] (by decide))
 ·
  refine gw_seq fun K51 hK51 => ?_
  refine wp_region_lit ?_
  refine gw_new HF HO (want_none rfl) rfl (by decide) (op_box rfl (HF.ev rfl)) ?_
  intro g52 _ w54 H55 O56; clear HF HO
  have O57 : Own w0 w54 [Bk g52 [.pointer (some ⟨gd, 0, none⟩)] 23, R, Bk gd [.map (some gm), J d.most, J d.used, J d.fuse, .bool d.down] 76, Chunk.lmap Try.prog 9 gm (xs.map XF.ent), Chunk.files w0.heap.size xs] := O56
  clear O56
  refine gw_new H55 O57 (want_none rfl) rfl (by decide) (op_box rfl (H55.ev rfl)) ?_
  intro g58 _ w60 H61 O62; clear H55 O57
  have O63 : Own w0 w60 [Bk g58 [.string nm] 9, Bk g52 [.pointer (some ⟨gd, 0, none⟩)] 23, R, Bk gd [.map (some gm), J d.most, J d.used, J d.fuse, .bool d.down] 76, Chunk.lmap Try.prog 9 gm (xs.map XF.ent), Chunk.files w0.heap.size xs] := O62
  clear O62
  refine V H61 (op_assign rfl (ev_c _ _)) ?_
  intro _ H65; clear H61
  refine wpList_nil ?_
  refine gw_nx (hK51 _ _ ?_)
  refine gw_seq fun K66 hK66 => ?_
  refine gw_seq fun K67 hK67 => ?_
  refine wp_region_lit ?_
  refine V H65 (op_load1 gwagg23 rfl (H65.ev rfl) (blk_at (O63.get 1 rfl) rfl)) ?_
  intro _ H69; clear H65
  refine V H69 (op_load1 gwagg9 rfl (H69.ev rfl) (blk_at (O63.get 0 rfl) rfl)) ?_
  intro _ H71; clear H69
  refine gw_call H71 (want_none rfl) rfl (by decide) (op_callL Try.func42 (by kernel_rfl) rfl rfl (ar_cons (H71.ev rfl) (ar_cons (H71.ev rfl) ar_nil))) (find_none gd gm d nm (xs.map XF.ent) _ (by exact O63.get 3 rfl) (O63.get 4 rfl) hdn hl hn) ?_
  rintro e72 w73 ⟨rfl, hb74⟩
  refine ⟨_, rfl, fun _ H76 => ?_⟩
  have O77 := O63.after hb74
  clear H71 O63 hb74
  refine V H76 (op_move rfl (H76.ev rfl)) ?_
  intro _ H80; clear H76
  refine V H80 (op_extract rfl (H80.ev rfl) rfl) ?_
  intro _ H82; clear H80
  refine V H82 (op_extract rfl (H82.ev rfl) rfl) ?_
  intro _ H84; clear H82
  refine V H84 (op_assign rfl (H84.ev rfl)) ?_
  intro _ H86; clear H84
  refine V H86 (op_assign rfl (H86.ev rfl)) ?_
  intro _ H88; clear H86
  refine wpList_nil ?_
  refine gw_nx (hK67 _ _ ?_)
  refine gw_seq fun K89 hK89 => ?_
  refine wp_region_lit ?_
  refine V H88 (op_move rfl (H88.ev rfl)) ?_
  intro _ H91; clear H88
  refine V H91 (op_nei rfl (H91.ev rfl) (ev_c _ _)) ?_
  intro _ H93; clear H91
  have H94 := H93.lit (b := true) (by decide)
  clear H93
  refine wpList_nil ?_
  refine gw_nx (hK89 _ _ ?_)
  refine gw_cond H94 rfl (fun hb95 => ?_) (fun hb95 => ?_)
  rotate_left
  ·
   cases hb95
  refine gw_seq fun K96 hK96 => ?_
  refine wp_region_lit ?_
  refine V H94 (op_move rfl (H94.ev rfl)) ?_
  intro _ H98; clear H94
  refine V H98 (op_assign rfl (H98.ev rfl)) ?_
  intro _ H100; clear H98
  refine wpList_nil ?_
  refine gw_nx (hK96 _ _ ?_)
  refine wp_ret ?_
  refine gw_thr ?_
  refine gw_ret1 H100 rfl rfl ?_
  exact disk_fin (gd := gd) (gm := gm) (d' := d) (xs := xs) (with_none hdn hgd) hxs (by exact O77.sel [2, 3, 4, 5] (by decide))
 ·
  have O101 : Own w0 w [R, Bk gd [.map (some gm), J d.most, J d.used, J d.fuse, .bool d.down] 76, Chunk.lmap Try.prog 9 gm ((pre ++ x :: post).map XF.ent), Chunk.files w0.heap.size (pre ++ x :: post)] := HO
  clear HO
  refine gw_seq fun K102 hK102 => ?_
  refine wp_region_lit ?_
  refine gw_new HF O101 (want_none rfl) rfl (by decide) (op_box rfl (HF.ev rfl)) ?_
  intro g103 _ w105 H106 O107; clear HF O101
  have O108 : Own w0 w105 [Bk g103 [.pointer (some ⟨gd, 0, none⟩)] 23, R, Bk gd [.map (some gm), J d.most, J d.used, J d.fuse, .bool d.down] 76, Chunk.lmap Try.prog 9 gm ((pre ++ x :: post).map XF.ent), Chunk.files w0.heap.size (pre ++ x :: post)] := O107
  clear O107
  refine gw_new H106 O108 (want_none rfl) rfl (by decide) (op_box rfl (H106.ev rfl)) ?_
  intro g109 _ w111 H112 O113; clear H106 O108
  have O114 : Own w0 w111 [Bk g109 [.string nm] 9, Bk g103 [.pointer (some ⟨gd, 0, none⟩)] 23, R, Bk gd [.map (some gm), J d.most, J d.used, J d.fuse, .bool d.down] 76, Chunk.lmap Try.prog 9 gm ((pre ++ x :: post).map XF.ent), Chunk.files w0.heap.size (pre ++ x :: post)] := O113
  clear O113
  refine V H112 (op_assign rfl (ev_c _ _)) ?_
  intro _ H116; clear H112
  refine wpList_nil ?_
  refine gw_nx (hK102 _ _ ?_)
  refine gw_seq fun K117 hK117 => ?_
  refine gw_seq fun K118 hK118 => ?_
  refine wp_region_lit ?_
  refine V H116 (op_load1 gwagg23 rfl (H116.ev rfl) (blk_at (O114.get 1 rfl) rfl)) ?_
  intro _ H120; clear H116
  refine V H120 (op_load1 gwagg9 rfl (H120.ev rfl) (blk_at (O114.get 0 rfl) rfl)) ?_
  intro _ H122; clear H120
  refine gw_call H122 (want_none rfl) rfl (by decide) (op_callL Try.func42 (by kernel_rfl) rfl rfl (ar_cons (H122.ev rfl) (ar_cons (H122.ev rfl) ar_nil))) (find_some gd gm d nm ((pre ++ x :: post).map XF.ent) x.g _ (by exact O114.get 3 rfl) (O114.get 4 rfl) hdn hl hn) ?_
  rintro e123 w124 ⟨rfl, hb125⟩
  refine ⟨_, rfl, fun _ H127 => ?_⟩
  have O128 := O114.after hb125
  clear H122 O114 hb125
  refine V H127 (op_move rfl (H127.ev rfl)) ?_
  intro _ H131; clear H127
  refine V H131 (op_extract rfl (H131.ev rfl) rfl) ?_
  intro _ H133; clear H131
  refine V H133 (op_extract rfl (H133.ev rfl) rfl) ?_
  intro _ H135; clear H133
  refine V H135 (op_assign rfl (H135.ev rfl)) ?_
  intro _ H137; clear H135
  refine V H137 (op_assign rfl (H137.ev rfl)) ?_
  intro _ H139; clear H137
  refine wpList_nil ?_
  refine gw_nx (hK118 _ _ ?_)
  refine gw_seq fun K140 hK140 => ?_
  refine wp_region_lit ?_
  refine V H139 (op_move rfl (H139.ev rfl)) ?_
  intro _ H142; clear H139
  refine V H142 (op_nei rfl (H142.ev rfl) (ev_c _ _)) ?_
  intro _ H144; clear H142
  have H145 := H144.lit (b := false) (by decide)
  clear H144
  refine wpList_nil ?_
  refine gw_nx (hK140 _ _ ?_)
  refine gw_cond H145 rfl (fun hb146 => ?_) (fun hb146 => ?_)
  skip
  ·
   cases hb146
  refine wp_skip ?_
  refine gw_nx (hK117 _ _ ?_)
  refine gw_seq fun K147 hK147 => ?_
  refine wp_region_lit ?_
  refine V H145 (op_load1 gwagg23 rfl (H145.ev rfl) (blk_at (O128.get 1 rfl) rfl)) ?_
  intro _ H149; clear H145
  refine V H149 (op_func rfl (ar_cons (H149.ev rfl) (ar_cons (H149.ev rfl) ar_nil))) ?_
  intro _ H151; clear H149
  have O158 : Own w0 _ [(Chunk.all [Bk g109 [.string nm] 9, Bk g103 [.pointer (some ⟨gd, 0, none⟩)] 23, R, Chunk.lmap Try.prog 9 gm ((pre ++ x :: post).map XF.ent), Chunk.files w0.heap.size (pre ++ x :: post)]), Bk gd [.map (some gm), J d.most, J d.used, J d.fuse, .bool d.down] 76] := Own.bundle (A := [Bk g109 [.string nm] 9, Bk g103 [.pointer (some ⟨gd, 0, none⟩)] 23, R, Chunk.lmap Try.prog 9 gm ((pre ++ x :: post).map XF.ent), Chunk.files w0.heap.size (pre ++ x :: post)]) (L := [Bk gd [.map (some gm), J d.most, J d.used, J d.fuse, .bool d.down] 76]) (O128.sel [0, 1, 2, 4, 5, 3] (by decide))
  refine gw_call H151 (want_none rfl) rfl (by decide) (op_callL Try.func40 (by kernel_rfl) rfl rfl (ar_cons (H151.ev rfl) (ar_cons (H151.ev rfl) ar_nil))) (step_calls w0 _ (Chunk.all [Bk g109 [.string nm] 9, Bk g103 [.pointer (some ⟨gd, 0, none⟩)] 23, R, Chunk.lmap Try.prog 9 gm ((pre ++ x :: post).map XF.ent), Chunk.files w0.heap.size (pre ++ x :: post)]) gd gm d 46 _ [.pointer (some ⟨g103, 0, none⟩), .pointer (some ⟨g109, 0, none⟩)] (fun w_ => Own w0 w_ [(Chunk.all [R]), Bk gd [.map (some gm), J ((dropD nm ({ d with fuse := decF d.fuse } : PD)).most), J ((dropD nm ({ d with fuse := decF d.fuse } : PD)).used), J ((dropD nm ({ d with fuse := decF d.fuse } : PD)).fuse), .bool ((dropD nm ({ d with fuse := decF d.fuse } : PD)).down)] 76, Chunk.lmap Try.prog 9 gm ((delX nm (pre ++ x :: post)).map XF.ent), Chunk.files w0.heap.size (delX nm (pre ++ x :: post))]) Try.func46 (by kernel_rfl) rfl hfu (fun hf1 w1 h_ => remove1 w0 w1 (Chunk.all [R]) gd gm ({ d with fuse := decF d.fuse } : PD) (pre ++ x :: post) nm hxs hon (by intro x_ hx_; show (x_.p.b.length : Int) ≤ d.used; exact wf_len hw (by rw [← hxs]; exact List.mem_map_of_mem hx_)) (by show 0 ≤ d.used ∧ d.used ≤ _; omega) g103 g109 hn (Own.bundle (A := [R]) (L := [Bk gd [.map (some gm), J (({ d with fuse := decF d.fuse } : PD).most), J (({ d with fuse := decF d.fuse } : PD).used), J (({ d with fuse := decF d.fuse } : PD).fuse), .bool (({ d with fuse := decF d.fuse } : PD).down)] 76, Chunk.lmap Try.prog 9 gm ((pre ++ x :: post).map XF.ent), Chunk.files w0.heap.size (pre ++ x :: post), Bk g103 [.pointer (some ⟨gd, 0, none⟩)] 23, Bk g109 [.string nm] 9]) ((Own.unbundle (A := [Bk g109 [.string nm] 9, Bk g103 [.pointer (some ⟨gd, 0, none⟩)] 23, R, Chunk.lmap Try.prog 9 gm ((pre ++ x :: post).map XF.ent), Chunk.files w0.heap.size (pre ++ x :: post)]) (L := [Bk gd [.map (some gm), J (({ d with fuse := decF d.fuse } : PD).most), J (({ d with fuse := decF d.fuse } : PD).used), J (({ d with fuse := decF d.fuse } : PD).fuse), .bool (({ d with fuse := decF d.fuse } : PD).down)] 76]) (by exact h_)).sel [2, 5, 3, 4, 1, 0] (by decide)))) (by exact O158)) ?_
  rintro e152 w153 (⟨hf1, rfl, hb154⟩ | ⟨hf1, rfl, hb154⟩)
  ·
   refine ⟨_, rfl, fun _ H156 => ?_⟩
   have O157 : Own w0 w153 [Bk g109 [.string nm] 9, Bk g103 [.pointer (some ⟨gd, 0, none⟩)] 23, R, Chunk.lmap Try.prog 9 gm ((pre ++ x :: post).map XF.ent), Chunk.files w0.heap.size (pre ++ x :: post), Bk gd [.map (some gm), J d.most, J d.used, J 0, .bool true] 76] := Own.unbundle (A := [Bk g109 [.string nm] 9, Bk g103 [.pointer (some ⟨gd, 0, none⟩)] 23, R, Chunk.lmap Try.prog 9 gm ((pre ++ x :: post).map XF.ent), Chunk.files w0.heap.size (pre ++ x :: post)]) (L := [Bk gd [.map (some gm), J d.most, J d.used, J 0, .bool true] 76]) (by exact hb154)
   clear O158 hb154
   clear H151 O128
   refine V H156 (op_assign rfl (H156.ev rfl)) ?_
   intro _ H160; clear H156
   refine wpList_nil ?_
   refine gw_nx (hK147 _ _ ?_)
   refine wp_ret ?_
   refine gw_ret1 H160 rfl rfl ?_
   exact disk_fin (gd := gd) (gm := gm) (d' := { d with fuse := 0, down := true }) (xs := (pre ++ x :: post)) ((remove_go hdn hgd).trans (step_off hf1)) hxs (by exact O157.sel [2, 5, 3, 4] (by decide))
  ·
   refine ⟨_, rfl, fun _ H156 => ?_⟩
   have O157 : Own w0 w153 [R, Bk gd [.map (some gm), J ((dropD nm ({ d with fuse := decF d.fuse } : PD)).most), J ((dropD nm ({ d with fuse := decF d.fuse } : PD)).used), J ((dropD nm ({ d with fuse := decF d.fuse } : PD)).fuse), .bool ((dropD nm ({ d with fuse := decF d.fuse } : PD)).down)] 76, Chunk.lmap Try.prog 9 gm ((delX nm (pre ++ x :: post)).map XF.ent), Chunk.files w0.heap.size (delX nm (pre ++ x :: post))] := Own.unbundle (A := [R]) (L := [Bk gd [.map (some gm), J ((dropD nm ({ d with fuse := decF d.fuse } : PD)).most), J ((dropD nm ({ d with fuse := decF d.fuse } : PD)).used), J ((dropD nm ({ d with fuse := decF d.fuse } : PD)).fuse), .bool ((dropD nm ({ d with fuse := decF d.fuse } : PD)).down)] 76, Chunk.lmap Try.prog 9 gm ((delX nm (pre ++ x :: post)).map XF.ent), Chunk.files w0.heap.size (delX nm (pre ++ x :: post))]) hb154
   clear O158 hb154
   clear H151 O128
   refine V H156 (op_assign rfl (H156.ev rfl)) ?_
   intro _ H162; clear H156
   refine wpList_nil ?_
   refine gw_nx (hK147 _ _ ?_)
   refine wp_ret ?_
   refine gw_ret1 H162 rfl rfl ?_
   exact disk_fin (gd := gd) (gm := gm) (d' := _) (xs := delX nm (pre ++ x :: post)) ((remove_go hdn hgd).trans (step_on hf1 hfu.1)) (drop_fs hxs) (by exact O157.sel [0, 1, 2, 3] (by decide))
set_option maxHeartbeats 4000000 in
set_option maxRecDepth 100000 in
theorem rename1 (w0 w : World) (R : Chunk) (gd gm : Nat) (d : PD) (xs : List XF) (nm : ByteArray) (hxs : xs.map XF.p = d.fs) (hon : onceX xs) (x : XF) (dest : ByteArray) (hxm : x ∈ xs) (hnm : x.p.nm = nm) (hub : ∀ x ∈ xs, (x.p.b.length : Int) ≤ d.used) (hu : 0 ≤ d.used ∧ d.used ≤ 9223372036854775807) (bfr bto bd bf : Nat) (hn : nm.size ≤ 9223372036854775807) (hdest : dest.size ≤ 9223372036854775807) (hl : xs.length ≤ 1000000) (HO : Own w0 w [R, Bk gd [.map (some gm), .int .i64 d.most, .int .i64 d.used, .int .i64 d.fuse, .bool d.down] 76, Chunk.lmap Try.prog 9 gm (xs.map XF.ent), Chunk.files w0.heap.size xs, Bk bfr [.string nm] 9, Bk bto [.string dest] 9, Bk bd [.pointer (some ⟨gd, 0, none⟩)] 23, Bk bf [.pointer (some ⟨x.g, 0, none⟩)] 78]) :
    Calls Try.prog 50 #[.pointer (some ⟨bfr, 0, none⟩), .pointer (some ⟨bto, 0, none⟩), .pointer (some ⟨bd, 0, none⟩), .pointer (some ⟨bf, 0, none⟩)] w fun e w' => e = .returned (.tuple #[]) ∧ ∃ xs', xs'.map XF.p = (renK nm dest x.p d).fs ∧ Own w0 w' (R :: diskL w0.heap.size gd gm (renK nm dest x.p d) xs') := by
 refine gw_startO (N := 21) (vs := [.pointer (some ⟨bfr, 0, none⟩), .pointer (some ⟨bto, 0, none⟩), .pointer (some ⟨bd, 0, none⟩), .pointer (some ⟨bf, 0, none⟩)]) Try.func50 rfl rfl (by simp) fun a HF => ?_
 refine gw_seq fun K1 hK1 => ?_
 refine wp_region_lit ?_
 refine V HF (op_load1 gwagg9 rfl (HF.ev rfl) (blk_at (HO.get 4 rfl) rfl)) ?_
 intro _ H3; clear HF
 refine V H3 (op_load1 gwagg9 rfl (H3.ev rfl) (blk_at (HO.get 5 rfl) rfl)) ?_
 intro _ H5; clear H3
 refine V H5 (op_nes rfl (H5.ev rfl) (H5.ev rfl)) ?_
 intro _ H7; clear H5
 refine wpList_nil ?_
 refine gw_nx (hK1 _ _ ?_)
 refine gw_cond H7 rfl (fun hb8 => ?_) (fun hb8 => ?_)
 ·
  have H9 := H7.subst_ (d := 6) (b := true) rfl hb8
  clear H7
  (try simp only [Bool.and_eq_true, Bool.or_eq_true, Bool.and_eq_false_iff, Bool.or_eq_false_iff, Bool.not_and, Bool.not_or, Bool.not_not, decide_eq_true_eq, decide_eq_false_iff_not, Bool.not_eq_true', Bool.not_eq_false', Bool.not_eq_true, Bool.not_eq_false, ne_eq, Decidable.not_not, Int.not_lt, Int.not_le, not_true_eq_false, not_false_eq_true, bne_iff_ne, beq_iff_eq, bne_eq_false_iff_eq, beq_eq_false_iff_ne] at hb8)
  have hne0 := hb8
  refine gw_seq fun K10 hK10 => ?_
  refine wp_region_lit ?_
  refine V H9 (op_load1 gwagg23 rfl (H9.ev rfl) (blk_at (HO.get 6 rfl) rfl)) ?_
  intro _ H12; clear H9
  refine V H12 (op_load1 gwagg9 rfl (H12.ev rfl) (blk_at (HO.get 5 rfl) rfl)) ?_
  intro _ H14; clear H12
  have O21 : Own w0 _ [(Chunk.all [R, Bk bfr [.string nm] 9, Bk bto [.string dest] 9, Bk bd [.pointer (some ⟨gd, 0, none⟩)] 23, Bk bf [.pointer (some ⟨x.g, 0, none⟩)] 78]), Bk gd [.map (some gm), J d.most, J d.used, J d.fuse, .bool d.down] 76, Chunk.lmap Try.prog 9 gm (xs.map XF.ent), Chunk.files w0.heap.size xs] := Own.bundle (A := [R, Bk bfr [.string nm] 9, Bk bto [.string dest] 9, Bk bd [.pointer (some ⟨gd, 0, none⟩)] 23, Bk bf [.pointer (some ⟨x.g, 0, none⟩)] 78]) (L := [Bk gd [.map (some gm), J d.most, J d.used, J d.fuse, .bool d.down] 76, Chunk.lmap Try.prog 9 gm (xs.map XF.ent), Chunk.files w0.heap.size xs]) (HO.sel [0, 4, 5, 6, 7, 1, 2, 3] (by decide))
  refine gw_call H14 (want_none rfl) rfl (by decide) (op_callL Try.func47 (by kernel_rfl) rfl rfl (ar_cons (H14.ev rfl) (ar_cons (H14.ev rfl) ar_nil))) (drop1 w0 _ (Chunk.all [R, Bk bfr [.string nm] 9, Bk bto [.string dest] 9, Bk bd [.pointer (some ⟨gd, 0, none⟩)] 23, Bk bf [.pointer (some ⟨x.g, 0, none⟩)] 78]) gd gm d xs dest hxs hon hub hu hdest (by exact O21)) ?_
  rintro e15 w16 ⟨rfl, hb17⟩
  refine ⟨_, rfl, fun _ H19 => ?_⟩
  have O20 : Own w0 w16 [R, Bk bfr [.string nm] 9, Bk bto [.string dest] 9, Bk bd [.pointer (some ⟨gd, 0, none⟩)] 23, Bk bf [.pointer (some ⟨x.g, 0, none⟩)] 78, Bk gd [.map (some gm), J ((dropD dest d).most), J ((dropD dest d).used), J ((dropD dest d).fuse), .bool ((dropD dest d).down)] 76, Chunk.lmap Try.prog 9 gm ((delX dest xs).map XF.ent), Chunk.files w0.heap.size (delX dest xs)] := Own.unbundle (A := [R, Bk bfr [.string nm] 9, Bk bto [.string dest] 9, Bk bd [.pointer (some ⟨gd, 0, none⟩)] 23, Bk bf [.pointer (some ⟨x.g, 0, none⟩)] 78]) (L := [Bk gd [.map (some gm), J ((dropD dest d).most), J ((dropD dest d).used), J ((dropD dest d).fuse), .bool ((dropD dest d).down)] 76, Chunk.lmap Try.prog 9 gm ((delX dest xs).map XF.ent), Chunk.files w0.heap.size (delX dest xs)]) (hb17.sel [0, 1, 2, 3] (by decide))
  clear O21
  clear H14 HO hb17
  have O23 : Own w0 w16 [R, Bk bfr [.string nm] 9, Bk bto [.string dest] 9, Bk bd [.pointer (some ⟨gd, 0, none⟩)] 23, Bk bf [.pointer (some ⟨x.g, 0, none⟩)] 78, Bk gd [.map (some gm), J ((dropD dest d).most), J ((dropD dest d).used), J ((dropD dest d).fuse), .bool ((dropD dest d).down)] 76, Chunk.lmap Try.prog 9 gm ((delX dest xs).map XF.ent), Chunk.files w0.heap.size (delX dest xs)] := O20
  clear O20
  refine wpList_nil ?_
  refine gw_nx (hK10 _ _ ?_)
  refine gw_seq fun K24 hK24 => ?_
  refine gx_draw (M := [R, Bk bfr [.string nm] 9, Bk bto [.string dest] 9, Bk bd [.pointer (some ⟨gd, 0, none⟩)] 23, Bk bf [.pointer (some ⟨x.g, 0, none⟩)] 78, Bk gd [.map (some gm), J ((dropD dest d).most), J ((dropD dest d).used), J ((dropD dest d).fuse), .bool ((dropD dest d).down)] 76, Chunk.lmap Try.prog 9 gm ((delX dest xs).map XF.ent), Chunk.files w0.heap.size (delX dest xs)]) (fun j_ => j_ == 5) O23 (by kernel_rfl) fun w25 O26 => ?_
  clear O23
  refine gx_take 4 rfl (by kernel_rfl) H19 (by exact O26.sel [0, 1, 2, 3, 4, 5, 6, 7] (by decide)) (want_none rfl) rfl (by decide) (fun wq HO => (op_load1 gwagg9 rfl (H19.ev rfl) (blk_at (HO.get 1 rfl) rfl))) ?_
  intro _ H28; clear H19
  refine gx_step 0 rfl (by kernel_rfl) ?_
  refine V H28 (op_load1 gwagg23 rfl (H28.ev rfl) (blk_at (O26.get 3 rfl) rfl)) ?_
  intro _ H30; clear H28
  refine gx_on (i := 0) (B := (fun j_ => j_ == 5)) (M := [R, Bk bfr [.string nm] 9, Bk bto [.string dest] 9, Bk bd [.pointer (some ⟨gd, 0, none⟩)] 23, Bk bf [.pointer (some ⟨x.g, 0, none⟩)] 78, Bk gd [.map (some gm), J ((dropD dest d).most), J ((dropD dest d).used), J ((dropD dest d).fuse), .bool ((dropD dest d).down)] 76, Chunk.lmap Try.prog 9 gm ((delX dest xs).map XF.ent), Chunk.files w0.heap.size (delX dest xs)]) (fun _ => (by exact O26.sel [0, 1, 2, 3, 4, 5, 6, 7] (by decide))) ?_
  refine gx_step 1 rfl (by kernel_rfl) ?_
  refine V H30 (op_nil rfl (H30.ev rfl)) ?_
  intro _ H32; clear H30
  refine gx_on (i := 1) (B := (fun j_ => j_ == 5)) (M := [R, Bk bfr [.string nm] 9, Bk bto [.string dest] 9, Bk bd [.pointer (some ⟨gd, 0, none⟩)] 23, Bk bf [.pointer (some ⟨x.g, 0, none⟩)] 78, Bk gd [.map (some gm), J ((dropD dest d).most), J ((dropD dest d).used), J ((dropD dest d).fuse), .bool ((dropD dest d).down)] 76, Chunk.lmap Try.prog 9 gm ((delX dest xs).map XF.ent), Chunk.files w0.heap.size (delX dest xs)]) (fun _ => (by exact O26.sel [0, 1, 2, 3, 4, 5, 6, 7] (by decide))) ?_
  refine gx_step 2 rfl (by kernel_rfl) ?_
  refine V H32 (op_field (gwfld76_0 _ _) rfl (H32.ev rfl)) ?_
  intro _ H34; clear H32
  refine gx_on (i := 2) (B := (fun j_ => j_ == 5)) (M := [R, Bk bfr [.string nm] 9, Bk bto [.string dest] 9, Bk bd [.pointer (some ⟨gd, 0, none⟩)] 23, Bk bf [.pointer (some ⟨x.g, 0, none⟩)] 78, Bk gd [.map (some gm), J ((dropD dest d).most), J ((dropD dest d).used), J ((dropD dest d).fuse), .bool ((dropD dest d).down)] 76, Chunk.lmap Try.prog 9 gm ((delX dest xs).map XF.ent), Chunk.files w0.heap.size (delX dest xs)]) (fun _ => (by exact O26.sel [0, 1, 2, 3, 4, 5, 6, 7] (by decide))) ?_
  refine gx_take 3 rfl (by kernel_rfl) H34 (by exact O26.sel [0, 1, 2, 3, 4, 5, 6, 7] (by decide)) (want_none rfl) rfl (by decide) (fun wq HO => (op_load1 gwagg74 rfl (H34.ev rfl) (blk_at (HO.get 5 rfl) rfl))) ?_
  intro _ H36; clear H34
  refine gx_step 5 rfl (by kernel_rfl) ?_
  refine gw_mdel 6 strKey Try.underlying74 H36 O26 rfl (want_none rfl) rfl rfl (H36.ev rfl) (H36.ev rfl) (keyS (hn)) ?_
  intro _ w38 H39 O40; clear H36 O26
  have O41 : Own w0 w38 [R, Bk bfr [.string nm] 9, Bk bto [.string dest] 9, Bk bd [.pointer (some ⟨gd, 0, none⟩)] 23, Bk bf [.pointer (some ⟨x.g, 0, none⟩)] 78, Bk gd [.map (some gm), J ((dropD dest d).most), J ((dropD dest d).used), J ((dropD dest d).fuse), .bool ((dropD dest d).down)] 76, Chunk.lmap Try.prog 9 gm (ldel (litS nm) ((delX dest xs).map XF.ent)), Chunk.files w0.heap.size (delX dest xs)] := O40
  clear O40
  refine gx_on (i := 5) (B := (fun j_ => j_ == 5)) (M := [R, Bk bfr [.string nm] 9, Bk bto [.string dest] 9, Bk bd [.pointer (some ⟨gd, 0, none⟩)] 23, Bk bf [.pointer (some ⟨x.g, 0, none⟩)] 78, Bk gd [.map (some gm), J ((dropD dest d).most), J ((dropD dest d).used), J ((dropD dest d).fuse), .bool ((dropD dest d).down)] 76, Chunk.lmap Try.prog 9 gm ((delX dest xs).map XF.ent), Chunk.files w0.heap.size (delX dest xs)]) (fun h_ => by cases h_) ?_
  refine gx_done (by kernel_rfl) ?_
  refine gw_nx (hK24 _ _ ?_)
  refine gx_draw (M := [R, Bk bfr [.string nm] 9, Bk bto [.string dest] 9, Bk bd [.pointer (some ⟨gd, 0, none⟩)] 23, Bk bf [.pointer (some ⟨x.g, 0, none⟩)] 78, Bk gd [.map (some gm), J ((dropD dest d).most), J ((dropD dest d).used), J ((dropD dest d).fuse), .bool ((dropD dest d).down)] 76, Chunk.lmap Try.prog 9 gm (ldel (litS nm) ((delX dest xs).map XF.ent)), Chunk.files w0.heap.size (delX dest xs)]) (fun j_ => j_ == 6) O41 (by kernel_rfl) fun w42 O43 => ?_
  clear O41
  refine gx_take 0 rfl (by kernel_rfl) H39 (by exact O43.sel [0, 1, 2, 3, 4, 5, 6, 7] (by decide)) (want_none rfl) rfl (by decide) (fun wq HO => (op_load1 gwagg23 rfl (H39.ev rfl) (blk_at (HO.get 3 rfl) rfl))) ?_
  intro _ H45; clear H39
  refine gx_take 1 rfl (by kernel_rfl) H45 (by exact O43.sel [0, 1, 2, 3, 4, 5, 6, 7] (by decide)) (want_none rfl) rfl (by decide) (fun wq HO => (op_nil rfl (H45.ev rfl))) ?_
  intro _ H47; clear H45
  refine gx_take 2 rfl (by kernel_rfl) H47 (by exact O43.sel [0, 1, 2, 3, 4, 5, 6, 7] (by decide)) (want_none rfl) rfl (by decide) (fun wq HO => (op_field (gwfld76_0 _ _) rfl (H47.ev rfl))) ?_
  intro _ H49; clear H47
  refine gx_take 3 rfl (by kernel_rfl) H49 (by exact O43.sel [0, 1, 2, 3, 4, 5, 6, 7] (by decide)) (want_none rfl) rfl (by decide) (fun wq HO => (op_load1 gwagg74 rfl (H49.ev rfl) (blk_at (HO.get 5 rfl) rfl))) ?_
  intro _ H51; clear H49
  refine gx_take 4 rfl (by kernel_rfl) H51 (by exact O43.sel [0, 1, 2, 3, 4, 5, 6, 7] (by decide)) (want_none rfl) rfl (by decide) (fun wq HO => (op_load1 gwagg9 rfl (H51.ev rfl) (blk_at (HO.get 2 rfl) rfl))) ?_
  intro _ H53; clear H51
  refine gx_take 5 rfl (by kernel_rfl) H53 (by exact O43.sel [0, 1, 2, 3, 4, 5, 6, 7] (by decide)) (want_none rfl) rfl (by decide) (fun wq HO => (op_load1 gwagg78 rfl (H53.ev rfl) (blk_at (HO.get 4 rfl) rfl))) ?_
  intro _ H55; clear H53
  refine gx_step 6 rfl (by kernel_rfl) ?_
  refine gw_mput 6 strKey Try.underlying74 H55 O43 rfl (want_none rfl) rfl rfl (H55.ev rfl) (H55.ev rfl) (H55.ev rfl) (keyS (hdest)) (by have h1_ := List.length_filter_le (fun p : Lit × Value => !p.1.sameKey (litS nm)) ((delX dest xs).map XF.ent); have h2_ := List.length_filter_le (fun x : XF => !decide (x.p.nm = dest)) xs; rw [List.length_map] at h1_; unfold ldel; unfold delX at h1_ ⊢; omega) ?_
  intro _ w57 H58 O59; clear H55 O43
  have O60 : Own w0 w57 [R, Bk bfr [.string nm] 9, Bk bto [.string dest] 9, Bk bd [.pointer (some ⟨gd, 0, none⟩)] 23, Bk bf [.pointer (some ⟨x.g, 0, none⟩)] 78, Bk gd [.map (some gm), J ((dropD dest d).most), J ((dropD dest d).used), J ((dropD dest d).fuse), .bool ((dropD dest d).down)] 76, Chunk.lmap Try.prog 9 gm (lput (litS dest) (.pointer (some ⟨x.g, 0, none⟩)) (ldel (litS nm) ((delX dest xs).map XF.ent))), Chunk.files w0.heap.size (delX dest xs)] := O59
  clear O59
  refine gx_on (i := 6) (B := (fun j_ => j_ == 6)) (M := [R, Bk bfr [.string nm] 9, Bk bto [.string dest] 9, Bk bd [.pointer (some ⟨gd, 0, none⟩)] 23, Bk bf [.pointer (some ⟨x.g, 0, none⟩)] 78, Bk gd [.map (some gm), J ((dropD dest d).most), J ((dropD dest d).used), J ((dropD dest d).fuse), .bool ((dropD dest d).down)] 76, Chunk.lmap Try.prog 9 gm (ldel (litS nm) ((delX dest xs).map XF.ent)), Chunk.files w0.heap.size (delX dest xs)]) (fun h_ => by cases h_) ?_
  refine gx_done (by kernel_rfl) ?_
  refine gw_end0 H58 rfl ?_
  have hne : nm ≠ dest := fun e => by rw [e] at hne0; simp at hne0
  have O61 := rename_files hon hxm hnm hne (by exact O60.sel [7, 0, 1, 2, 3, 4, 5, 6] (by decide))
  have el_ : lput (litS dest) (.pointer (some ⟨x.g, 0, none⟩)) (ldel (litS nm) ((delX dest xs).map XF.ent)) = (insX ⟨⟨dest, x.p.b, x.p.sf⟩, x.g, x.A, x.c, x.S⟩ (delX dest (delX nm (delX dest xs)))).map XF.ent := by rw [insX_ent]; unfold lput; rw [← delX_ent, ← delX_ent]; rfl
  rw [el_] at O61
  have e2_ : renK nm dest x.p d = { dropD dest d with fs := insF { x.p with nm := dest } (delF dest (delF nm (dropD dest d).fs)) } := if_neg hne
  rw [e2_]
  refine ⟨rfl, (insX ⟨⟨dest, x.p.b, x.p.sf⟩, x.g, x.A, x.c, x.S⟩ (delX dest (delX nm (delX dest xs)))), ?_, O61.sel [1, 6, 7, 0] (by decide)⟩
  rw [insX_p, delX_p, delX_p, drop_fs hxs]
 ·
  have H62 := H7.subst_ (d := 6) (b := false) rfl hb8
  clear H7
  (try simp only [Bool.and_eq_true, Bool.or_eq_true, Bool.and_eq_false_iff, Bool.or_eq_false_iff, Bool.not_and, Bool.not_or, Bool.not_not, decide_eq_true_eq, decide_eq_false_iff_not, Bool.not_eq_true', Bool.not_eq_false', Bool.not_eq_true, Bool.not_eq_false, ne_eq, Decidable.not_not, Int.not_lt, Int.not_le, not_true_eq_false, not_false_eq_true, bne_iff_ne, beq_iff_eq, bne_eq_false_iff_eq, beq_eq_false_iff_ne] at hb8)
  have hne0 := hb8
  refine wp_skip ?_
  refine gw_end0 H62 rfl ?_
  have e_ : nm = dest := bytes_ext (by simpa using hne0)
  have e2_ : renK nm dest x.p d = d := if_pos e_
  rw [e2_]
  exact ⟨rfl, xs, hxs, HO.sel [0, 1, 2, 3] (by decide)⟩
set_option maxHeartbeats 4000000 in
set_option maxRecDepth 100000 in
theorem rename_calls (w0 w : World) (R : Chunk) (gd : Nat) (S : Nat → Prop) (d : PD) (nm : ByteArray) (dest : ByteArray) (hw : wfD d) (hn : nm.size ≤ 9223372036854775807) (hdest : dest.size ≤ 9223372036854775807) (hlen : d.fs.length ≤ 1000000) (HO : Own w0 w [R, Chunk.disk w0.heap.size gd S d]) :
    Calls Try.prog 23 #[.pointer (some ⟨gd, 0, none⟩), .string nm, .string dest] w fun e w' => e = .returned (.int .i64 (renameD nm dest d).2) ∧ ∃ S', Own w0 w' [R, Chunk.disk w0.heap.size gd S' (renameD nm dest d).1] := by
 have hu0 := hw.used
 have hm0 := hw.most
 have hfu := hw.fuse
 obtain ⟨gm, xs, hxs, hon, HO⟩ := disk_open2 HO
 refine gw_startO (N := 28) (vs := [.pointer (some ⟨gd, 0, none⟩), .string nm, .string dest]) Try.func23 rfl rfl (by simp) fun a HF => ?_
 rcases look3 nm d hxs hon with hdn | ⟨hdn, hl, hgd, hno⟩ | ⟨hdn, pre, x, post, rfl, hnm, hl, hgd, hoth⟩
 ·
  refine gw_seq fun K1 hK1 => ?_
  refine wp_region_lit ?_
  refine gw_new HF HO (want_none rfl) rfl (by decide) (op_box rfl (HF.ev rfl)) ?_
  intro g2 _ w4 H5 O6; clear HF HO
  have O7 : Own w0 w4 [Bk g2 [.pointer (some ⟨gd, 0, none⟩)] 23, R, Bk gd [.map (some gm), J d.most, J d.used, J d.fuse, .bool d.down] 76, Chunk.lmap Try.prog 9 gm (xs.map XF.ent), Chunk.files w0.heap.size xs] := O6
  clear O6
  refine gw_new H5 O7 (want_none rfl) rfl (by decide) (op_box rfl (H5.ev rfl)) ?_
  intro g8 _ w10 H11 O12; clear H5 O7
  have O13 : Own w0 w10 [Bk g8 [.string nm] 9, Bk g2 [.pointer (some ⟨gd, 0, none⟩)] 23, R, Bk gd [.map (some gm), J d.most, J d.used, J d.fuse, .bool d.down] 76, Chunk.lmap Try.prog 9 gm (xs.map XF.ent), Chunk.files w0.heap.size xs] := O12
  clear O12
  refine gw_new H11 O13 (want_none rfl) rfl (by decide) (op_box rfl (H11.ev rfl)) ?_
  intro g14 _ w16 H17 O18; clear H11 O13
  have O19 : Own w0 w16 [Bk g14 [.string dest] 9, Bk g8 [.string nm] 9, Bk g2 [.pointer (some ⟨gd, 0, none⟩)] 23, R, Bk gd [.map (some gm), J d.most, J d.used, J d.fuse, .bool d.down] 76, Chunk.lmap Try.prog 9 gm (xs.map XF.ent), Chunk.files w0.heap.size xs] := O18
  clear O18
  refine V H17 (op_assign rfl (ev_c _ _)) ?_
  intro _ H21; clear H17
  refine wpList_nil ?_
  refine gw_nx (hK1 _ _ ?_)
  refine gw_seq fun K22 hK22 => ?_
  refine gw_seq fun K23 hK23 => ?_
  refine wp_region_lit ?_
  refine V H21 (op_load1 gwagg23 rfl (H21.ev rfl) (blk_at (O19.get 2 rfl) rfl)) ?_
  intro _ H25; clear H21
  refine V H25 (op_nil rfl (H25.ev rfl)) ?_
  intro _ H27; clear H25
  refine V H27 (op_field (gwfld76_4 _ _) rfl (H27.ev rfl)) ?_
  intro _ H29; clear H27
  refine V H29 (op_load1 gwagg4 rfl (H29.ev rfl) (blk_at (O19.get 4 rfl) rfl)) ?_
  intro _ H31; clear H29
  have H32 := H31.lit (b := true) (hdn)
  clear H31
  refine wpList_nil ?_
  refine gw_nx (hK23 _ _ ?_)
  refine gw_cond H32 rfl (fun hb33 => ?_) (fun hb33 => ?_)
  rotate_left
  ·
   cases hb33
  refine gw_seq fun K34 hK34 => ?_
  refine wp_region_lit ?_
  refine V H32 (op_assign rfl (ev_c _ _)) ?_
  intro _ H36; clear H32
  refine wpList_nil ?_
  refine gw_nx (hK34 _ _ ?_)
  refine wp_ret ?_
  refine gw_thr ?_
  refine gw_ret1 H36 rfl rfl ?_
  exact disk_fin (gd := gd) (gm := gm) (d' := d) (xs := xs) (rename_down hdn) hxs (by exact O19.sel [3, 4, 5, 6] (by decide))
 ·
  refine gw_seq fun K37 hK37 => ?_
  refine wp_region_lit ?_
  refine gw_new HF HO (want_none rfl) rfl (by decide) (op_box rfl (HF.ev rfl)) ?_
  intro g38 _ w40 H41 O42; clear HF HO
  have O43 : Own w0 w40 [Bk g38 [.pointer (some ⟨gd, 0, none⟩)] 23, R, Bk gd [.map (some gm), J d.most, J d.used, J d.fuse, .bool d.down] 76, Chunk.lmap Try.prog 9 gm (xs.map XF.ent), Chunk.files w0.heap.size xs] := O42
  clear O42
  refine gw_new H41 O43 (want_none rfl) rfl (by decide) (op_box rfl (H41.ev rfl)) ?_
  intro g44 _ w46 H47 O48; clear H41 O43
  have O49 : Own w0 w46 [Bk g44 [.string nm] 9, Bk g38 [.pointer (some ⟨gd, 0, none⟩)] 23, R, Bk gd [.map (some gm), J d.most, J d.used, J d.fuse, .bool d.down] 76, Chunk.lmap Try.prog 9 gm (xs.map XF.ent), Chunk.files w0.heap.size xs] := O48
  clear O48
  refine gw_new H47 O49 (want_none rfl) rfl (by decide) (op_box rfl (H47.ev rfl)) ?_
  intro g50 _ w52 H53 O54; clear H47 O49
  have O55 : Own w0 w52 [Bk g50 [.string dest] 9, Bk g44 [.string nm] 9, Bk g38 [.pointer (some ⟨gd, 0, none⟩)] 23, R, Bk gd [.map (some gm), J d.most, J d.used, J d.fuse, .bool d.down] 76, Chunk.lmap Try.prog 9 gm (xs.map XF.ent), Chunk.files w0.heap.size xs] := O54
  clear O54
  refine V H53 (op_assign rfl (ev_c _ _)) ?_
  intro _ H57; clear H53
  refine wpList_nil ?_
  refine gw_nx (hK37 _ _ ?_)
  refine gw_seq fun K58 hK58 => ?_
  refine gw_seq fun K59 hK59 => ?_
  refine wp_region_lit ?_
  refine V H57 (op_load1 gwagg23 rfl (H57.ev rfl) (blk_at (O55.get 2 rfl) rfl)) ?_
  intro _ H61; clear H57
  refine V H61 (op_nil rfl (H61.ev rfl)) ?_
  intro _ H63; clear H61
  refine V H63 (op_field (gwfld76_4 _ _) rfl (H63.ev rfl)) ?_
  intro _ H65; clear H63
  refine V H65 (op_load1 gwagg4 rfl (H65.ev rfl) (blk_at (O55.get 4 rfl) rfl)) ?_
  intro _ H67; clear H65
  have H68 := H67.lit (b := false) (hdn)
  clear H67
  refine wpList_nil ?_
  refine gw_nx (hK59 _ _ ?_)
  refine gw_cond H68 rfl (fun hb69 => ?_) (fun hb69 => ?_)
  skip
  ·
   cases hb69
  refine wp_skip ?_
  refine gw_nx (hK58 _ _ ?_)
  refine gw_seq fun K70 hK70 => ?_
  refine gw_seq fun K71 hK71 => ?_
  refine wp_region_lit ?_
  refine V H68 (op_load1 gwagg9 rfl (H68.ev rfl) (blk_at (O55.get 0 rfl) rfl)) ?_
  intro _ H73; clear H68
  refine gw_call H73 (want_none rfl) rfl (by decide) (op_callL Try.func39 (by kernel_rfl) rfl rfl (ar_cons (H73.ev rfl) ar_nil)) (named_calls dest _) ?_
  rintro e74 w75 ⟨rfl, hb76⟩
  refine ⟨_, rfl, fun _ H78 => ?_⟩
  have O79 := O55.after hb76
  clear H73 O55 hb76
  refine V H78 (op_not rfl (H78.ev rfl)) ?_
  intro _ H82; clear H78
  refine wpList_nil ?_
  refine gw_nx (hK71 _ _ ?_)
  refine gw_cond H82 rfl (fun hb83 => ?_) (fun hb83 => ?_)
  ·
   have H84 := H82.subst_ (d := 15) (b := true) rfl hb83
   clear H82
   (try simp only [Bool.and_eq_true, Bool.or_eq_true, Bool.and_eq_false_iff, Bool.or_eq_false_iff, Bool.not_and, Bool.not_or, Bool.not_not, decide_eq_true_eq, decide_eq_false_iff_not, Bool.not_eq_true', Bool.not_eq_false', Bool.not_eq_true, Bool.not_eq_false, ne_eq, Decidable.not_not, Int.not_lt, Int.not_le, not_true_eq_false, not_false_eq_true, bne_iff_ne, beq_iff_eq, bne_eq_false_iff_eq, beq_eq_false_iff_ne] at hb83)
   have hnb : namedB dest = false := by simpa using hb83
   refine gw_seq fun K85 hK85 => ?_
   refine wp_region_lit ?_
   refine V H84 (op_assign rfl (ev_c _ _)) ?_
   intro _ H87; clear H84
   refine wpList_nil ?_
   refine gw_nx (hK85 _ _ ?_)
   refine wp_ret ?_
   refine gw_thr ?_
   refine gw_ret1 H87 rfl rfl ?_
   exact disk_fin (gd := gd) (gm := gm) (d' := d) (xs := xs) (rename_bad hdn hnb) hxs (by exact O79.sel [3, 4, 5, 6] (by decide))
  ·
   have H88 := H82.subst_ (d := 15) (b := false) rfl hb83
   clear H82
   (try simp only [Bool.and_eq_true, Bool.or_eq_true, Bool.and_eq_false_iff, Bool.or_eq_false_iff, Bool.not_and, Bool.not_or, Bool.not_not, decide_eq_true_eq, decide_eq_false_iff_not, Bool.not_eq_true', Bool.not_eq_false', Bool.not_eq_true, Bool.not_eq_false, ne_eq, Decidable.not_not, Int.not_lt, Int.not_le, not_true_eq_false, not_false_eq_true, bne_iff_ne, beq_iff_eq, bne_eq_false_iff_eq, beq_eq_false_iff_ne] at hb83)
   have hnb : namedB dest = true := by simpa using hb83
   refine wp_skip ?_
   refine gw_nx (hK70 _ _ ?_)
   refine gw_seq fun K89 hK89 => ?_
   refine wp_region_lit ?_
   refine V H88 (op_load1 gwagg23 rfl (H88.ev rfl) (blk_at (O79.get 2 rfl) rfl)) ?_
   intro _ H91; clear H88
   refine V H91 (op_load1 gwagg9 rfl (H91.ev rfl) (blk_at (O79.get 1 rfl) rfl)) ?_
   intro _ H93; clear H91
   refine gw_call H93 (want_none rfl) rfl (by decide) (op_callL Try.func42 (by kernel_rfl) rfl rfl (ar_cons (H93.ev rfl) (ar_cons (H93.ev rfl) ar_nil))) (find_none gd gm d nm (xs.map XF.ent) _ (by exact O79.get 4 rfl) (O79.get 5 rfl) hdn hl hn) ?_
   rintro e94 w95 ⟨rfl, hb96⟩
   refine ⟨_, rfl, fun _ H98 => ?_⟩
   have O99 := O79.after hb96
   clear H93 O79 hb96
   refine V H98 (op_move rfl (H98.ev rfl)) ?_
   intro _ H102; clear H98
   refine V H102 (op_extract rfl (H102.ev rfl) rfl) ?_
   intro _ H104; clear H102
   refine V H104 (op_extract rfl (H104.ev rfl) rfl) ?_
   intro _ H106; clear H104
   refine gw_new H106 O99 (want_none rfl) rfl (by decide) (op_alloc gwzer78 rfl) ?_
   intro g107 _ w109 H110 O111; clear H106 O99
   have O112 : Own w0 w109 [Bk g107 [.pointer none] 78, Bk g50 [.string dest] 9, Bk g44 [.string nm] 9, Bk g38 [.pointer (some ⟨gd, 0, none⟩)] 23, R, Bk gd [.map (some gm), J d.most, J d.used, J d.fuse, .bool d.down] 76, Chunk.lmap Try.prog 9 gm (xs.map XF.ent), Chunk.files w0.heap.size xs] := O111
   clear O111
   refine gw_set 0 H110 O112 rfl (want_none rfl) rfl (op_store1 gwsiz78 rfl (H110.ev rfl) (H110.ev rfl) rfl (blk_at (O112.get 0 rfl) rfl) (blkf (O112.get 0 rfl))) ?_
   intro _ w115 H114 O116; clear H110 O112
   have O117 : Own w0 w115 [Bk g107 [.pointer none] 78, Bk g50 [.string dest] 9, Bk g44 [.string nm] 9, Bk g38 [.pointer (some ⟨gd, 0, none⟩)] 23, R, Bk gd [.map (some gm), J d.most, J d.used, J d.fuse, .bool d.down] 76, Chunk.lmap Try.prog 9 gm (xs.map XF.ent), Chunk.files w0.heap.size xs] := O116
   clear O116
   refine V H114 (op_assign rfl (H114.ev rfl)) ?_
   intro _ H119; clear H114
   refine wpList_nil ?_
   refine gw_nx (hK89 _ _ ?_)
   refine gw_seq fun K120 hK120 => ?_
   refine gw_seq fun K121 hK121 => ?_
   refine wp_region_lit ?_
   refine V H119 (op_move rfl (H119.ev rfl)) ?_
   intro _ H123; clear H119
   refine V H123 (op_nei rfl (H123.ev rfl) (ev_c _ _)) ?_
   intro _ H125; clear H123
   have H126 := H125.lit (b := true) (by decide)
   clear H125
   refine wpList_nil ?_
   refine gw_nx (hK121 _ _ ?_)
   refine gw_cond H126 rfl (fun hb127 => ?_) (fun hb127 => ?_)
   rotate_left
   ·
    cases hb127
   refine gw_seq fun K128 hK128 => ?_
   refine wp_region_lit ?_
   refine V H126 (op_move rfl (H126.ev rfl)) ?_
   intro _ H130; clear H126
   refine V H130 (op_assign rfl (H130.ev rfl)) ?_
   intro _ H132; clear H130
   refine wpList_nil ?_
   refine gw_nx (hK128 _ _ ?_)
   refine wp_ret ?_
   refine gw_thr ?_
   refine gw_ret1 H132 rfl rfl ?_
   exact disk_fin (gd := gd) (gm := gm) (d' := d) (xs := xs) (rename_none hdn hnb hgd) hxs (by exact O117.sel [4, 5, 6, 7] (by decide))
 ·
  have O133 : Own w0 w [R, Bk gd [.map (some gm), J d.most, J d.used, J d.fuse, .bool d.down] 76, Chunk.lmap Try.prog 9 gm ((pre ++ x :: post).map XF.ent), Chunk.files w0.heap.size (pre ++ x :: post)] := HO
  clear HO
  refine gw_seq fun K134 hK134 => ?_
  refine wp_region_lit ?_
  refine gw_new HF O133 (want_none rfl) rfl (by decide) (op_box rfl (HF.ev rfl)) ?_
  intro g135 _ w137 H138 O139; clear HF O133
  have O140 : Own w0 w137 [Bk g135 [.pointer (some ⟨gd, 0, none⟩)] 23, R, Bk gd [.map (some gm), J d.most, J d.used, J d.fuse, .bool d.down] 76, Chunk.lmap Try.prog 9 gm ((pre ++ x :: post).map XF.ent), Chunk.files w0.heap.size (pre ++ x :: post)] := O139
  clear O139
  refine gw_new H138 O140 (want_none rfl) rfl (by decide) (op_box rfl (H138.ev rfl)) ?_
  intro g141 _ w143 H144 O145; clear H138 O140
  have O146 : Own w0 w143 [Bk g141 [.string nm] 9, Bk g135 [.pointer (some ⟨gd, 0, none⟩)] 23, R, Bk gd [.map (some gm), J d.most, J d.used, J d.fuse, .bool d.down] 76, Chunk.lmap Try.prog 9 gm ((pre ++ x :: post).map XF.ent), Chunk.files w0.heap.size (pre ++ x :: post)] := O145
  clear O145
  refine gw_new H144 O146 (want_none rfl) rfl (by decide) (op_box rfl (H144.ev rfl)) ?_
  intro g147 _ w149 H150 O151; clear H144 O146
  have O152 : Own w0 w149 [Bk g147 [.string dest] 9, Bk g141 [.string nm] 9, Bk g135 [.pointer (some ⟨gd, 0, none⟩)] 23, R, Bk gd [.map (some gm), J d.most, J d.used, J d.fuse, .bool d.down] 76, Chunk.lmap Try.prog 9 gm ((pre ++ x :: post).map XF.ent), Chunk.files w0.heap.size (pre ++ x :: post)] := O151
  clear O151
  refine V H150 (op_assign rfl (ev_c _ _)) ?_
  intro _ H154; clear H150
  refine wpList_nil ?_
  refine gw_nx (hK134 _ _ ?_)
  refine gw_seq fun K155 hK155 => ?_
  refine gw_seq fun K156 hK156 => ?_
  refine wp_region_lit ?_
  refine V H154 (op_load1 gwagg23 rfl (H154.ev rfl) (blk_at (O152.get 2 rfl) rfl)) ?_
  intro _ H158; clear H154
  refine V H158 (op_nil rfl (H158.ev rfl)) ?_
  intro _ H160; clear H158
  refine V H160 (op_field (gwfld76_4 _ _) rfl (H160.ev rfl)) ?_
  intro _ H162; clear H160
  refine V H162 (op_load1 gwagg4 rfl (H162.ev rfl) (blk_at (O152.get 4 rfl) rfl)) ?_
  intro _ H164; clear H162
  have H165 := H164.lit (b := false) (hdn)
  clear H164
  refine wpList_nil ?_
  refine gw_nx (hK156 _ _ ?_)
  refine gw_cond H165 rfl (fun hb166 => ?_) (fun hb166 => ?_)
  skip
  ·
   cases hb166
  refine wp_skip ?_
  refine gw_nx (hK155 _ _ ?_)
  refine gw_seq fun K167 hK167 => ?_
  refine gw_seq fun K168 hK168 => ?_
  refine wp_region_lit ?_
  refine V H165 (op_load1 gwagg9 rfl (H165.ev rfl) (blk_at (O152.get 0 rfl) rfl)) ?_
  intro _ H170; clear H165
  refine gw_call H170 (want_none rfl) rfl (by decide) (op_callL Try.func39 (by kernel_rfl) rfl rfl (ar_cons (H170.ev rfl) ar_nil)) (named_calls dest _) ?_
  rintro e171 w172 ⟨rfl, hb173⟩
  refine ⟨_, rfl, fun _ H175 => ?_⟩
  have O176 := O152.after hb173
  clear H170 O152 hb173
  refine V H175 (op_not rfl (H175.ev rfl)) ?_
  intro _ H179; clear H175
  refine wpList_nil ?_
  refine gw_nx (hK168 _ _ ?_)
  refine gw_cond H179 rfl (fun hb180 => ?_) (fun hb180 => ?_)
  ·
   have H181 := H179.subst_ (d := 15) (b := true) rfl hb180
   clear H179
   (try simp only [Bool.and_eq_true, Bool.or_eq_true, Bool.and_eq_false_iff, Bool.or_eq_false_iff, Bool.not_and, Bool.not_or, Bool.not_not, decide_eq_true_eq, decide_eq_false_iff_not, Bool.not_eq_true', Bool.not_eq_false', Bool.not_eq_true, Bool.not_eq_false, ne_eq, Decidable.not_not, Int.not_lt, Int.not_le, not_true_eq_false, not_false_eq_true, bne_iff_ne, beq_iff_eq, bne_eq_false_iff_eq, beq_eq_false_iff_ne] at hb180)
   have hnb : namedB dest = false := by simpa using hb180
   refine gw_seq fun K182 hK182 => ?_
   refine wp_region_lit ?_
   refine V H181 (op_assign rfl (ev_c _ _)) ?_
   intro _ H184; clear H181
   refine wpList_nil ?_
   refine gw_nx (hK182 _ _ ?_)
   refine wp_ret ?_
   refine gw_thr ?_
   refine gw_ret1 H184 rfl rfl ?_
   exact disk_fin (gd := gd) (gm := gm) (d' := d) (xs := (pre ++ x :: post)) (rename_bad hdn hnb) hxs (by exact O176.sel [3, 4, 5, 6] (by decide))
  ·
   have H185 := H179.subst_ (d := 15) (b := false) rfl hb180
   clear H179
   (try simp only [Bool.and_eq_true, Bool.or_eq_true, Bool.and_eq_false_iff, Bool.or_eq_false_iff, Bool.not_and, Bool.not_or, Bool.not_not, decide_eq_true_eq, decide_eq_false_iff_not, Bool.not_eq_true', Bool.not_eq_false', Bool.not_eq_true, Bool.not_eq_false, ne_eq, Decidable.not_not, Int.not_lt, Int.not_le, not_true_eq_false, not_false_eq_true, bne_iff_ne, beq_iff_eq, bne_eq_false_iff_eq, beq_eq_false_iff_ne] at hb180)
   have hnb : namedB dest = true := by simpa using hb180
   refine wp_skip ?_
   refine gw_nx (hK167 _ _ ?_)
   refine gw_seq fun K186 hK186 => ?_
   refine wp_region_lit ?_
   refine V H185 (op_load1 gwagg23 rfl (H185.ev rfl) (blk_at (O176.get 2 rfl) rfl)) ?_
   intro _ H188; clear H185
   refine V H188 (op_load1 gwagg9 rfl (H188.ev rfl) (blk_at (O176.get 1 rfl) rfl)) ?_
   intro _ H190; clear H188
   refine gw_call H190 (want_none rfl) rfl (by decide) (op_callL Try.func42 (by kernel_rfl) rfl rfl (ar_cons (H190.ev rfl) (ar_cons (H190.ev rfl) ar_nil))) (find_some gd gm d nm ((pre ++ x :: post).map XF.ent) x.g _ (by exact O176.get 4 rfl) (O176.get 5 rfl) hdn hl hn) ?_
   rintro e191 w192 ⟨rfl, hb193⟩
   refine ⟨_, rfl, fun _ H195 => ?_⟩
   have O196 := O176.after hb193
   clear H190 O176 hb193
   refine V H195 (op_move rfl (H195.ev rfl)) ?_
   intro _ H199; clear H195
   refine V H199 (op_extract rfl (H199.ev rfl) rfl) ?_
   intro _ H201; clear H199
   refine V H201 (op_extract rfl (H201.ev rfl) rfl) ?_
   intro _ H203; clear H201
   refine gw_new H203 O196 (want_none rfl) rfl (by decide) (op_alloc gwzer78 rfl) ?_
   intro g204 _ w206 H207 O208; clear H203 O196
   have O209 : Own w0 w206 [Bk g204 [.pointer none] 78, Bk g147 [.string dest] 9, Bk g141 [.string nm] 9, Bk g135 [.pointer (some ⟨gd, 0, none⟩)] 23, R, Bk gd [.map (some gm), J d.most, J d.used, J d.fuse, .bool d.down] 76, Chunk.lmap Try.prog 9 gm ((pre ++ x :: post).map XF.ent), Chunk.files w0.heap.size (pre ++ x :: post)] := O208
   clear O208
   refine gw_set 0 H207 O209 rfl (want_none rfl) rfl (op_store1 gwsiz78 rfl (H207.ev rfl) (H207.ev rfl) rfl (blk_at (O209.get 0 rfl) rfl) (blkf (O209.get 0 rfl))) ?_
   intro _ w212 H211 O213; clear H207 O209
   have O214 : Own w0 w212 [Bk g204 [.pointer (some ⟨x.g, 0, none⟩)] 78, Bk g147 [.string dest] 9, Bk g141 [.string nm] 9, Bk g135 [.pointer (some ⟨gd, 0, none⟩)] 23, R, Bk gd [.map (some gm), J d.most, J d.used, J d.fuse, .bool d.down] 76, Chunk.lmap Try.prog 9 gm ((pre ++ x :: post).map XF.ent), Chunk.files w0.heap.size (pre ++ x :: post)] := O213
   clear O213
   refine V H211 (op_assign rfl (H211.ev rfl)) ?_
   intro _ H216; clear H211
   refine wpList_nil ?_
   refine gw_nx (hK186 _ _ ?_)
   refine gw_seq fun K217 hK217 => ?_
   refine gw_seq fun K218 hK218 => ?_
   refine wp_region_lit ?_
   refine V H216 (op_move rfl (H216.ev rfl)) ?_
   intro _ H220; clear H216
   refine V H220 (op_nei rfl (H220.ev rfl) (ev_c _ _)) ?_
   intro _ H222; clear H220
   have H223 := H222.lit (b := false) (by decide)
   clear H222
   refine wpList_nil ?_
   refine gw_nx (hK218 _ _ ?_)
   refine gw_cond H223 rfl (fun hb224 => ?_) (fun hb224 => ?_)
   skip
   ·
    cases hb224
   refine wp_skip ?_
   refine gw_nx (hK217 _ _ ?_)
   refine gw_seq fun K225 hK225 => ?_
   refine wp_region_lit ?_
   refine V H223 (op_load1 gwagg23 rfl (H223.ev rfl) (blk_at (O214.get 3 rfl) rfl)) ?_
   intro _ H227; clear H223
   refine V H227 (op_func rfl (ar_cons (H227.ev rfl) (ar_cons (H227.ev rfl) (ar_cons (H227.ev rfl) (ar_cons (H227.ev rfl) ar_nil))))) ?_
   intro _ H229; clear H227
   have O236 : Own w0 _ [(Chunk.all [Bk g204 [.pointer (some ⟨x.g, 0, none⟩)] 78, Bk g147 [.string dest] 9, Bk g141 [.string nm] 9, Bk g135 [.pointer (some ⟨gd, 0, none⟩)] 23, R, Chunk.lmap Try.prog 9 gm ((pre ++ x :: post).map XF.ent), Chunk.files w0.heap.size (pre ++ x :: post)]), Bk gd [.map (some gm), J d.most, J d.used, J d.fuse, .bool d.down] 76] := Own.bundle (A := [Bk g204 [.pointer (some ⟨x.g, 0, none⟩)] 78, Bk g147 [.string dest] 9, Bk g141 [.string nm] 9, Bk g135 [.pointer (some ⟨gd, 0, none⟩)] 23, R, Chunk.lmap Try.prog 9 gm ((pre ++ x :: post).map XF.ent), Chunk.files w0.heap.size (pre ++ x :: post)]) (L := [Bk gd [.map (some gm), J d.most, J d.used, J d.fuse, .bool d.down] 76]) (O214.sel [0, 1, 2, 3, 4, 6, 7, 5] (by decide))
   refine gw_call H229 (want_none rfl) rfl (by decide) (op_callL Try.func40 (by kernel_rfl) rfl rfl (ar_cons (H229.ev rfl) (ar_cons (H229.ev rfl) ar_nil))) (step_calls w0 _ (Chunk.all [Bk g204 [.pointer (some ⟨x.g, 0, none⟩)] 78, Bk g147 [.string dest] 9, Bk g141 [.string nm] 9, Bk g135 [.pointer (some ⟨gd, 0, none⟩)] 23, R, Chunk.lmap Try.prog 9 gm ((pre ++ x :: post).map XF.ent), Chunk.files w0.heap.size (pre ++ x :: post)]) gd gm d 50 _ [.pointer (some ⟨g141, 0, none⟩), .pointer (some ⟨g147, 0, none⟩), .pointer (some ⟨g135, 0, none⟩), .pointer (some ⟨g204, 0, none⟩)] (fun w_ => ∃ xs', (xs'.map XF.p = (renK nm dest x.p ({ d with fuse := decF d.fuse } : PD)).fs) ∧ Own w0 w_ [(Chunk.all [R]), Bk gd [.map (some gm), J ((renK nm dest x.p ({ d with fuse := decF d.fuse } : PD)).most), J ((renK nm dest x.p ({ d with fuse := decF d.fuse } : PD)).used), J ((renK nm dest x.p ({ d with fuse := decF d.fuse } : PD)).fuse), .bool ((renK nm dest x.p ({ d with fuse := decF d.fuse } : PD)).down)] 76, Chunk.lmap Try.prog 9 gm (xs'.map XF.ent), Chunk.files w0.heap.size xs']) Try.func50 (by kernel_rfl) rfl hfu (fun hf1 w1 h_ => rename1 w0 w1 (Chunk.all [R]) gd gm ({ d with fuse := decF d.fuse } : PD) (pre ++ x :: post) nm hxs hon x dest (by simp) hnm (by intro x_ hx_; show (x_.p.b.length : Int) ≤ d.used; exact wf_len hw (by rw [← hxs]; exact List.mem_map_of_mem hx_)) (by show 0 ≤ d.used ∧ d.used ≤ _; omega) g141 g147 g135 g204 hn hdest (by have hl_ := hlen; rw [← hxs, List.length_map] at hl_; exact hl_) (Own.bundle (A := [R]) (L := [Bk gd [.map (some gm), J (({ d with fuse := decF d.fuse } : PD).most), J (({ d with fuse := decF d.fuse } : PD).used), J (({ d with fuse := decF d.fuse } : PD).fuse), .bool (({ d with fuse := decF d.fuse } : PD).down)] 76, Chunk.lmap Try.prog 9 gm ((pre ++ x :: post).map XF.ent), Chunk.files w0.heap.size (pre ++ x :: post), Bk g141 [.string nm] 9, Bk g147 [.string dest] 9, Bk g135 [.pointer (some ⟨gd, 0, none⟩)] 23, Bk g204 [.pointer (some ⟨x.g, 0, none⟩)] 78]) ((Own.unbundle (A := [Bk g204 [.pointer (some ⟨x.g, 0, none⟩)] 78, Bk g147 [.string dest] 9, Bk g141 [.string nm] 9, Bk g135 [.pointer (some ⟨gd, 0, none⟩)] 23, R, Chunk.lmap Try.prog 9 gm ((pre ++ x :: post).map XF.ent), Chunk.files w0.heap.size (pre ++ x :: post)]) (L := [Bk gd [.map (some gm), J (({ d with fuse := decF d.fuse } : PD).most), J (({ d with fuse := decF d.fuse } : PD).used), J (({ d with fuse := decF d.fuse } : PD).fuse), .bool (({ d with fuse := decF d.fuse } : PD).down)] 76]) (by exact h_)).sel [4, 7, 5, 6, 2, 1, 3, 0] (by decide)))) (by exact O236)) ?_
   rintro e230 w231 (⟨hf1, rfl, hb232⟩ | ⟨hf1, rfl, ⟨xs', hx', hb232⟩⟩)
   ·
    refine ⟨_, rfl, fun _ H234 => ?_⟩
    have O235 : Own w0 w231 [Bk g204 [.pointer (some ⟨x.g, 0, none⟩)] 78, Bk g147 [.string dest] 9, Bk g141 [.string nm] 9, Bk g135 [.pointer (some ⟨gd, 0, none⟩)] 23, R, Chunk.lmap Try.prog 9 gm ((pre ++ x :: post).map XF.ent), Chunk.files w0.heap.size (pre ++ x :: post), Bk gd [.map (some gm), J d.most, J d.used, J 0, .bool true] 76] := Own.unbundle (A := [Bk g204 [.pointer (some ⟨x.g, 0, none⟩)] 78, Bk g147 [.string dest] 9, Bk g141 [.string nm] 9, Bk g135 [.pointer (some ⟨gd, 0, none⟩)] 23, R, Chunk.lmap Try.prog 9 gm ((pre ++ x :: post).map XF.ent), Chunk.files w0.heap.size (pre ++ x :: post)]) (L := [Bk gd [.map (some gm), J d.most, J d.used, J 0, .bool true] 76]) (by exact hb232)
    clear O236 hb232
    clear H229 O214
    refine V H234 (op_assign rfl (H234.ev rfl)) ?_
    intro _ H238; clear H234
    refine wpList_nil ?_
    refine gw_nx (hK225 _ _ ?_)
    refine wp_ret ?_
    refine gw_ret1 H238 rfl rfl ?_
    exact disk_fin (gd := gd) (gm := gm) (d' := { d with fuse := 0, down := true }) (xs := (pre ++ x :: post)) ((rename_go hdn hnb hgd).trans (step_off hf1)) hxs (by exact O235.sel [4, 7, 5, 6] (by decide))
   ·
    refine ⟨_, rfl, fun _ H234 => ?_⟩
    have O235 : Own w0 w231 [R, Bk gd [.map (some gm), J ((renK nm dest x.p ({ d with fuse := decF d.fuse } : PD)).most), J ((renK nm dest x.p ({ d with fuse := decF d.fuse } : PD)).used), J ((renK nm dest x.p ({ d with fuse := decF d.fuse } : PD)).fuse), .bool ((renK nm dest x.p ({ d with fuse := decF d.fuse } : PD)).down)] 76, Chunk.lmap Try.prog 9 gm (xs'.map XF.ent), Chunk.files w0.heap.size xs'] := Own.unbundle (A := [R]) (L := [Bk gd [.map (some gm), J ((renK nm dest x.p ({ d with fuse := decF d.fuse } : PD)).most), J ((renK nm dest x.p ({ d with fuse := decF d.fuse } : PD)).used), J ((renK nm dest x.p ({ d with fuse := decF d.fuse } : PD)).fuse), .bool ((renK nm dest x.p ({ d with fuse := decF d.fuse } : PD)).down)] 76, Chunk.lmap Try.prog 9 gm (xs'.map XF.ent), Chunk.files w0.heap.size xs']) hb232
    clear O236 hb232
    clear H229 O214
    refine V H234 (op_assign rfl (H234.ev rfl)) ?_
    intro _ H240; clear H234
    refine wpList_nil ?_
    refine gw_nx (hK225 _ _ ?_)
    refine wp_ret ?_
    refine gw_ret1 H240 rfl rfl ?_
    exact disk_fin (gd := gd) (gm := gm) (d' := _) (xs := xs') ((rename_go hdn hnb hgd).trans (step_on hf1 hfu.1)) hx' (by exact O235.sel [0, 1, 2, 3] (by decide))
end GVfs3_
export GVfs3_ (cut_calls remove_calls rename_calls)
end Go.Proofs.Ytkdahjnmldeklaa.PA
end
section
namespace Go.Proofs
open Go.RowKit Go.Maps Go.Sort Go.Shelf
shelf_lay_g SlLaysZ.n7 Ggz 7 at Try 49 as Try.keys49
shelf_lay_g SlLaysZ.n6 Ggz 6 at Try 48 as Try.sorted48
shelf_lay_g SlLaysM.n6 Slgm 6 at Try 65 as Try.sort65
theorem Try.sorts48 (m : Nat) : AnyZ.SortsIn Try.prog Try.sorted48_ren Fence.wide m :=
  ⟨fun blk off cap ss W hH hblk hsz => callsIn_wide.2 (AnyM.slices_Sort_string Try.sort65 blk off cap ss W hH hblk hsz),
   fun p cap W => callsIn_wide.2 (AnyM.slices_Sort_string_none Try.sort65 p cap W)⟩
theorem Try.maps_Keys_49 (mb : Option Nat) (W : World) : CallsIn Fence.wide 5 Try.prog 49 #[.map mb] W fun e w' => e = .returned (.func (.func 66) #[] #[.pointer (some ⟨W.heap.size, 0, none⟩)]) ∧ w' = W.alloc (.cells #[.map mb] 74) :=
  AnyZ.keys_in Try.keys49 Fence.wide 5 trivial rfl mb W
set_option maxHeartbeats 1000000 in
theorem Try.slices_Sorted_keys_48_49 {H : Type} (b nn : Nat) (D0 : DataW H) (R : Value → Option (DataW H × List MemPlace)) (w : World) (hown : w.ownsMap Try.prog 9 R b nn D0) (hmax : Maps.size D0 ≤ maxLen) (hbytes : Maps.size D0 * 16 ≤ 140737488355328) :
    CallsIn Fence.wide 5 Try.prog 48 #[.func (.func 66) #[] #[.pointer (some ⟨w.heap.size, 0, none⟩)]] (w.alloc (.cells #[.map (some b)] 74)) fun e w' => ∃ (v : Value) (ss : List (List UInt8)), e = .returned v ∧ ss.Perm (strKeys D0) ∧
      w'.ownsRow (w.alloc (.cells #[.map (some b)] 74)).heap.size 9 1 v ss.length ((ss.mergeSort (fun x y => decide (x ≤ y))).map encStr) ∧ (v = .slice none 0 0 ↔ ss = []) ∧ Below (w.alloc (.cells #[.map (some b)] 74)).heap.size (w.alloc (.cells #[.map (some b)] 74)) w' := by
  have hbl := hown.lt
  have hseq : SeqGives Fence.wide 2 Try.prog 66 #[.pointer (some ⟨w.heap.size, 0, none⟩)] encStr (fun ss => ss.Perm (strKeys D0)) (Maps.size D0) (w.alloc (.cells #[.map (some b)] 74)) :=
    AnyZ.keys_gives (ρ := Try.keys49_ren) { Try.keys49 with } Fence.wide _ trivial rfl (by omega) w.heap.size b nn D0 _ (by simp) (by simp) (by
      obtain ⟨es, clock, hb, Ft, hs, hD⟩ := hown
      exact ⟨es, clock, (Below.heap_alloc _ _ b hbl).trans hb, Ft, hs, hD⟩)
  exact AnyZ.sorted_in Try.sorted48 Fence.wide 5 trivial trivial trivial trivial rfl (by omega) (Try.sorts48 _) (enters_of Try.func65 (by kernel_rfl) rfl) 66 #[.pointer (some ⟨w.heap.size, 0, none⟩)] trivial (enters_of Try.func66 (by kernel_rfl) rfl) _ _ hmax hbytes _ hseq
end Go.Proofs
end
section
namespace Go.Proofs.Ytkdahjnmldeklaa.PA
open Go.RowKit Go.Maps Go.Sort Go.Proofs.YtkdahjnmldeklaaW.PrintWords Go.Proofs.YtkdahjnmldeklaaW.PrintLast Go.Proofs.YtkdahjnmldeklaaW.PrintMore
set_option linter.unusedVariables false
set_option linter.unusedSimpArgs false
theorem before_lt : ∀ (a b : List UInt8), bytesBefore a b = true → a < b
  | [], [], h => by simp [bytesBefore] at h
  | [], _ :: _, _ => List.nil_lt_cons _ _
  | _ :: _, [], h => by simp [bytesBefore] at h
  | a :: r, b :: s, h => by
    simp only [bytesBefore, Bool.or_eq_true, decide_eq_true_eq, Bool.and_eq_true, beq_iff_eq] at h
    rcases h with h | ⟨rfl, h⟩
    · exact List.cons_lt_cons_iff.2 (.inl h)
    · exact List.cons_lt_cons_iff.2 (.inr ⟨rfl, before_lt r s h⟩)
theorem keys_at (mb : Option Nat) (W : World) : Calls Try.prog 49 #[.map mb] W fun e w' => e = .returned (.func (.func 66) #[] #[.pointer (some ⟨W.heap.size, 0, none⟩)]) ∧ w' = W.alloc (.cells #[.map mb] 74) :=
  (callsIn_wide (n := 5)).1 (Try.maps_Keys_49 mb W)
theorem names_sorted {xs : List XF} (h : risingL (xs.map XF.ent)) : ((strKeys (lmap (xs.map XF.ent))).mergeSort (fun x y => decide (x ≤ y))).map encStr = encs Value.string (xs.map fun x => x.p.nm) := by
  have e1 : strKeys (lmap (xs.map XF.ent)) = xs.map fun x => x.p.nm.data.toList := by
    show ((xs.map XF.ent).map held1).map (fun p => strOf p.1) = _
    rw [List.map_map, List.map_map]
    rfl
  rw [e1]
  have hp : (xs.map fun x => x.p.nm.data.toList).Pairwise (fun x y => decide (x ≤ y) = true) := by
    refine List.pairwise_map.2 ((List.pairwise_map.1 h).imp fun {x y} hb => ?_)
    have hb' : bytesBefore x.p.nm.data.toList y.p.nm.data.toList = true := hb
    exact decide_eq_true (List.le_of_lt (before_lt _ _ hb'))
  rw [List.mergeSort_of_pairwise hp]
  unfold encs
  rw [List.map_map, List.map_map]
  exact List.map_congr_left fun x _ => by simp [encStr]
theorem sorted_at (b : Nat) (xs : List XF) (w : World) (hm : (Chunk.lmap Try.prog 9 b (xs.map XF.ent)).P w) (hl : xs.length ≤ 1000000) :
    Calls Try.prog 48 #[.func (.func 66) #[] #[.pointer (some ⟨w.heap.size, 0, none⟩)]] (w.alloc (.cells #[.map (some b)] 74)) fun e w' => ∃ A c S, e = .returned (.slice A (xs.map fun x => x.p.nm).length c) ∧ Out (w.alloc (.cells #[.map (some b)] 74)) w' (fun _ => False) [Chunk.row Kd.string 9 (w.alloc (.cells #[.map (some b)] 74)).heap.size S (.slice A (xs.map fun x => x.p.nm).length c) (xs.map fun x => x.p.nm)] := by
  have hr := (lmap_rising strKey hm).1
  have hm' : w.ownsMap Try.prog 9 anyR b (xs.map XF.ent).length (lmap (xs.map XF.ent)) := hm
  refine ((callsIn_wide (n := 5)).1 (Try.slices_Sorted_keys_48_49 b _ (lmap (xs.map XF.ent)) _ w hm' (by rw [lmap_size, List.length_map]; simp only [maxLen]; omega) (by rw [lmap_size, List.length_map]; omega))).mono fun e w' h => ?_
  obtain ⟨v, ss, rfl, hS, hrow, hnil, hb⟩ := h
  have hlen : (xs.map fun x => x.p.nm).length = ss.length := by
    rw [hS.length_eq]
    show _ = (((xs.map XF.ent).map held1).map (fun p => strOf p.1)).length
    simp only [List.length_map]
  rw [mergeSort_of_perm hS, names_sorted hr, ← hlen] at hrow
  obtain ⟨A, c, rfl⟩ := own_slice hrow
  exact ⟨A, c, _, rfl, Out.row (d := Kd.string) (ok := fun _ => True) (Kd.R_of_own hrow (fun _ _ => trivial)) hb⟩
end Go.Proofs.Ytkdahjnmldeklaa.PA
end
section
namespace Go.Proofs.Ytkdahjnmldeklaa.PA
open Go.RowKit Go.Proofs.YtkdahjnmldeklaaW.PrintWords Go.Proofs.YtkdahjnmldeklaaW.PrintLast Go.Proofs.YtkdahjnmldeklaaW.PrintMore
set_option linter.unusedVariables false
set_option linter.unusedSimpArgs false
namespace GVfs4_
theorem gwagg28 : ∀ w, (isAgg 28).run Try.prog w = .ok false w := fun _ => by kernel_rfl
theorem gwagg3 : ∀ w, (isAgg 3).run Try.prog w = .ok false w := fun _ => by kernel_rfl
theorem gwagg4 : ∀ w, (isAgg 4).run Try.prog w = .ok false w := fun _ => by kernel_rfl
theorem gwagg74 : ∀ w, (isAgg 74).run Try.prog w = .ok false w := fun _ => by kernel_rfl
theorem gwfld76_0 (g off : Nat) : ∀ w, (Instr.fieldAt 76 (.pointer (some ⟨g, off, none⟩)) 0).run Try.prog w = .ok (.pointer (some ⟨g, off + 0, none⟩)) w := fun _ => by kernel_rfl
theorem gwfld76_1 (g off : Nat) : ∀ w, (Instr.fieldAt 76 (.pointer (some ⟨g, off, none⟩)) 1).run Try.prog w = .ok (.pointer (some ⟨g, off + 1, none⟩)) w := fun _ => by kernel_rfl
theorem gwfld76_2 (g off : Nat) : ∀ w, (Instr.fieldAt 76 (.pointer (some ⟨g, off, none⟩)) 2).run Try.prog w = .ok (.pointer (some ⟨g, off + 2, none⟩)) w := fun _ => by kernel_rfl
theorem gwfld76_3 (g off : Nat) : ∀ w, (Instr.fieldAt 76 (.pointer (some ⟨g, off, none⟩)) 3).run Try.prog w = .ok (.pointer (some ⟨g, off + 3, none⟩)) w := fun _ => by kernel_rfl
theorem gwfld76_4 (g off : Nat) : ∀ w, (Instr.fieldAt 76 (.pointer (some ⟨g, off, none⟩)) 4).run Try.prog w = .ok (.pointer (some ⟨g, off + 4, none⟩)) w := fun _ => by kernel_rfl
theorem gwfld81_0 (g off : Nat) : ∀ w, (Instr.fieldAt 81 (.pointer (some ⟨g, off, none⟩)) 0).run Try.prog w = .ok (.pointer (some ⟨g, off + 0, none⟩)) w := fun _ => by kernel_rfl
theorem gwsiz3 : ∀ w, (sizeOf 3).run Try.prog w = .ok 1 w := fun _ => by kernel_rfl
set_option maxHeartbeats 4000000 in
set_option maxRecDepth 100000 in
theorem fail_calls (w0 w : World) (R : Chunk) (gd : Nat) (S : Nat → Prop) (d : PD) (n : Int) (HO : Own w0 w [R, Chunk.disk w0.heap.size gd S d]) :
    Calls Try.prog 14 #[.pointer (some ⟨gd, 0, none⟩), .int .i64 n] w fun e w' => e = .returned (.tuple #[]) ∧ ∃ S', Own w0 w' [R, Chunk.disk w0.heap.size gd S' { d with fuse := mx n 0 }] := by
 obtain ⟨gm, xs, hxs, hon, HO⟩ := disk_open2 HO
 refine gw_startO (N := 9) (vs := [.pointer (some ⟨gd, 0, none⟩), J n]) Try.func14 rfl rfl (by simp) fun a HF => ?_
 refine wp_region_lit ?_
 refine V HF (op_move rfl (HF.ev rfl)) ?_
 intro _ H2; clear HF
 refine V H2 (op_move rfl (H2.ev rfl)) ?_
 intro _ H4; clear H2
 refine V H4 (op_max rfl (H4.ev rfl) (ev_c _ _)) ?_
 intro _ H6; clear H4
 refine V H6 (op_nil rfl (H6.ev rfl)) ?_
 intro _ H8; clear H6
 refine V H8 (op_field (gwfld76_3 _ _) rfl (H8.ev rfl)) ?_
 intro _ H10; clear H8
 refine gw_set 1 H10 HO rfl (want_none rfl) rfl (op_store1 gwsiz3 rfl (H10.ev rfl) (H10.ev rfl) rfl (blk_at (HO.get 1 rfl) rfl) (blkf (HO.get 1 rfl))) ?_
 intro _ w13 H12 O14; clear H10 HO
 have O15 : Own w0 w13 [R, Bk gd [.map (some gm), J d.most, J d.used, J (mx n 0), .bool d.down] 76, Chunk.lmap Try.prog 9 gm (xs.map XF.ent), Chunk.files w0.heap.size xs] := O14
 clear O14
 refine wpList_nil ?_
 refine gw_end0 H12 rfl ?_
 exact ⟨rfl, disk_close2 (d := { d with fuse := mx n 0 }) hxs (by exact O15.sel [0, 1, 2, 3] (by decide))⟩
set_option maxHeartbeats 4000000 in
set_option maxRecDepth 100000 in
theorem down_calls (base gd : Nat) (S : Nat → Prop) (d : PD) (w : World) (hD : (Chunk.disk base gd S d).P w) :
    Calls Try.prog 21 #[.pointer (some ⟨gd, 0, none⟩)] w fun e w' => e = .returned (.bool d.down) ∧ Below w.heap.size w w' := by
 obtain ⟨gm, xs, hxs, hon, hB, hL, hfs⟩ := disk_blk hD
 refine gw_start (N := 7) (vs := [.pointer (some ⟨gd, 0, none⟩)]) Try.func21 rfl rfl (by simp) fun a HF HO => ?_
 replace HO : Own w w [] := HO
 refine gw_seq fun K1 hK1 => ?_
 refine wp_region_lit ?_
 refine V HF (op_assign rfl (ev_c _ _)) ?_
 intro _ H3; clear HF
 refine wpList_nil ?_
 refine gw_nx (hK1 _ _ ?_)
 refine gw_seq fun K4 hK4 => ?_
 refine wp_region_lit ?_
 refine V H3 (op_move rfl (H3.ev rfl)) ?_
 intro _ H6; clear H3
 refine V H6 (op_nil rfl (H6.ev rfl)) ?_
 intro _ H8; clear H6
 refine V H8 (op_field (gwfld76_4 _ _) rfl (H8.ev rfl)) ?_
 intro _ H10; clear H8
 refine V H10 (op_load1 gwagg4 rfl (H10.ev rfl) (blk_at (argblk HO hB) rfl)) ?_
 intro _ H12; clear H10
 refine V H12 (op_assign rfl (H12.ev rfl)) ?_
 intro _ H14; clear H12
 refine wpList_nil ?_
 refine gw_nx (hK4 _ _ ?_)
 refine wp_ret ?_
 refine gw_ret1 H14 rfl rfl ?_
 exact ⟨rfl, HO.below⟩
set_option maxHeartbeats 4000000 in
set_option maxRecDepth 100000 in
theorem room_calls (base gd : Nat) (S : Nat → Prop) (d : PD) (w : World) (hD : (Chunk.disk base gd S d).P w) (hw : wfD d) :
    Calls Try.prog 24 #[.pointer (some ⟨gd, 0, none⟩)] w fun e w' => e = .returned (.int .i64 (d.most - d.used)) ∧ Below w.heap.size w w' := by
 obtain ⟨gm, xs, hxs, hon, hB, hL, hfs⟩ := disk_blk hD
 have hu0 := hw.used
 have hm0 := hw.most
 refine gw_start (N := 12) (vs := [.pointer (some ⟨gd, 0, none⟩)]) Try.func24 rfl rfl (by simp) fun a HF HO => ?_
 replace HO : Own w w [] := HO
 refine gw_seq fun K1 hK1 => ?_
 refine wp_region_lit ?_
 refine V HF (op_assign rfl (ev_c _ _)) ?_
 intro _ H3; clear HF
 refine wpList_nil ?_
 refine gw_nx (hK1 _ _ ?_)
 refine gw_seq fun K4 hK4 => ?_
 refine gw_drawB HO (by kernel_rfl) (by kernel_rfl) fun w5 O6 => ?_
 clear HO
 refine gq_ev H3 (want_none rfl) rfl (by decide) (fun wq hq => have HO := O6.after hq; (op_move rfl (H3.ev rfl))) ?_
 intro _ H8; clear H3
 refine gq_ev H8 (want_none rfl) rfl (by decide) (fun wq hq => have HO := O6.after hq; (op_nil rfl (H8.ev rfl))) ?_
 intro _ H10; clear H8
 refine gq_ev H10 (want_none rfl) rfl (by decide) (fun wq hq => have HO := O6.after hq; (op_field (gwfld76_1 _ _) rfl (H10.ev rfl))) ?_
 intro _ H12; clear H10
 refine gq_ev H12 (want_none rfl) rfl (by decide) (fun wq hq => have HO := O6.after hq; (op_load1 gwagg3 rfl (H12.ev rfl) (blk_at (argblk HO hB) rfl))) ?_
 intro _ H14; clear H12
 refine gq_ev H14 (want_none rfl) rfl (by decide) (fun wq hq => have HO := O6.after hq; (op_move rfl (H14.ev rfl))) ?_
 intro _ H16; clear H14
 refine gq_ev H16 (want_none rfl) rfl (by decide) (fun wq hq => have HO := O6.after hq; (op_nil rfl (H16.ev rfl))) ?_
 intro _ H18; clear H16
 refine gq_ev H18 (want_none rfl) rfl (by decide) (fun wq hq => have HO := O6.after hq; (op_field (gwfld76_2 _ _) rfl (H18.ev rfl))) ?_
 intro _ H20; clear H18
 refine gq_ev H20 (want_none rfl) rfl (by decide) (fun wq hq => have HO := O6.after hq; (op_load1 gwagg3 rfl (H20.ev rfl) (blk_at (argblk HO hB) rfl))) ?_
 intro _ H22; clear H20
 refine gq_ev H22 (want_none rfl) rfl (by decide) (fun wq hq => have HO := O6.after hq; (op_sub rfl (H22.ev rfl) (H22.ev rfl) (by omega))) ?_
 intro _ H24; clear H22
 refine gq_ev H24 (want_none rfl) rfl (by decide) (fun wq hq => have HO := O6.after hq; (op_assign rfl (H24.ev rfl))) ?_
 intro _ H26; clear H24
 refine wpQuiet_nil ?_
 intro w27 hq
 have O28 := O6.after hq
 clear O6 hq
 refine gw_nx (hK4 _ _ ?_)
 refine wp_ret ?_
 refine gw_ret1 H26 rfl rfl ?_
 exact ⟨rfl, O28.below⟩
set_option maxHeartbeats 4000000 in
set_option maxRecDepth 100000 in
theorem read_calls (base gd : Nat) (S : Nat → Prop) (d : PD) (nm : ByteArray) (w : World) (hD : (Chunk.disk base gd S d).P w) (hn : nm.size ≤ 9223372036854775807) (hw : wfD d) (hroom : d.used ≤ 140737488355327) :
    Calls Try.prog 18 #[.pointer (some ⟨gd, 0, none⟩), .string nm] w fun e w' => ∃ A c S', e = .returned (.tuple #[.slice A (readD nm d).1.length c, .int .i64 (readD nm d).2]) ∧ Out w w' (fun _ => False) [Chunk.row (Kd.int .u8) 5 w.heap.size S' (.slice A (readD nm d).1.length c) (readD nm d).1] := by
 obtain ⟨gm, xs, hxs, hon, hB, hL, hfs⟩ := disk_blk hD
 refine gw_start (N := 22) (vs := [.pointer (some ⟨gd, 0, none⟩), .string nm]) Try.func18 rfl rfl (by simp) fun a HF HO => ?_
 replace HO : Own w w [] := HO
 rcases look3 nm d hxs hon with hdn | ⟨hdn, hl, hgd, hno⟩ | ⟨hdn, pre, x, post, rfl, hnm, hl, hgd, hoth⟩
 ·
  refine gw_seq fun K1 hK1 => ?_
  refine wp_region_lit ?_
  refine V HF (op_assign rfl (ev_c _ _)) ?_
  intro _ H3; clear HF
  refine V H3 (op_assign rfl (ev_c _ _)) ?_
  intro _ H5; clear H3
  refine wpList_nil ?_
  refine gw_nx (hK1 _ _ ?_)
  refine gw_seq fun K6 hK6 => ?_
  refine wp_region_lit ?_
  refine V H5 (op_move rfl (H5.ev rfl)) ?_
  intro _ H8; clear H5
  refine V H8 (op_move rfl (H8.ev rfl)) ?_
  intro _ H10; clear H8
  refine gw_call H10 (want_none rfl) rfl (by decide) (op_callL Try.func42 (by kernel_rfl) rfl rfl (ar_cons (H10.ev rfl) (ar_cons (H10.ev rfl) ar_nil))) (find_down gd gm d nm (xs.map XF.ent) _ (argblk HO hB) (lmap_arg HO hL) hdn hn) ?_
  rintro e11 w12 ⟨rfl, hb13⟩
  refine ⟨_, rfl, fun _ H15 => ?_⟩
  have O16 := HO.after hb13
  clear H10 HO hb13
  refine V H15 (op_move rfl (H15.ev rfl)) ?_
  intro _ H19; clear H15
  refine V H19 (op_extract rfl (H19.ev rfl) rfl) ?_
  intro _ H21; clear H19
  refine V H21 (op_extract rfl (H21.ev rfl) rfl) ?_
  intro _ H23; clear H21
  refine V H23 (op_assign rfl (H23.ev rfl)) ?_
  intro _ H25; clear H23
  refine V H25 (op_assign rfl (H25.ev rfl)) ?_
  intro _ H27; clear H25
  refine wpList_nil ?_
  refine gw_nx (hK6 _ _ ?_)
  refine gw_seq fun K28 hK28 => ?_
  refine gw_seq fun K29 hK29 => ?_
  refine wp_region_lit ?_
  refine V H27 (op_move rfl (H27.ev rfl)) ?_
  intro _ H31; clear H27
  refine V H31 (op_nei rfl (H31.ev rfl) (ev_c _ _)) ?_
  intro _ H33; clear H31
  have H34 := H33.lit (b := true) (by decide)
  clear H33
  refine wpList_nil ?_
  refine gw_nx (hK29 _ _ ?_)
  refine gw_cond H34 rfl (fun hb35 => ?_) (fun hb35 => ?_)
  rotate_left
  ·
   cases hb35
  refine gw_seq fun K36 hK36 => ?_
  refine wp_region_lit ?_
  refine V H34 (op_move rfl (H34.ev rfl)) ?_
  intro _ H38; clear H34
  refine V H38 (op_assign rfl (ev_c _ _)) ?_
  intro _ H40; clear H38
  refine V H40 (op_assign rfl (H40.ev rfl)) ?_
  intro _ H42; clear H40
  refine wpList_nil ?_
  refine gw_nx (hK36 _ _ ?_)
  refine wp_ret ?_
  refine gw_thr ?_
  refine gw_ret2 H42 rfl rfl rfl ?_
  rw [read_down hdn]
  exact ⟨none, 0, _, rfl, ((O16.row_nil (Kd.int .u8) 5 w.heap.size).sel [0] (by decide)).out⟩
 ·
  refine gw_seq fun K43 hK43 => ?_
  refine wp_region_lit ?_
  refine V HF (op_assign rfl (ev_c _ _)) ?_
  intro _ H45; clear HF
  refine V H45 (op_assign rfl (ev_c _ _)) ?_
  intro _ H47; clear H45
  refine wpList_nil ?_
  refine gw_nx (hK43 _ _ ?_)
  refine gw_seq fun K48 hK48 => ?_
  refine wp_region_lit ?_
  refine V H47 (op_move rfl (H47.ev rfl)) ?_
  intro _ H50; clear H47
  refine V H50 (op_move rfl (H50.ev rfl)) ?_
  intro _ H52; clear H50
  refine gw_call H52 (want_none rfl) rfl (by decide) (op_callL Try.func42 (by kernel_rfl) rfl rfl (ar_cons (H52.ev rfl) (ar_cons (H52.ev rfl) ar_nil))) (find_none gd gm d nm (xs.map XF.ent) _ (argblk HO hB) (lmap_arg HO hL) hdn hl hn) ?_
  rintro e53 w54 ⟨rfl, hb55⟩
  refine ⟨_, rfl, fun _ H57 => ?_⟩
  have O58 := HO.after hb55
  clear H52 HO hb55
  refine V H57 (op_move rfl (H57.ev rfl)) ?_
  intro _ H61; clear H57
  refine V H61 (op_extract rfl (H61.ev rfl) rfl) ?_
  intro _ H63; clear H61
  refine V H63 (op_extract rfl (H63.ev rfl) rfl) ?_
  intro _ H65; clear H63
  refine V H65 (op_assign rfl (H65.ev rfl)) ?_
  intro _ H67; clear H65
  refine V H67 (op_assign rfl (H67.ev rfl)) ?_
  intro _ H69; clear H67
  refine wpList_nil ?_
  refine gw_nx (hK48 _ _ ?_)
  refine gw_seq fun K70 hK70 => ?_
  refine gw_seq fun K71 hK71 => ?_
  refine wp_region_lit ?_
  refine V H69 (op_move rfl (H69.ev rfl)) ?_
  intro _ H73; clear H69
  refine V H73 (op_nei rfl (H73.ev rfl) (ev_c _ _)) ?_
  intro _ H75; clear H73
  have H76 := H75.lit (b := true) (by decide)
  clear H75
  refine wpList_nil ?_
  refine gw_nx (hK71 _ _ ?_)
  refine gw_cond H76 rfl (fun hb77 => ?_) (fun hb77 => ?_)
  rotate_left
  ·
   cases hb77
  refine gw_seq fun K78 hK78 => ?_
  refine wp_region_lit ?_
  refine V H76 (op_move rfl (H76.ev rfl)) ?_
  intro _ H80; clear H76
  refine V H80 (op_assign rfl (ev_c _ _)) ?_
  intro _ H82; clear H80
  refine V H82 (op_assign rfl (H82.ev rfl)) ?_
  intro _ H84; clear H82
  refine wpList_nil ?_
  refine gw_nx (hK78 _ _ ?_)
  refine wp_ret ?_
  refine gw_thr ?_
  refine gw_ret2 H84 rfl rfl rfl ?_
  rw [read_none hdn hgd]
  exact ⟨none, 0, _, rfl, ((O58.row_nil (Kd.int .u8) 5 w.heap.size).sel [0] (by decide)).out⟩
 ·
  obtain ⟨hB2, hC, hcx⟩ := hfs x (by simp)
  refine gw_seq fun K85 hK85 => ?_
  refine wp_region_lit ?_
  refine V HF (op_assign rfl (ev_c _ _)) ?_
  intro _ H87; clear HF
  refine V H87 (op_assign rfl (ev_c _ _)) ?_
  intro _ H89; clear H87
  refine wpList_nil ?_
  refine gw_nx (hK85 _ _ ?_)
  refine gw_seq fun K90 hK90 => ?_
  refine wp_region_lit ?_
  refine V H89 (op_move rfl (H89.ev rfl)) ?_
  intro _ H92; clear H89
  refine V H92 (op_move rfl (H92.ev rfl)) ?_
  intro _ H94; clear H92
  refine gw_call H94 (want_none rfl) rfl (by decide) (op_callL Try.func42 (by kernel_rfl) rfl rfl (ar_cons (H94.ev rfl) (ar_cons (H94.ev rfl) ar_nil))) (find_some gd gm d nm ((pre ++ x :: post).map XF.ent) x.g _ (argblk HO hB) (lmap_arg HO hL) hdn hl hn) ?_
  rintro e95 w96 ⟨rfl, hb97⟩
  refine ⟨_, rfl, fun _ H99 => ?_⟩
  have O100 := HO.after hb97
  clear H94 HO hb97
  refine V H99 (op_move rfl (H99.ev rfl)) ?_
  intro _ H103; clear H99
  refine V H103 (op_extract rfl (H103.ev rfl) rfl) ?_
  intro _ H105; clear H103
  refine V H105 (op_extract rfl (H105.ev rfl) rfl) ?_
  intro _ H107; clear H105
  refine V H107 (op_assign rfl (H107.ev rfl)) ?_
  intro _ H109; clear H107
  refine V H109 (op_assign rfl (H109.ev rfl)) ?_
  intro _ H111; clear H109
  refine wpList_nil ?_
  refine gw_nx (hK90 _ _ ?_)
  refine gw_seq fun K112 hK112 => ?_
  refine gw_seq fun K113 hK113 => ?_
  refine wp_region_lit ?_
  refine V H111 (op_move rfl (H111.ev rfl)) ?_
  intro _ H115; clear H111
  refine V H115 (op_nei rfl (H115.ev rfl) (ev_c _ _)) ?_
  intro _ H117; clear H115
  have H118 := H117.lit (b := false) (by decide)
  clear H117
  refine wpList_nil ?_
  refine gw_nx (hK113 _ _ ?_)
  refine gw_cond H118 rfl (fun hb119 => ?_) (fun hb119 => ?_)
  skip
  ·
   cases hb119
  refine wp_skip ?_
  refine gw_nx (hK112 _ _ ?_)
  refine gw_seq fun K120 hK120 => ?_
  refine wp_region_lit ?_
  refine V H118 (op_move rfl (H118.ev rfl)) ?_
  intro _ H122; clear H118
  refine V H122 (op_nil rfl (H122.ev rfl)) ?_
  intro _ H124; clear H122
  refine V H124 (op_field (gwfld81_0 _ _) rfl (H124.ev rfl)) ?_
  intro _ H126; clear H124
  refine V H126 (op_load1 gwagg28 rfl (H126.ev rfl) (blk_at (argblk O100 hB2) rfl)) ?_
  intro _ H128; clear H126
  refine gw_call H128 (want_none rfl) rfl (by decide) (op_callL Try.func45 (by kernel_rfl) rfl rfl (ar_cons (H128.ev rfl) ar_nil)) (clone0 x.A x.c x.p.b _ (Kd.C_below hC O100.below) hcx (by have h_ := wf_len hw (getF_mem hgd).1; omega)) ?_
  rintro e132 w133 ⟨A129, c130, S131, rfl, hb134⟩
  refine ⟨_, rfl, fun _ H136 => ?_⟩
  have O137 := O100.fresh hb134
  have hbel138 := O100.below
  clear H128 O100 hb134
  have O139 := O137.lowrow 0 rfl (base' := w.heap.size) (Below.size hbel138)
  have O140 : Own w w133 [Chunk.row (Kd.int .u8) 5 w.heap.size S131 (.slice A129 x.p.b.length c130) x.p.b] := O139
  clear O139
  refine V H136 (op_assign rfl (H136.ev rfl)) ?_
  intro _ H142; clear H136
  refine V H142 (op_assign rfl (ev_c _ _)) ?_
  intro _ H144; clear H142
  refine wpList_nil ?_
  refine gw_nx (hK120 _ _ ?_)
  refine wp_ret ?_
  refine gw_ret2 H144 rfl rfl rfl ?_
  rw [read_some hdn hgd]
  exact ⟨_, _, _, rfl, (O140.sel [0] (by decide)).out⟩
set_option maxHeartbeats 4000000 in
set_option maxRecDepth 100000 in
theorem names_calls (base gd : Nat) (S : Nat → Prop) (d : PD) (w : World) (hD : (Chunk.disk base gd S d).P w) (hlen : d.fs.length ≤ 1000000) :
    Calls Try.prog 22 #[.pointer (some ⟨gd, 0, none⟩)] w fun e w' => ∃ A c S', e = .returned (.slice A (namesD d).length c) ∧ Out w w' (fun _ => False) [Chunk.row Kd.string 9 w.heap.size S' (.slice A (namesD d).length c) (namesD d)] := by
 obtain ⟨gm, xs, hxs, hon, hB, hL, hfs⟩ := disk_blk hD
 have hxl : xs.length ≤ 1000000 := by rw [← hxs, List.length_map] at hlen; exact hlen
 have en_ : (xs.map fun x => x.p.nm) = namesD d := by unfold namesD; rw [← hxs, List.map_map]; rfl
 refine gw_start (N := 9) (vs := [.pointer (some ⟨gd, 0, none⟩)]) Try.func22 rfl rfl (by simp) fun a HF HO => ?_
 replace HO : Own w w [] := HO
 refine gw_seq fun K1 hK1 => ?_
 refine wp_region_lit ?_
 refine V HF (op_assign rfl (ev_c _ _)) ?_
 intro _ H3; clear HF
 refine wpList_nil ?_
 refine gw_nx (hK1 _ _ ?_)
 refine gw_seq fun K4 hK4 => ?_
 refine wp_region_lit ?_
 refine V H3 (op_move rfl (H3.ev rfl)) ?_
 intro _ H6; clear H3
 refine V H6 (op_nil rfl (H6.ev rfl)) ?_
 intro _ H8; clear H6
 refine V H8 (op_field (gwfld76_0 _ _) rfl (H8.ev rfl)) ?_
 intro _ H10; clear H8
 refine V H10 (op_load1 gwagg74 rfl (H10.ev rfl) (blk_at (argblk HO hB) rfl)) ?_
 intro _ H12; clear H10
 have hOn := HO
 refine gw_call H12 (want_none rfl) rfl (by decide) (op_callL Try.func49 (by kernel_rfl) rfl rfl (ar_cons (H12.ev rfl) ar_nil)) (keys_at _ _) ?_
 rintro _ _ ⟨rfl, rfl⟩
 refine ⟨_, rfl, fun _ H17 => ?_⟩
 have O18 := HO.new (.cells #[.map (some gm)] 74)
 clear H12 HO
 have O19 : Own w (w.alloc (.cells #[.map (some gm)] 74)) [Bk w.heap.size [.map (some gm)] 74] := O18
 clear O18
 refine gw_call H17 (want_none rfl) rfl (by decide) (op_callL Try.func48 (by kernel_rfl) rfl rfl (ar_cons (H17.ev rfl) ar_nil)) (sorted_at gm xs _ (lmap_arg hOn hL) hxl) ?_
 rintro e23 w24 ⟨A20, c21, S22, rfl, hb25⟩
 refine ⟨_, rfl, fun _ H27 => ?_⟩
 have O28 := O19.fresh hb25
 have hbel29 := O19.below
 clear H17 O19 hb25
 have O30 := O28.lowrow 0 rfl (base' := w.heap.size) (Below.size hbel29)
 have O31 : Own w w24 [Chunk.row Kd.string 9 w.heap.size S22 (.slice A20 ((xs.map fun x => x.p.nm).length) c21) (xs.map fun x => x.p.nm), Bk w.heap.size [.map (some gm)] 74] := O30
 clear O30
 refine V H27 (op_assign rfl (H27.ev rfl)) ?_
 intro _ H33; clear H27
 refine wpList_nil ?_
 refine gw_nx (hK4 _ _ ?_)
 refine wp_ret ?_
 refine gw_ret1 H33 rfl rfl ?_
 rw [← en_]
 exact ⟨_, _, _, rfl, (O31.sel [0] (by decide)).out⟩
end GVfs4_
export GVfs4_ (fail_calls down_calls room_calls read_calls names_calls)
end Go.Proofs.Ytkdahjnmldeklaa.PA
end
section
namespace Go.Proofs.Ytkdahjnmldeklaa.PA
open Go.RowKit Go.Proofs.YtkdahjnmldeklaaW.PrintWords Go.Proofs.YtkdahjnmldeklaaW.PrintLast Go.Proofs.YtkdahjnmldeklaaW.PrintMore
set_option linter.unusedVariables false
set_option linter.unusedSimpArgs false
namespace GVfs5_
theorem gwagg28 : ∀ w, (isAgg 28).run Try.prog w = .ok false w := fun _ => by kernel_rfl
theorem gwagg3 : ∀ w, (isAgg 3).run Try.prog w = .ok false w := fun _ => by kernel_rfl
theorem gwagg74 : ∀ w, (isAgg 74).run Try.prog w = .ok false w := fun _ => by kernel_rfl
theorem gwagg9 : ∀ w, (isAgg 9).run Try.prog w = .ok false w := fun _ => by kernel_rfl
theorem gwfld76_0 (g off : Nat) : ∀ w, (Instr.fieldAt 76 (.pointer (some ⟨g, off, none⟩)) 0).run Try.prog w = .ok (.pointer (some ⟨g, off + 0, none⟩)) w := fun _ => by kernel_rfl
theorem gwfld76_2 (g off : Nat) : ∀ w, (Instr.fieldAt 76 (.pointer (some ⟨g, off, none⟩)) 2).run Try.prog w = .ok (.pointer (some ⟨g, off + 2, none⟩)) w := fun _ => by kernel_rfl
theorem gwfld76_3 (g off : Nat) : ∀ w, (Instr.fieldAt 76 (.pointer (some ⟨g, off, none⟩)) 3).run Try.prog w = .ok (.pointer (some ⟨g, off + 3, none⟩)) w := fun _ => by kernel_rfl
theorem gwfld76_4 (g off : Nat) : ∀ w, (Instr.fieldAt 76 (.pointer (some ⟨g, off, none⟩)) 4).run Try.prog w = .ok (.pointer (some ⟨g, off + 4, none⟩)) w := fun _ => by kernel_rfl
theorem gwfld81_0 (g off : Nat) : ∀ w, (Instr.fieldAt 81 (.pointer (some ⟨g, off, none⟩)) 0).run Try.prog w = .ok (.pointer (some ⟨g, off + 0, none⟩)) w := fun _ => by kernel_rfl
theorem gwfld81_1 (g off : Nat) : ∀ w, (Instr.fieldAt 81 (.pointer (some ⟨g, off, none⟩)) 1).run Try.prog w = .ok (.pointer (some ⟨g, off + 1, none⟩)) w := fun _ => by kernel_rfl
theorem gwsiz28 : ∀ w, (sizeOf 28).run Try.prog w = .ok 1 w := fun _ => by kernel_rfl
theorem gwsiz3 : ∀ w, (sizeOf 3).run Try.prog w = .ok 1 w := fun _ => by kernel_rfl
theorem gwsiz4 : ∀ w, (sizeOf 4).run Try.prog w = .ok 1 w := fun _ => by kernel_rfl
theorem gwsiz5 : ∀ w, (sizeOf 5).run Try.prog w = .ok 1 w := fun _ => by kernel_rfl
theorem gwsiz9 : ∀ w, (sizeOf 9).run Try.prog w = .ok 1 w := fun _ => by kernel_rfl
theorem gwzer78 : ∀ w, (zeroValue 78).run Try.prog w = .ok (.pointer none) w := fun _ => by kernel_rfl
set_option maxHeartbeats 4000000 in
set_option maxRecDepth 100000 in
theorem crash_calls (w0 w : World) (R : Chunk) (gd : Nat) (S : Nat → Prop) (d : PD) (Ak0 : Option Addr) (ck0 : Nat) (keep : List Int) (hk0 : ∀ w1, Own w0 w1 [R] → Kd.C (Kd.int .i64) w1 Ak0 keep.length keep) (hc0 : keep.length ≤ ck0) (hw : wfD d) (hlen : d.fs.length ≤ 1000000) (HO : Own w0 w [R, Chunk.disk w0.heap.size gd S d]) :
    Calls Try.prog 17 #[.pointer (some ⟨gd, 0, none⟩), .slice Ak0 keep.length ck0] w fun e w' => e = .returned (.tuple #[]) ∧ ∃ S', Own w0 w' [R, Chunk.disk w0.heap.size gd S' (crashD keep d)] := by
 have hu0 := hw.used
 have hm0 := hw.most
 have hfu := hw.fuse
 obtain ⟨gm, xs, hxs, hon, HO⟩ := disk_open2 HO
 have hnl : (xs.map fun x => x.p.nm).length ≤ 1000000 := by rw [← hxs, List.length_map] at hlen; rw [List.length_map]; exact hlen
 refine gw_startO (N := 84) (vs := [.pointer (some ⟨gd, 0, none⟩), .slice Ak0 keep.length ck0]) Try.func17 rfl rfl (by simp) fun a HF => ?_
 refine gw_seq fun K1 hK1 => ?_
 refine wp_region_lit ?_
 refine V HF (op_move rfl (HF.ev rfl)) ?_
 intro _ H3; clear HF
 refine V H3 (op_move rfl (H3.ev rfl)) ?_
 intro _ H5; clear H3
 refine V H5 (op_nil rfl (H5.ev rfl)) ?_
 intro _ H7; clear H5
 refine V H7 (op_field (gwfld76_4 _ _) rfl (H7.ev rfl)) ?_
 intro _ H9; clear H7
 refine gw_set 1 H9 HO rfl (want_none rfl) rfl (op_store1 gwsiz4 rfl (H9.ev rfl) (ev_c _ _) rfl (blk_at (HO.get 1 rfl) rfl) (blkf (HO.get 1 rfl))) ?_
 intro _ w12 H11 O13; clear H9 HO
 have O14 : Own w0 w12 [R, Bk gd [.map (some gm), J d.most, J d.used, J d.fuse, .bool false] 76, Chunk.lmap Try.prog 9 gm (xs.map XF.ent), Chunk.files w0.heap.size xs] := O13
 clear O13
 refine V H11 (op_nil rfl (H11.ev rfl)) ?_
 intro _ H16; clear H11
 refine V H16 (op_field (gwfld76_3 _ _) rfl (H16.ev rfl)) ?_
 intro _ H18; clear H16
 refine gw_set 1 H18 O14 rfl (want_none rfl) rfl (op_store1 gwsiz3 rfl (H18.ev rfl) (ev_c _ _) rfl (blk_at (O14.get 1 rfl) rfl) (blkf (O14.get 1 rfl))) ?_
 intro _ w21 H20 O22; clear H18 O14
 have O23 : Own w0 w21 [R, Bk gd [.map (some gm), J d.most, J d.used, J 0, .bool false] 76, Chunk.lmap Try.prog 9 gm (xs.map XF.ent), Chunk.files w0.heap.size xs] := O22
 clear O22
 refine wpList_nil ?_
 refine gw_nx (hK1 _ _ ?_)
 refine gw_seq fun K24 hK24 => ?_
 refine wp_region_lit ?_
 refine V H20 (op_move rfl (H20.ev rfl)) ?_
 intro _ H26; clear H20
 obtain ⟨S_d, HOd⟩ := disk_close2 (R := R) (base := w0.heap.size) (gd := gd) (gm := gm) (d := { d with down := false, fuse := 0 }) (xs := xs) hxs (by exact O23.sel [0, 1, 2, 3] (by decide))
 refine gw_call H26 (want_none rfl) rfl (by decide) (op_callL Try.func22 (by kernel_rfl) rfl rfl (ar_cons (H26.ev rfl) ar_nil)) (by have h_ := names_calls _ _ _ _ _ (HOd.get 1 rfl) hlen; rw [show namesD { d with down := false, fuse := 0 } = (xs.map fun x => x.p.nm) by (unfold namesD; show d.fs.map PF.nm = _; rw [← hxs, List.map_map]; rfl)] at h_; exact h_) ?_
 rintro e30 w31 ⟨A27, c28, S29, rfl, hb32⟩
 refine ⟨_, rfl, fun _ H34 => ?_⟩
 have O35 := O23.fresh hb32
 have hbel36 := O23.below
 clear H26 O23 hb32
 have O37 := O35.lowrow 0 rfl (base' := w0.heap.size) (Below.size hbel36)
 have O38 : Own w0 w31 [Chunk.row Kd.string 9 w0.heap.size S29 (.slice A27 ((xs.map fun x => x.p.nm).length) c28) (xs.map fun x => x.p.nm), R, Bk gd [.map (some gm), J d.most, J d.used, J 0, .bool false] 76, Chunk.lmap Try.prog 9 gm (xs.map XF.ent), Chunk.files w0.heap.size xs] := O37
 clear O37
 have O39 := O38.row_view 0 rfl
 clear O38
 have O40 : Own w0 w31 [Chunk.view Kd.string S29 A27 ((xs.map fun x => x.p.nm).length) c28 (xs.map fun x => x.p.nm), R, Bk gd [.map (some gm), J d.most, J d.used, J 0, .bool false] 76, Chunk.lmap Try.prog 9 gm (xs.map XF.ent), Chunk.files w0.heap.size xs] := O39
 clear O39
 refine V H34 (op_len Try.underlying37 rfl (H34.ev rfl)) ?_
 intro _ H42; clear H34
 refine V H42 (op_move rfl (ev_c _ _)) ?_
 intro _ H44; clear H42
 refine wpList_nil ?_
 refine gw_nx (hK24 _ _ ?_)
 refine wp_block ?_
 refine gw_loop (fun m_ a_ w_ => ∃ (i : Int) (ys : List XF) (zs : List XF) (us : Int) (Ak : Option Addr) (ck : Nat) (kl : List Int), Fr 84 a_ [(18, J i), (1, .slice Ak kl.length ck), (0, .pointer (some ⟨gd, 0, none⟩)), (16, .slice A27 ((xs.map fun x => x.p.nm).length) c28), (17, J (((xs.map fun x => x.p.nm).length) : Int))] ∧ Own w0 w_ [R, Bk gd [.map (some gm), J d.most, J us, J 0, .bool false] 76, Chunk.lmap Try.prog 9 gm ((ys ++ zs).map XF.ent), Chunk.files w0.heap.size (ys ++ zs), Chunk.view Kd.string S29 A27 ((xs.map fun x => x.p.nm).length) c28 (xs.map fun x => x.p.nm)] ∧ (i = ys.length ∧ i ≤ (xs.map fun x => x.p.nm).length) ∧ ((xs.map fun x => x.p.nm) = (ys ++ zs).map fun x => x.p.nm) ∧ (onceX (ys ++ zs)) ∧ (us = (((ys ++ zs).map fun x => x.p.b.length).sum : Nat) ∧ us ≤ d.used) ∧ (∀ x ∈ zs, 0 ≤ x.p.sf ∧ x.p.sf ≤ x.p.b.length ∧ x.p.nm.size ≤ 40) ∧ ((crashF d.fs keep).1 = ys.map XF.p ++ (crashF (zs.map XF.p) kl).1 ∧ d.used - (crashF d.fs keep).2 = us - (crashF (zs.map XF.p) kl).2) ∧ (∀ w1, Own w0 w1 [R] → Kd.C (Kd.int .i64) w1 Ak kl.length kl) ∧ (kl.length ≤ ck) ∧ m_ = ((xs.map fun x => x.p.nm).length - i.toNat)) (((xs.map fun x => x.p.nm).length - (0 : Int).toNat)) ?_ ?_
 ·
  refine ⟨0, [], xs, d.used, Ak0, ck0, keep, (H44.pick (t := 18) rfl (H44.pick (t := 1) rfl (H44.pick (t := 0) rfl (H44.pick (t := 16) rfl (H44.pick (t := 17) rfl H44.nil))))), O40.sel [1, 2, 3, 4, 0] (by decide), ?_, ?_, ?_, ?_, ?_, ?_, ?_, ?_, rfl⟩
  ·
   simp
  ·
   simp
  ·
   exact hon
  ·
   rw [List.nil_append]; exact ⟨by rw [hw.used, ← hxs, List.map_map]; rfl, Int.le_refl _⟩
  ·
   intro x_ hx_; have h1_ : x_.p ∈ d.fs := by rw [← hxs]; exact List.mem_map_of_mem hx_
   exact ⟨(hw.sf _ h1_).1, (hw.sf _ h1_).2, hw.nm _ h1_⟩
  ·
   rw [hxs]; simp
  ·
   exact hk0
  ·
   exact hc0
 ·
  rintro m46 _ w48 ⟨i, ys, zs, us, Ak, ck, kl, H49, O50, hi, hnm, hon2, hus, hsf, hcr, hkc, hkl, hm51⟩
  refine gw_seq fun K52 hK52 => ?_
  refine wp_region_lit ?_
  refine V H49 (op_lss rfl (H49.ev rfl) (H49.ev rfl)) ?_
  intro _ H54; clear H49
  refine wpList_nil ?_
  refine gw_nx (hK52 _ _ ?_)
  refine gw_seq fun K55 hK55 => ?_
  refine gw_cond H54 rfl (fun hb56 => ?_) (fun hb56 => ?_)
  ·
   have H57 := H54.subst_ (d := 19) (b := true) rfl hb56
   clear H54
   (try simp only [decide_eq_true_eq] at hb56)
   have hb_ := hb56
   have hz_ : zs ≠ [] := by intro e; rw [hnm, e] at hb_; simp at hb_; omega
   obtain ⟨x, zs', rfl⟩ := List.exists_cons_of_ne_nil hz_
   clear hb_ hz_
   have hx1 := hsf x (List.mem_cons_self ..)
   have hus2 := hus
   rw [totalX_mid] at hus2
   have hex : (xs.map fun x => x.p.nm).getD i.toNat (⟨#[]⟩ : ByteArray) = x.p.nm := by rw [hnm]; simp [hi.1]
   have hl1 := look_mid hon2
   have O58 := Own.file_open (pre := ys) (x := x) (post := zs') (by exact O50.sel [3, 0, 1, 2, 4] (by decide))
   have O59 : Own w0 w48 [Bk x.g [.slice x.A x.p.b.length x.c, J x.p.sf] 81, Chunk.row (Kd.int .u8) 5 w0.heap.size x.S (.slice x.A x.p.b.length x.c) x.p.b, Chunk.files w0.heap.size (ys ++ zs'), R, Bk gd [.map (some gm), J d.most, J us, J 0, .bool false] 76, Chunk.lmap Try.prog 9 gm ((ys ++ x :: zs').map XF.ent), Chunk.view Kd.string S29 A27 ((xs.map fun x => x.p.nm).length) c28 (xs.map fun x => x.p.nm)] := O58
   clear O58
   refine wp_skip ?_
   refine gw_nx (hK55 _ _ ?_)
   refine gw_seq fun K60 hK60 => ?_
   refine wp_block ?_
   refine gw_seq fun K61 hK61 => ?_
   refine wp_region_lit ?_
   have O68 := O59.pin 6 rfl
   clear O59
   have O69 : Own w0 w48 [Bk x.g [.slice x.A x.p.b.length x.c, J x.p.sf] 81, Chunk.row (Kd.int .u8) 5 w0.heap.size x.S (.slice x.A x.p.b.length x.c) x.p.b, Chunk.files w0.heap.size (ys ++ zs'), R, Bk gd [.map (some gm), J d.most, J us, J 0, .bool false] 76, Chunk.lmap Try.prog 9 gm ((ys ++ x :: zs').map XF.ent), Chunk.viewAt w48 Kd.string S29 A27 ((xs.map fun x => x.p.nm).length) c28 (xs.map fun x => x.p.nm)] := O68
   clear O68
   obtain ⟨ad62, cs65, hA63, hl66, hK67, hc64, _⟩ := Kd.F_get (viewAt_F (O69.get 6 rfl)) (⟨#[]⟩ : ByteArray) i (by omega) (by omega)
   obtain rfl := str_openF hK67
   clear hl66
   refine V H57 (op_index Try.underlying37 gwsiz9 rfl (H57.ev rfl) (H57.ev rfl) hA63 (⟨by omega, by omega⟩)) ?_
   intro _ H71; clear H57
   refine V H71 (op_load1 gwagg9 rfl (H71.ev rfl) (((pin_cells (O69.get 6 rfl) hA63 hc64) 0 _ rfl))) ?_
   intro _ H73; clear H71
   have H74 := H73.conv (v' := .string x.p.nm) (congrArg Value.string hex)
   clear H73
   refine V H74 (op_assign rfl (H74.ev rfl)) ?_
   intro _ H76; clear H74
   refine wpList_nil ?_
   refine gw_nx (hK61 _ _ ?_)
   refine gw_seq fun K77 hK77 => ?_
   refine wp_region_lit ?_
   refine V H76 (op_move rfl (H76.ev rfl)) ?_
   intro _ H79; clear H76
   refine V H79 (op_nil rfl (H79.ev rfl)) ?_
   intro _ H81; clear H79
   refine V H81 (op_field (gwfld76_0 _ _) rfl (H81.ev rfl)) ?_
   intro _ H83; clear H81
   refine V H83 (op_load1 gwagg74 rfl (H83.ev rfl) (blk_at (O69.get 4 rfl) rfl)) ?_
   intro _ H85; clear H83
   refine V H85 (op_move rfl (H85.ev rfl)) ?_
   intro _ H87; clear H85
   refine V H87 (op_ml_some strKey Try.underlying74 gwzer78 rfl (H87.ev rfl) (H87.ev rfl) (keyS (by omega)) (O69.get 5 rfl) (hl1)) ?_
   intro _ H89; clear H87
   refine V H89 (op_assign rfl (H89.ev rfl)) ?_
   intro _ H91; clear H89
   refine wpList_nil ?_
   refine gw_nx (hK77 _ _ ?_)
   refine gw_seq fun K92 hK92 => ?_
   refine gw_drawB O69 (by kernel_rfl) (by kernel_rfl) fun w93 O94 => ?_
   clear O69
   refine gq_ev H91 (want_none rfl) rfl (by decide) (fun wq hq => have HO := O94.after hq; (op_move rfl (H91.ev rfl))) ?_
   intro _ H96; clear H91
   refine gq_ev H96 (want_none rfl) rfl (by decide) (fun wq hq => have HO := O94.after hq; (op_nil rfl (H96.ev rfl))) ?_
   intro _ H98; clear H96
   refine gq_ev H98 (want_none rfl) rfl (by decide) (fun wq hq => have HO := O94.after hq; (op_field (gwfld81_0 _ _) rfl (H98.ev rfl))) ?_
   intro _ H100; clear H98
   refine gq_ev H100 (want_none rfl) rfl (by decide) (fun wq hq => have HO := O94.after hq; (op_load1 gwagg28 rfl (H100.ev rfl) (blk_at (HO.get 0 rfl) rfl))) ?_
   intro _ H102; clear H100
   refine gq_ev H102 (want_none rfl) rfl (by decide) (fun wq hq => have HO := O94.after hq; (op_len Try.underlying28 rfl (H102.ev rfl))) ?_
   intro _ H104; clear H102
   refine gq_ev H104 (want_none rfl) rfl (by decide) (fun wq hq => have HO := O94.after hq; (op_move rfl (H104.ev rfl))) ?_
   intro _ H106; clear H104
   refine gq_ev H106 (want_none rfl) rfl (by decide) (fun wq hq => have HO := O94.after hq; (op_nil rfl (H106.ev rfl))) ?_
   intro _ H108; clear H106
   refine gq_ev H108 (want_none rfl) rfl (by decide) (fun wq hq => have HO := O94.after hq; (op_field (gwfld81_1 _ _) rfl (H108.ev rfl))) ?_
   intro _ H110; clear H108
   refine gq_ev H110 (want_none rfl) rfl (by decide) (fun wq hq => have HO := O94.after hq; (op_load1 gwagg3 rfl (H110.ev rfl) (blk_at (HO.get 0 rfl) rfl))) ?_
   intro _ H112; clear H110
   refine gq_ev H112 (want_none rfl) rfl (by decide) (fun wq hq => have HO := O94.after hq; (op_sub rfl (H112.ev rfl) (H112.ev rfl) (by omega))) ?_
   intro _ H114; clear H112
   refine gq_ev H114 (want_none rfl) rfl (by decide) (fun wq hq => have HO := O94.after hq; (op_assign rfl (H114.ev rfl))) ?_
   intro _ H116; clear H114
   refine wpQuiet_nil ?_
   intro w117 hq
   have O118 := O94.after hq
   clear O94 hq
   refine gw_nx (hK92 _ _ ?_)
   refine gw_seq fun K119 hK119 => ?_
   refine gw_seq fun K120 hK120 => ?_
   refine wp_region_lit ?_
   refine V H116 (op_move rfl (H116.ev rfl)) ?_
   intro _ H122; clear H116
   refine V H122 (op_eqi rfl (H122.ev rfl) (ev_c _ _)) ?_
   intro _ H124; clear H122
   refine wpList_nil ?_
   refine gw_nx (hK120 _ _ ?_)
   refine gw_cond H124 rfl (fun hb125 => ?_) (fun hb125 => ?_)
   ·
    have H126 := H124.subst_ (d := 39) (b := true) rfl hb125
    clear H124
    (try simp only [decide_eq_true_eq] at hb125)
    have h1z : (x.p.b.length : Int) - x.p.sf = 0 := by omega
    refine wp_exit ?_
    refine gw_thx ?_
    refine gw_in ?_
    refine gw_nx (hK60 _ _ ?_)
    refine wp_region_lit ?_
    refine V H126 (op_add rfl (H126.ev rfl) (ev_c _ _) (by omega)) ?_
    intro _ H128; clear H126
    refine V H128 (op_move rfl (H128.ev rfl)) ?_
    intro _ H130; clear H128
    refine wpList_nil ?_
    have O131 := O118.unpin 6 rfl
    clear O118
    have O132 : Own w0 w117 [Bk x.g [.slice x.A x.p.b.length x.c, J x.p.sf] 81, Chunk.row (Kd.int .u8) 5 w0.heap.size x.S (.slice x.A x.p.b.length x.c) x.p.b, Chunk.files w0.heap.size (ys ++ zs'), R, Bk gd [.map (some gm), J d.most, J us, J 0, .bool false] 76, Chunk.lmap Try.prog 9 gm ((ys ++ x :: zs').map XF.ent), Chunk.view Kd.string S29 A27 ((xs.map fun x => x.p.nm).length) c28 (xs.map fun x => x.p.nm)] := O131
    clear O131
    have O133 := Own.file_close (x := x) (pre := ys) (post := zs') (by exact O132.sel [0, 1, 2, 3, 4, 5, 6] (by decide))
    have el_ : (ys ++ x :: zs').map XF.ent = (ys ++ x :: zs').map XF.ent := by simp [XF.ent]
    rw [el_] at O133
    have ea_ : ys ++ x :: zs' = (ys ++ [x]) ++ zs' := by simp
    rw [ea_] at O133
    refine gw_nx ⟨_, ?_, i + 1, ys ++ [x], zs', us, Ak, ck, kl, (H130.pick (t := 18) rfl (H130.pick (t := 1) rfl (H130.pick (t := 0) rfl (H130.pick (t := 16) rfl (H130.pick (t := 17) rfl H130.nil))))), O133.sel [1, 2, 3, 0, 4] (by decide), ?_, ?_, ?_, ?_, ?_, ?_, ?_, ?_, rfl⟩
    ·
     rw [hm51]; omega
    ·
     exact ⟨by rw [List.length_append, List.length_singleton]; omega, by omega⟩
    ·
     rw [hnm, ea_.symm]; try simp
    ·
     rw [← ea_]; exact once_same hon2 rfl
    ·
     rw [← ea_]; exact hus
    ·
     intro x_ hx_; exact hsf x_ (List.mem_cons_of_mem _ hx_)
    ·
     exact ⟨by rw [hcr.1, List.map_cons, crash_keep h1z]; simp, by rw [hcr.2, List.map_cons, crash_keep h1z]⟩
    ·
     intro w_ h_; exact hkc w_ h_
    ·
     exact hkl
   ·
    have H135 := H124.subst_ (d := 39) (b := false) rfl hb125
    clear H124
    (try simp only [decide_eq_false_iff_not] at hb125)
    have h1_ := hb125
    refine wp_skip ?_
    refine gw_nx (hK119 _ _ ?_)
    refine gw_seq fun K136 hK136 => ?_
    refine wp_region_lit ?_
    refine V H135 (op_assign rfl (ev_c _ _)) ?_
    intro _ H138; clear H135
    refine wpList_nil ?_
    refine gw_nx (hK136 _ _ ?_)
    refine gw_seq fun K139 hK139 => ?_
    refine gw_seq fun K140 hK140 => ?_
    refine wp_region_lit ?_
    refine V H138 (op_move rfl (H138.ev rfl)) ?_
    intro _ H142; clear H138
    refine V H142 (op_len Try.underlying32 rfl (H142.ev rfl)) ?_
    intro _ H144; clear H142
    refine V H144 (op_gtr rfl (H144.ev rfl) (ev_c _ _)) ?_
    intro _ H146; clear H144
    refine wpList_nil ?_
    refine gw_nx (hK140 _ _ ?_)
    refine gw_cond H146 rfl (fun hb147 => ?_) (fun hb147 => ?_)
    ·
     have H148 := H146.subst_ (d := 42) (b := true) rfl hb147
     clear H146
     (try simp only [decide_eq_true_eq] at hb147)
     have hke : 0 ≤ keepN kl ((x.p.b.length : Int) - x.p.sf) ∧ keepN kl ((x.p.b.length : Int) - x.p.sf) ≤ ((x.p.b.length : Int) - x.p.sf) := keepN_in kl (by omega)
     have hkn1 : keepN kl ((x.p.b.length : Int) - x.p.sf) = (keepN kl ((x.p.b.length : Int) - x.p.sf)) := rfl
     have hkd : kl.drop 1 = (kl.drop (1 : Int).toNat) := rfl
     have hl2 : ((x.p.b.take (x.p.sf + (keepN kl ((x.p.b.length : Int) - x.p.sf))).toNat).length : Int) = x.p.sf + (keepN kl ((x.p.b.length : Int) - x.p.sf)) := by rw [List.length_take]; omega
     refine gw_drawB O118 (by kernel_rfl) (by kernel_rfl) fun w149 O150 => ?_
     clear O118
     refine gq_ev H148 (want_none rfl) rfl (by decide) (fun wq hq => have HO := O150.after hq; (op_move rfl (H148.ev rfl))) ?_
     intro _ H152; clear H148
     obtain ⟨ad153, cs156, hA154, hl157, hK158, hc155⟩ := Kd.C_get (hkc _ (O150.sel [3] (by decide))) (0 : Int) 0 (by omega) (by omega)
     obtain rfl := id hK158
     clear hl157
     refine gq_ev H152 (want_none rfl) rfl (by decide) (fun wq hq => have HO := O150.after hq; (op_index Try.underlying32 gwsiz3 rfl (H152.ev rfl) (ev_c _ _) hA154 (⟨by omega, by omega⟩))) ?_
     intro _ H160; clear H152
     refine gq_ev H160 (want_none rfl) rfl (by decide) (fun wq hq => have HO := O150.after hq; (op_load1 gwagg3 rfl (H160.ev rfl) ((cellb hq (at0 hc155))))) ?_
     intro _ H162; clear H160
     refine gq_ev H162 (want_none rfl) rfl (by decide) (fun wq hq => have HO := O150.after hq; (op_max rfl (H162.ev rfl) (ev_c _ _))) ?_
     intro _ H164; clear H162
     refine gq_ev H164 (want_none rfl) rfl (by decide) (fun wq hq => have HO := O150.after hq; (op_move rfl (H164.ev rfl))) ?_
     intro _ H166; clear H164
     refine gq_ev H166 (want_none rfl) rfl (by decide) (fun wq hq => have HO := O150.after hq; (op_min rfl (H166.ev rfl) (H166.ev rfl))) ?_
     intro _ H168; clear H166
     have H169 := H168.conv (v' := J (keepN kl ((x.p.b.length : Int) - x.p.sf))) (congrArg (Value.int .i64) (keepN_pos (by omega)))
     clear H168
     refine gq_ev H169 (want_none rfl) rfl (by decide) (fun wq hq => have HO := O150.after hq; (op_move rfl (H169.ev rfl))) ?_
     intro _ H171; clear H169
     obtain ⟨A172, c173, hr174, hc175, hC176, hA177⟩ := cut_lo (P := Try.prog) (d := (Kd.int .i64)) (t := 32) (e := 3) Try.underlying32 gwsiz3 Ak ck kl hkl 1 (by omega) (by omega)
     refine gq_ev H171 (want_none rfl) rfl (by decide) (fun wq hq => have HO := O150.after hq; (op_cut Try.underlying32 hr174 rfl (H171.ev rfl) (some_ev (ev_c _ _)) rfl)) ?_
     intro _ H179; clear H171
     refine gq_ev H179 (want_none rfl) rfl (by decide) (fun wq hq => have HO := O150.after hq; (op_assign rfl (H179.ev rfl))) ?_
     intro _ H181; clear H179
     refine gq_ev H181 (want_none rfl) rfl (by decide) (fun wq hq => have HO := O150.after hq; (op_assign rfl (H181.ev rfl))) ?_
     intro _ H183; clear H181
     refine wpQuiet_nil ?_
     intro w184 hq
     have O185 := O150.after hq
     clear O150 hq
     refine gw_nx (hK139 _ _ ?_)
     refine gw_seq fun K186 hK186 => ?_
     refine wp_region_lit ?_
     refine V H183 (op_move rfl (H183.ev rfl)) ?_
     intro _ H188; clear H183
     refine V H188 (op_nil rfl (H188.ev rfl)) ?_
     intro _ H190; clear H188
     refine V H190 (op_field (gwfld76_2 _ _) rfl (H190.ev rfl)) ?_
     intro _ H192; clear H190
     refine V H192 (op_load1 gwagg3 rfl (H192.ev rfl) (blk_at (O185.get 4 rfl) rfl)) ?_
     intro _ H194; clear H192
     refine V H194 (op_move rfl (H194.ev rfl)) ?_
     intro _ H196; clear H194
     refine V H196 (op_move rfl (H196.ev rfl)) ?_
     intro _ H198; clear H196
     refine V H198 (op_sub rfl (H198.ev rfl) (H198.ev rfl) (by omega)) ?_
     intro _ H200; clear H198
     refine V H200 (op_sub rfl (H200.ev rfl) (H200.ev rfl) (by omega)) ?_
     intro _ H202; clear H200
     refine V H202 (op_nil rfl (H202.ev rfl)) ?_
     intro _ H204; clear H202
     refine V H204 (op_field (gwfld76_2 _ _) rfl (H204.ev rfl)) ?_
     intro _ H206; clear H204
     refine gw_set 4 H206 O185 rfl (want_none rfl) rfl (op_store1 gwsiz3 rfl (H206.ev rfl) (H206.ev rfl) rfl (blk_at (O185.get 4 rfl) rfl) (blkf (O185.get 4 rfl))) ?_
     intro _ w209 H208 O210; clear H206 O185
     have O211 : Own w0 w209 [Bk x.g [.slice x.A x.p.b.length x.c, J x.p.sf] 81, Chunk.row (Kd.int .u8) 5 w0.heap.size x.S (.slice x.A x.p.b.length x.c) x.p.b, Chunk.files w0.heap.size (ys ++ zs'), R, Bk gd [.map (some gm), J d.most, J (us - (((x.p.b.length : Int) - x.p.sf) - (keepN kl ((x.p.b.length : Int) - x.p.sf)))), J 0, .bool false] 76, Chunk.lmap Try.prog 9 gm ((ys ++ x :: zs').map XF.ent), Chunk.viewAt w48 Kd.string S29 A27 ((xs.map fun x => x.p.nm).length) c28 (xs.map fun x => x.p.nm)] := O210
     clear O210
     refine wpList_nil ?_
     refine gw_nx (hK186 _ _ ?_)
     refine gw_seq fun K212 hK212 => ?_
     refine gx_draw (M := [Bk x.g [.slice x.A x.p.b.length x.c, J x.p.sf] 81, Chunk.row (Kd.int .u8) 5 w0.heap.size x.S (.slice x.A x.p.b.length x.c) x.p.b, Chunk.files w0.heap.size (ys ++ zs'), R, Bk gd [.map (some gm), J d.most, J (us - (((x.p.b.length : Int) - x.p.sf) - (keepN kl ((x.p.b.length : Int) - x.p.sf)))), J 0, .bool false] 76, Chunk.lmap Try.prog 9 gm ((ys ++ x :: zs').map XF.ent), Chunk.viewAt w48 Kd.string S29 A27 ((xs.map fun x => x.p.nm).length) c28 (xs.map fun x => x.p.nm)]) (fun j_ => j_ == 14) O211 (by kernel_rfl) fun w213 O214 => ?_
     clear O211
     refine gx_take 0 rfl (by kernel_rfl) H208 (by exact O214.sel [0, 1, 2, 3, 4, 5, 6] (by decide)) (want_none rfl) rfl (by decide) (fun wq HO => (op_move rfl (H208.ev rfl))) ?_
     intro _ H216; clear H208
     refine gx_take 1 rfl (by kernel_rfl) H216 (by exact O214.sel [0, 1, 2, 3, 4, 5, 6] (by decide)) (want_none rfl) rfl (by decide) (fun wq HO => (op_move rfl (H216.ev rfl))) ?_
     intro _ H218; clear H216
     refine gx_take 2 rfl (by kernel_rfl) H218 (by exact O214.sel [0, 1, 2, 3, 4, 5, 6] (by decide)) (want_none rfl) rfl (by decide) (fun wq HO => (op_nil rfl (H218.ev rfl))) ?_
     intro _ H220; clear H218
     refine gx_take 3 rfl (by kernel_rfl) H220 (by exact O214.sel [0, 1, 2, 3, 4, 5, 6] (by decide)) (want_none rfl) rfl (by decide) (fun wq HO => (op_field (gwfld81_0 _ _) rfl (H220.ev rfl))) ?_
     intro _ H222; clear H220
     refine gx_take 4 rfl (by kernel_rfl) H222 (by exact O214.sel [0, 1, 2, 3, 4, 5, 6] (by decide)) (want_none rfl) rfl (by decide) (fun wq HO => (op_load1 gwagg28 rfl (H222.ev rfl) (blk_at (HO.get 0 rfl) rfl))) ?_
     intro _ H224; clear H222
     refine gx_take 5 rfl (by kernel_rfl) H224 (by exact O214.sel [0, 1, 2, 3, 4, 5, 6] (by decide)) (want_none rfl) rfl (by decide) (fun wq HO => (op_move rfl (H224.ev rfl))) ?_
     intro _ H226; clear H224
     refine gx_take 6 rfl (by kernel_rfl) H226 (by exact O214.sel [0, 1, 2, 3, 4, 5, 6] (by decide)) (want_none rfl) rfl (by decide) (fun wq HO => (op_nil rfl (H226.ev rfl))) ?_
     intro _ H228; clear H226
     refine gx_take 7 rfl (by kernel_rfl) H228 (by exact O214.sel [0, 1, 2, 3, 4, 5, 6] (by decide)) (want_none rfl) rfl (by decide) (fun wq HO => (op_field (gwfld81_1 _ _) rfl (H228.ev rfl))) ?_
     intro _ H230; clear H228
     refine gx_take 8 rfl (by kernel_rfl) H230 (by exact O214.sel [0, 1, 2, 3, 4, 5, 6] (by decide)) (want_none rfl) rfl (by decide) (fun wq HO => (op_load1 gwagg3 rfl (H230.ev rfl) (blk_at (HO.get 0 rfl) rfl))) ?_
     intro _ H232; clear H230
     refine gx_take 9 rfl (by kernel_rfl) H232 (by exact O214.sel [0, 1, 2, 3, 4, 5, 6] (by decide)) (want_none rfl) rfl (by decide) (fun wq HO => (op_move rfl (H232.ev rfl))) ?_
     intro _ H234; clear H232
     refine gx_take 10 rfl (by kernel_rfl) H234 (by exact O214.sel [0, 1, 2, 3, 4, 5, 6] (by decide)) (want_none rfl) rfl (by decide) (fun wq HO => (op_add rfl (H234.ev rfl) (H234.ev rfl) (by omega))) ?_
     intro _ H236; clear H234
     obtain ⟨hr237, hc238, hC239⟩ := cut_hi (P := Try.prog) (d := (Kd.int .u8)) (t := 28) (e := 5) Try.underlying28 gwsiz5 x.A x.c x.p.b (row_cap (O214.get 1 rfl)) (x.p.sf + (keepN kl ((x.p.b.length : Int) - x.p.sf))) (by omega) (by omega)
     refine gx_take 11 rfl (by kernel_rfl) H236 (by exact O214.sel [0, 1, 2, 3, 4, 5, 6] (by decide)) (want_none rfl) rfl (by decide) (fun wq HO => (op_cut Try.underlying28 hr237 rfl (H236.ev rfl) rfl (some_ev (H236.ev rfl)))) ?_
     intro _ H241; clear H236
     refine gx_step 12 rfl (by kernel_rfl) ?_
     refine V H241 (op_nil rfl (H241.ev rfl)) ?_
     intro _ H243; clear H241
     refine gx_on (i := 12) (B := (fun j_ => j_ == 14)) (M := [Bk x.g [.slice x.A x.p.b.length x.c, J x.p.sf] 81, Chunk.row (Kd.int .u8) 5 w0.heap.size x.S (.slice x.A x.p.b.length x.c) x.p.b, Chunk.files w0.heap.size (ys ++ zs'), R, Bk gd [.map (some gm), J d.most, J (us - (((x.p.b.length : Int) - x.p.sf) - (keepN kl ((x.p.b.length : Int) - x.p.sf)))), J 0, .bool false] 76, Chunk.lmap Try.prog 9 gm ((ys ++ x :: zs').map XF.ent), Chunk.viewAt w48 Kd.string S29 A27 ((xs.map fun x => x.p.nm).length) c28 (xs.map fun x => x.p.nm)]) (fun _ => (by exact O214.sel [0, 1, 2, 3, 4, 5, 6] (by decide))) ?_
     refine gx_take 13 rfl (by kernel_rfl) H243 (by exact O214.sel [0, 1, 2, 3, 4, 5, 6] (by decide)) (want_none rfl) rfl (by decide) (fun wq HO => (op_field (gwfld81_0 _ _) rfl (H243.ev rfl))) ?_
     intro _ H245; clear H243
     refine gx_step 14 rfl (by kernel_rfl) ?_
     refine gw_set 0 H245 O214 rfl (want_none rfl) rfl (op_store1 gwsiz28 rfl (H245.ev rfl) (H245.ev rfl) rfl (blk_at (O214.get 0 rfl) rfl) (blkf (O214.get 0 rfl))) ?_
     intro _ w248 H247 O249; clear H245 O214
     have O250 : Own w0 w248 [Bk x.g [.slice x.A ((x.p.b.take (x.p.sf + (keepN kl ((x.p.b.length : Int) - x.p.sf))).toNat).length) x.c, J x.p.sf] 81, Chunk.row (Kd.int .u8) 5 w0.heap.size x.S (.slice x.A x.p.b.length x.c) x.p.b, Chunk.files w0.heap.size (ys ++ zs'), R, Bk gd [.map (some gm), J d.most, J (us - (((x.p.b.length : Int) - x.p.sf) - (keepN kl ((x.p.b.length : Int) - x.p.sf)))), J 0, .bool false] 76, Chunk.lmap Try.prog 9 gm ((ys ++ x :: zs').map XF.ent), Chunk.viewAt w48 Kd.string S29 A27 ((xs.map fun x => x.p.nm).length) c28 (xs.map fun x => x.p.nm)] := O249
     clear O249
     refine gx_on (i := 14) (B := (fun j_ => j_ == 14)) (M := [Bk x.g [.slice x.A x.p.b.length x.c, J x.p.sf] 81, Chunk.row (Kd.int .u8) 5 w0.heap.size x.S (.slice x.A x.p.b.length x.c) x.p.b, Chunk.files w0.heap.size (ys ++ zs'), R, Bk gd [.map (some gm), J d.most, J (us - (((x.p.b.length : Int) - x.p.sf) - (keepN kl ((x.p.b.length : Int) - x.p.sf)))), J 0, .bool false] 76, Chunk.lmap Try.prog 9 gm ((ys ++ x :: zs').map XF.ent), Chunk.viewAt w48 Kd.string S29 A27 ((xs.map fun x => x.p.nm).length) c28 (xs.map fun x => x.p.nm)]) (fun h_ => by cases h_) ?_
     refine gx_done (by kernel_rfl) ?_
     have O251 := O250.row_takeL 1 rfl ((x.p.sf + (keepN kl ((x.p.b.length : Int) - x.p.sf))).toNat) (by omega)
     clear O250
     have O252 : Own w0 w248 [Bk x.g [.slice x.A ((x.p.b.take (x.p.sf + (keepN kl ((x.p.b.length : Int) - x.p.sf))).toNat).length) x.c, J x.p.sf] 81, Chunk.row (Kd.int .u8) 5 w0.heap.size x.S (.slice x.A ((x.p.b.take (x.p.sf + (keepN kl ((x.p.b.length : Int) - x.p.sf))).toNat).length) x.c) (x.p.b.take (x.p.sf + (keepN kl ((x.p.b.length : Int) - x.p.sf))).toNat), Chunk.files w0.heap.size (ys ++ zs'), R, Bk gd [.map (some gm), J d.most, J (us - (((x.p.b.length : Int) - x.p.sf) - (keepN kl ((x.p.b.length : Int) - x.p.sf)))), J 0, .bool false] 76, Chunk.lmap Try.prog 9 gm ((ys ++ x :: zs').map XF.ent), Chunk.viewAt w48 Kd.string S29 A27 ((xs.map fun x => x.p.nm).length) c28 (xs.map fun x => x.p.nm)] := O251
     clear O251
     refine gw_nx (hK212 _ _ ?_)
     refine wp_region_lit ?_
     refine V H247 (op_move rfl (H247.ev rfl)) ?_
     intro _ H254; clear H247
     refine V H254 (op_move rfl (H254.ev rfl)) ?_
     intro _ H256; clear H254
     refine V H256 (op_nil rfl (H256.ev rfl)) ?_
     intro _ H258; clear H256
     refine V H258 (op_field (gwfld81_0 _ _) rfl (H258.ev rfl)) ?_
     intro _ H260; clear H258
     refine V H260 (op_load1 gwagg28 rfl (H260.ev rfl) (blk_at (O252.get 0 rfl) rfl)) ?_
     intro _ H262; clear H260
     refine V H262 (op_len Try.underlying28 rfl (H262.ev rfl)) ?_
     intro _ H264; clear H262
     have H265 := H264.conv (v' := J (x.p.sf + (keepN kl ((x.p.b.length : Int) - x.p.sf)))) (congrArg (Value.int .i64) hl2)
     clear H264
     refine V H265 (op_nil rfl (H265.ev rfl)) ?_
     intro _ H267; clear H265
     refine V H267 (op_field (gwfld81_1 _ _) rfl (H267.ev rfl)) ?_
     intro _ H269; clear H267
     refine gw_set 0 H269 O252 rfl (want_none rfl) rfl (op_store1 gwsiz3 rfl (H269.ev rfl) (H269.ev rfl) rfl (blk_at (O252.get 0 rfl) rfl) (blkf (O252.get 0 rfl))) ?_
     intro _ w272 H271 O273; clear H269 O252
     have O274 : Own w0 w272 [Bk x.g [.slice x.A ((x.p.b.take (x.p.sf + (keepN kl ((x.p.b.length : Int) - x.p.sf))).toNat).length) x.c, J (x.p.sf + (keepN kl ((x.p.b.length : Int) - x.p.sf)))] 81, Chunk.row (Kd.int .u8) 5 w0.heap.size x.S (.slice x.A ((x.p.b.take (x.p.sf + (keepN kl ((x.p.b.length : Int) - x.p.sf))).toNat).length) x.c) (x.p.b.take (x.p.sf + (keepN kl ((x.p.b.length : Int) - x.p.sf))).toNat), Chunk.files w0.heap.size (ys ++ zs'), R, Bk gd [.map (some gm), J d.most, J (us - (((x.p.b.length : Int) - x.p.sf) - (keepN kl ((x.p.b.length : Int) - x.p.sf)))), J 0, .bool false] 76, Chunk.lmap Try.prog 9 gm ((ys ++ x :: zs').map XF.ent), Chunk.viewAt w48 Kd.string S29 A27 ((xs.map fun x => x.p.nm).length) c28 (xs.map fun x => x.p.nm)] := O273
     clear O273
     refine wpList_nil ?_
     refine gw_blk ?_
     refine gw_nx (hK60 _ _ ?_)
     refine wp_region_lit ?_
     refine V H271 (op_add rfl (H271.ev rfl) (ev_c _ _) (by omega)) ?_
     intro _ H276; clear H271
     refine V H276 (op_move rfl (H276.ev rfl)) ?_
     intro _ H278; clear H276
     refine wpList_nil ?_
     have O279 := O274.unpin 6 rfl
     clear O274
     have O280 : Own w0 w272 [Bk x.g [.slice x.A ((x.p.b.take (x.p.sf + (keepN kl ((x.p.b.length : Int) - x.p.sf))).toNat).length) x.c, J (x.p.sf + (keepN kl ((x.p.b.length : Int) - x.p.sf)))] 81, Chunk.row (Kd.int .u8) 5 w0.heap.size x.S (.slice x.A ((x.p.b.take (x.p.sf + (keepN kl ((x.p.b.length : Int) - x.p.sf))).toNat).length) x.c) (x.p.b.take (x.p.sf + (keepN kl ((x.p.b.length : Int) - x.p.sf))).toNat), Chunk.files w0.heap.size (ys ++ zs'), R, Bk gd [.map (some gm), J d.most, J (us - (((x.p.b.length : Int) - x.p.sf) - (keepN kl ((x.p.b.length : Int) - x.p.sf)))), J 0, .bool false] 76, Chunk.lmap Try.prog 9 gm ((ys ++ x :: zs').map XF.ent), Chunk.view Kd.string S29 A27 ((xs.map fun x => x.p.nm).length) c28 (xs.map fun x => x.p.nm)] := O279
     clear O279
     have O281 := Own.file_close (x := (⟨⟨x.p.nm, (x.p.b.take (x.p.sf + (keepN kl ((x.p.b.length : Int) - x.p.sf))).toNat), x.p.sf + (keepN kl ((x.p.b.length : Int) - x.p.sf))⟩, x.g, x.A, x.c, x.S⟩ : XF)) (pre := ys) (post := zs') (by exact O280.sel [0, 1, 2, 3, 4, 5, 6] (by decide))
     have el_ : (ys ++ x :: zs').map XF.ent = (ys ++ (⟨⟨x.p.nm, (x.p.b.take (x.p.sf + (keepN kl ((x.p.b.length : Int) - x.p.sf))).toNat), x.p.sf + (keepN kl ((x.p.b.length : Int) - x.p.sf))⟩, x.g, x.A, x.c, x.S⟩ : XF) :: zs').map XF.ent := by simp [XF.ent]
     rw [el_] at O281
     have ea_ : ys ++ (⟨⟨x.p.nm, (x.p.b.take (x.p.sf + (keepN kl ((x.p.b.length : Int) - x.p.sf))).toNat), x.p.sf + (keepN kl ((x.p.b.length : Int) - x.p.sf))⟩, x.g, x.A, x.c, x.S⟩ : XF) :: zs' = (ys ++ [(⟨⟨x.p.nm, (x.p.b.take (x.p.sf + (keepN kl ((x.p.b.length : Int) - x.p.sf))).toNat), x.p.sf + (keepN kl ((x.p.b.length : Int) - x.p.sf))⟩, x.g, x.A, x.c, x.S⟩ : XF)]) ++ zs' := by simp
     rw [ea_] at O281
     refine gw_nx ⟨_, ?_, i + 1, ys ++ [(⟨⟨x.p.nm, (x.p.b.take (x.p.sf + (keepN kl ((x.p.b.length : Int) - x.p.sf))).toNat), x.p.sf + (keepN kl ((x.p.b.length : Int) - x.p.sf))⟩, x.g, x.A, x.c, x.S⟩ : XF)], zs', (us - (((x.p.b.length : Int) - x.p.sf) - (keepN kl ((x.p.b.length : Int) - x.p.sf)))), A172, c173, (kl.drop (1 : Int).toNat), (H278.pick (t := 18) rfl (H278.pick (t := 1) rfl (H278.pick (t := 0) rfl (H278.pick (t := 16) rfl (H278.pick (t := 17) rfl H278.nil))))), O281.sel [1, 2, 3, 0, 4] (by decide), ?_, ?_, ?_, ?_, ?_, ?_, ?_, ?_, rfl⟩
     ·
      rw [hm51]; omega
     ·
      exact ⟨by rw [List.length_append, List.length_singleton]; omega, by omega⟩
     ·
      rw [hnm, ea_.symm]; try simp
     ·
      rw [← ea_]; exact once_same hon2 rfl
     ·
      rw [← ea_, totalX_mid]; exact ⟨by show _ = ((_ + (x.p.b.take (x.p.sf + (keepN kl ((x.p.b.length : Int) - x.p.sf))).toNat).length : Nat) : Int); omega, by omega⟩
     ·
      intro x_ hx_; exact hsf x_ (List.mem_cons_of_mem _ hx_)
     ·
      exact ⟨by rw [hcr.1, List.map_cons, crash_go h1_ hkn1 hkd]; simp, by rw [hcr.2, List.map_cons, crash_go h1_ hkn1 hkd]; show us - (_ + _) = _; omega⟩
     ·
      intro w_ h_; exact hC176 _ (hkc w_ h_)
     ·
      exact hc175
    ·
     have H283 := H146.subst_ (d := 42) (b := false) rfl hb147
     clear H146
     (try simp only [decide_eq_false_iff_not, Int.not_lt] at hb147)
     have hke : 0 ≤ keepN kl ((x.p.b.length : Int) - x.p.sf) ∧ keepN kl ((x.p.b.length : Int) - x.p.sf) ≤ ((x.p.b.length : Int) - x.p.sf) := keepN_in kl (by omega)
     have hkn1 : keepN kl ((x.p.b.length : Int) - x.p.sf) = 0 := keepN_zero (by omega)
     have hkd : kl.drop 1 = kl := List.drop_eq_nil_of_le (by omega) |>.trans (List.length_eq_zero_iff.1 (by omega)).symm
     have hl2 : ((x.p.b.take (x.p.sf + 0).toNat).length : Int) = x.p.sf + 0 := by rw [List.length_take]; omega
     refine wp_skip ?_
     refine gw_nx (hK139 _ _ ?_)
     refine gw_seq fun K284 hK284 => ?_
     refine wp_region_lit ?_
     refine V H283 (op_move rfl (H283.ev rfl)) ?_
     intro _ H286; clear H283
     refine V H286 (op_nil rfl (H286.ev rfl)) ?_
     intro _ H288; clear H286
     refine V H288 (op_field (gwfld76_2 _ _) rfl (H288.ev rfl)) ?_
     intro _ H290; clear H288
     refine V H290 (op_load1 gwagg3 rfl (H290.ev rfl) (blk_at (O118.get 4 rfl) rfl)) ?_
     intro _ H292; clear H290
     refine V H292 (op_move rfl (H292.ev rfl)) ?_
     intro _ H294; clear H292
     refine V H294 (op_move rfl (H294.ev rfl)) ?_
     intro _ H296; clear H294
     refine V H296 (op_sub rfl (H296.ev rfl) (H296.ev rfl) (by omega)) ?_
     intro _ H298; clear H296
     refine V H298 (op_sub rfl (H298.ev rfl) (H298.ev rfl) (by omega)) ?_
     intro _ H300; clear H298
     refine V H300 (op_nil rfl (H300.ev rfl)) ?_
     intro _ H302; clear H300
     refine V H302 (op_field (gwfld76_2 _ _) rfl (H302.ev rfl)) ?_
     intro _ H304; clear H302
     refine gw_set 4 H304 O118 rfl (want_none rfl) rfl (op_store1 gwsiz3 rfl (H304.ev rfl) (H304.ev rfl) rfl (blk_at (O118.get 4 rfl) rfl) (blkf (O118.get 4 rfl))) ?_
     intro _ w307 H306 O308; clear H304 O118
     have O309 : Own w0 w307 [Bk x.g [.slice x.A x.p.b.length x.c, J x.p.sf] 81, Chunk.row (Kd.int .u8) 5 w0.heap.size x.S (.slice x.A x.p.b.length x.c) x.p.b, Chunk.files w0.heap.size (ys ++ zs'), R, Bk gd [.map (some gm), J d.most, J (us - (((x.p.b.length : Int) - x.p.sf) - 0)), J 0, .bool false] 76, Chunk.lmap Try.prog 9 gm ((ys ++ x :: zs').map XF.ent), Chunk.viewAt w48 Kd.string S29 A27 ((xs.map fun x => x.p.nm).length) c28 (xs.map fun x => x.p.nm)] := O308
     clear O308
     refine wpList_nil ?_
     refine gw_nx (hK284 _ _ ?_)
     refine gw_seq fun K310 hK310 => ?_
     refine gx_draw (M := [Bk x.g [.slice x.A x.p.b.length x.c, J x.p.sf] 81, Chunk.row (Kd.int .u8) 5 w0.heap.size x.S (.slice x.A x.p.b.length x.c) x.p.b, Chunk.files w0.heap.size (ys ++ zs'), R, Bk gd [.map (some gm), J d.most, J (us - (((x.p.b.length : Int) - x.p.sf) - 0)), J 0, .bool false] 76, Chunk.lmap Try.prog 9 gm ((ys ++ x :: zs').map XF.ent), Chunk.viewAt w48 Kd.string S29 A27 ((xs.map fun x => x.p.nm).length) c28 (xs.map fun x => x.p.nm)]) (fun j_ => j_ == 14) O309 (by kernel_rfl) fun w311 O312 => ?_
     clear O309
     refine gx_take 0 rfl (by kernel_rfl) H306 (by exact O312.sel [0, 1, 2, 3, 4, 5, 6] (by decide)) (want_none rfl) rfl (by decide) (fun wq HO => (op_move rfl (H306.ev rfl))) ?_
     intro _ H314; clear H306
     refine gx_take 1 rfl (by kernel_rfl) H314 (by exact O312.sel [0, 1, 2, 3, 4, 5, 6] (by decide)) (want_none rfl) rfl (by decide) (fun wq HO => (op_move rfl (H314.ev rfl))) ?_
     intro _ H316; clear H314
     refine gx_take 2 rfl (by kernel_rfl) H316 (by exact O312.sel [0, 1, 2, 3, 4, 5, 6] (by decide)) (want_none rfl) rfl (by decide) (fun wq HO => (op_nil rfl (H316.ev rfl))) ?_
     intro _ H318; clear H316
     refine gx_take 3 rfl (by kernel_rfl) H318 (by exact O312.sel [0, 1, 2, 3, 4, 5, 6] (by decide)) (want_none rfl) rfl (by decide) (fun wq HO => (op_field (gwfld81_0 _ _) rfl (H318.ev rfl))) ?_
     intro _ H320; clear H318
     refine gx_take 4 rfl (by kernel_rfl) H320 (by exact O312.sel [0, 1, 2, 3, 4, 5, 6] (by decide)) (want_none rfl) rfl (by decide) (fun wq HO => (op_load1 gwagg28 rfl (H320.ev rfl) (blk_at (HO.get 0 rfl) rfl))) ?_
     intro _ H322; clear H320
     refine gx_take 5 rfl (by kernel_rfl) H322 (by exact O312.sel [0, 1, 2, 3, 4, 5, 6] (by decide)) (want_none rfl) rfl (by decide) (fun wq HO => (op_move rfl (H322.ev rfl))) ?_
     intro _ H324; clear H322
     refine gx_take 6 rfl (by kernel_rfl) H324 (by exact O312.sel [0, 1, 2, 3, 4, 5, 6] (by decide)) (want_none rfl) rfl (by decide) (fun wq HO => (op_nil rfl (H324.ev rfl))) ?_
     intro _ H326; clear H324
     refine gx_take 7 rfl (by kernel_rfl) H326 (by exact O312.sel [0, 1, 2, 3, 4, 5, 6] (by decide)) (want_none rfl) rfl (by decide) (fun wq HO => (op_field (gwfld81_1 _ _) rfl (H326.ev rfl))) ?_
     intro _ H328; clear H326
     refine gx_take 8 rfl (by kernel_rfl) H328 (by exact O312.sel [0, 1, 2, 3, 4, 5, 6] (by decide)) (want_none rfl) rfl (by decide) (fun wq HO => (op_load1 gwagg3 rfl (H328.ev rfl) (blk_at (HO.get 0 rfl) rfl))) ?_
     intro _ H330; clear H328
     refine gx_take 9 rfl (by kernel_rfl) H330 (by exact O312.sel [0, 1, 2, 3, 4, 5, 6] (by decide)) (want_none rfl) rfl (by decide) (fun wq HO => (op_move rfl (H330.ev rfl))) ?_
     intro _ H332; clear H330
     refine gx_take 10 rfl (by kernel_rfl) H332 (by exact O312.sel [0, 1, 2, 3, 4, 5, 6] (by decide)) (want_none rfl) rfl (by decide) (fun wq HO => (op_add rfl (H332.ev rfl) (H332.ev rfl) (by omega))) ?_
     intro _ H334; clear H332
     obtain ⟨hr335, hc336, hC337⟩ := cut_hi (P := Try.prog) (d := (Kd.int .u8)) (t := 28) (e := 5) Try.underlying28 gwsiz5 x.A x.c x.p.b (row_cap (O312.get 1 rfl)) (x.p.sf + 0) (by omega) (by omega)
     refine gx_take 11 rfl (by kernel_rfl) H334 (by exact O312.sel [0, 1, 2, 3, 4, 5, 6] (by decide)) (want_none rfl) rfl (by decide) (fun wq HO => (op_cut Try.underlying28 hr335 rfl (H334.ev rfl) rfl (some_ev (H334.ev rfl)))) ?_
     intro _ H339; clear H334
     refine gx_step 12 rfl (by kernel_rfl) ?_
     refine V H339 (op_nil rfl (H339.ev rfl)) ?_
     intro _ H341; clear H339
     refine gx_on (i := 12) (B := (fun j_ => j_ == 14)) (M := [Bk x.g [.slice x.A x.p.b.length x.c, J x.p.sf] 81, Chunk.row (Kd.int .u8) 5 w0.heap.size x.S (.slice x.A x.p.b.length x.c) x.p.b, Chunk.files w0.heap.size (ys ++ zs'), R, Bk gd [.map (some gm), J d.most, J (us - (((x.p.b.length : Int) - x.p.sf) - 0)), J 0, .bool false] 76, Chunk.lmap Try.prog 9 gm ((ys ++ x :: zs').map XF.ent), Chunk.viewAt w48 Kd.string S29 A27 ((xs.map fun x => x.p.nm).length) c28 (xs.map fun x => x.p.nm)]) (fun _ => (by exact O312.sel [0, 1, 2, 3, 4, 5, 6] (by decide))) ?_
     refine gx_take 13 rfl (by kernel_rfl) H341 (by exact O312.sel [0, 1, 2, 3, 4, 5, 6] (by decide)) (want_none rfl) rfl (by decide) (fun wq HO => (op_field (gwfld81_0 _ _) rfl (H341.ev rfl))) ?_
     intro _ H343; clear H341
     refine gx_step 14 rfl (by kernel_rfl) ?_
     refine gw_set 0 H343 O312 rfl (want_none rfl) rfl (op_store1 gwsiz28 rfl (H343.ev rfl) (H343.ev rfl) rfl (blk_at (O312.get 0 rfl) rfl) (blkf (O312.get 0 rfl))) ?_
     intro _ w346 H345 O347; clear H343 O312
     have O348 : Own w0 w346 [Bk x.g [.slice x.A ((x.p.b.take (x.p.sf + 0).toNat).length) x.c, J x.p.sf] 81, Chunk.row (Kd.int .u8) 5 w0.heap.size x.S (.slice x.A x.p.b.length x.c) x.p.b, Chunk.files w0.heap.size (ys ++ zs'), R, Bk gd [.map (some gm), J d.most, J (us - (((x.p.b.length : Int) - x.p.sf) - 0)), J 0, .bool false] 76, Chunk.lmap Try.prog 9 gm ((ys ++ x :: zs').map XF.ent), Chunk.viewAt w48 Kd.string S29 A27 ((xs.map fun x => x.p.nm).length) c28 (xs.map fun x => x.p.nm)] := O347
     clear O347
     refine gx_on (i := 14) (B := (fun j_ => j_ == 14)) (M := [Bk x.g [.slice x.A x.p.b.length x.c, J x.p.sf] 81, Chunk.row (Kd.int .u8) 5 w0.heap.size x.S (.slice x.A x.p.b.length x.c) x.p.b, Chunk.files w0.heap.size (ys ++ zs'), R, Bk gd [.map (some gm), J d.most, J (us - (((x.p.b.length : Int) - x.p.sf) - 0)), J 0, .bool false] 76, Chunk.lmap Try.prog 9 gm ((ys ++ x :: zs').map XF.ent), Chunk.viewAt w48 Kd.string S29 A27 ((xs.map fun x => x.p.nm).length) c28 (xs.map fun x => x.p.nm)]) (fun h_ => by cases h_) ?_
     refine gx_done (by kernel_rfl) ?_
     have O349 := O348.row_takeL 1 rfl ((x.p.sf + 0).toNat) (by omega)
     clear O348
     have O350 : Own w0 w346 [Bk x.g [.slice x.A ((x.p.b.take (x.p.sf + 0).toNat).length) x.c, J x.p.sf] 81, Chunk.row (Kd.int .u8) 5 w0.heap.size x.S (.slice x.A ((x.p.b.take (x.p.sf + 0).toNat).length) x.c) (x.p.b.take (x.p.sf + 0).toNat), Chunk.files w0.heap.size (ys ++ zs'), R, Bk gd [.map (some gm), J d.most, J (us - (((x.p.b.length : Int) - x.p.sf) - 0)), J 0, .bool false] 76, Chunk.lmap Try.prog 9 gm ((ys ++ x :: zs').map XF.ent), Chunk.viewAt w48 Kd.string S29 A27 ((xs.map fun x => x.p.nm).length) c28 (xs.map fun x => x.p.nm)] := O349
     clear O349
     refine gw_nx (hK310 _ _ ?_)
     refine wp_region_lit ?_
     refine V H345 (op_move rfl (H345.ev rfl)) ?_
     intro _ H352; clear H345
     refine V H352 (op_move rfl (H352.ev rfl)) ?_
     intro _ H354; clear H352
     refine V H354 (op_nil rfl (H354.ev rfl)) ?_
     intro _ H356; clear H354
     refine V H356 (op_field (gwfld81_0 _ _) rfl (H356.ev rfl)) ?_
     intro _ H358; clear H356
     refine V H358 (op_load1 gwagg28 rfl (H358.ev rfl) (blk_at (O350.get 0 rfl) rfl)) ?_
     intro _ H360; clear H358
     refine V H360 (op_len Try.underlying28 rfl (H360.ev rfl)) ?_
     intro _ H362; clear H360
     have H363 := H362.conv (v' := J (x.p.sf + 0)) (congrArg (Value.int .i64) hl2)
     clear H362
     refine V H363 (op_nil rfl (H363.ev rfl)) ?_
     intro _ H365; clear H363
     refine V H365 (op_field (gwfld81_1 _ _) rfl (H365.ev rfl)) ?_
     intro _ H367; clear H365
     refine gw_set 0 H367 O350 rfl (want_none rfl) rfl (op_store1 gwsiz3 rfl (H367.ev rfl) (H367.ev rfl) rfl (blk_at (O350.get 0 rfl) rfl) (blkf (O350.get 0 rfl))) ?_
     intro _ w370 H369 O371; clear H367 O350
     have O372 : Own w0 w370 [Bk x.g [.slice x.A ((x.p.b.take (x.p.sf + 0).toNat).length) x.c, J (x.p.sf + 0)] 81, Chunk.row (Kd.int .u8) 5 w0.heap.size x.S (.slice x.A ((x.p.b.take (x.p.sf + 0).toNat).length) x.c) (x.p.b.take (x.p.sf + 0).toNat), Chunk.files w0.heap.size (ys ++ zs'), R, Bk gd [.map (some gm), J d.most, J (us - (((x.p.b.length : Int) - x.p.sf) - 0)), J 0, .bool false] 76, Chunk.lmap Try.prog 9 gm ((ys ++ x :: zs').map XF.ent), Chunk.viewAt w48 Kd.string S29 A27 ((xs.map fun x => x.p.nm).length) c28 (xs.map fun x => x.p.nm)] := O371
     clear O371
     refine wpList_nil ?_
     refine gw_blk ?_
     refine gw_nx (hK60 _ _ ?_)
     refine wp_region_lit ?_
     refine V H369 (op_add rfl (H369.ev rfl) (ev_c _ _) (by omega)) ?_
     intro _ H374; clear H369
     refine V H374 (op_move rfl (H374.ev rfl)) ?_
     intro _ H376; clear H374
     refine wpList_nil ?_
     have O377 := O372.unpin 6 rfl
     clear O372
     have O378 : Own w0 w370 [Bk x.g [.slice x.A ((x.p.b.take (x.p.sf + 0).toNat).length) x.c, J (x.p.sf + 0)] 81, Chunk.row (Kd.int .u8) 5 w0.heap.size x.S (.slice x.A ((x.p.b.take (x.p.sf + 0).toNat).length) x.c) (x.p.b.take (x.p.sf + 0).toNat), Chunk.files w0.heap.size (ys ++ zs'), R, Bk gd [.map (some gm), J d.most, J (us - (((x.p.b.length : Int) - x.p.sf) - 0)), J 0, .bool false] 76, Chunk.lmap Try.prog 9 gm ((ys ++ x :: zs').map XF.ent), Chunk.view Kd.string S29 A27 ((xs.map fun x => x.p.nm).length) c28 (xs.map fun x => x.p.nm)] := O377
     clear O377
     have O379 := Own.file_close (x := (⟨⟨x.p.nm, (x.p.b.take (x.p.sf + 0).toNat), x.p.sf + 0⟩, x.g, x.A, x.c, x.S⟩ : XF)) (pre := ys) (post := zs') (by exact O378.sel [0, 1, 2, 3, 4, 5, 6] (by decide))
     have el_ : (ys ++ x :: zs').map XF.ent = (ys ++ (⟨⟨x.p.nm, (x.p.b.take (x.p.sf + 0).toNat), x.p.sf + 0⟩, x.g, x.A, x.c, x.S⟩ : XF) :: zs').map XF.ent := by simp [XF.ent]
     rw [el_] at O379
     have ea_ : ys ++ (⟨⟨x.p.nm, (x.p.b.take (x.p.sf + 0).toNat), x.p.sf + 0⟩, x.g, x.A, x.c, x.S⟩ : XF) :: zs' = (ys ++ [(⟨⟨x.p.nm, (x.p.b.take (x.p.sf + 0).toNat), x.p.sf + 0⟩, x.g, x.A, x.c, x.S⟩ : XF)]) ++ zs' := by simp
     rw [ea_] at O379
     refine gw_nx ⟨_, ?_, i + 1, ys ++ [(⟨⟨x.p.nm, (x.p.b.take (x.p.sf + 0).toNat), x.p.sf + 0⟩, x.g, x.A, x.c, x.S⟩ : XF)], zs', (us - (((x.p.b.length : Int) - x.p.sf) - 0)), Ak, ck, kl, (H376.pick (t := 18) rfl (H376.pick (t := 1) rfl (H376.pick (t := 0) rfl (H376.pick (t := 16) rfl (H376.pick (t := 17) rfl H376.nil))))), O379.sel [1, 2, 3, 0, 4] (by decide), ?_, ?_, ?_, ?_, ?_, ?_, ?_, ?_, rfl⟩
     ·
      rw [hm51]; omega
     ·
      exact ⟨by rw [List.length_append, List.length_singleton]; omega, by omega⟩
     ·
      rw [hnm, ea_.symm]; try simp
     ·
      rw [← ea_]; exact once_same hon2 rfl
     ·
      rw [← ea_, totalX_mid]; exact ⟨by show _ = ((_ + (x.p.b.take (x.p.sf + 0).toNat).length : Nat) : Int); omega, by omega⟩
     ·
      intro x_ hx_; exact hsf x_ (List.mem_cons_of_mem _ hx_)
     ·
      exact ⟨by rw [hcr.1, List.map_cons, crash_go h1_ hkn1 hkd]; simp, by rw [hcr.2, List.map_cons, crash_go h1_ hkn1 hkd]; show us - (_ + _) = _; omega⟩
     ·
      intro w_ h_; exact hkc w_ h_
     ·
      exact hkl
  ·
   have H381 := H54.subst_ (d := 19) (b := false) rfl hb56
   clear H54
   (try simp only [decide_eq_false_iff_not, Int.not_lt] at hb56)
   refine wp_exit ?_
   refine gw_thx ?_
   refine gw_thx ?_
   refine gw_in ?_
   refine gw_end0 H381 rfl ?_
   have hz0 : zs = [] := by cases zs with | nil => rfl | cons a r => exfalso; rw [hnm] at hb56; simp at hb56; omega
   subst hz0
   have hu_ : us = d.used - (crashF d.fs keep).2 := by rw [hcr.2]; simp [crash_nil]
   rw [hu_] at O50
   exact ⟨rfl, disk_close2 (d := crashD keep d) (xs := ys ++ []) (by show _ = (crashF d.fs keep).1; rw [hcr.1]; simp [crash_nil]) (by exact O50.sel [0, 1, 2, 3] (by decide))⟩
end GVfs5_
export GVfs5_ (crash_calls)
end Go.Proofs.Ytkdahjnmldeklaa.PA
end
section
namespace Go.Proofs.Ytkdahjnmldeklaa.PA
open Go.RowKit Go.Proofs.YtkdahjnmldeklaaW.PrintWords Go.Proofs.YtkdahjnmldeklaaW.PrintLast Go.Proofs.YtkdahjnmldeklaaW.PrintMore
set_option linter.unusedVariables false
set_option linter.unusedSimpArgs false
namespace GVfsA_
set_option maxHeartbeats 4000000 in
set_option maxRecDepth 100000 in
theorem alive_calls (w : World) :
    Calls Try.prog 12 #[] w fun e w' => e = .returned (.bool true) ∧ Below w.heap.size w w' := by
 refine gw_start (N := 58) (vs := []) Try.func12 rfl rfl (by simp) fun a HF HO => ?_
 replace HO : Own w w [] := HO
 refine gw_seq fun K1 hK1 => ?_
 refine wp_region_lit ?_
 refine V HF (op_assign rfl (ev_c _ _)) ?_
 intro _ H3; clear HF
 refine wpList_nil ?_
 refine gw_nx (hK1 _ _ ?_)
 refine gw_seq fun K4 hK4 => ?_
 refine wp_region_lit ?_
 have O14 : Own w _ [(Chunk.all [])] := Own.bundle (A := []) (L := []) (HO.sel [] (by decide))
 refine gw_call H3 (want_none rfl) rfl (by decide) (op_callL Try.func11 (by kernel_rfl) rfl rfl (ar_cons (ev_c _ _) ar_nil)) (new_own w _ (Chunk.all []) 5 (by exact O14)) ?_
 rintro e8 w9 ⟨gd5, S6, rfl, hb10⟩
 refine ⟨_, rfl, fun _ H12 => ?_⟩
 have O13 : Own w w9 [Chunk.disk w.heap.size gd5 S6 (newD 5)] := Own.unbundle (A := []) (L := [Chunk.disk w.heap.size gd5 S6 (newD 5)]) (hb10.sel [0, 1] (by decide))
 clear O14
 clear H3 HO hb10
 have O16 : Own w w9 [Chunk.disk w.heap.size gd5 S6 (newD 5)] := O13
 clear O13
 have hwf7 : wfD (newD 5) := wf_new (by decide)
 refine V H12 (op_assign rfl (H12.ev rfl)) ?_
 intro _ H18; clear H12
 refine wpList_nil ?_
 refine gw_nx (hK4 _ _ ?_)
 refine gw_seq fun K19 hK19 => ?_
 refine gw_seq fun K20 hK20 => ?_
 refine wp_region_lit ?_
 refine V H18 (op_move rfl (H18.ev rfl)) ?_
 intro _ H22; clear H18
 refine V H22 (op_eqp_nil Try.underlying23 rfl (H22.ev rfl)) ?_
 intro _ H24; clear H22
 refine V H24 (op_move rfl (H24.ev rfl)) ?_
 intro _ H26; clear H24
 refine V2 H26 (want_yes H26 rfl rfl rfl rfl) (op_move rfl (H26.ev rfl)) ?_
 intro _ H28; clear H26
 have O37 : Own w _ [(Chunk.all []), Chunk.disk w.heap.size gd5 S6 (newD 5)] := Own.bundle (A := []) (L := [Chunk.disk w.heap.size gd5 S6 (newD 5)]) (O16.sel [0] (by decide))
 refine gw_call H28 (want_yes H28 rfl rfl rfl rfl) rfl (by decide) (op_callL Try.func13 (by kernel_rfl) rfl rfl (ar_cons (H28.ev rfl) (ar_cons (ev_c _ _) ar_nil))) ((by have h_ := create_calls w _ (Chunk.all []) gd5 S6 (newD 5) (⟨#[97]⟩ : ByteArray) hwf7 (by decide) (by decide) (by exact O37); rw [show (createD (⟨#[97]⟩ : ByteArray) (newD 5)) = ((⟨[⟨(⟨#[97]⟩ : ByteArray), [], 0⟩], 5, 0, 0, false⟩ : PD), 0) from (by kernel_rfl)] at h_; (try dsimp only at h_); exact h_)) ?_
 rintro e31 w32 ⟨rfl, S29, hb33⟩
 refine ⟨_, rfl, fun _ H35 => ?_⟩
 have O36 : Own w w32 [Chunk.disk w.heap.size gd5 S29 (⟨[⟨(⟨#[97]⟩ : ByteArray), [], 0⟩], 5, 0, 0, false⟩ : PD)] := Own.unbundle (A := []) (L := [Chunk.disk w.heap.size gd5 S29 (⟨[⟨(⟨#[97]⟩ : ByteArray), [], 0⟩], 5, 0, 0, false⟩ : PD)]) (hb33.sel [0, 1] (by decide))
 clear O37
 clear H28 O16 hb33
 have O39 : Own w w32 [Chunk.disk w.heap.size gd5 S29 (⟨[⟨(⟨#[97]⟩ : ByteArray), [], 0⟩], 5, 0, 0, false⟩ : PD)] := O36
 clear O36
 have hwf30 : wfD (⟨[⟨(⟨#[97]⟩ : ByteArray), [], 0⟩], 5, 0, 0, false⟩ : PD) := by have h_ : wfD (createD (⟨#[97]⟩ : ByteArray) (newD 5)).1 := wf_create hwf7; rw [show (createD (⟨#[97]⟩ : ByteArray) (newD 5)) = ((⟨[⟨(⟨#[97]⟩ : ByteArray), [], 0⟩], 5, 0, 0, false⟩ : PD), 0) from (by kernel_rfl)] at h_; exact h_
 refine V2 H35 (want_yes H35 rfl rfl rfl rfl) (op_nei rfl (H35.ev rfl) (ev_c _ _)) ?_
 intro _ H41; clear H35
 have H42 := H41.lit (b := false) (by decide)
 clear H41
 refine V H42 (op_pick_f rfl (H42.ev rfl) (H42.ev rfl)) ?_
 intro _ H44; clear H42
 refine V H44 (op_move rfl (H44.ev rfl)) ?_
 intro _ H46; clear H44
 refine V2 H46 (want_yes H46 rfl rfl rfl rfl) (op_move rfl (H46.ev rfl)) ?_
 intro _ H48; clear H46
 refine gw_bytes (xs := [97, 98, 99]) Try.underlying28 Try.underlying5 H48 O39 (want_yes H48 rfl rfl rfl rfl) rfl (by decide) (op_bslice (by kernel_rfl) rfl (pt_cons (ev_c _ _) (pt_cons (ev_c _ _) (pt_cons (ev_c _ _) pt_nil)))) (fun a_ HF_ => (want_yes HF_ rfl rfl rfl rfl)) rfl (by decide) rfl ?_
 intro g49 _ w51 H52 O53; clear H48 O39
 have O54 : Own w w51 [Chunk.blk g49 (.cells (nums .u8 [97, 98, 99]).toArray 5 (([97, 98, 99]).length, ([97, 98, 99]).length + 1)), Chunk.disk w.heap.size gd5 S29 (⟨[⟨(⟨#[97]⟩ : ByteArray), [], 0⟩], 5, 0, 0, false⟩ : PD)] := O53
 clear O53
 have O63 : Own w _ [(Chunk.all [Chunk.blk g49 (.cells (nums .u8 [97, 98, 99]).toArray 5 (([97, 98, 99]).length, ([97, 98, 99]).length + 1))]), Chunk.disk w.heap.size gd5 S29 (⟨[⟨(⟨#[97]⟩ : ByteArray), [], 0⟩], 5, 0, 0, false⟩ : PD)] := Own.bundle (A := [Chunk.blk g49 (.cells (nums .u8 [97, 98, 99]).toArray 5 (([97, 98, 99]).length, ([97, 98, 99]).length + 1))]) (L := [Chunk.disk w.heap.size gd5 S29 (⟨[⟨(⟨#[97]⟩ : ByteArray), [], 0⟩], 5, 0, 0, false⟩ : PD)]) (O54.sel [0, 1] (by decide))
 refine gw_call H52 (want_yes H52 rfl rfl rfl rfl) rfl (by decide) (op_callL Try.func15 (by kernel_rfl) rfl rfl (ar_cons (H52.ev rfl) (ar_cons (ev_c _ _) (ar_cons (H52.ev rfl) ar_nil)))) ((by have h_ := append_calls w _ (Chunk.all [Chunk.blk g49 (.cells (nums .u8 [97, 98, 99]).toArray 5 (([97, 98, 99]).length, ([97, 98, 99]).length + 1))]) gd5 S29 (⟨[⟨(⟨#[97]⟩ : ByteArray), [], 0⟩], 5, 0, 0, false⟩ : PD) (⟨#[97]⟩ : ByteArray) (some ⟨g49, 0, none⟩) (([97, 98, 99]).length) ([97, 98, 99]) (fun w_ h_ => (blkC ((Own.unbundle (A := [Chunk.blk g49 (.cells (nums .u8 [97, 98, 99]).toArray 5 (([97, 98, 99]).length, ([97, 98, 99]).length + 1))]) (L := []) h_).get 0 rfl) (by simp))) (Nat.le_refl _) hwf30 (by decide) (by decide) (by exact O63); rw [show (appendD (⟨#[97]⟩ : ByteArray) ([97, 98, 99]) (⟨[⟨(⟨#[97]⟩ : ByteArray), [], 0⟩], 5, 0, 0, false⟩ : PD)) = ((⟨[⟨(⟨#[97]⟩ : ByteArray), [97, 98, 99], 0⟩], 5, 3, 0, false⟩ : PD), 0) from (by kernel_rfl)] at h_; (try dsimp only at h_); exact h_)) ?_
 rintro e57 w58 ⟨rfl, S55, hb59⟩
 refine ⟨_, rfl, fun _ H61 => ?_⟩
 have O62 : Own w w58 [Chunk.blk g49 (.cells (nums .u8 [97, 98, 99]).toArray 5 (([97, 98, 99]).length, ([97, 98, 99]).length + 1)), Chunk.disk w.heap.size gd5 S55 (⟨[⟨(⟨#[97]⟩ : ByteArray), [97, 98, 99], 0⟩], 5, 3, 0, false⟩ : PD)] := Own.unbundle (A := [Chunk.blk g49 (.cells (nums .u8 [97, 98, 99]).toArray 5 (([97, 98, 99]).length, ([97, 98, 99]).length + 1))]) (L := [Chunk.disk w.heap.size gd5 S55 (⟨[⟨(⟨#[97]⟩ : ByteArray), [97, 98, 99], 0⟩], 5, 3, 0, false⟩ : PD)]) (hb59.sel [0, 1] (by decide))
 clear O63
 clear H52 O54 hb59
 have O65 : Own w w58 [Chunk.blk g49 (.cells (nums .u8 [97, 98, 99]).toArray 5 (([97, 98, 99]).length, ([97, 98, 99]).length + 1)), Chunk.disk w.heap.size gd5 S55 (⟨[⟨(⟨#[97]⟩ : ByteArray), [97, 98, 99], 0⟩], 5, 3, 0, false⟩ : PD)] := O62
 clear O62
 have hwf56 : wfD (⟨[⟨(⟨#[97]⟩ : ByteArray), [97, 98, 99], 0⟩], 5, 3, 0, false⟩ : PD) := by have h_ : wfD (appendD (⟨#[97]⟩ : ByteArray) ([97, 98, 99]) (⟨[⟨(⟨#[97]⟩ : ByteArray), [], 0⟩], 5, 0, 0, false⟩ : PD)).1 := wf_append hwf30; rw [show (appendD (⟨#[97]⟩ : ByteArray) ([97, 98, 99]) (⟨[⟨(⟨#[97]⟩ : ByteArray), [], 0⟩], 5, 0, 0, false⟩ : PD)) = ((⟨[⟨(⟨#[97]⟩ : ByteArray), [97, 98, 99], 0⟩], 5, 3, 0, false⟩ : PD), 0) from (by kernel_rfl)] at h_; exact h_
 refine V2 H61 (want_yes H61 rfl rfl rfl rfl) (op_nei rfl (H61.ev rfl) (ev_c _ _)) ?_
 intro _ H67; clear H61
 have H68 := H67.lit (b := false) (by decide)
 clear H67
 refine V H68 (op_pick_f rfl (H68.ev rfl) (H68.ev rfl)) ?_
 intro _ H70; clear H68
 refine V H70 (op_move rfl (H70.ev rfl)) ?_
 intro _ H72; clear H70
 refine V2 H72 (want_yes H72 rfl rfl rfl rfl) (op_move rfl (H72.ev rfl)) ?_
 intro _ H74; clear H72
 have O83 : Own w _ [(Chunk.all [Chunk.blk g49 (.cells (nums .u8 [97, 98, 99]).toArray 5 (([97, 98, 99]).length, ([97, 98, 99]).length + 1))]), Chunk.disk w.heap.size gd5 S55 (⟨[⟨(⟨#[97]⟩ : ByteArray), [97, 98, 99], 0⟩], 5, 3, 0, false⟩ : PD)] := Own.bundle (A := [Chunk.blk g49 (.cells (nums .u8 [97, 98, 99]).toArray 5 (([97, 98, 99]).length, ([97, 98, 99]).length + 1))]) (L := [Chunk.disk w.heap.size gd5 S55 (⟨[⟨(⟨#[97]⟩ : ByteArray), [97, 98, 99], 0⟩], 5, 3, 0, false⟩ : PD)]) (O65.sel [0, 1] (by decide))
 refine gw_call H74 (want_yes H74 rfl rfl rfl rfl) rfl (by decide) (op_callL Try.func16 (by kernel_rfl) rfl rfl (ar_cons (H74.ev rfl) (ar_cons (ev_c _ _) ar_nil))) ((by have h_ := sync_calls w _ (Chunk.all [Chunk.blk g49 (.cells (nums .u8 [97, 98, 99]).toArray 5 (([97, 98, 99]).length, ([97, 98, 99]).length + 1))]) gd5 S55 (⟨[⟨(⟨#[97]⟩ : ByteArray), [97, 98, 99], 0⟩], 5, 3, 0, false⟩ : PD) (⟨#[97]⟩ : ByteArray) hwf56 (by decide) (by exact O83); rw [show (syncD (⟨#[97]⟩ : ByteArray) (⟨[⟨(⟨#[97]⟩ : ByteArray), [97, 98, 99], 0⟩], 5, 3, 0, false⟩ : PD)) = ((⟨[⟨(⟨#[97]⟩ : ByteArray), [97, 98, 99], 3⟩], 5, 3, 0, false⟩ : PD), 0) from (by kernel_rfl)] at h_; (try dsimp only at h_); exact h_)) ?_
 rintro e77 w78 ⟨rfl, S75, hb79⟩
 refine ⟨_, rfl, fun _ H81 => ?_⟩
 have O82 : Own w w78 [Chunk.blk g49 (.cells (nums .u8 [97, 98, 99]).toArray 5 (([97, 98, 99]).length, ([97, 98, 99]).length + 1)), Chunk.disk w.heap.size gd5 S75 (⟨[⟨(⟨#[97]⟩ : ByteArray), [97, 98, 99], 3⟩], 5, 3, 0, false⟩ : PD)] := Own.unbundle (A := [Chunk.blk g49 (.cells (nums .u8 [97, 98, 99]).toArray 5 (([97, 98, 99]).length, ([97, 98, 99]).length + 1))]) (L := [Chunk.disk w.heap.size gd5 S75 (⟨[⟨(⟨#[97]⟩ : ByteArray), [97, 98, 99], 3⟩], 5, 3, 0, false⟩ : PD)]) (hb79.sel [0, 1] (by decide))
 clear O83
 clear H74 O65 hb79
 have O85 : Own w w78 [Chunk.blk g49 (.cells (nums .u8 [97, 98, 99]).toArray 5 (([97, 98, 99]).length, ([97, 98, 99]).length + 1)), Chunk.disk w.heap.size gd5 S75 (⟨[⟨(⟨#[97]⟩ : ByteArray), [97, 98, 99], 3⟩], 5, 3, 0, false⟩ : PD)] := O82
 clear O82
 have hwf76 : wfD (⟨[⟨(⟨#[97]⟩ : ByteArray), [97, 98, 99], 3⟩], 5, 3, 0, false⟩ : PD) := by have h_ : wfD (syncD (⟨#[97]⟩ : ByteArray) (⟨[⟨(⟨#[97]⟩ : ByteArray), [97, 98, 99], 0⟩], 5, 3, 0, false⟩ : PD)).1 := wf_sync hwf56; rw [show (syncD (⟨#[97]⟩ : ByteArray) (⟨[⟨(⟨#[97]⟩ : ByteArray), [97, 98, 99], 0⟩], 5, 3, 0, false⟩ : PD)) = ((⟨[⟨(⟨#[97]⟩ : ByteArray), [97, 98, 99], 3⟩], 5, 3, 0, false⟩ : PD), 0) from (by kernel_rfl)] at h_; exact h_
 refine V2 H81 (want_yes H81 rfl rfl rfl rfl) (op_nei rfl (H81.ev rfl) (ev_c _ _)) ?_
 intro _ H87; clear H81
 have H88 := H87.lit (b := false) (by decide)
 clear H87
 refine V H88 (op_pick_f rfl (H88.ev rfl) (H88.ev rfl)) ?_
 intro _ H90; clear H88
 refine V H90 (op_move rfl (H90.ev rfl)) ?_
 intro _ H92; clear H90
 refine V2 H92 (want_yes H92 rfl rfl rfl rfl) (op_move rfl (H92.ev rfl)) ?_
 intro _ H94; clear H92
 refine gw_bytes (xs := [100, 101, 102]) Try.underlying28 Try.underlying5 H94 O85 (want_yes H94 rfl rfl rfl rfl) rfl (by decide) (op_bslice (by kernel_rfl) rfl (pt_cons (ev_c _ _) (pt_cons (ev_c _ _) (pt_cons (ev_c _ _) pt_nil)))) (fun a_ HF_ => (want_yes HF_ rfl rfl rfl rfl)) rfl (by decide) rfl ?_
 intro g95 _ w97 H98 O99; clear H94 O85
 have O100 : Own w w97 [Chunk.blk g95 (.cells (nums .u8 [100, 101, 102]).toArray 5 (([100, 101, 102]).length, ([100, 101, 102]).length + 1)), Chunk.blk g49 (.cells (nums .u8 [97, 98, 99]).toArray 5 (([97, 98, 99]).length, ([97, 98, 99]).length + 1)), Chunk.disk w.heap.size gd5 S75 (⟨[⟨(⟨#[97]⟩ : ByteArray), [97, 98, 99], 3⟩], 5, 3, 0, false⟩ : PD)] := O99
 clear O99
 have O109 : Own w _ [(Chunk.all [Chunk.blk g95 (.cells (nums .u8 [100, 101, 102]).toArray 5 (([100, 101, 102]).length, ([100, 101, 102]).length + 1)), Chunk.blk g49 (.cells (nums .u8 [97, 98, 99]).toArray 5 (([97, 98, 99]).length, ([97, 98, 99]).length + 1))]), Chunk.disk w.heap.size gd5 S75 (⟨[⟨(⟨#[97]⟩ : ByteArray), [97, 98, 99], 3⟩], 5, 3, 0, false⟩ : PD)] := Own.bundle (A := [Chunk.blk g95 (.cells (nums .u8 [100, 101, 102]).toArray 5 (([100, 101, 102]).length, ([100, 101, 102]).length + 1)), Chunk.blk g49 (.cells (nums .u8 [97, 98, 99]).toArray 5 (([97, 98, 99]).length, ([97, 98, 99]).length + 1))]) (L := [Chunk.disk w.heap.size gd5 S75 (⟨[⟨(⟨#[97]⟩ : ByteArray), [97, 98, 99], 3⟩], 5, 3, 0, false⟩ : PD)]) (O100.sel [0, 1, 2] (by decide))
 refine gw_call H98 (want_yes H98 rfl rfl rfl rfl) rfl (by decide) (op_callL Try.func15 (by kernel_rfl) rfl rfl (ar_cons (H98.ev rfl) (ar_cons (ev_c _ _) (ar_cons (H98.ev rfl) ar_nil)))) ((by have h_ := append_calls w _ (Chunk.all [Chunk.blk g95 (.cells (nums .u8 [100, 101, 102]).toArray 5 (([100, 101, 102]).length, ([100, 101, 102]).length + 1)), Chunk.blk g49 (.cells (nums .u8 [97, 98, 99]).toArray 5 (([97, 98, 99]).length, ([97, 98, 99]).length + 1))]) gd5 S75 (⟨[⟨(⟨#[97]⟩ : ByteArray), [97, 98, 99], 3⟩], 5, 3, 0, false⟩ : PD) (⟨#[97]⟩ : ByteArray) (some ⟨g95, 0, none⟩) (([100, 101, 102]).length) ([100, 101, 102]) (fun w_ h_ => (blkC ((Own.unbundle (A := [Chunk.blk g95 (.cells (nums .u8 [100, 101, 102]).toArray 5 (([100, 101, 102]).length, ([100, 101, 102]).length + 1)), Chunk.blk g49 (.cells (nums .u8 [97, 98, 99]).toArray 5 (([97, 98, 99]).length, ([97, 98, 99]).length + 1))]) (L := []) h_).get 0 rfl) (by simp))) (Nat.le_refl _) hwf76 (by decide) (by decide) (by exact O109); rw [show (appendD (⟨#[97]⟩ : ByteArray) ([100, 101, 102]) (⟨[⟨(⟨#[97]⟩ : ByteArray), [97, 98, 99], 3⟩], 5, 3, 0, false⟩ : PD)) = ((⟨[⟨(⟨#[97]⟩ : ByteArray), [97, 98, 99], 3⟩], 5, 3, 0, false⟩ : PD), 71) from (by kernel_rfl)] at h_; (try dsimp only at h_); exact h_)) ?_
 rintro e103 w104 ⟨rfl, S101, hb105⟩
 refine ⟨_, rfl, fun _ H107 => ?_⟩
 have O108 : Own w w104 [Chunk.blk g95 (.cells (nums .u8 [100, 101, 102]).toArray 5 (([100, 101, 102]).length, ([100, 101, 102]).length + 1)), Chunk.blk g49 (.cells (nums .u8 [97, 98, 99]).toArray 5 (([97, 98, 99]).length, ([97, 98, 99]).length + 1)), Chunk.disk w.heap.size gd5 S101 (⟨[⟨(⟨#[97]⟩ : ByteArray), [97, 98, 99], 3⟩], 5, 3, 0, false⟩ : PD)] := Own.unbundle (A := [Chunk.blk g95 (.cells (nums .u8 [100, 101, 102]).toArray 5 (([100, 101, 102]).length, ([100, 101, 102]).length + 1)), Chunk.blk g49 (.cells (nums .u8 [97, 98, 99]).toArray 5 (([97, 98, 99]).length, ([97, 98, 99]).length + 1))]) (L := [Chunk.disk w.heap.size gd5 S101 (⟨[⟨(⟨#[97]⟩ : ByteArray), [97, 98, 99], 3⟩], 5, 3, 0, false⟩ : PD)]) (hb105.sel [0, 1] (by decide))
 clear O109
 clear H98 O100 hb105
 have O111 : Own w w104 [Chunk.blk g95 (.cells (nums .u8 [100, 101, 102]).toArray 5 (([100, 101, 102]).length, ([100, 101, 102]).length + 1)), Chunk.blk g49 (.cells (nums .u8 [97, 98, 99]).toArray 5 (([97, 98, 99]).length, ([97, 98, 99]).length + 1)), Chunk.disk w.heap.size gd5 S101 (⟨[⟨(⟨#[97]⟩ : ByteArray), [97, 98, 99], 3⟩], 5, 3, 0, false⟩ : PD)] := O108
 clear O108
 have hwf102 : wfD (⟨[⟨(⟨#[97]⟩ : ByteArray), [97, 98, 99], 3⟩], 5, 3, 0, false⟩ : PD) := by have h_ : wfD (appendD (⟨#[97]⟩ : ByteArray) ([100, 101, 102]) (⟨[⟨(⟨#[97]⟩ : ByteArray), [97, 98, 99], 3⟩], 5, 3, 0, false⟩ : PD)).1 := wf_append hwf76; rw [show (appendD (⟨#[97]⟩ : ByteArray) ([100, 101, 102]) (⟨[⟨(⟨#[97]⟩ : ByteArray), [97, 98, 99], 3⟩], 5, 3, 0, false⟩ : PD)) = ((⟨[⟨(⟨#[97]⟩ : ByteArray), [97, 98, 99], 3⟩], 5, 3, 0, false⟩ : PD), 71) from (by kernel_rfl)] at h_; exact h_
 refine V2 H107 (want_yes H107 rfl rfl rfl rfl) (op_nei rfl (H107.ev rfl) (ev_c _ _)) ?_
 intro _ H113; clear H107
 have H114 := H113.lit (b := false) (by decide)
 clear H113
 refine V H114 (op_pick_f rfl (H114.ev rfl) (H114.ev rfl)) ?_
 intro _ H116; clear H114
 refine V H116 (op_move rfl (H116.ev rfl)) ?_
 intro _ H118; clear H116
 refine V2 H118 (want_yes H118 rfl rfl rfl rfl) (op_move rfl (H118.ev rfl)) ?_
 intro _ H120; clear H118
 refine gw_bytes (xs := [100, 101]) Try.underlying28 Try.underlying5 H120 O111 (want_yes H120 rfl rfl rfl rfl) rfl (by decide) (op_bslice (by kernel_rfl) rfl (pt_cons (ev_c _ _) (pt_cons (ev_c _ _) pt_nil))) (fun a_ HF_ => (want_yes HF_ rfl rfl rfl rfl)) rfl (by decide) rfl ?_
 intro g121 _ w123 H124 O125; clear H120 O111
 have O126 : Own w w123 [Chunk.blk g121 (.cells (nums .u8 [100, 101]).toArray 5 (([100, 101]).length, ([100, 101]).length + 1)), Chunk.blk g95 (.cells (nums .u8 [100, 101, 102]).toArray 5 (([100, 101, 102]).length, ([100, 101, 102]).length + 1)), Chunk.blk g49 (.cells (nums .u8 [97, 98, 99]).toArray 5 (([97, 98, 99]).length, ([97, 98, 99]).length + 1)), Chunk.disk w.heap.size gd5 S101 (⟨[⟨(⟨#[97]⟩ : ByteArray), [97, 98, 99], 3⟩], 5, 3, 0, false⟩ : PD)] := O125
 clear O125
 have O135 : Own w _ [(Chunk.all [Chunk.blk g121 (.cells (nums .u8 [100, 101]).toArray 5 (([100, 101]).length, ([100, 101]).length + 1)), Chunk.blk g95 (.cells (nums .u8 [100, 101, 102]).toArray 5 (([100, 101, 102]).length, ([100, 101, 102]).length + 1)), Chunk.blk g49 (.cells (nums .u8 [97, 98, 99]).toArray 5 (([97, 98, 99]).length, ([97, 98, 99]).length + 1))]), Chunk.disk w.heap.size gd5 S101 (⟨[⟨(⟨#[97]⟩ : ByteArray), [97, 98, 99], 3⟩], 5, 3, 0, false⟩ : PD)] := Own.bundle (A := [Chunk.blk g121 (.cells (nums .u8 [100, 101]).toArray 5 (([100, 101]).length, ([100, 101]).length + 1)), Chunk.blk g95 (.cells (nums .u8 [100, 101, 102]).toArray 5 (([100, 101, 102]).length, ([100, 101, 102]).length + 1)), Chunk.blk g49 (.cells (nums .u8 [97, 98, 99]).toArray 5 (([97, 98, 99]).length, ([97, 98, 99]).length + 1))]) (L := [Chunk.disk w.heap.size gd5 S101 (⟨[⟨(⟨#[97]⟩ : ByteArray), [97, 98, 99], 3⟩], 5, 3, 0, false⟩ : PD)]) (O126.sel [0, 1, 2, 3] (by decide))
 refine gw_call H124 (want_yes H124 rfl rfl rfl rfl) rfl (by decide) (op_callL Try.func15 (by kernel_rfl) rfl rfl (ar_cons (H124.ev rfl) (ar_cons (ev_c _ _) (ar_cons (H124.ev rfl) ar_nil)))) ((by have h_ := append_calls w _ (Chunk.all [Chunk.blk g121 (.cells (nums .u8 [100, 101]).toArray 5 (([100, 101]).length, ([100, 101]).length + 1)), Chunk.blk g95 (.cells (nums .u8 [100, 101, 102]).toArray 5 (([100, 101, 102]).length, ([100, 101, 102]).length + 1)), Chunk.blk g49 (.cells (nums .u8 [97, 98, 99]).toArray 5 (([97, 98, 99]).length, ([97, 98, 99]).length + 1))]) gd5 S101 (⟨[⟨(⟨#[97]⟩ : ByteArray), [97, 98, 99], 3⟩], 5, 3, 0, false⟩ : PD) (⟨#[97]⟩ : ByteArray) (some ⟨g121, 0, none⟩) (([100, 101]).length) ([100, 101]) (fun w_ h_ => (blkC ((Own.unbundle (A := [Chunk.blk g121 (.cells (nums .u8 [100, 101]).toArray 5 (([100, 101]).length, ([100, 101]).length + 1)), Chunk.blk g95 (.cells (nums .u8 [100, 101, 102]).toArray 5 (([100, 101, 102]).length, ([100, 101, 102]).length + 1)), Chunk.blk g49 (.cells (nums .u8 [97, 98, 99]).toArray 5 (([97, 98, 99]).length, ([97, 98, 99]).length + 1))]) (L := []) h_).get 0 rfl) (by simp))) (Nat.le_refl _) hwf102 (by decide) (by decide) (by exact O135); rw [show (appendD (⟨#[97]⟩ : ByteArray) ([100, 101]) (⟨[⟨(⟨#[97]⟩ : ByteArray), [97, 98, 99], 3⟩], 5, 3, 0, false⟩ : PD)) = ((⟨[⟨(⟨#[97]⟩ : ByteArray), [97, 98, 99, 100, 101], 3⟩], 5, 5, 0, false⟩ : PD), 0) from (by kernel_rfl)] at h_; (try dsimp only at h_); exact h_)) ?_
 rintro e129 w130 ⟨rfl, S127, hb131⟩
 refine ⟨_, rfl, fun _ H133 => ?_⟩
 have O134 : Own w w130 [Chunk.blk g121 (.cells (nums .u8 [100, 101]).toArray 5 (([100, 101]).length, ([100, 101]).length + 1)), Chunk.blk g95 (.cells (nums .u8 [100, 101, 102]).toArray 5 (([100, 101, 102]).length, ([100, 101, 102]).length + 1)), Chunk.blk g49 (.cells (nums .u8 [97, 98, 99]).toArray 5 (([97, 98, 99]).length, ([97, 98, 99]).length + 1)), Chunk.disk w.heap.size gd5 S127 (⟨[⟨(⟨#[97]⟩ : ByteArray), [97, 98, 99, 100, 101], 3⟩], 5, 5, 0, false⟩ : PD)] := Own.unbundle (A := [Chunk.blk g121 (.cells (nums .u8 [100, 101]).toArray 5 (([100, 101]).length, ([100, 101]).length + 1)), Chunk.blk g95 (.cells (nums .u8 [100, 101, 102]).toArray 5 (([100, 101, 102]).length, ([100, 101, 102]).length + 1)), Chunk.blk g49 (.cells (nums .u8 [97, 98, 99]).toArray 5 (([97, 98, 99]).length, ([97, 98, 99]).length + 1))]) (L := [Chunk.disk w.heap.size gd5 S127 (⟨[⟨(⟨#[97]⟩ : ByteArray), [97, 98, 99, 100, 101], 3⟩], 5, 5, 0, false⟩ : PD)]) (hb131.sel [0, 1] (by decide))
 clear O135
 clear H124 O126 hb131
 have O137 : Own w w130 [Chunk.blk g121 (.cells (nums .u8 [100, 101]).toArray 5 (([100, 101]).length, ([100, 101]).length + 1)), Chunk.blk g95 (.cells (nums .u8 [100, 101, 102]).toArray 5 (([100, 101, 102]).length, ([100, 101, 102]).length + 1)), Chunk.blk g49 (.cells (nums .u8 [97, 98, 99]).toArray 5 (([97, 98, 99]).length, ([97, 98, 99]).length + 1)), Chunk.disk w.heap.size gd5 S127 (⟨[⟨(⟨#[97]⟩ : ByteArray), [97, 98, 99, 100, 101], 3⟩], 5, 5, 0, false⟩ : PD)] := O134
 clear O134
 have hwf128 : wfD (⟨[⟨(⟨#[97]⟩ : ByteArray), [97, 98, 99, 100, 101], 3⟩], 5, 5, 0, false⟩ : PD) := by have h_ : wfD (appendD (⟨#[97]⟩ : ByteArray) ([100, 101]) (⟨[⟨(⟨#[97]⟩ : ByteArray), [97, 98, 99], 3⟩], 5, 3, 0, false⟩ : PD)).1 := wf_append hwf102; rw [show (appendD (⟨#[97]⟩ : ByteArray) ([100, 101]) (⟨[⟨(⟨#[97]⟩ : ByteArray), [97, 98, 99], 3⟩], 5, 3, 0, false⟩ : PD)) = ((⟨[⟨(⟨#[97]⟩ : ByteArray), [97, 98, 99, 100, 101], 3⟩], 5, 5, 0, false⟩ : PD), 0) from (by kernel_rfl)] at h_; exact h_
 refine V2 H133 (want_yes H133 rfl rfl rfl rfl) (op_nei rfl (H133.ev rfl) (ev_c _ _)) ?_
 intro _ H139; clear H133
 have H140 := H139.lit (b := false) (by decide)
 clear H139
 refine V H140 (op_pick_f rfl (H140.ev rfl) (H140.ev rfl)) ?_
 intro _ H142; clear H140
 refine wpList_nil ?_
 refine gw_nx (hK20 _ _ ?_)
 refine gw_cond H142 rfl (fun hb143 => ?_) (fun hb143 => ?_)
 skip
 ·
  cases hb143
 refine wp_skip ?_
 refine gw_nx (hK19 _ _ ?_)
 refine gw_seq fun K144 hK144 => ?_
 refine wp_region_lit ?_
 refine V H142 (op_move rfl (H142.ev rfl)) ?_
 intro _ H146; clear H142
 refine gw_lit (enc := Value.int .i64) (fun _ => rfl) (xs := [1]) (e := 3) H146 O137 (want_none rfl) rfl (by decide) (op_bslice (by kernel_rfl) rfl (pt_cons (ev_c _ _) pt_nil)) (by simp) ?_
 intro A147 S148 _ w150 H151 O152; clear H146 O137
 have O153 : Own w w150 [Chunk.row (Kd.int .i64) 3 w.heap.size S148 (.slice A147 (([1]).length) (([1]).length)) ([1]), Chunk.blk g121 (.cells (nums .u8 [100, 101]).toArray 5 (([100, 101]).length, ([100, 101]).length + 1)), Chunk.blk g95 (.cells (nums .u8 [100, 101, 102]).toArray 5 (([100, 101, 102]).length, ([100, 101, 102]).length + 1)), Chunk.blk g49 (.cells (nums .u8 [97, 98, 99]).toArray 5 (([97, 98, 99]).length, ([97, 98, 99]).length + 1)), Chunk.disk w.heap.size gd5 S127 (⟨[⟨(⟨#[97]⟩ : ByteArray), [97, 98, 99, 100, 101], 3⟩], 5, 5, 0, false⟩ : PD)] := O152
 clear O152
 have O162 : Own w _ [(Chunk.all [Chunk.row (Kd.int .i64) 3 w.heap.size S148 (.slice A147 (([1]).length) (([1]).length)) ([1]), Chunk.blk g121 (.cells (nums .u8 [100, 101]).toArray 5 (([100, 101]).length, ([100, 101]).length + 1)), Chunk.blk g95 (.cells (nums .u8 [100, 101, 102]).toArray 5 (([100, 101, 102]).length, ([100, 101, 102]).length + 1)), Chunk.blk g49 (.cells (nums .u8 [97, 98, 99]).toArray 5 (([97, 98, 99]).length, ([97, 98, 99]).length + 1))]), Chunk.disk w.heap.size gd5 S127 (⟨[⟨(⟨#[97]⟩ : ByteArray), [97, 98, 99, 100, 101], 3⟩], 5, 5, 0, false⟩ : PD)] := Own.bundle (A := [Chunk.row (Kd.int .i64) 3 w.heap.size S148 (.slice A147 (([1]).length) (([1]).length)) ([1]), Chunk.blk g121 (.cells (nums .u8 [100, 101]).toArray 5 (([100, 101]).length, ([100, 101]).length + 1)), Chunk.blk g95 (.cells (nums .u8 [100, 101, 102]).toArray 5 (([100, 101, 102]).length, ([100, 101, 102]).length + 1)), Chunk.blk g49 (.cells (nums .u8 [97, 98, 99]).toArray 5 (([97, 98, 99]).length, ([97, 98, 99]).length + 1))]) (L := [Chunk.disk w.heap.size gd5 S127 (⟨[⟨(⟨#[97]⟩ : ByteArray), [97, 98, 99, 100, 101], 3⟩], 5, 5, 0, false⟩ : PD)]) (O153.sel [0, 1, 2, 3, 4] (by decide))
 refine gw_call H151 (want_none rfl) rfl (by decide) (op_callL Try.func17 (by kernel_rfl) rfl rfl (ar_cons (H151.ev rfl) (ar_cons (H151.ev rfl) ar_nil))) ((by have h_ := crash_calls w _ (Chunk.all [Chunk.row (Kd.int .i64) 3 w.heap.size S148 (.slice A147 (([1]).length) (([1]).length)) ([1]), Chunk.blk g121 (.cells (nums .u8 [100, 101]).toArray 5 (([100, 101]).length, ([100, 101]).length + 1)), Chunk.blk g95 (.cells (nums .u8 [100, 101, 102]).toArray 5 (([100, 101, 102]).length, ([100, 101, 102]).length + 1)), Chunk.blk g49 (.cells (nums .u8 [97, 98, 99]).toArray 5 (([97, 98, 99]).length, ([97, 98, 99]).length + 1))]) gd5 S127 (⟨[⟨(⟨#[97]⟩ : ByteArray), [97, 98, 99, 100, 101], 3⟩], 5, 5, 0, false⟩ : PD) A147 (([1]).length) ([1]) (fun w_ h_ => (Kd.R_reads' ((Own.unbundle (A := [Chunk.row (Kd.int .i64) 3 w.heap.size S148 (.slice A147 (([1]).length) (([1]).length)) ([1]), Chunk.blk g121 (.cells (nums .u8 [100, 101]).toArray 5 (([100, 101]).length, ([100, 101]).length + 1)), Chunk.blk g95 (.cells (nums .u8 [100, 101, 102]).toArray 5 (([100, 101, 102]).length, ([100, 101, 102]).length + 1)), Chunk.blk g49 (.cells (nums .u8 [97, 98, 99]).toArray 5 (([97, 98, 99]).length, ([97, 98, 99]).length + 1))]) (L := []) h_).get 0 rfl)).2.2) (row_cap (O153.get 0 rfl)) hwf128 (by decide) (by exact O162); rw [show (crashD ([1]) (⟨[⟨(⟨#[97]⟩ : ByteArray), [97, 98, 99, 100, 101], 3⟩], 5, 5, 0, false⟩ : PD)) = (⟨[⟨(⟨#[97]⟩ : ByteArray), [97, 98, 99, 100], 4⟩], 5, 4, 0, false⟩ : PD) from (by kernel_rfl)] at h_; (try dsimp only at h_); exact h_)) ?_
 rintro e156 w157 ⟨rfl, S154, hb158⟩
 refine ⟨_, rfl, fun _ H160 => ?_⟩
 have O161 : Own w w157 [Chunk.row (Kd.int .i64) 3 w.heap.size S148 (.slice A147 (([1]).length) (([1]).length)) ([1]), Chunk.blk g121 (.cells (nums .u8 [100, 101]).toArray 5 (([100, 101]).length, ([100, 101]).length + 1)), Chunk.blk g95 (.cells (nums .u8 [100, 101, 102]).toArray 5 (([100, 101, 102]).length, ([100, 101, 102]).length + 1)), Chunk.blk g49 (.cells (nums .u8 [97, 98, 99]).toArray 5 (([97, 98, 99]).length, ([97, 98, 99]).length + 1)), Chunk.disk w.heap.size gd5 S154 (⟨[⟨(⟨#[97]⟩ : ByteArray), [97, 98, 99, 100], 4⟩], 5, 4, 0, false⟩ : PD)] := Own.unbundle (A := [Chunk.row (Kd.int .i64) 3 w.heap.size S148 (.slice A147 (([1]).length) (([1]).length)) ([1]), Chunk.blk g121 (.cells (nums .u8 [100, 101]).toArray 5 (([100, 101]).length, ([100, 101]).length + 1)), Chunk.blk g95 (.cells (nums .u8 [100, 101, 102]).toArray 5 (([100, 101, 102]).length, ([100, 101, 102]).length + 1)), Chunk.blk g49 (.cells (nums .u8 [97, 98, 99]).toArray 5 (([97, 98, 99]).length, ([97, 98, 99]).length + 1))]) (L := [Chunk.disk w.heap.size gd5 S154 (⟨[⟨(⟨#[97]⟩ : ByteArray), [97, 98, 99, 100], 4⟩], 5, 4, 0, false⟩ : PD)]) (hb158.sel [0, 1] (by decide))
 clear O162
 clear H151 O153 hb158
 have O164 : Own w w157 [Chunk.row (Kd.int .i64) 3 w.heap.size S148 (.slice A147 (([1]).length) (([1]).length)) ([1]), Chunk.blk g121 (.cells (nums .u8 [100, 101]).toArray 5 (([100, 101]).length, ([100, 101]).length + 1)), Chunk.blk g95 (.cells (nums .u8 [100, 101, 102]).toArray 5 (([100, 101, 102]).length, ([100, 101, 102]).length + 1)), Chunk.blk g49 (.cells (nums .u8 [97, 98, 99]).toArray 5 (([97, 98, 99]).length, ([97, 98, 99]).length + 1)), Chunk.disk w.heap.size gd5 S154 (⟨[⟨(⟨#[97]⟩ : ByteArray), [97, 98, 99, 100], 4⟩], 5, 4, 0, false⟩ : PD)] := O161
 clear O161
 have hwf155 : wfD (⟨[⟨(⟨#[97]⟩ : ByteArray), [97, 98, 99, 100], 4⟩], 5, 4, 0, false⟩ : PD) := by have h_ := wf_crash (keep := ([1])) hwf128; rw [show (crashD ([1]) (⟨[⟨(⟨#[97]⟩ : ByteArray), [97, 98, 99, 100, 101], 3⟩], 5, 5, 0, false⟩ : PD)) = (⟨[⟨(⟨#[97]⟩ : ByteArray), [97, 98, 99, 100], 4⟩], 5, 4, 0, false⟩ : PD) from (by kernel_rfl)] at h_; exact h_
 refine wpList_nil ?_
 refine gw_nx (hK144 _ _ ?_)
 refine gw_seq fun K165 hK165 => ?_
 refine wp_region_lit ?_
 refine V H160 (op_move rfl (H160.ev rfl)) ?_
 intro _ H167; clear H160
 refine gw_call H167 (want_none rfl) rfl (by decide) (op_callL Try.func18 (by kernel_rfl) rfl rfl (ar_cons (H167.ev rfl) (ar_cons (ev_c _ _) ar_nil))) ((by have h_ := read_calls w.heap.size gd5 S154 (⟨[⟨(⟨#[97]⟩ : ByteArray), [97, 98, 99, 100], 4⟩], 5, 4, 0, false⟩ : PD) (⟨#[97]⟩ : ByteArray) _ (by exact O164.get 4 rfl) (by decide) hwf155 (by decide); rw [show (readD (⟨#[97]⟩ : ByteArray) (⟨[⟨(⟨#[97]⟩ : ByteArray), [97, 98, 99, 100], 4⟩], 5, 4, 0, false⟩ : PD)) = (([97, 98, 99, 100] : List Int), 0) from (by kernel_rfl)] at h_; (try dsimp only at h_); exact h_)) ?_
 rintro e171 w172 ⟨A168, c169, S170, rfl, hb173⟩
 refine ⟨_, rfl, fun _ H175 => ?_⟩
 have O176 := O164.fresh hb173
 have hbel177 := O164.below
 clear H167 O164 hb173
 have O178 := O176.lowrow 0 rfl (base' := w.heap.size) (Below.size hbel177)
 have O179 : Own w w172 [Chunk.row (Kd.int .u8) 5 w.heap.size S170 (.slice A168 (([97, 98, 99, 100] : List Int).length) c169) ([97, 98, 99, 100] : List Int), Chunk.row (Kd.int .i64) 3 w.heap.size S148 (.slice A147 (([1]).length) (([1]).length)) ([1]), Chunk.blk g121 (.cells (nums .u8 [100, 101]).toArray 5 (([100, 101]).length, ([100, 101]).length + 1)), Chunk.blk g95 (.cells (nums .u8 [100, 101, 102]).toArray 5 (([100, 101, 102]).length, ([100, 101, 102]).length + 1)), Chunk.blk g49 (.cells (nums .u8 [97, 98, 99]).toArray 5 (([97, 98, 99]).length, ([97, 98, 99]).length + 1)), Chunk.disk w.heap.size gd5 S154 (⟨[⟨(⟨#[97]⟩ : ByteArray), [97, 98, 99, 100], 4⟩], 5, 4, 0, false⟩ : PD)] := O178
 clear O178
 refine V H175 (op_move rfl (H175.ev rfl)) ?_
 intro _ H181; clear H175
 refine V H181 (op_extract rfl (H181.ev rfl) rfl) ?_
 intro _ H183; clear H181
 refine V H183 (op_extract rfl (H183.ev rfl) rfl) ?_
 intro _ H185; clear H183
 refine V H185 (op_assign rfl (H185.ev rfl)) ?_
 intro _ H187; clear H185
 refine V H187 (op_assign rfl (H187.ev rfl)) ?_
 intro _ H189; clear H187
 refine wpList_nil ?_
 refine gw_nx (hK165 _ _ ?_)
 refine gw_seq fun K190 hK190 => ?_
 refine wp_region_lit ?_
 refine V H189 (op_move rfl (H189.ev rfl)) ?_
 intro _ H192; clear H189
 refine V H192 (op_eqi rfl (H192.ev rfl) (ev_c _ _)) ?_
 intro _ H194; clear H192
 have H195 := H194.lit (b := true) (by decide)
 clear H194
 refine V H195 (op_move rfl (H195.ev rfl)) ?_
 intro _ H197; clear H195
 refine V2 H197 (want_yes H197 rfl rfl rfl rfl) (op_move rfl (H197.ev rfl)) ?_
 intro _ H199; clear H197
 refine V2 H199 (want_yes H199 rfl rfl rfl rfl) (op_conv_str Try.underlying28 Try.underlying5 Try.underlying9 (Kd.R_reads' (O179.get 0 rfl)).2.2 rfl (H199.ev rfl)) ?_
 intro _ H201; clear H199
 refine V2 H201 (want_yes H201 rfl rfl rfl rfl) (op_eqs rfl (H201.ev rfl) (ev_c _ _)) ?_
 intro _ H203; clear H201
 have H204 := H203.lit (b := true) (by decide +kernel)
 clear H203
 refine V H204 (op_pick_t rfl (H204.ev rfl) (H204.ev rfl)) ?_
 intro _ H206; clear H204
 refine V H206 (op_move rfl (H206.ev rfl)) ?_
 intro _ H208; clear H206
 refine V2 H208 (want_yes H208 rfl rfl rfl rfl) (op_move rfl (H208.ev rfl)) ?_
 intro _ H210; clear H208
 refine gw_call H210 (want_yes H210 rfl rfl rfl rfl) rfl (by decide) (op_callL Try.func24 (by kernel_rfl) rfl rfl (ar_cons (H210.ev rfl) ar_nil)) (room_calls w.heap.size gd5 S154 (⟨[⟨(⟨#[97]⟩ : ByteArray), [97, 98, 99, 100], 4⟩], 5, 4, 0, false⟩ : PD) _ (O179.get 5 rfl) hwf155) ?_
 rintro e211 w212 ⟨rfl, hb213⟩
 refine ⟨_, rfl, fun _ H215 => ?_⟩
 have O216 := O179.after hb213
 clear H210 O179 hb213
 refine V2 H215 (want_yes H215 rfl rfl rfl rfl) (op_eqi rfl (H215.ev rfl) (ev_c _ _)) ?_
 intro _ H219; clear H215
 have H220 := H219.lit (b := true) (by decide)
 clear H219
 refine V H220 (op_pick_t rfl (H220.ev rfl) (H220.ev rfl)) ?_
 intro _ H222; clear H220
 refine V H222 (op_assign rfl (H222.ev rfl)) ?_
 intro _ H224; clear H222
 refine wpList_nil ?_
 refine gw_nx (hK190 _ _ ?_)
 refine wp_ret ?_
 refine gw_ret1 H224 rfl rfl ?_
 exact ⟨rfl, O216.below⟩
end GVfsA_
export GVfsA_ (alive_calls)
end Go.Proofs.Ytkdahjnmldeklaa.PA
end
section
namespace Go.Proofs.Ytkdahjnmldeklaa.PA
open Go.RowKit Go.Proofs.YtkdahjnmldeklaaW.PrintWords Go.Proofs.YtkdahjnmldeklaaW.PrintLast Go.Proofs.YtkdahjnmldeklaaW.PrintMore
set_option linter.unusedVariables false
set_option linter.unusedSimpArgs false
namespace GJour2_
theorem gwagg23 : ∀ w, (isAgg 23).run Try.prog w = .ok false w := fun _ => by kernel_rfl
theorem gwagg3 : ∀ w, (isAgg 3).run Try.prog w = .ok false w := fun _ => by kernel_rfl
theorem gwagg9 : ∀ w, (isAgg 9).run Try.prog w = .ok false w := fun _ => by kernel_rfl
theorem gwagg98 : ∀ w, (isAgg 98).run Try.prog w = .ok false w := fun _ => by kernel_rfl
theorem gwfld100_0 (g off : Nat) : ∀ w, (Instr.fieldAt 100 (.pointer (some ⟨g, off, none⟩)) 0).run Try.prog w = .ok (.pointer (some ⟨g, off + 0, none⟩)) w := fun _ => by kernel_rfl
theorem gwfld100_1 (g off : Nat) : ∀ w, (Instr.fieldAt 100 (.pointer (some ⟨g, off, none⟩)) 1).run Try.prog w = .ok (.pointer (some ⟨g, off + 1, none⟩)) w := fun _ => by kernel_rfl
theorem gwfld100_2 (g off : Nat) : ∀ w, (Instr.fieldAt 100 (.pointer (some ⟨g, off, none⟩)) 2).run Try.prog w = .ok (.pointer (some ⟨g, off + 2, none⟩)) w := fun _ => by kernel_rfl
theorem gwfld100_3 (g off : Nat) : ∀ w, (Instr.fieldAt 100 (.pointer (some ⟨g, off, none⟩)) 3).run Try.prog w = .ok (.pointer (some ⟨g, off + 3, none⟩)) w := fun _ => by kernel_rfl
theorem gwinfo5 : (Try.prog.info? 5).map (fun i => (i.zero, i.size, i.bytes)) = some (some (.int .u8 0), 1, 1) := by kernel_rfl
theorem gwsiz3 : ∀ w, (sizeOf 3).run Try.prog w = .ok 1 w := fun _ => by kernel_rfl
set_option maxHeartbeats 4000000 in
set_option maxRecDepth 100000 in
theorem jsync_calls (w0 w : World) (R : Chunk) (gd gj : Nat) (S SJ : Nat → Prop) (d : PD) (nm : ByteArray) (is : List PI) (size : Int) (hw : wfD d) (hn : nm.size ≤ 9223372036854775807) (HO : Own w0 w [R, Chunk.disk w0.heap.size gd S d, Chunk.jour w0.heap.size gd gj nm SJ is size]) :
    Calls Try.prog 34 #[.pointer (some ⟨gj, 0, none⟩)] w fun e w' => e = .returned (.int .i64 (syncD nm d).2) ∧ ∃ S' SJ', Own w0 w' [R, Chunk.disk w0.heap.size gd S' (syncD nm d).1, Chunk.jour w0.heap.size gd gj nm SJ' is size] := by
 obtain ⟨gm, xs, hxs, hon, HO⟩ := jour_open2 HO
 refine gw_startO (N := 12) (vs := [.pointer (some ⟨gj, 0, none⟩)]) Try.func34 rfl rfl (by simp) fun a HF => ?_
 refine gw_seq fun K1 hK1 => ?_
 refine wp_region_lit ?_
 refine V HF (op_assign rfl (ev_c _ _)) ?_
 intro _ H3; clear HF
 refine wpList_nil ?_
 refine gw_nx (hK1 _ _ ?_)
 refine gw_seq fun K4 hK4 => ?_
 refine gx_draw (M := [R, Bk gj [.pointer (some ⟨gd, 0, none⟩), .string nm, .map (some gm), J size] 100, Chunk.lmap Try.prog 2 gm (xs.map XJ.ent), Chunk.jrows w0.heap.size xs]) (fun j_ => false) HO (by kernel_rfl) fun w5 O6 => ?_
 clear HO
 refine gx_take 0 rfl (by kernel_rfl) H3 (by exact O6.sel [0, 2, 3, 4] (by decide)) (want_none rfl) rfl (by decide) (fun wq HO => (op_move rfl (H3.ev rfl))) ?_
 intro _ H8; clear H3
 refine gx_take 1 rfl (by kernel_rfl) H8 (by exact O6.sel [0, 2, 3, 4] (by decide)) (want_none rfl) rfl (by decide) (fun wq HO => (op_nil rfl (H8.ev rfl))) ?_
 intro _ H10; clear H8
 refine gx_take 2 rfl (by kernel_rfl) H10 (by exact O6.sel [0, 2, 3, 4] (by decide)) (want_none rfl) rfl (by decide) (fun wq HO => (op_field (gwfld100_0 _ _) rfl (H10.ev rfl))) ?_
 intro _ H12; clear H10
 refine gx_take 3 rfl (by kernel_rfl) H12 (by exact O6.sel [0, 2, 3, 4] (by decide)) (want_none rfl) rfl (by decide) (fun wq HO => (op_load1 gwagg23 rfl (H12.ev rfl) (blk_at (HO.get 1 rfl) rfl))) ?_
 intro _ H14; clear H12
 refine gx_take 4 rfl (by kernel_rfl) H14 (by exact O6.sel [0, 2, 3, 4] (by decide)) (want_none rfl) rfl (by decide) (fun wq HO => (op_move rfl (H14.ev rfl))) ?_
 intro _ H16; clear H14
 refine gx_take 5 rfl (by kernel_rfl) H16 (by exact O6.sel [0, 2, 3, 4] (by decide)) (want_none rfl) rfl (by decide) (fun wq HO => (op_nil rfl (H16.ev rfl))) ?_
 intro _ H18; clear H16
 refine gx_take 6 rfl (by kernel_rfl) H18 (by exact O6.sel [0, 2, 3, 4] (by decide)) (want_none rfl) rfl (by decide) (fun wq HO => (op_field (gwfld100_1 _ _) rfl (H18.ev rfl))) ?_
 intro _ H20; clear H18
 refine gx_take 7 rfl (by kernel_rfl) H20 (by exact O6.sel [0, 2, 3, 4] (by decide)) (want_none rfl) rfl (by decide) (fun wq HO => (op_load1 gwagg9 rfl (H20.ev rfl) (blk_at (HO.get 1 rfl) rfl))) ?_
 intro _ H22; clear H20
 refine gx_step 8 rfl (by kernel_rfl) ?_
 have O31 : Own w0 _ [(Chunk.all [R, Bk gj [.pointer (some ⟨gd, 0, none⟩), .string nm, .map (some gm), J size] 100, Chunk.lmap Try.prog 2 gm (xs.map XJ.ent), Chunk.jrows w0.heap.size xs]), Chunk.disk w0.heap.size gd S d] := Own.bundle (A := [R, Bk gj [.pointer (some ⟨gd, 0, none⟩), .string nm, .map (some gm), J size] 100, Chunk.lmap Try.prog 2 gm (xs.map XJ.ent), Chunk.jrows w0.heap.size xs]) (L := [Chunk.disk w0.heap.size gd S d]) (O6.sel [0, 2, 3, 4, 1] (by decide))
 refine gw_call H22 (want_none rfl) rfl (by decide) (op_callL Try.func16 (by kernel_rfl) rfl rfl (ar_cons (H22.ev rfl) (ar_cons (H22.ev rfl) ar_nil))) (sync_calls w0 _ (Chunk.all [R, Bk gj [.pointer (some ⟨gd, 0, none⟩), .string nm, .map (some gm), J size] 100, Chunk.lmap Try.prog 2 gm (xs.map XJ.ent), Chunk.jrows w0.heap.size xs]) gd S d nm hw hn (by exact O31)) ?_
 rintro e25 w26 ⟨rfl, S23, hb27⟩
 refine ⟨_, rfl, fun _ H29 => ?_⟩
 have O30 : Own w0 w26 [R, Bk gj [.pointer (some ⟨gd, 0, none⟩), .string nm, .map (some gm), J size] 100, Chunk.lmap Try.prog 2 gm (xs.map XJ.ent), Chunk.jrows w0.heap.size xs, Chunk.disk w0.heap.size gd S23 ((syncD nm d).1)] := Own.unbundle (A := [R, Bk gj [.pointer (some ⟨gd, 0, none⟩), .string nm, .map (some gm), J size] 100, Chunk.lmap Try.prog 2 gm (xs.map XJ.ent), Chunk.jrows w0.heap.size xs]) (L := [Chunk.disk w0.heap.size gd S23 ((syncD nm d).1)]) (hb27.sel [0, 1] (by decide))
 clear O31
 clear H22 O6 hb27
 have O33 : Own w0 w26 [R, Bk gj [.pointer (some ⟨gd, 0, none⟩), .string nm, .map (some gm), J size] 100, Chunk.lmap Try.prog 2 gm (xs.map XJ.ent), Chunk.jrows w0.heap.size xs, Chunk.disk w0.heap.size gd S23 ((syncD nm d).1)] := O30
 clear O30
 have hwf24 : wfD ((syncD nm d).1) := wf_sync hw
 refine gx_on (i := 8) (B := (fun j_ => false)) (M := [R, Bk gj [.pointer (some ⟨gd, 0, none⟩), .string nm, .map (some gm), J size] 100, Chunk.lmap Try.prog 2 gm (xs.map XJ.ent), Chunk.jrows w0.heap.size xs]) (fun _ => (by exact O33.sel [0, 1, 2, 3] (by decide))) ?_
 refine gx_take 9 rfl (by kernel_rfl) H29 (by exact O33.sel [0, 1, 2, 3] (by decide)) (want_none rfl) rfl (by decide) (fun wq HO => (op_assign rfl (H29.ev rfl))) ?_
 intro _ H35; clear H29
 refine gx_done (by kernel_rfl) ?_
 refine gw_nx (hK4 _ _ ?_)
 refine wp_ret ?_
 refine gw_ret1 H35 rfl rfl ?_
 obtain ⟨SJ', HOj⟩ := jour_close2 (xs := xs) hxs (by exact O33.sel [0, 4, 1, 2, 3] (by decide))
 exact ⟨rfl, _, SJ', HOj⟩
set_option maxHeartbeats 4000000 in
set_option maxRecDepth 100000 in
theorem put_calls (w0 w : World) (R : Chunk) (gd gj : Nat) (S SJ : Nat → Prop) (d : PD) (nm : ByteArray) (is : List PI) (size : Int) (hw : wfD d) (hn : nm.size ≤ 9223372036854775807) (key : Int) (hkw : (Lit.int .i64 key).wf = true) (Ab : Option Addr) (cb : Nat) (b : List Int) (hy : ∀ w1, Own w0 w1 [R] → Kd.C (Kd.int .u8) w1 Ab b.length b) (hcy : b.length ≤ cb) (hbb : ByteL b) (hbl : b.length ≤ 900000) (hroom : d.used + (recI (key, b)).length ≤ 140737488355327) (his : is.length ≤ 1000000) (hsz : 0 ≤ size ∧ size ≤ 140737488355327) (HO : Own w0 w [R, Chunk.disk w0.heap.size gd S d, Chunk.jour w0.heap.size gd gj nm SJ is size]) :
    Calls Try.prog 33 #[.pointer (some ⟨gj, 0, none⟩), .int .i64 key, .slice Ab b.length cb] w fun e w' => e = .returned (.int .i64 (putJ nm key b is size d).1.2) ∧ ∃ S' SJ', Own w0 w' [R, Chunk.disk w0.heap.size gd S' (putJ nm key b is size d).1.1, Chunk.jour w0.heap.size gd gj nm SJ' (putJ nm key b is size d).2.1 (putJ nm key b is size d).2.2] := by
 have hel := encN_len key
 have hrl : (recI (key, b)).length = (encN key).length + b.length + 8 := recI_len _
 refine gw_startO (N := 58) (vs := [.pointer (some ⟨gj, 0, none⟩), J key, .slice Ab b.length cb]) Try.func33 rfl rfl (by simp) fun a HF => ?_
 refine gw_seq fun K1 hK1 => ?_
 refine wp_region_lit ?_
 refine V HF (op_assign rfl (ev_c _ _)) ?_
 intro _ H3; clear HF
 refine wpList_nil ?_
 refine gw_nx (hK1 _ _ ?_)
 refine gw_seq fun K4 hK4 => ?_
 refine wp_block ?_
 refine gw_seq fun K5 hK5 => ?_
 refine wp_region_lit ?_
 refine V H3 (op_move rfl (H3.ev rfl)) ?_
 intro _ H7; clear H3
 refine V H7 (op_lss rfl (H7.ev rfl) (ev_c _ _)) ?_
 intro _ H9; clear H7
 refine V H9 (op_move rfl (H9.ev rfl)) ?_
 intro _ H11; clear H9
 refine gw_evG H11 rfl rfl rfl rfl (on_f _) rfl (by decide) (fun h_ => (op_move rfl (H11.ev rfl))) ?_
 intro _ H13; clear H11
 refine gw_evG H13 rfl rfl rfl rfl (on_f _) rfl (by decide) (fun h_ => (op_gtr rfl (ev_gv (H13.ev rfl) h_) (ev_c _ _))) ?_
 intro _ H15; clear H13
 refine V H15 (op_pick_or rfl (H15.ev rfl) (ev_c _ _) (fun hp_ => (ev_gv (H15.ev rfl) (not_t hp_)))) ?_
 intro _ H17; clear H15
 refine V H17 (op_assign rfl (H17.ev rfl)) ?_
 intro _ H19; clear H17
 refine wpList_nil ?_
 refine gw_nx (hK5 _ _ ?_)
 refine gw_cond H19 rfl (fun hb20 => ?_) (fun hb20 => ?_)
 ·
  have H21 := H19.subst_ (d := 9) (b := true) rfl hb20
  clear H19
  (try simp only [Bool.and_eq_true, Bool.or_eq_true, Bool.and_eq_false_iff, Bool.or_eq_false_iff, Bool.not_and, Bool.not_or, Bool.not_not, decide_eq_true_eq, decide_eq_false_iff_not, Bool.not_eq_true', Bool.not_eq_false', Bool.not_eq_true, Bool.not_eq_false, ne_eq, Decidable.not_not, Int.not_lt, Int.not_le, not_true_eq_false, not_false_eq_true, bne_iff_ne, beq_iff_eq, bne_eq_false_iff_eq, beq_eq_false_iff_ne] at hb20)
  refine gw_seq fun K22 hK22 => ?_
  refine wp_region_lit ?_
  refine V H21 (op_assign rfl (ev_c _ _)) ?_
  intro _ H24; clear H21
  refine wpList_nil ?_
  refine gw_nx (hK22 _ _ ?_)
  refine wp_ret ?_
  refine gw_blr ?_
  refine gw_thr ?_
  refine gw_ret1 H24 rfl rfl ?_
  rw [put_arg (by omega)]
  exact ⟨rfl, _, _, HO⟩
 ·
  have H25 := H19.subst_ (d := 9) (b := false) rfl hb20
  clear H19
  (try simp only [Bool.and_eq_true, Bool.or_eq_true, Bool.and_eq_false_iff, Bool.or_eq_false_iff, Bool.not_and, Bool.not_or, Bool.not_not, decide_eq_true_eq, decide_eq_false_iff_not, Bool.not_eq_true', Bool.not_eq_false', Bool.not_eq_true, Bool.not_eq_false, ne_eq, Decidable.not_not, Int.not_lt, Int.not_le, not_true_eq_false, not_false_eq_true, bne_iff_ne, beq_iff_eq, bne_eq_false_iff_eq, beq_eq_false_iff_ne] at hb20)
  refine gw_seq fun K26 hK26 => ?_
  refine wp_region_lit ?_
  refine V H25 (op_move rfl (H25.ev rfl)) ?_
  intro _ H28; clear H25
  refine V H28 (op_len Try.underlying28 rfl (H28.ev rfl)) ?_
  intro _ H30; clear H28
  refine V H30 (op_gtr rfl (H30.ev rfl) (ev_c _ _)) ?_
  intro _ H32; clear H30
  refine V H32 (op_assign rfl (H32.ev rfl)) ?_
  intro _ H34; clear H32
  refine wpList_nil ?_
  refine gw_nx (hK26 _ _ ?_)
  refine gw_cond H34 rfl (fun hb35 => ?_) (fun hb35 => ?_)
  ·
   have H36 := H34.subst_ (d := 16) (b := true) rfl hb35
   clear H34
   (try simp only [decide_eq_true_eq] at hb35)
   refine gw_seq fun K37 hK37 => ?_
   refine wp_region_lit ?_
   refine V H36 (op_assign rfl (ev_c _ _)) ?_
   intro _ H39; clear H36
   refine wpList_nil ?_
   refine gw_nx (hK37 _ _ ?_)
   refine wp_ret ?_
   refine gw_blr ?_
   refine gw_thr ?_
   refine gw_ret1 H39 rfl rfl ?_
   rw [put_long (by omega) (by omega)]
   exact ⟨rfl, _, _, HO⟩
  ·
   have H40 := H34.subst_ (d := 16) (b := false) rfl hb35
   clear H34
   (try simp only [decide_eq_false_iff_not, Int.not_lt] at hb35)
   refine gw_seq fun K41 hK41 => ?_
   refine wp_region_lit ?_
   refine V H40 (op_move rfl (H40.ev rfl)) ?_
   intro _ H43; clear H40
   refine V H43 (op_move rfl (H43.ev rfl)) ?_
   intro _ H45; clear H43
   refine gw_call H45 (want_none rfl) rfl (by decide) (op_callL Try.func38 (by kernel_rfl) rfl rfl (ar_cons (H45.ev rfl) (ar_cons (H45.ev rfl) ar_nil))) (has_calls w0.heap.size gd gj nm SJ is size _ (HO.get 2 rfl) key hkw) ?_
   rintro e46 w47 ⟨rfl, hb48⟩
   refine ⟨_, rfl, fun _ H50 => ?_⟩
   have O51 := HO.after hb48
   clear H45 HO hb48
   refine V H50 (op_assign rfl (H50.ev rfl)) ?_
   intro _ H54; clear H50
   refine wpList_nil ?_
   refine gw_nx (hK41 _ _ ?_)
   refine gw_cond H54 rfl (fun hb55 => ?_) (fun hb55 => ?_)
   ·
    have H56 := H54.subst_ (d := 20) (b := true) rfl hb55
    clear H54
    (try simp only [Bool.and_eq_true, Bool.or_eq_true, Bool.and_eq_false_iff, Bool.or_eq_false_iff, Bool.not_and, Bool.not_or, Bool.not_not, decide_eq_true_eq, decide_eq_false_iff_not, Bool.not_eq_true', Bool.not_eq_false', Bool.not_eq_true, Bool.not_eq_false, ne_eq, Decidable.not_not, Int.not_lt, Int.not_le, not_true_eq_false, not_false_eq_true, bne_iff_ne, beq_iff_eq, bne_eq_false_iff_eq, beq_eq_false_iff_ne] at hb55)
    have hhas := hb55
    refine gw_seq fun K57 hK57 => ?_
    refine wp_region_lit ?_
    refine V H56 (op_assign rfl (ev_c _ _)) ?_
    intro _ H59; clear H56
    refine wpList_nil ?_
    refine gw_nx (hK57 _ _ ?_)
    refine wp_ret ?_
    refine gw_blr ?_
    refine gw_thr ?_
    refine gw_ret1 H59 rfl rfl ?_
    rw [put_twice (by omega) (by omega) hhas]
    exact ⟨rfl, _, _, O51⟩
   ·
    have H60 := H54.subst_ (d := 20) (b := false) rfl hb55
    clear H54
    (try simp only [Bool.and_eq_true, Bool.or_eq_true, Bool.and_eq_false_iff, Bool.or_eq_false_iff, Bool.not_and, Bool.not_or, Bool.not_not, decide_eq_true_eq, decide_eq_false_iff_not, Bool.not_eq_true', Bool.not_eq_false', Bool.not_eq_true, Bool.not_eq_false, ne_eq, Decidable.not_not, Int.not_lt, Int.not_le, not_true_eq_false, not_false_eq_true, bne_iff_ne, beq_iff_eq, bne_eq_false_iff_eq, beq_eq_false_iff_ne] at hb55)
    have hhas := hb55
    obtain ⟨gm, xs, hxs, hon, O61⟩ := jour_open2 (by exact O51.sel [0, 1, 2] (by decide))
    have hno := none_key hxs hhas
    have hxn := hxs.length_eq
    rw [List.length_map] at hxn
    refine wp_skip ?_
    refine gw_blk ?_
    refine gw_nx (hK4 _ _ ?_)
    refine gw_seq fun K62 hK62 => ?_
    refine wp_region_lit ?_
    refine V H60 (op_move rfl (H60.ev rfl)) ?_
    intro _ H64; clear H60
    refine gw_call H64 (want_none rfl) rfl (by decide) (op_callL Try.func61 (by kernel_rfl) rfl rfl (ar_cons (ev_c _ _) (ar_cons (H64.ev rfl) ar_nil))) (num_new key _) ?_
    rintro e68 w69 ⟨A65, c66, S67, rfl, hb70⟩
    refine ⟨_, rfl, fun _ H72 => ?_⟩
    have O73 := O61.fresh hb70
    have hbel74 := O61.below
    clear H64 O61 hb70
    have O75 := O73.lowrow 0 rfl (base' := w0.heap.size) (Below.size hbel74)
    have O76 : Own w0 w69 [Chunk.row (Kd.int .u8) 5 w0.heap.size S67 (.slice A65 ((encN key).length) c66) (encN key), R, Chunk.disk w0.heap.size gd S d, Bk gj [.pointer (some ⟨gd, 0, none⟩), .string nm, .map (some gm), J size] 100, Chunk.lmap Try.prog 2 gm (xs.map XJ.ent), Chunk.jrows w0.heap.size xs] := O75
    clear O75
    refine V H72 (op_move rfl (H72.ev rfl)) ?_
    intro _ H78; clear H72
    refine gw_append (Kd.int .u8) 0 H78 O76 (want_none rfl) rfl (by decide) rfl Try.underlying28 gwinfo5 rfl (by decide) (by decide) rfl (H78.ev rfl) (H78.ev rfl) (hy _ (O76.sel [1] (by decide))) (fun _ _ h => h) O76.below.size (by omega) ?_
    intro A79 c80 S81 _ w83 H84 O85; clear H78 O76
    have O86 : Own w0 w83 [Chunk.row (Kd.int .u8) 5 w0.heap.size S81 (.slice A79 (((encN key) ++ b).length) c80) ((encN key) ++ b), R, Chunk.disk w0.heap.size gd S d, Bk gj [.pointer (some ⟨gd, 0, none⟩), .string nm, .map (some gm), J size] 100, Chunk.lmap Try.prog 2 gm (xs.map XJ.ent), Chunk.jrows w0.heap.size xs] := O85
    clear O85
    refine gw_call H84 (want_none rfl) rfl (by decide) (op_callL Try.func60 (by kernel_rfl) rfl rfl (ar_cons (H84.ev rfl) ar_nil)) (recI_own key b A79 c80 _ (Kd.R_reads' (O86.get 0 rfl)).2.2 (row_cap (O86.get 0 rfl)) hbb hbl) ?_
    rintro e90 w91 ⟨A87, c88, S89, rfl, hb92⟩
    refine ⟨_, rfl, fun _ H94 => ?_⟩
    have O95 := O86.fresh hb92
    have hbel96 := O86.below
    clear H84 O86 hb92
    have O97 := O95.lowrow 0 rfl (base' := w0.heap.size) (Below.size hbel96)
    have O98 : Own w0 w91 [Chunk.row (Kd.int .u8) 5 w0.heap.size S89 (.slice A87 ((recI (key, b)).length) c88) (recI (key, b)), Chunk.row (Kd.int .u8) 5 w0.heap.size S81 (.slice A79 (((encN key) ++ b).length) c80) ((encN key) ++ b), R, Chunk.disk w0.heap.size gd S d, Bk gj [.pointer (some ⟨gd, 0, none⟩), .string nm, .map (some gm), J size] 100, Chunk.lmap Try.prog 2 gm (xs.map XJ.ent), Chunk.jrows w0.heap.size xs] := O97
    clear O97
    refine V H94 (op_assign rfl (H94.ev rfl)) ?_
    intro _ H100; clear H94
    refine wpList_nil ?_
    refine gw_nx (hK62 _ _ ?_)
    refine gw_seq fun K101 hK101 => ?_
    refine gw_seq fun K102 hK102 => ?_
    refine gx_draw (M := [R, Bk gj [.pointer (some ⟨gd, 0, none⟩), .string nm, .map (some gm), J size] 100, Chunk.lmap Try.prog 2 gm (xs.map XJ.ent), Chunk.jrows w0.heap.size xs]) (fun j_ => false) O98 (by kernel_rfl) fun w103 O104 => ?_
    clear O98
    refine gx_take 0 rfl (by kernel_rfl) H100 (by exact O104.sel [2, 4, 5, 6] (by decide)) (want_none rfl) rfl (by decide) (fun wq HO => (op_move rfl (H100.ev rfl))) ?_
    intro _ H106; clear H100
    refine gx_take 1 rfl (by kernel_rfl) H106 (by exact O104.sel [2, 4, 5, 6] (by decide)) (want_none rfl) rfl (by decide) (fun wq HO => (op_nil rfl (H106.ev rfl))) ?_
    intro _ H108; clear H106
    refine gx_take 2 rfl (by kernel_rfl) H108 (by exact O104.sel [2, 4, 5, 6] (by decide)) (want_none rfl) rfl (by decide) (fun wq HO => (op_field (gwfld100_0 _ _) rfl (H108.ev rfl))) ?_
    intro _ H110; clear H108
    refine gx_take 3 rfl (by kernel_rfl) H110 (by exact O104.sel [2, 4, 5, 6] (by decide)) (want_none rfl) rfl (by decide) (fun wq HO => (op_load1 gwagg23 rfl (H110.ev rfl) (blk_at (HO.get 1 rfl) rfl))) ?_
    intro _ H112; clear H110
    refine gx_take 4 rfl (by kernel_rfl) H112 (by exact O104.sel [2, 4, 5, 6] (by decide)) (want_none rfl) rfl (by decide) (fun wq HO => (op_move rfl (H112.ev rfl))) ?_
    intro _ H114; clear H112
    refine gx_take 5 rfl (by kernel_rfl) H114 (by exact O104.sel [2, 4, 5, 6] (by decide)) (want_none rfl) rfl (by decide) (fun wq HO => (op_nil rfl (H114.ev rfl))) ?_
    intro _ H116; clear H114
    refine gx_take 6 rfl (by kernel_rfl) H116 (by exact O104.sel [2, 4, 5, 6] (by decide)) (want_none rfl) rfl (by decide) (fun wq HO => (op_field (gwfld100_1 _ _) rfl (H116.ev rfl))) ?_
    intro _ H118; clear H116
    refine gx_take 7 rfl (by kernel_rfl) H118 (by exact O104.sel [2, 4, 5, 6] (by decide)) (want_none rfl) rfl (by decide) (fun wq HO => (op_load1 gwagg9 rfl (H118.ev rfl) (blk_at (HO.get 1 rfl) rfl))) ?_
    intro _ H120; clear H118
    refine gx_take 8 rfl (by kernel_rfl) H120 (by exact O104.sel [2, 4, 5, 6] (by decide)) (want_none rfl) rfl (by decide) (fun wq HO => (op_move rfl (H120.ev rfl))) ?_
    intro _ H122; clear H120
    refine gx_step 9 rfl (by kernel_rfl) ?_
    have O131 : Own w0 _ [(Chunk.all [Chunk.row (Kd.int .u8) 5 w0.heap.size S89 (.slice A87 ((recI (key, b)).length) c88) (recI (key, b)), Chunk.row (Kd.int .u8) 5 w0.heap.size S81 (.slice A79 (((encN key) ++ b).length) c80) ((encN key) ++ b), R, Bk gj [.pointer (some ⟨gd, 0, none⟩), .string nm, .map (some gm), J size] 100, Chunk.lmap Try.prog 2 gm (xs.map XJ.ent), Chunk.jrows w0.heap.size xs]), Chunk.disk w0.heap.size gd S d] := Own.bundle (A := [Chunk.row (Kd.int .u8) 5 w0.heap.size S89 (.slice A87 ((recI (key, b)).length) c88) (recI (key, b)), Chunk.row (Kd.int .u8) 5 w0.heap.size S81 (.slice A79 (((encN key) ++ b).length) c80) ((encN key) ++ b), R, Bk gj [.pointer (some ⟨gd, 0, none⟩), .string nm, .map (some gm), J size] 100, Chunk.lmap Try.prog 2 gm (xs.map XJ.ent), Chunk.jrows w0.heap.size xs]) (L := [Chunk.disk w0.heap.size gd S d]) (O104.sel [0, 1, 2, 4, 5, 6, 3] (by decide))
    refine gw_call H122 (want_none rfl) rfl (by decide) (op_callL Try.func15 (by kernel_rfl) rfl rfl (ar_cons (H122.ev rfl) (ar_cons (H122.ev rfl) (ar_cons (H122.ev rfl) ar_nil)))) (append_calls w0 _ (Chunk.all [Chunk.row (Kd.int .u8) 5 w0.heap.size S89 (.slice A87 ((recI (key, b)).length) c88) (recI (key, b)), Chunk.row (Kd.int .u8) 5 w0.heap.size S81 (.slice A79 (((encN key) ++ b).length) c80) ((encN key) ++ b), R, Bk gj [.pointer (some ⟨gd, 0, none⟩), .string nm, .map (some gm), J size] 100, Chunk.lmap Try.prog 2 gm (xs.map XJ.ent), Chunk.jrows w0.heap.size xs]) gd S d nm A87 c88 (recI (key, b)) (fun w_ h_ => (Kd.R_reads' ((Own.unbundle (A := [Chunk.row (Kd.int .u8) 5 w0.heap.size S89 (.slice A87 ((recI (key, b)).length) c88) (recI (key, b)), Chunk.row (Kd.int .u8) 5 w0.heap.size S81 (.slice A79 (((encN key) ++ b).length) c80) ((encN key) ++ b), R, Bk gj [.pointer (some ⟨gd, 0, none⟩), .string nm, .map (some gm), J size] 100, Chunk.lmap Try.prog 2 gm (xs.map XJ.ent), Chunk.jrows w0.heap.size xs]) (L := []) h_).get 0 rfl)).2.2) (row_cap (O104.get 0 rfl)) hw hn hroom (by exact O131)) ?_
    rintro e125 w126 ⟨rfl, S123, hb127⟩
    refine ⟨_, rfl, fun _ H129 => ?_⟩
    have O130 : Own w0 w126 [Chunk.row (Kd.int .u8) 5 w0.heap.size S89 (.slice A87 ((recI (key, b)).length) c88) (recI (key, b)), Chunk.row (Kd.int .u8) 5 w0.heap.size S81 (.slice A79 (((encN key) ++ b).length) c80) ((encN key) ++ b), R, Bk gj [.pointer (some ⟨gd, 0, none⟩), .string nm, .map (some gm), J size] 100, Chunk.lmap Try.prog 2 gm (xs.map XJ.ent), Chunk.jrows w0.heap.size xs, Chunk.disk w0.heap.size gd S123 ((appendD nm (recI (key, b)) d).1)] := Own.unbundle (A := [Chunk.row (Kd.int .u8) 5 w0.heap.size S89 (.slice A87 ((recI (key, b)).length) c88) (recI (key, b)), Chunk.row (Kd.int .u8) 5 w0.heap.size S81 (.slice A79 (((encN key) ++ b).length) c80) ((encN key) ++ b), R, Bk gj [.pointer (some ⟨gd, 0, none⟩), .string nm, .map (some gm), J size] 100, Chunk.lmap Try.prog 2 gm (xs.map XJ.ent), Chunk.jrows w0.heap.size xs]) (L := [Chunk.disk w0.heap.size gd S123 ((appendD nm (recI (key, b)) d).1)]) (hb127.sel [0, 1] (by decide))
    clear O131
    clear H122 O104 hb127
    have O133 : Own w0 w126 [Chunk.row (Kd.int .u8) 5 w0.heap.size S89 (.slice A87 ((recI (key, b)).length) c88) (recI (key, b)), Chunk.row (Kd.int .u8) 5 w0.heap.size S81 (.slice A79 (((encN key) ++ b).length) c80) ((encN key) ++ b), R, Bk gj [.pointer (some ⟨gd, 0, none⟩), .string nm, .map (some gm), J size] 100, Chunk.lmap Try.prog 2 gm (xs.map XJ.ent), Chunk.jrows w0.heap.size xs, Chunk.disk w0.heap.size gd S123 ((appendD nm (recI (key, b)) d).1)] := O130
    clear O130
    have hwf124 : wfD ((appendD nm (recI (key, b)) d).1) := wf_append hw
    refine gx_on (i := 9) (B := (fun j_ => false)) (M := [R, Bk gj [.pointer (some ⟨gd, 0, none⟩), .string nm, .map (some gm), J size] 100, Chunk.lmap Try.prog 2 gm (xs.map XJ.ent), Chunk.jrows w0.heap.size xs]) (fun _ => (by exact O133.sel [2, 3, 4, 5] (by decide))) ?_
    refine gx_take 10 rfl (by kernel_rfl) H129 (by exact O133.sel [2, 3, 4, 5] (by decide)) (want_none rfl) rfl (by decide) (fun wq HO => (op_assign rfl (H129.ev rfl))) ?_
    intro _ H135; clear H129
    refine gx_done (by kernel_rfl) ?_
    refine gw_nx (hK102 _ _ ?_)
    refine gw_seq fun K136 hK136 => ?_
    refine wp_region_lit ?_
    refine V H135 (op_move rfl (H135.ev rfl)) ?_
    intro _ H138; clear H135
    refine V H138 (op_nei rfl (H138.ev rfl) (ev_c _ _)) ?_
    intro _ H140; clear H138
    refine wpList_nil ?_
    refine gw_nx (hK136 _ _ ?_)
    refine gw_cond H140 rfl (fun hb141 => ?_) (fun hb141 => ?_)
    ·
     have H142 := H140.subst_ (d := 40) (b := true) rfl hb141
     clear H140
     (try simp only [decide_eq_true_eq, ne_eq] at hb141)
     refine gw_seq fun K143 hK143 => ?_
     refine wp_region_lit ?_
     refine V H142 (op_move rfl (H142.ev rfl)) ?_
     intro _ H145; clear H142
     refine V H145 (op_assign rfl (H145.ev rfl)) ?_
     intro _ H147; clear H145
     refine wpList_nil ?_
     refine gw_nx (hK143 _ _ ?_)
     refine wp_ret ?_
     refine gw_thr ?_
     refine gw_ret1 H147 rfl rfl ?_
     obtain ⟨SJ', HOj⟩ := jour_close2 (xs := xs) hxs (by exact O133.sel [2, 6, 3, 4, 5] (by decide))
     rw [put_fail (by omega) (by omega) hhas (by omega)]
     exact ⟨rfl, _, SJ', HOj⟩
    ·
     have H148 := H140.subst_ (d := 40) (b := false) rfl hb141
     clear H140
     (try simp only [decide_eq_false_iff_not, ne_eq, Decidable.not_not] at hb141)
     have happ := hb141
     refine wp_skip ?_
     refine gw_nx (hK101 _ _ ?_)
     refine gw_seq fun K149 hK149 => ?_
     refine gx_draw (M := [Chunk.row (Kd.int .u8) 5 w0.heap.size S89 (.slice A87 ((recI (key, b)).length) c88) (recI (key, b)), Chunk.row (Kd.int .u8) 5 w0.heap.size S81 (.slice A79 (((encN key) ++ b).length) c80) ((encN key) ++ b), R, Bk gj [.pointer (some ⟨gd, 0, none⟩), .string nm, .map (some gm), J size] 100, Chunk.lmap Try.prog 2 gm (xs.map XJ.ent), Chunk.jrows w0.heap.size xs, Chunk.disk w0.heap.size gd S123 ((appendD nm (recI (key, b)) d).1)]) (fun j_ => j_ == 7) O133 (by kernel_rfl) fun w150 O151 => ?_
     clear O133
     refine gx_take 0 rfl (by kernel_rfl) H148 (by exact O151.sel [0, 1, 2, 3, 4, 5, 6] (by decide)) (want_none rfl) rfl (by decide) (fun wq HO => (op_move rfl (H148.ev rfl))) ?_
     intro _ H153; clear H148
     refine gx_take 1 rfl (by kernel_rfl) H153 (by exact O151.sel [0, 1, 2, 3, 4, 5, 6] (by decide)) (want_none rfl) rfl (by decide) (fun wq HO => (op_nil rfl (H153.ev rfl))) ?_
     intro _ H155; clear H153
     refine gx_take 2 rfl (by kernel_rfl) H155 (by exact O151.sel [0, 1, 2, 3, 4, 5, 6] (by decide)) (want_none rfl) rfl (by decide) (fun wq HO => (op_field (gwfld100_2 _ _) rfl (H155.ev rfl))) ?_
     intro _ H157; clear H155
     refine gx_take 3 rfl (by kernel_rfl) H157 (by exact O151.sel [0, 1, 2, 3, 4, 5, 6] (by decide)) (want_none rfl) rfl (by decide) (fun wq HO => (op_load1 gwagg98 rfl (H157.ev rfl) (blk_at (HO.get 3 rfl) rfl))) ?_
     intro _ H159; clear H157
     refine gx_take 4 rfl (by kernel_rfl) H159 (by exact O151.sel [0, 1, 2, 3, 4, 5, 6] (by decide)) (want_none rfl) rfl (by decide) (fun wq HO => (op_move rfl (H159.ev rfl))) ?_
     intro _ H161; clear H159
     refine gx_take 5 rfl (by kernel_rfl) H161 (by exact O151.sel [0, 1, 2, 3, 4, 5, 6] (by decide)) (want_none rfl) rfl (by decide) (fun wq HO => (op_move rfl (H161.ev rfl))) ?_
     intro _ H163; clear H161
     refine gx_step 6 rfl (by kernel_rfl) ?_
     refine gw_call H163 (want_none rfl) rfl (by decide) (op_callL Try.func45 (by kernel_rfl) rfl rfl (ar_cons (H163.ev rfl) ar_nil)) (clone0 Ab cb b _ (hy _ (O151.sel [2] (by decide))) hcy (by omega)) ?_
     rintro e167 w168 ⟨A164, c165, S166, rfl, hb169⟩
     refine ⟨_, rfl, fun _ H171 => ?_⟩
     have O172 := O151.fresh hb169
     have hbel173 := O151.below
     clear H163 O151 hb169
     have O174 := O172.lowrow 0 rfl (base' := w0.heap.size) (Below.size hbel173)
     have O175 : Own w0 w168 [Chunk.row (Kd.int .u8) 5 w0.heap.size S166 (.slice A164 b.length c165) b, Chunk.row (Kd.int .u8) 5 w0.heap.size S89 (.slice A87 ((recI (key, b)).length) c88) (recI (key, b)), Chunk.row (Kd.int .u8) 5 w0.heap.size S81 (.slice A79 (((encN key) ++ b).length) c80) ((encN key) ++ b), R, Bk gj [.pointer (some ⟨gd, 0, none⟩), .string nm, .map (some gm), J size] 100, Chunk.lmap Try.prog 2 gm (xs.map XJ.ent), Chunk.jrows w0.heap.size xs, Chunk.disk w0.heap.size gd S123 ((appendD nm (recI (key, b)) d).1)] := O174
     clear O174
     refine gx_on (i := 6) (B := (fun j_ => j_ == 7)) (M := [Chunk.row (Kd.int .u8) 5 w0.heap.size S89 (.slice A87 ((recI (key, b)).length) c88) (recI (key, b)), Chunk.row (Kd.int .u8) 5 w0.heap.size S81 (.slice A79 (((encN key) ++ b).length) c80) ((encN key) ++ b), R, Bk gj [.pointer (some ⟨gd, 0, none⟩), .string nm, .map (some gm), J size] 100, Chunk.lmap Try.prog 2 gm (xs.map XJ.ent), Chunk.jrows w0.heap.size xs, Chunk.disk w0.heap.size gd S123 ((appendD nm (recI (key, b)) d).1)]) (fun _ => (by exact O175.sel [1, 2, 3, 4, 5, 6, 7] (by decide))) ?_
     refine gx_step 7 rfl (by kernel_rfl) ?_
     refine gw_mput 5 (Go.Maps.int_keyed Try.underlying2) Try.underlying98 H171 O175 rfl (want_none rfl) rfl rfl (H171.ev rfl) (H171.ev rfl) (H171.ev rfl) (Go.Maps.keyOf_int_mk Try.underlying2 (hkw)) (by rw [List.length_map]; omega) ?_
     intro _ w177 H178 O179; clear H171 O175
     have O180 : Own w0 w177 [Chunk.row (Kd.int .u8) 5 w0.heap.size S166 (.slice A164 b.length c165) b, Chunk.row (Kd.int .u8) 5 w0.heap.size S89 (.slice A87 ((recI (key, b)).length) c88) (recI (key, b)), Chunk.row (Kd.int .u8) 5 w0.heap.size S81 (.slice A79 (((encN key) ++ b).length) c80) ((encN key) ++ b), R, Bk gj [.pointer (some ⟨gd, 0, none⟩), .string nm, .map (some gm), J size] 100, Chunk.lmap Try.prog 2 gm (lput (Lit.int .i64 key) (.slice A164 b.length c165) (xs.map XJ.ent)), Chunk.jrows w0.heap.size xs, Chunk.disk w0.heap.size gd S123 ((appendD nm (recI (key, b)) d).1)] := O179
     clear O179
     have elp_ := lput_new (x := (⟨key, b, A164, c165, S166⟩ : XJ)) (xs := xs) hno
     have O181 : Own w0 w177 [Chunk.row (Kd.int .u8) 5 w0.heap.size S166 (.slice A164 b.length c165) b, Chunk.row (Kd.int .u8) 5 w0.heap.size S89 (.slice A87 ((recI (key, b)).length) c88) (recI (key, b)), Chunk.row (Kd.int .u8) 5 w0.heap.size S81 (.slice A79 (((encN key) ++ b).length) c80) ((encN key) ++ b), R, Bk gj [.pointer (some ⟨gd, 0, none⟩), .string nm, .map (some gm), J size] 100, Chunk.lmap Try.prog 2 gm ((insJ (⟨key, b, A164, c165, S166⟩ : XJ) xs).map XJ.ent), Chunk.jrows w0.heap.size xs, Chunk.disk w0.heap.size gd S123 ((appendD nm (recI (key, b)) d).1)] := by have h_ := O180; rw [show lput (Lit.int .i64 key) (.slice A164 b.length c165) (xs.map XJ.ent) = (insJ (⟨key, b, A164, c165, S166⟩ : XJ) xs).map XJ.ent from elp_] at h_; exact h_
     refine gx_on (i := 7) (B := (fun j_ => j_ == 7)) (M := [Chunk.row (Kd.int .u8) 5 w0.heap.size S89 (.slice A87 ((recI (key, b)).length) c88) (recI (key, b)), Chunk.row (Kd.int .u8) 5 w0.heap.size S81 (.slice A79 (((encN key) ++ b).length) c80) ((encN key) ++ b), R, Bk gj [.pointer (some ⟨gd, 0, none⟩), .string nm, .map (some gm), J size] 100, Chunk.lmap Try.prog 2 gm (xs.map XJ.ent), Chunk.jrows w0.heap.size xs, Chunk.disk w0.heap.size gd S123 ((appendD nm (recI (key, b)) d).1)]) (fun h_ => by cases h_) ?_
     refine gx_done (by kernel_rfl) ?_
     refine gw_nx (hK149 _ _ ?_)
     refine gw_seq fun K182 hK182 => ?_
     refine wp_region_lit ?_
     refine V H178 (op_move rfl (H178.ev rfl)) ?_
     intro _ H184; clear H178
     refine V H184 (op_nil rfl (H184.ev rfl)) ?_
     intro _ H186; clear H184
     refine V H186 (op_field (gwfld100_3 _ _) rfl (H186.ev rfl)) ?_
     intro _ H188; clear H186
     refine V H188 (op_load1 gwagg3 rfl (H188.ev rfl) (blk_at (O181.get 4 rfl) rfl)) ?_
     intro _ H190; clear H188
     refine V H190 (op_move rfl (H190.ev rfl)) ?_
     intro _ H192; clear H190
     refine V H192 (op_len Try.underlying28 rfl (H192.ev rfl)) ?_
     intro _ H194; clear H192
     refine V H194 (op_add rfl (H194.ev rfl) (H194.ev rfl) (by omega)) ?_
     intro _ H196; clear H194
     refine V H196 (op_nil rfl (H196.ev rfl)) ?_
     intro _ H198; clear H196
     refine V H198 (op_field (gwfld100_3 _ _) rfl (H198.ev rfl)) ?_
     intro _ H200; clear H198
     refine gw_set 4 H200 O181 rfl (want_none rfl) rfl (op_store1 gwsiz3 rfl (H200.ev rfl) (H200.ev rfl) rfl (blk_at (O181.get 4 rfl) rfl) (blkf (O181.get 4 rfl))) ?_
     intro _ w203 H202 O204; clear H200 O181
     have O205 : Own w0 w203 [Chunk.row (Kd.int .u8) 5 w0.heap.size S166 (.slice A164 b.length c165) b, Chunk.row (Kd.int .u8) 5 w0.heap.size S89 (.slice A87 ((recI (key, b)).length) c88) (recI (key, b)), Chunk.row (Kd.int .u8) 5 w0.heap.size S81 (.slice A79 (((encN key) ++ b).length) c80) ((encN key) ++ b), R, Bk gj [.pointer (some ⟨gd, 0, none⟩), .string nm, .map (some gm), J (size + (((recI (key, b)).length) : Int))] 100, Chunk.lmap Try.prog 2 gm ((insJ (⟨key, b, A164, c165, S166⟩ : XJ) xs).map XJ.ent), Chunk.jrows w0.heap.size xs, Chunk.disk w0.heap.size gd S123 ((appendD nm (recI (key, b)) d).1)] := O204
     clear O204
     refine wpList_nil ?_
     refine gw_nx (hK182 _ _ ?_)
     refine gw_seq fun K206 hK206 => ?_
     refine wp_region_lit ?_
     refine V H202 (op_assign rfl (ev_c _ _)) ?_
     intro _ H208; clear H202
     refine wpList_nil ?_
     refine gw_nx (hK206 _ _ ?_)
     refine wp_ret ?_
     refine gw_ret1 H208 rfl rfl ?_
     have O209 := Own.jrow_in (x := (⟨key, b, A164, c165, S166⟩ : XJ)) (xs := xs) (by exact O205.sel [0, 6, 3, 7, 4, 5] (by decide))
     obtain ⟨SJ', HOj⟩ := jour_close2 (R := R) (xs := insJ (⟨key, b, A164, c165, S166⟩ : XJ) xs) (is := is ++ [(key, b)]) (ins_items hxs) (by exact O209.sel [1, 2, 3, 4, 0] (by decide))
     rw [put_ok (by omega) (by omega) hhas happ, happ]
     exact ⟨rfl, _, SJ', HOj⟩
end GJour2_
export GJour2_ (jsync_calls put_calls)
end Go.Proofs.Ytkdahjnmldeklaa.PA
end
