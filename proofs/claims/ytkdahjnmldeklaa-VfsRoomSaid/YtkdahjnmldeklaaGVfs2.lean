/- The disk: Append, Sync. Printed by a program of this session; Lean checks it. -/
import Derived.Test.YtkdahjnmldeklaaGVfs1
namespace Go.Proofs.Ytkdahjnmldeklaa.PA
open Go.RowKit Go.Proofs.YtkdahjnmldeklaaW.PrintWords Go.Proofs.YtkdahjnmldeklaaW.PrintLast Go.Proofs.YtkdahjnmldeklaaW.PrintMore
set_option linter.unusedVariables false
set_option linter.unusedSimpArgs false
namespace GVfs2_
theorem gwagg23 : ∀ w, (isAgg 23).run Try.prog w = .ok false w := fun _ => by kernel_rfl
theorem gwagg28 : ∀ w, (isAgg 28).run Try.prog w = .ok false w := fun _ => by kernel_rfl
theorem gwagg3 : ∀ w, (isAgg 3).run Try.prog w = .ok false w := fun _ => by kernel_rfl
theorem gwagg78 : ∀ w, (isAgg 78).run Try.prog w = .ok false w := fun _ => by kernel_rfl
theorem gwfld76_1 (g off : Nat) : ∀ w, (Instr.fieldAt 76 (.pointer (some ⟨g, off, none⟩)) 1).run Try.prog w = .ok (.pointer (some ⟨g, off + 1, none⟩)) w := fun _ => by kernel_rfl
theorem gwfld76_2 (g off : Nat) : ∀ w, (Instr.fieldAt 76 (.pointer (some ⟨g, off, none⟩)) 2).run Try.prog w = .ok (.pointer (some ⟨g, off + 2, none⟩)) w := fun _ => by kernel_rfl
theorem gwfld81_0 (g off : Nat) : ∀ w, (Instr.fieldAt 81 (.pointer (some ⟨g, off, none⟩)) 0).run Try.prog w = .ok (.pointer (some ⟨g, off + 0, none⟩)) w := fun _ => by kernel_rfl
theorem gwfld81_1 (g off : Nat) : ∀ w, (Instr.fieldAt 81 (.pointer (some ⟨g, off, none⟩)) 1).run Try.prog w = .ok (.pointer (some ⟨g, off + 1, none⟩)) w := fun _ => by kernel_rfl
theorem gwinfo5 : (Try.prog.info? 5).map (fun i => (i.zero, i.size, i.bytes)) = some (some (.int .u8 0), 1, 1) := by kernel_rfl
theorem gwsiz28 : ∀ w, (sizeOf 28).run Try.prog w = .ok 1 w := fun _ => by kernel_rfl
theorem gwsiz3 : ∀ w, (sizeOf 3).run Try.prog w = .ok 1 w := fun _ => by kernel_rfl
theorem gwsiz78 : ∀ w, (sizeOf 78).run Try.prog w = .ok 1 w := fun _ => by kernel_rfl
theorem gwzer78 : ∀ w, (zeroValue 78).run Try.prog w = .ok (.pointer none) w := fun _ => by kernel_rfl
set_option maxHeartbeats 4000000 in
set_option maxRecDepth 100000 in
theorem append1 (w0 w : World) (R : Chunk) (gd gm : Nat) (d : PD) (x : XF) (bf by_ bd : Nat) (Ay : Option Addr) (cy : Nat) (y : List Int) (hy : ∀ w1, Own w0 w1 [R] → Kd.C (Kd.int .u8) w1 Ay y.length y) (hcy : y.length ≤ cy) (hroom : x.p.b.length + y.length ≤ 140737488355327) (hu : 0 ≤ d.used ∧ d.used + y.length ≤ 9223372036854775807) (HO : Own w0 w [R, Chunk.blk gd (.cells #[.map (some gm), .int .i64 d.most, .int .i64 d.used, .int .i64 d.fuse, .bool d.down] 76 (0, 0)), Chunk.blk x.g (.cells #[.slice x.A x.p.b.length x.c, .int .i64 x.p.sf] 81 (0, 0)), Chunk.row (Kd.int .u8) 5 w0.heap.size x.S (.slice x.A x.p.b.length x.c) x.p.b, Chunk.blk bf (.cells #[.pointer (some ⟨x.g, 0, none⟩)] 78 (0, 0)), Chunk.blk by_ (.cells #[.slice Ay y.length cy] 28 (0, 0)), Chunk.blk bd (.cells #[.pointer (some ⟨gd, 0, none⟩)] 23 (0, 0))]) :
    Calls Try.prog 43 #[.pointer (some ⟨bf, 0, none⟩), .pointer (some ⟨by_, 0, none⟩), .pointer (some ⟨bd, 0, none⟩)] w fun e w' => e = .returned (.tuple #[]) ∧ ∃ A' c' S', Own w0 w' [R, Chunk.blk x.g (.cells #[.slice A' (x.p.b ++ y).length c', .int .i64 x.p.sf] 81 (0, 0)), Chunk.row (Kd.int .u8) 5 w0.heap.size S' (.slice A' (x.p.b ++ y).length c') (x.p.b ++ y), Chunk.blk gd (.cells (dcells gm { d with used := d.used + (y.length : Int) }) 76 (0, 0))] := by
  refine gw_startO (N := 21) (vs := [.pointer (some ⟨bf, 0, none⟩), .pointer (some ⟨by_, 0, none⟩), .pointer (some ⟨bd, 0, none⟩)]) Try.func43 rfl rfl (by simp) fun a HF => ?_
  refine gw_seq fun K1 hK1 => ?_
  refine gx_draw (M := [R, Chunk.blk gd (.cells #[.map (some gm), .int .i64 d.most, .int .i64 d.used, .int .i64 d.fuse, .bool d.down] 76 (0, 0)), Chunk.blk x.g (.cells #[.slice x.A x.p.b.length x.c, .int .i64 x.p.sf] 81 (0, 0)), Chunk.blk bf (.cells #[.pointer (some ⟨x.g, 0, none⟩)] 78 (0, 0)), Chunk.blk by_ (.cells #[.slice Ay y.length cy] 28 (0, 0)), Chunk.blk bd (.cells #[.pointer (some ⟨gd, 0, none⟩)] 23 (0, 0))]) (fun j_ => j_ == 9) HO (by kernel_rfl) fun w2 HO3 => ?_
  clear HO
  refine gx_take 0 rfl (by kernel_rfl) HF (by exact HO3.sel [0, 1, 2, 4, 5, 6] (by decide)) (want_none rfl) rfl (by decide) (fun wq HO => (op_load1 gwagg78 rfl (HF.ev rfl) (blk_at (HO.get 3 rfl) rfl))) ?_
  intro a4 HF5; clear HF
  refine gx_take 1 rfl (by kernel_rfl) HF5 (by exact HO3.sel [0, 1, 2, 4, 5, 6] (by decide)) (want_none rfl) rfl (by decide) (fun wq HO => (op_load1 gwagg78 rfl (HF5.ev rfl) (blk_at (HO.get 3 rfl) rfl))) ?_
  intro a6 HF7; clear HF5
  refine gx_take 2 rfl (by kernel_rfl) HF7 (by exact HO3.sel [0, 1, 2, 4, 5, 6] (by decide)) (want_none rfl) rfl (by decide) (fun wq HO => (op_nil rfl (HF7.ev rfl))) ?_
  intro a8 HF9; clear HF7
  refine gx_take 3 rfl (by kernel_rfl) HF9 (by exact HO3.sel [0, 1, 2, 4, 5, 6] (by decide)) (want_none rfl) rfl (by decide) (fun wq HO => (op_field (gwfld81_0 _ _) rfl (HF9.ev rfl))) ?_
  intro a10 HF11; clear HF9
  refine gx_take 4 rfl (by kernel_rfl) HF11 (by exact HO3.sel [0, 1, 2, 4, 5, 6] (by decide)) (want_none rfl) rfl (by decide) (fun wq HO => (op_load1 gwagg28 rfl (HF11.ev rfl) (blk_at (HO.get 2 rfl) rfl))) ?_
  intro a12 HF13; clear HF11
  refine gx_take 5 rfl (by kernel_rfl) HF13 (by exact HO3.sel [0, 1, 2, 4, 5, 6] (by decide)) (want_none rfl) rfl (by decide) (fun wq HO => (op_load1 gwagg28 rfl (HF13.ev rfl) (blk_at (HO.get 4 rfl) rfl))) ?_
  intro a14 HF15; clear HF13
  refine gx_step 6 rfl (by kernel_rfl) ?_
  refine gw_append (Kd.int .u8) 3 HF15 HO3 (want_none rfl) rfl (by decide) rfl Try.underlying28 gwinfo5 rfl (by decide) (by decide) rfl (HF15.ev rfl) (HF15.ev rfl) (hy _ (HO3.sel [0] (by decide))) (fun _ _ h => h) HO3.below.size (by first | omega | (simp; omega)) ?_
  intro A16 c17 S18 a19 w20 HF21 HO22; clear HF15 HO3
  have HO23 : Own w0 w20 [R, Chunk.blk gd (.cells #[.map (some gm), .int .i64 d.most, .int .i64 d.used, .int .i64 d.fuse, .bool d.down] 76 (0, 0)), Chunk.blk x.g (.cells #[.slice x.A x.p.b.length x.c, .int .i64 x.p.sf] 81 (0, 0)), Chunk.row (Kd.int .u8) 5 w0.heap.size S18 (.slice A16 ((x.p.b ++ y).length) c17) (x.p.b ++ y), Chunk.blk bf (.cells #[.pointer (some ⟨x.g, 0, none⟩)] 78 (0, 0)), Chunk.blk by_ (.cells #[.slice Ay y.length cy] 28 (0, 0)), Chunk.blk bd (.cells #[.pointer (some ⟨gd, 0, none⟩)] 23 (0, 0))] := HO22
  clear HO22
  refine gx_on (i := 6) (B := (fun j_ => j_ == 9)) (M := [R, Chunk.blk gd (.cells #[.map (some gm), .int .i64 d.most, .int .i64 d.used, .int .i64 d.fuse, .bool d.down] 76 (0, 0)), Chunk.blk x.g (.cells #[.slice x.A x.p.b.length x.c, .int .i64 x.p.sf] 81 (0, 0)), Chunk.blk bf (.cells #[.pointer (some ⟨x.g, 0, none⟩)] 78 (0, 0)), Chunk.blk by_ (.cells #[.slice Ay y.length cy] 28 (0, 0)), Chunk.blk bd (.cells #[.pointer (some ⟨gd, 0, none⟩)] 23 (0, 0))]) (fun _ => (by exact HO23.sel [0, 1, 2, 4, 5, 6] (by decide))) ?_
  refine gx_step 7 rfl (by kernel_rfl) ?_
  refine gw_ev HF21 (want_none rfl) rfl (by decide) (op_nil rfl (HF21.ev rfl)) ?_
  intro a24 HF25; clear HF21
  refine gx_on (i := 7) (B := (fun j_ => j_ == 9)) (M := [R, Chunk.blk gd (.cells #[.map (some gm), .int .i64 d.most, .int .i64 d.used, .int .i64 d.fuse, .bool d.down] 76 (0, 0)), Chunk.blk x.g (.cells #[.slice x.A x.p.b.length x.c, .int .i64 x.p.sf] 81 (0, 0)), Chunk.blk bf (.cells #[.pointer (some ⟨x.g, 0, none⟩)] 78 (0, 0)), Chunk.blk by_ (.cells #[.slice Ay y.length cy] 28 (0, 0)), Chunk.blk bd (.cells #[.pointer (some ⟨gd, 0, none⟩)] 23 (0, 0))]) (fun _ => (by exact HO23.sel [0, 1, 2, 4, 5, 6] (by decide))) ?_
  refine gx_take 8 rfl (by kernel_rfl) HF25 (by exact HO23.sel [0, 1, 2, 4, 5, 6] (by decide)) (want_none rfl) rfl (by decide) (fun wq HO => (op_field (gwfld81_0 _ _) rfl (HF25.ev rfl))) ?_
  intro a26 HF27; clear HF25
  refine gx_step 9 rfl (by kernel_rfl) ?_
  refine gw_set 2 HF27 HO23 rfl (want_none rfl) rfl (op_store1 gwsiz28 rfl (HF27.ev rfl) (HF27.ev rfl) rfl (blk_at (HO23.get 2 rfl) rfl) (blkf (HO23.get 2 rfl))) ?_
  intro a28 w30 HF29 HO31; clear HF27 HO23
  have HO32 : Own w0 w30 [R, Chunk.blk gd (.cells #[.map (some gm), .int .i64 d.most, .int .i64 d.used, .int .i64 d.fuse, .bool d.down] 76 (0, 0)), Chunk.blk x.g (.cells #[.slice A16 ((x.p.b ++ y).length) c17, .int .i64 x.p.sf] 81 (0, 0)), Chunk.row (Kd.int .u8) 5 w0.heap.size S18 (.slice A16 ((x.p.b ++ y).length) c17) (x.p.b ++ y), Chunk.blk bf (.cells #[.pointer (some ⟨x.g, 0, none⟩)] 78 (0, 0)), Chunk.blk by_ (.cells #[.slice Ay y.length cy] 28 (0, 0)), Chunk.blk bd (.cells #[.pointer (some ⟨gd, 0, none⟩)] 23 (0, 0))] := HO31
  clear HO31
  refine gx_on (i := 9) (B := (fun j_ => j_ == 9)) (M := [R, Chunk.blk gd (.cells #[.map (some gm), .int .i64 d.most, .int .i64 d.used, .int .i64 d.fuse, .bool d.down] 76 (0, 0)), Chunk.blk x.g (.cells #[.slice x.A x.p.b.length x.c, .int .i64 x.p.sf] 81 (0, 0)), Chunk.blk bf (.cells #[.pointer (some ⟨x.g, 0, none⟩)] 78 (0, 0)), Chunk.blk by_ (.cells #[.slice Ay y.length cy] 28 (0, 0)), Chunk.blk bd (.cells #[.pointer (some ⟨gd, 0, none⟩)] 23 (0, 0))]) (fun h_ => by cases h_) ?_
  refine gx_done (by kernel_rfl) ?_
  refine gw_nx (hK1 _ _ ?_)
  refine gx_draw (M := [R, Chunk.blk gd (.cells #[.map (some gm), .int .i64 d.most, .int .i64 d.used, .int .i64 d.fuse, .bool d.down] 76 (0, 0)), Chunk.blk x.g (.cells #[.slice A16 ((x.p.b ++ y).length) c17, .int .i64 x.p.sf] 81 (0, 0)), Chunk.row (Kd.int .u8) 5 w0.heap.size S18 (.slice A16 ((x.p.b ++ y).length) c17) (x.p.b ++ y), Chunk.blk bf (.cells #[.pointer (some ⟨x.g, 0, none⟩)] 78 (0, 0)), Chunk.blk by_ (.cells #[.slice Ay y.length cy] 28 (0, 0)), Chunk.blk bd (.cells #[.pointer (some ⟨gd, 0, none⟩)] 23 (0, 0))]) (fun j_ => j_ == 9) HO32 (by kernel_rfl) fun w33 HO34 => ?_
  clear HO32
  refine gx_take 0 rfl (by kernel_rfl) HF29 (by exact HO34.sel [0, 1, 2, 3, 4, 5, 6] (by decide)) (want_none rfl) rfl (by decide) (fun wq HO => (op_load1 gwagg23 rfl (HF29.ev rfl) (blk_at (HO.get 6 rfl) rfl))) ?_
  intro a35 HF36; clear HF29
  refine gx_take 1 rfl (by kernel_rfl) HF36 (by exact HO34.sel [0, 1, 2, 3, 4, 5, 6] (by decide)) (want_none rfl) rfl (by decide) (fun wq HO => (op_nil rfl (HF36.ev rfl))) ?_
  intro a37 HF38; clear HF36
  refine gx_take 2 rfl (by kernel_rfl) HF38 (by exact HO34.sel [0, 1, 2, 3, 4, 5, 6] (by decide)) (want_none rfl) rfl (by decide) (fun wq HO => (op_field (gwfld76_2 _ _) rfl (HF38.ev rfl))) ?_
  intro a39 HF40; clear HF38
  refine gx_take 3 rfl (by kernel_rfl) HF40 (by exact HO34.sel [0, 1, 2, 3, 4, 5, 6] (by decide)) (want_none rfl) rfl (by decide) (fun wq HO => (op_load1 gwagg3 rfl (HF40.ev rfl) (blk_at (HO.get 1 rfl) rfl))) ?_
  intro a41 HF42; clear HF40
  refine gx_take 4 rfl (by kernel_rfl) HF42 (by exact HO34.sel [0, 1, 2, 3, 4, 5, 6] (by decide)) (want_none rfl) rfl (by decide) (fun wq HO => (op_load1 gwagg28 rfl (HF42.ev rfl) (blk_at (HO.get 5 rfl) rfl))) ?_
  intro a43 HF44; clear HF42
  refine gx_take 5 rfl (by kernel_rfl) HF44 (by exact HO34.sel [0, 1, 2, 3, 4, 5, 6] (by decide)) (want_none rfl) rfl (by decide) (fun wq HO => (op_len Try.underlying28 rfl (HF44.ev rfl))) ?_
  intro a45 HF46; clear HF44
  refine gx_take 6 rfl (by kernel_rfl) HF46 (by exact HO34.sel [0, 1, 2, 3, 4, 5, 6] (by decide)) (want_none rfl) rfl (by decide) (fun wq HO => (op_add rfl (HF46.ev rfl) (HF46.ev rfl) (by omega))) ?_
  intro a47 HF48; clear HF46
  refine gx_step 7 rfl (by kernel_rfl) ?_
  refine gw_ev HF48 (want_none rfl) rfl (by decide) (op_nil rfl (HF48.ev rfl)) ?_
  intro a49 HF50; clear HF48
  refine gx_on (i := 7) (B := (fun j_ => j_ == 9)) (M := [R, Chunk.blk gd (.cells #[.map (some gm), .int .i64 d.most, .int .i64 d.used, .int .i64 d.fuse, .bool d.down] 76 (0, 0)), Chunk.blk x.g (.cells #[.slice A16 ((x.p.b ++ y).length) c17, .int .i64 x.p.sf] 81 (0, 0)), Chunk.row (Kd.int .u8) 5 w0.heap.size S18 (.slice A16 ((x.p.b ++ y).length) c17) (x.p.b ++ y), Chunk.blk bf (.cells #[.pointer (some ⟨x.g, 0, none⟩)] 78 (0, 0)), Chunk.blk by_ (.cells #[.slice Ay y.length cy] 28 (0, 0)), Chunk.blk bd (.cells #[.pointer (some ⟨gd, 0, none⟩)] 23 (0, 0))]) (fun _ => (by exact HO34.sel [0, 1, 2, 3, 4, 5, 6] (by decide))) ?_
  refine gx_take 8 rfl (by kernel_rfl) HF50 (by exact HO34.sel [0, 1, 2, 3, 4, 5, 6] (by decide)) (want_none rfl) rfl (by decide) (fun wq HO => (op_field (gwfld76_2 _ _) rfl (HF50.ev rfl))) ?_
  intro a51 HF52; clear HF50
  refine gx_step 9 rfl (by kernel_rfl) ?_
  refine gw_set 1 HF52 HO34 rfl (want_none rfl) rfl (op_store1 gwsiz3 rfl (HF52.ev rfl) (HF52.ev rfl) rfl (blk_at (HO34.get 1 rfl) rfl) (blkf (HO34.get 1 rfl))) ?_
  intro a53 w55 HF54 HO56; clear HF52 HO34
  have HO57 : Own w0 w55 [R, Chunk.blk gd (.cells #[.map (some gm), .int .i64 d.most, .int .i64 (d.used + (y.length : Int)), .int .i64 d.fuse, .bool d.down] 76 (0, 0)), Chunk.blk x.g (.cells #[.slice A16 ((x.p.b ++ y).length) c17, .int .i64 x.p.sf] 81 (0, 0)), Chunk.row (Kd.int .u8) 5 w0.heap.size S18 (.slice A16 ((x.p.b ++ y).length) c17) (x.p.b ++ y), Chunk.blk bf (.cells #[.pointer (some ⟨x.g, 0, none⟩)] 78 (0, 0)), Chunk.blk by_ (.cells #[.slice Ay y.length cy] 28 (0, 0)), Chunk.blk bd (.cells #[.pointer (some ⟨gd, 0, none⟩)] 23 (0, 0))] := HO56
  clear HO56
  refine gx_on (i := 9) (B := (fun j_ => j_ == 9)) (M := [R, Chunk.blk gd (.cells #[.map (some gm), .int .i64 d.most, .int .i64 d.used, .int .i64 d.fuse, .bool d.down] 76 (0, 0)), Chunk.blk x.g (.cells #[.slice A16 ((x.p.b ++ y).length) c17, .int .i64 x.p.sf] 81 (0, 0)), Chunk.row (Kd.int .u8) 5 w0.heap.size S18 (.slice A16 ((x.p.b ++ y).length) c17) (x.p.b ++ y), Chunk.blk bf (.cells #[.pointer (some ⟨x.g, 0, none⟩)] 78 (0, 0)), Chunk.blk by_ (.cells #[.slice Ay y.length cy] 28 (0, 0)), Chunk.blk bd (.cells #[.pointer (some ⟨gd, 0, none⟩)] 23 (0, 0))]) (fun h_ => by cases h_) ?_
  refine gx_done (by kernel_rfl) ?_
  refine gw_end0 HF54 rfl ?_
  exact ⟨rfl, _, _, _, HO57.sel [0, 2, 3, 1] (by decide)⟩
set_option maxHeartbeats 4000000 in
set_option maxRecDepth 100000 in
theorem append_calls (w0 w : World) (R : Chunk) (gd : Nat) (S : Nat → Prop) (d : PD) (nm : ByteArray) (Ay : Option Addr) (cy : Nat) (y : List Int) (hy : ∀ w1, Own w0 w1 [R] → Kd.C (Kd.int .u8) w1 Ay y.length y) (hcy : y.length ≤ cy) (hw : wfD d) (hn : nm.size ≤ 9223372036854775807) (hroom : d.used + y.length ≤ 140737488355327) (HO : Own w0 w [R, Chunk.disk w0.heap.size gd S d]) :
    Calls Try.prog 15 #[.pointer (some ⟨gd, 0, none⟩), .string nm, .slice Ay y.length cy] w fun e w' => e = .returned (.int .i64 (appendD nm y d).2) ∧ ∃ S', Own w0 w' [R, Chunk.disk w0.heap.size gd S' (appendD nm y d).1] := by
  have hu0 := hw.used
  have hm0 := hw.most
  have hfu := hw.fuse
  obtain ⟨gm, xs, hxs, hon, HO⟩ := disk_open2 HO
  refine gw_startO (N := 35) (vs := [.pointer (some ⟨gd, 0, none⟩), .string nm, .slice Ay y.length cy]) Try.func15 rfl rfl (by simp) fun a HF => ?_
  rcases look3 nm d hxs hon with hdn | ⟨hdn, hl, hgd, hno⟩ | ⟨hdn, pre, x, post, rfl, hnm, hl, hgd, hoth⟩
  · skip
    refine gw_seq fun K1 hK1 => ?_
    refine wp_region_lit ?_
    refine gw_new HF HO (want_none rfl) rfl (by decide) (op_box rfl (HF.ev rfl)) ?_
    intro g2 a3 w4 HF5 HO6; clear HF HO
    have HO7 : Own w0 w4 [Chunk.blk g2 (.cells #[.pointer (some ⟨gd, 0, none⟩)] 23 (0, 0)), R, Chunk.blk gd (.cells #[.map (some gm), .int .i64 d.most, .int .i64 d.used, .int .i64 d.fuse, .bool d.down] 76 (0, 0)), Chunk.lmap Try.prog 9 gm (xs.map XF.ent), Chunk.files w0.heap.size xs] := HO6
    clear HO6
    refine gw_new HF5 HO7 (want_none rfl) rfl (by decide) (op_box rfl (HF5.ev rfl)) ?_
    intro g8 a9 w10 HF11 HO12; clear HF5 HO7
    have HO13 : Own w0 w10 [Chunk.blk g8 (.cells #[.slice Ay y.length cy] 28 (0, 0)), Chunk.blk g2 (.cells #[.pointer (some ⟨gd, 0, none⟩)] 23 (0, 0)), R, Chunk.blk gd (.cells #[.map (some gm), .int .i64 d.most, .int .i64 d.used, .int .i64 d.fuse, .bool d.down] 76 (0, 0)), Chunk.lmap Try.prog 9 gm (xs.map XF.ent), Chunk.files w0.heap.size xs] := HO12
    clear HO12
    refine gw_ev HF11 (want_none rfl) rfl (by decide) (op_assign rfl (ev_c _ _)) ?_
    intro a14 HF15; clear HF11
    refine wpList_nil ?_
    refine gw_nx (hK1 _ _ ?_)
    refine gw_seq fun K16 hK16 => ?_
    refine wp_region_lit ?_
    refine gw_ev HF15 (want_none rfl) rfl (by decide) (op_load1 gwagg23 rfl (HF15.ev rfl) (blk_at (HO13.get 1 rfl) rfl)) ?_
    intro a17 HF18; clear HF15
    refine gw_ev HF18 (want_none rfl) rfl (by decide) (op_move rfl (HF18.ev rfl)) ?_
    intro a19 HF20; clear HF18
    refine gw_call HF20 (want_none rfl) rfl (by decide) (op_callL Try.func42 (by kernel_rfl) rfl rfl (ar_cons (HF20.ev rfl) (ar_cons (HF20.ev rfl) ar_nil))) (find_down gd gm d nm (xs.map XF.ent) _ (by exact HO13.get 3 rfl) (HO13.get 4 rfl) hdn hn) ?_
    rintro e21 w22 ⟨rfl, hb23⟩
    refine ⟨_, rfl, fun a24 HF25 => ?_⟩
    have HO26 := HO13.after hb23
    clear HF20 HO13 hb23
    refine gw_ev HF25 (want_none rfl) rfl (by decide) (op_move rfl (HF25.ev rfl)) ?_
    intro a28 HF29; clear HF25
    refine gw_ev HF29 (want_none rfl) rfl (by decide) (op_extract rfl (HF29.ev rfl) rfl) ?_
    intro a30 HF31; clear HF29
    refine gw_ev HF31 (want_none rfl) rfl (by decide) (op_extract rfl (HF31.ev rfl) rfl) ?_
    intro a32 HF33; clear HF31
    refine gw_new HF33 HO26 (want_none rfl) rfl (by decide) (op_alloc gwzer78 rfl) ?_
    intro g34 a35 w36 HF37 HO38; clear HF33 HO26
    have HO39 : Own w0 w36 [Chunk.blk g34 (.cells #[.pointer none] 78 (0, 0)), Chunk.blk g8 (.cells #[.slice Ay y.length cy] 28 (0, 0)), Chunk.blk g2 (.cells #[.pointer (some ⟨gd, 0, none⟩)] 23 (0, 0)), R, Chunk.blk gd (.cells #[.map (some gm), .int .i64 d.most, .int .i64 d.used, .int .i64 d.fuse, .bool d.down] 76 (0, 0)), Chunk.lmap Try.prog 9 gm (xs.map XF.ent), Chunk.files w0.heap.size xs] := HO38
    clear HO38
    refine gw_set 0 HF37 HO39 rfl (want_none rfl) rfl (op_store1 gwsiz78 rfl (HF37.ev rfl) (HF37.ev rfl) rfl (blk_at (HO39.get 0 rfl) rfl) (blkf (HO39.get 0 rfl))) ?_
    intro a40 w42 HF41 HO43; clear HF37 HO39
    have HO44 : Own w0 w42 [Chunk.blk g34 (.cells #[.pointer none] 78 (0, 0)), Chunk.blk g8 (.cells #[.slice Ay y.length cy] 28 (0, 0)), Chunk.blk g2 (.cells #[.pointer (some ⟨gd, 0, none⟩)] 23 (0, 0)), R, Chunk.blk gd (.cells #[.map (some gm), .int .i64 d.most, .int .i64 d.used, .int .i64 d.fuse, .bool d.down] 76 (0, 0)), Chunk.lmap Try.prog 9 gm (xs.map XF.ent), Chunk.files w0.heap.size xs] := HO43
    clear HO43
    refine gw_ev HF41 (want_none rfl) rfl (by decide) (op_assign rfl (HF41.ev rfl)) ?_
    intro a45 HF46; clear HF41
    refine wpList_nil ?_
    refine gw_nx (hK16 _ _ ?_)
    refine gw_seq fun K47 hK47 => ?_
    refine wp_block ?_
    refine gw_seq fun K48 hK48 => ?_
    refine wp_region_lit ?_
    refine gw_ev HF46 (want_none rfl) rfl (by decide) (op_move rfl (HF46.ev rfl)) ?_
    intro a49 HF50; clear HF46
    refine gw_ev HF50 (want_none rfl) rfl (by decide) (op_nei rfl (HF50.ev rfl) (ev_c _ _)) ?_
    intro a51 HF52; clear HF50
    have HF53 := HF52.lit (b := true) (by decide)
    clear HF52
    refine gw_ev HF53 (want_none rfl) rfl (by decide) (op_assign rfl (HF53.ev rfl)) ?_
    intro a54 HF55; clear HF53
    refine wpList_nil ?_
    refine gw_nx (hK48 _ _ ?_)
    refine gw_cond HF55 rfl (fun hb56 => ?_) (fun hb56 => ?_)
    rotate_left
    · cases hb56
    refine gw_seq fun K57 hK57 => ?_
    refine wp_region_lit ?_
    refine gw_ev HF55 (want_none rfl) rfl (by decide) (op_move rfl (HF55.ev rfl)) ?_
    intro a58 HF59; clear HF55
    refine gw_ev HF59 (want_none rfl) rfl (by decide) (op_assign rfl (HF59.ev rfl)) ?_
    intro a60 HF61; clear HF59
    refine wpList_nil ?_
    refine gw_nx (hK57 _ _ ?_)
    refine wp_ret ?_
    refine gw_blr ?_
    refine gw_thr ?_
    refine gw_ret1 HF61 rfl rfl ?_
    exact disk_fin (gd := gd) (gm := gm) (d' := d) (xs := xs) (with_down hdn) hxs (by exact HO44.sel [3, 4, 5, 6] (by decide))
  · skip
    refine gw_seq fun K62 hK62 => ?_
    refine wp_region_lit ?_
    refine gw_new HF HO (want_none rfl) rfl (by decide) (op_box rfl (HF.ev rfl)) ?_
    intro g63 a64 w65 HF66 HO67; clear HF HO
    have HO68 : Own w0 w65 [Chunk.blk g63 (.cells #[.pointer (some ⟨gd, 0, none⟩)] 23 (0, 0)), R, Chunk.blk gd (.cells #[.map (some gm), .int .i64 d.most, .int .i64 d.used, .int .i64 d.fuse, .bool d.down] 76 (0, 0)), Chunk.lmap Try.prog 9 gm (xs.map XF.ent), Chunk.files w0.heap.size xs] := HO67
    clear HO67
    refine gw_new HF66 HO68 (want_none rfl) rfl (by decide) (op_box rfl (HF66.ev rfl)) ?_
    intro g69 a70 w71 HF72 HO73; clear HF66 HO68
    have HO74 : Own w0 w71 [Chunk.blk g69 (.cells #[.slice Ay y.length cy] 28 (0, 0)), Chunk.blk g63 (.cells #[.pointer (some ⟨gd, 0, none⟩)] 23 (0, 0)), R, Chunk.blk gd (.cells #[.map (some gm), .int .i64 d.most, .int .i64 d.used, .int .i64 d.fuse, .bool d.down] 76 (0, 0)), Chunk.lmap Try.prog 9 gm (xs.map XF.ent), Chunk.files w0.heap.size xs] := HO73
    clear HO73
    refine gw_ev HF72 (want_none rfl) rfl (by decide) (op_assign rfl (ev_c _ _)) ?_
    intro a75 HF76; clear HF72
    refine wpList_nil ?_
    refine gw_nx (hK62 _ _ ?_)
    refine gw_seq fun K77 hK77 => ?_
    refine wp_region_lit ?_
    refine gw_ev HF76 (want_none rfl) rfl (by decide) (op_load1 gwagg23 rfl (HF76.ev rfl) (blk_at (HO74.get 1 rfl) rfl)) ?_
    intro a78 HF79; clear HF76
    refine gw_ev HF79 (want_none rfl) rfl (by decide) (op_move rfl (HF79.ev rfl)) ?_
    intro a80 HF81; clear HF79
    refine gw_call HF81 (want_none rfl) rfl (by decide) (op_callL Try.func42 (by kernel_rfl) rfl rfl (ar_cons (HF81.ev rfl) (ar_cons (HF81.ev rfl) ar_nil))) (find_none gd gm d nm (xs.map XF.ent) _ (by exact HO74.get 3 rfl) (HO74.get 4 rfl) hdn hl hn) ?_
    rintro e82 w83 ⟨rfl, hb84⟩
    refine ⟨_, rfl, fun a85 HF86 => ?_⟩
    have HO87 := HO74.after hb84
    clear HF81 HO74 hb84
    refine gw_ev HF86 (want_none rfl) rfl (by decide) (op_move rfl (HF86.ev rfl)) ?_
    intro a89 HF90; clear HF86
    refine gw_ev HF90 (want_none rfl) rfl (by decide) (op_extract rfl (HF90.ev rfl) rfl) ?_
    intro a91 HF92; clear HF90
    refine gw_ev HF92 (want_none rfl) rfl (by decide) (op_extract rfl (HF92.ev rfl) rfl) ?_
    intro a93 HF94; clear HF92
    refine gw_new HF94 HO87 (want_none rfl) rfl (by decide) (op_alloc gwzer78 rfl) ?_
    intro g95 a96 w97 HF98 HO99; clear HF94 HO87
    have HO100 : Own w0 w97 [Chunk.blk g95 (.cells #[.pointer none] 78 (0, 0)), Chunk.blk g69 (.cells #[.slice Ay y.length cy] 28 (0, 0)), Chunk.blk g63 (.cells #[.pointer (some ⟨gd, 0, none⟩)] 23 (0, 0)), R, Chunk.blk gd (.cells #[.map (some gm), .int .i64 d.most, .int .i64 d.used, .int .i64 d.fuse, .bool d.down] 76 (0, 0)), Chunk.lmap Try.prog 9 gm (xs.map XF.ent), Chunk.files w0.heap.size xs] := HO99
    clear HO99
    refine gw_set 0 HF98 HO100 rfl (want_none rfl) rfl (op_store1 gwsiz78 rfl (HF98.ev rfl) (HF98.ev rfl) rfl (blk_at (HO100.get 0 rfl) rfl) (blkf (HO100.get 0 rfl))) ?_
    intro a101 w103 HF102 HO104; clear HF98 HO100
    have HO105 : Own w0 w103 [Chunk.blk g95 (.cells #[.pointer none] 78 (0, 0)), Chunk.blk g69 (.cells #[.slice Ay y.length cy] 28 (0, 0)), Chunk.blk g63 (.cells #[.pointer (some ⟨gd, 0, none⟩)] 23 (0, 0)), R, Chunk.blk gd (.cells #[.map (some gm), .int .i64 d.most, .int .i64 d.used, .int .i64 d.fuse, .bool d.down] 76 (0, 0)), Chunk.lmap Try.prog 9 gm (xs.map XF.ent), Chunk.files w0.heap.size xs] := HO104
    clear HO104
    refine gw_ev HF102 (want_none rfl) rfl (by decide) (op_assign rfl (HF102.ev rfl)) ?_
    intro a106 HF107; clear HF102
    refine wpList_nil ?_
    refine gw_nx (hK77 _ _ ?_)
    refine gw_seq fun K108 hK108 => ?_
    refine wp_block ?_
    refine gw_seq fun K109 hK109 => ?_
    refine wp_region_lit ?_
    refine gw_ev HF107 (want_none rfl) rfl (by decide) (op_move rfl (HF107.ev rfl)) ?_
    intro a110 HF111; clear HF107
    refine gw_ev HF111 (want_none rfl) rfl (by decide) (op_nei rfl (HF111.ev rfl) (ev_c _ _)) ?_
    intro a112 HF113; clear HF111
    have HF114 := HF113.lit (b := true) (by decide)
    clear HF113
    refine gw_ev HF114 (want_none rfl) rfl (by decide) (op_assign rfl (HF114.ev rfl)) ?_
    intro a115 HF116; clear HF114
    refine wpList_nil ?_
    refine gw_nx (hK109 _ _ ?_)
    refine gw_cond HF116 rfl (fun hb117 => ?_) (fun hb117 => ?_)
    rotate_left
    · cases hb117
    refine gw_seq fun K118 hK118 => ?_
    refine wp_region_lit ?_
    refine gw_ev HF116 (want_none rfl) rfl (by decide) (op_move rfl (HF116.ev rfl)) ?_
    intro a119 HF120; clear HF116
    refine gw_ev HF120 (want_none rfl) rfl (by decide) (op_assign rfl (HF120.ev rfl)) ?_
    intro a121 HF122; clear HF120
    refine wpList_nil ?_
    refine gw_nx (hK118 _ _ ?_)
    refine wp_ret ?_
    refine gw_blr ?_
    refine gw_thr ?_
    refine gw_ret1 HF122 rfl rfl ?_
    exact disk_fin (gd := gd) (gm := gm) (d' := d) (xs := xs) (with_none hdn hgd) hxs (by exact HO105.sel [3, 4, 5, 6] (by decide))
  · skip
    have HO := Own.sel (Own.file_open (Own.sel HO [3, 0, 1, 2] (by decide))) [3, 4, 5, 0, 1, 2] (by decide)
    have hxl := wf_len hw (getF_mem hgd).1
    have hxs1 := hw.sf _ (getF_mem hgd).1
    have HO123 : Own w0 w [R, Chunk.blk gd (.cells #[.map (some gm), .int .i64 d.most, .int .i64 d.used, .int .i64 d.fuse, .bool d.down] 76 (0, 0)), Chunk.lmap Try.prog 9 gm ((pre ++ x :: post).map XF.ent), Chunk.blk x.g (.cells #[.slice x.A x.p.b.length x.c, .int .i64 x.p.sf] 81 (0, 0)), Chunk.row (Kd.int .u8) 5 w0.heap.size x.S (.slice x.A x.p.b.length x.c) x.p.b, Chunk.files w0.heap.size (pre ++ post)] := HO
    clear HO
    refine gw_seq fun K124 hK124 => ?_
    refine wp_region_lit ?_
    refine gw_new HF HO123 (want_none rfl) rfl (by decide) (op_box rfl (HF.ev rfl)) ?_
    intro g125 a126 w127 HF128 HO129; clear HF HO123
    have HO130 : Own w0 w127 [Chunk.blk g125 (.cells #[.pointer (some ⟨gd, 0, none⟩)] 23 (0, 0)), R, Chunk.blk gd (.cells #[.map (some gm), .int .i64 d.most, .int .i64 d.used, .int .i64 d.fuse, .bool d.down] 76 (0, 0)), Chunk.lmap Try.prog 9 gm ((pre ++ x :: post).map XF.ent), Chunk.blk x.g (.cells #[.slice x.A x.p.b.length x.c, .int .i64 x.p.sf] 81 (0, 0)), Chunk.row (Kd.int .u8) 5 w0.heap.size x.S (.slice x.A x.p.b.length x.c) x.p.b, Chunk.files w0.heap.size (pre ++ post)] := HO129
    clear HO129
    refine gw_new HF128 HO130 (want_none rfl) rfl (by decide) (op_box rfl (HF128.ev rfl)) ?_
    intro g131 a132 w133 HF134 HO135; clear HF128 HO130
    have HO136 : Own w0 w133 [Chunk.blk g131 (.cells #[.slice Ay y.length cy] 28 (0, 0)), Chunk.blk g125 (.cells #[.pointer (some ⟨gd, 0, none⟩)] 23 (0, 0)), R, Chunk.blk gd (.cells #[.map (some gm), .int .i64 d.most, .int .i64 d.used, .int .i64 d.fuse, .bool d.down] 76 (0, 0)), Chunk.lmap Try.prog 9 gm ((pre ++ x :: post).map XF.ent), Chunk.blk x.g (.cells #[.slice x.A x.p.b.length x.c, .int .i64 x.p.sf] 81 (0, 0)), Chunk.row (Kd.int .u8) 5 w0.heap.size x.S (.slice x.A x.p.b.length x.c) x.p.b, Chunk.files w0.heap.size (pre ++ post)] := HO135
    clear HO135
    refine gw_ev HF134 (want_none rfl) rfl (by decide) (op_assign rfl (ev_c _ _)) ?_
    intro a137 HF138; clear HF134
    refine wpList_nil ?_
    refine gw_nx (hK124 _ _ ?_)
    refine gw_seq fun K139 hK139 => ?_
    refine wp_region_lit ?_
    refine gw_ev HF138 (want_none rfl) rfl (by decide) (op_load1 gwagg23 rfl (HF138.ev rfl) (blk_at (HO136.get 1 rfl) rfl)) ?_
    intro a140 HF141; clear HF138
    refine gw_ev HF141 (want_none rfl) rfl (by decide) (op_move rfl (HF141.ev rfl)) ?_
    intro a142 HF143; clear HF141
    refine gw_call HF143 (want_none rfl) rfl (by decide) (op_callL Try.func42 (by kernel_rfl) rfl rfl (ar_cons (HF143.ev rfl) (ar_cons (HF143.ev rfl) ar_nil))) (find_some gd gm d nm ((pre ++ x :: post).map XF.ent) x.g _ (by exact HO136.get 3 rfl) (HO136.get 4 rfl) hdn hl hn) ?_
    rintro e144 w145 ⟨rfl, hb146⟩
    refine ⟨_, rfl, fun a147 HF148 => ?_⟩
    have HO149 := HO136.after hb146
    clear HF143 HO136 hb146
    refine gw_ev HF148 (want_none rfl) rfl (by decide) (op_move rfl (HF148.ev rfl)) ?_
    intro a151 HF152; clear HF148
    refine gw_ev HF152 (want_none rfl) rfl (by decide) (op_extract rfl (HF152.ev rfl) rfl) ?_
    intro a153 HF154; clear HF152
    refine gw_ev HF154 (want_none rfl) rfl (by decide) (op_extract rfl (HF154.ev rfl) rfl) ?_
    intro a155 HF156; clear HF154
    refine gw_new HF156 HO149 (want_none rfl) rfl (by decide) (op_alloc gwzer78 rfl) ?_
    intro g157 a158 w159 HF160 HO161; clear HF156 HO149
    have HO162 : Own w0 w159 [Chunk.blk g157 (.cells #[.pointer none] 78 (0, 0)), Chunk.blk g131 (.cells #[.slice Ay y.length cy] 28 (0, 0)), Chunk.blk g125 (.cells #[.pointer (some ⟨gd, 0, none⟩)] 23 (0, 0)), R, Chunk.blk gd (.cells #[.map (some gm), .int .i64 d.most, .int .i64 d.used, .int .i64 d.fuse, .bool d.down] 76 (0, 0)), Chunk.lmap Try.prog 9 gm ((pre ++ x :: post).map XF.ent), Chunk.blk x.g (.cells #[.slice x.A x.p.b.length x.c, .int .i64 x.p.sf] 81 (0, 0)), Chunk.row (Kd.int .u8) 5 w0.heap.size x.S (.slice x.A x.p.b.length x.c) x.p.b, Chunk.files w0.heap.size (pre ++ post)] := HO161
    clear HO161
    refine gw_set 0 HF160 HO162 rfl (want_none rfl) rfl (op_store1 gwsiz78 rfl (HF160.ev rfl) (HF160.ev rfl) rfl (blk_at (HO162.get 0 rfl) rfl) (blkf (HO162.get 0 rfl))) ?_
    intro a163 w165 HF164 HO166; clear HF160 HO162
    have HO167 : Own w0 w165 [Chunk.blk g157 (.cells #[.pointer (some ⟨x.g, 0, none⟩)] 78 (0, 0)), Chunk.blk g131 (.cells #[.slice Ay y.length cy] 28 (0, 0)), Chunk.blk g125 (.cells #[.pointer (some ⟨gd, 0, none⟩)] 23 (0, 0)), R, Chunk.blk gd (.cells #[.map (some gm), .int .i64 d.most, .int .i64 d.used, .int .i64 d.fuse, .bool d.down] 76 (0, 0)), Chunk.lmap Try.prog 9 gm ((pre ++ x :: post).map XF.ent), Chunk.blk x.g (.cells #[.slice x.A x.p.b.length x.c, .int .i64 x.p.sf] 81 (0, 0)), Chunk.row (Kd.int .u8) 5 w0.heap.size x.S (.slice x.A x.p.b.length x.c) x.p.b, Chunk.files w0.heap.size (pre ++ post)] := HO166
    clear HO166
    refine gw_ev HF164 (want_none rfl) rfl (by decide) (op_assign rfl (HF164.ev rfl)) ?_
    intro a168 HF169; clear HF164
    refine wpList_nil ?_
    refine gw_nx (hK139 _ _ ?_)
    refine gw_seq fun K170 hK170 => ?_
    refine wp_block ?_
    refine gw_seq fun K171 hK171 => ?_
    refine wp_region_lit ?_
    refine gw_ev HF169 (want_none rfl) rfl (by decide) (op_move rfl (HF169.ev rfl)) ?_
    intro a172 HF173; clear HF169
    refine gw_ev HF173 (want_none rfl) rfl (by decide) (op_nei rfl (HF173.ev rfl) (ev_c _ _)) ?_
    intro a174 HF175; clear HF173
    have HF176 := HF175.lit (b := false) (by decide)
    clear HF175
    refine gw_ev HF176 (want_none rfl) rfl (by decide) (op_assign rfl (HF176.ev rfl)) ?_
    intro a177 HF178; clear HF176
    refine wpList_nil ?_
    refine gw_nx (hK171 _ _ ?_)
    refine gw_cond HF178 rfl (fun hb179 => ?_) (fun hb179 => ?_)
    skip
    · cases hb179
    refine gw_seq fun K180 hK180 => ?_
    refine gw_drawB HO167 (by kernel_rfl) (by kernel_rfl) fun w181 HO182 => ?_
    clear HO167
    refine gq_ev HF178 (want_none rfl) rfl (by decide) (fun wq hq => have HO := HO182.after hq; (op_load1 gwagg28 rfl (HF178.ev rfl) (blk_at (HO.get 1 rfl) rfl))) ?_
    intro a183 HF184; clear HF178
    refine gq_ev HF184 (want_none rfl) rfl (by decide) (fun wq hq => have HO := HO182.after hq; (op_len Try.underlying28 rfl (HF184.ev rfl))) ?_
    intro a185 HF186; clear HF184
    refine gq_ev HF186 (want_none rfl) rfl (by decide) (fun wq hq => have HO := HO182.after hq; (op_load1 gwagg23 rfl (HF186.ev rfl) (blk_at (HO.get 2 rfl) rfl))) ?_
    intro a187 HF188; clear HF186
    refine gq_ev HF188 (want_none rfl) rfl (by decide) (fun wq hq => have HO := HO182.after hq; (op_nil rfl (HF188.ev rfl))) ?_
    intro a189 HF190; clear HF188
    refine gq_ev HF190 (want_none rfl) rfl (by decide) (fun wq hq => have HO := HO182.after hq; (op_field (gwfld76_1 _ _) rfl (HF190.ev rfl))) ?_
    intro a191 HF192; clear HF190
    refine gq_ev HF192 (want_none rfl) rfl (by decide) (fun wq hq => have HO := HO182.after hq; (op_load1 gwagg3 rfl (HF192.ev rfl) (blk_at (HO.get 4 rfl) rfl))) ?_
    intro a193 HF194; clear HF192
    refine gq_ev HF194 (want_none rfl) rfl (by decide) (fun wq hq => have HO := HO182.after hq; (op_load1 gwagg23 rfl (HF194.ev rfl) (blk_at (HO.get 2 rfl) rfl))) ?_
    intro a195 HF196; clear HF194
    refine gq_ev HF196 (want_none rfl) rfl (by decide) (fun wq hq => have HO := HO182.after hq; (op_nil rfl (HF196.ev rfl))) ?_
    intro a197 HF198; clear HF196
    refine gq_ev HF198 (want_none rfl) rfl (by decide) (fun wq hq => have HO := HO182.after hq; (op_field (gwfld76_2 _ _) rfl (HF198.ev rfl))) ?_
    intro a199 HF200; clear HF198
    refine gq_ev HF200 (want_none rfl) rfl (by decide) (fun wq hq => have HO := HO182.after hq; (op_load1 gwagg3 rfl (HF200.ev rfl) (blk_at (HO.get 4 rfl) rfl))) ?_
    intro a201 HF202; clear HF200
    refine gq_ev HF202 (want_none rfl) rfl (by decide) (fun wq hq => have HO := HO182.after hq; (op_sub rfl (HF202.ev rfl) (HF202.ev rfl) (by omega))) ?_
    intro a203 HF204; clear HF202
    refine gq_ev HF204 (want_none rfl) rfl (by decide) (fun wq hq => have HO := HO182.after hq; (op_gtr rfl (HF204.ev rfl) (HF204.ev rfl))) ?_
    intro a205 HF206; clear HF204
    refine gq_ev HF206 (want_none rfl) rfl (by decide) (fun wq hq => have HO := HO182.after hq; (op_assign rfl (HF206.ev rfl))) ?_
    intro a207 HF208; clear HF206
    refine wpQuiet_nil ?_
    intro w209 hq
    have HO210 := HO182.after hq
    clear HO182 hq
    refine gw_nx (hK180 _ _ ?_)
    refine gw_cond HF208 rfl (fun hb211 => ?_) (fun hb211 => ?_)
    · skip
      have HF212 := HF208.subst_ (d := 19) (b := true) rfl hb211
      clear HF208
      (try simp only [Bool.and_eq_true, Bool.or_eq_true, Bool.and_eq_false_iff, Bool.or_eq_false_iff, Bool.not_and, Bool.not_or, Bool.not_not, decide_eq_true_eq, decide_eq_false_iff_not, Bool.not_eq_true', Bool.not_eq_false', Bool.not_eq_true, Bool.not_eq_false, ne_eq, Decidable.not_not, Int.not_lt, Int.not_le, not_true_eq_false, not_false_eq_true, bne_iff_ne, beq_iff_eq, bne_eq_false_iff_eq, beq_eq_false_iff_ne] at hb211)
      refine gw_seq fun K213 hK213 => ?_
      refine wp_region_lit ?_
      refine gw_ev HF212 (want_none rfl) rfl (by decide) (op_assign rfl (ev_c _ _)) ?_
      intro a214 HF215; clear HF212
      refine wpList_nil ?_
      refine gw_nx (hK213 _ _ ?_)
      refine wp_ret ?_
      refine gw_blr ?_
      refine gw_thr ?_
      refine gw_ret1 HF215 rfl rfl ?_
      have HO216 := Own.file_close (x := x) (pre := pre) (post := post) (by exact HO210.sel [6, 7, 8, 0, 1, 2, 3, 4, 5] (by decide))
      exact disk_fin (gd := gd) (gm := gm) (d' := d) (xs := pre ++ x :: post) (append_full hdn hgd (by omega)) hxs (by exact HO216.sel [4, 5, 6, 0] (by decide))
    · skip
      have HF217 := HF208.subst_ (d := 19) (b := false) rfl hb211
      clear HF208
      (try simp only [Bool.and_eq_true, Bool.or_eq_true, Bool.and_eq_false_iff, Bool.or_eq_false_iff, Bool.not_and, Bool.not_or, Bool.not_not, decide_eq_true_eq, decide_eq_false_iff_not, Bool.not_eq_true', Bool.not_eq_false', Bool.not_eq_true, Bool.not_eq_false, ne_eq, Decidable.not_not, Int.not_lt, Int.not_le, not_true_eq_false, not_false_eq_true, bne_iff_ne, beq_iff_eq, bne_eq_false_iff_eq, beq_eq_false_iff_ne] at hb211)
      refine wp_skip ?_
      refine gw_blk ?_
      refine gw_nx (hK170 _ _ ?_)
      refine gw_seq fun K218 hK218 => ?_
      refine wp_region_lit ?_
      refine gw_ev HF217 (want_none rfl) rfl (by decide) (op_load1 gwagg23 rfl (HF217.ev rfl) (blk_at (HO210.get 2 rfl) rfl)) ?_
      intro a219 HF220; clear HF217
      refine gw_ev HF220 (want_none rfl) rfl (by decide) (op_func rfl (ar_cons (HF220.ev rfl) (ar_cons (HF220.ev rfl) (ar_cons (HF220.ev rfl) ar_nil)))) ?_
      intro a221 HF222; clear HF220
      have HO229 : Own w0 _ [(Chunk.all [Chunk.blk g157 (.cells #[.pointer (some ⟨x.g, 0, none⟩)] 78 (0, 0)), Chunk.blk g131 (.cells #[.slice Ay y.length cy] 28 (0, 0)), Chunk.blk g125 (.cells #[.pointer (some ⟨gd, 0, none⟩)] 23 (0, 0)), R, Chunk.lmap Try.prog 9 gm ((pre ++ x :: post).map XF.ent), Chunk.blk x.g (.cells #[.slice x.A x.p.b.length x.c, .int .i64 x.p.sf] 81 (0, 0)), Chunk.row (Kd.int .u8) 5 w0.heap.size x.S (.slice x.A x.p.b.length x.c) x.p.b, Chunk.files w0.heap.size (pre ++ post)]), Chunk.blk gd (.cells #[.map (some gm), .int .i64 d.most, .int .i64 d.used, .int .i64 d.fuse, .bool d.down] 76 (0, 0))] := Own.bundle (A := [Chunk.blk g157 (.cells #[.pointer (some ⟨x.g, 0, none⟩)] 78 (0, 0)), Chunk.blk g131 (.cells #[.slice Ay y.length cy] 28 (0, 0)), Chunk.blk g125 (.cells #[.pointer (some ⟨gd, 0, none⟩)] 23 (0, 0)), R, Chunk.lmap Try.prog 9 gm ((pre ++ x :: post).map XF.ent), Chunk.blk x.g (.cells #[.slice x.A x.p.b.length x.c, .int .i64 x.p.sf] 81 (0, 0)), Chunk.row (Kd.int .u8) 5 w0.heap.size x.S (.slice x.A x.p.b.length x.c) x.p.b, Chunk.files w0.heap.size (pre ++ post)]) (L := [Chunk.blk gd (.cells #[.map (some gm), .int .i64 d.most, .int .i64 d.used, .int .i64 d.fuse, .bool d.down] 76 (0, 0))]) (HO210.sel [0, 1, 2, 3, 5, 6, 7, 8, 4] (by decide))
      refine gw_call HF222 (want_none rfl) rfl (by decide) (op_callL Try.func40 (by kernel_rfl) rfl rfl (ar_cons (HF222.ev rfl) (ar_cons (HF222.ev rfl) ar_nil))) (step_calls w0 _ (Chunk.all [Chunk.blk g157 (.cells #[.pointer (some ⟨x.g, 0, none⟩)] 78 (0, 0)), Chunk.blk g131 (.cells #[.slice Ay y.length cy] 28 (0, 0)), Chunk.blk g125 (.cells #[.pointer (some ⟨gd, 0, none⟩)] 23 (0, 0)), R, Chunk.lmap Try.prog 9 gm ((pre ++ x :: post).map XF.ent), Chunk.blk x.g (.cells #[.slice x.A x.p.b.length x.c, .int .i64 x.p.sf] 81 (0, 0)), Chunk.row (Kd.int .u8) 5 w0.heap.size x.S (.slice x.A x.p.b.length x.c) x.p.b, Chunk.files w0.heap.size (pre ++ post)]) gd gm d 43 _ [.pointer (some ⟨g157, 0, none⟩), .pointer (some ⟨g131, 0, none⟩), .pointer (some ⟨g125, 0, none⟩)] (fun w_ => ∃ A' c' S', Own w0 w_ [(Chunk.all [R, Chunk.lmap Try.prog 9 gm ((pre ++ x :: post).map XF.ent), Chunk.files w0.heap.size (pre ++ post)]), Chunk.blk x.g (.cells #[.slice A' ((x.p.b ++ y).length) c', .int .i64 x.p.sf] 81 (0, 0)), Chunk.row (Kd.int .u8) 5 w0.heap.size S' (.slice A' ((x.p.b ++ y).length) c') (x.p.b ++ y), Chunk.blk gd (.cells #[.map (some gm), .int .i64 (({ d with fuse := decF d.fuse } : PD).most), .int .i64 (d.used + (y.length : Int)), .int .i64 (({ d with fuse := decF d.fuse } : PD).fuse), .bool (({ d with fuse := decF d.fuse } : PD).down)] 76 (0, 0))]) Try.func43 (by kernel_rfl) rfl hfu (fun hf1 w1 h_ => append1 w0 w1 (Chunk.all [R, Chunk.lmap Try.prog 9 gm ((pre ++ x :: post).map XF.ent), Chunk.files w0.heap.size (pre ++ post)]) gd gm ({ d with fuse := decF d.fuse } : PD) x g157 g131 g125 Ay cy y (fun w_ h_ => hy w_ ((Own.unbundle (A := [R, Chunk.lmap Try.prog 9 gm ((pre ++ x :: post).map XF.ent), Chunk.files w0.heap.size (pre ++ post)]) (L := []) (by exact h_)).sel [0] (by decide))) hcy (by omega) (by show 0 ≤ d.used ∧ d.used + (y.length : Int) ≤ _; omega) (Own.bundle (A := [R, Chunk.lmap Try.prog 9 gm ((pre ++ x :: post).map XF.ent), Chunk.files w0.heap.size (pre ++ post)]) (L := [Chunk.blk gd (.cells #[.map (some gm), .int .i64 (({ d with fuse := decF d.fuse } : PD).most), .int .i64 (({ d with fuse := decF d.fuse } : PD).used), .int .i64 (({ d with fuse := decF d.fuse } : PD).fuse), .bool (({ d with fuse := decF d.fuse } : PD).down)] 76 (0, 0)), Chunk.blk x.g (.cells #[.slice x.A x.p.b.length x.c, .int .i64 x.p.sf] 81 (0, 0)), Chunk.row (Kd.int .u8) 5 w0.heap.size x.S (.slice x.A x.p.b.length x.c) x.p.b, Chunk.blk g157 (.cells #[.pointer (some ⟨x.g, 0, none⟩)] 78 (0, 0)), Chunk.blk g131 (.cells #[.slice Ay y.length cy] 28 (0, 0)), Chunk.blk g125 (.cells #[.pointer (some ⟨gd, 0, none⟩)] 23 (0, 0))]) ((Own.unbundle (A := [Chunk.blk g157 (.cells #[.pointer (some ⟨x.g, 0, none⟩)] 78 (0, 0)), Chunk.blk g131 (.cells #[.slice Ay y.length cy] 28 (0, 0)), Chunk.blk g125 (.cells #[.pointer (some ⟨gd, 0, none⟩)] 23 (0, 0)), R, Chunk.lmap Try.prog 9 gm ((pre ++ x :: post).map XF.ent), Chunk.blk x.g (.cells #[.slice x.A x.p.b.length x.c, .int .i64 x.p.sf] 81 (0, 0)), Chunk.row (Kd.int .u8) 5 w0.heap.size x.S (.slice x.A x.p.b.length x.c) x.p.b, Chunk.files w0.heap.size (pre ++ post)]) (L := [Chunk.blk gd (.cells #[.map (some gm), .int .i64 (({ d with fuse := decF d.fuse } : PD).most), .int .i64 (({ d with fuse := decF d.fuse } : PD).used), .int .i64 (({ d with fuse := decF d.fuse } : PD).fuse), .bool (({ d with fuse := decF d.fuse } : PD).down)] 76 (0, 0))]) (by exact h_)).sel [3, 4, 7, 8, 5, 6, 0, 1, 2] (by decide)))) (by exact HO229)) ?_
      rintro e223 w224 (⟨hf1, rfl, hb225⟩ | ⟨hf1, rfl, ⟨A', c', S', hb225⟩⟩)
      · skip
        refine ⟨_, rfl, fun a226 HF227 => ?_⟩
        have HO228 : Own w0 w224 [Chunk.blk g157 (.cells #[.pointer (some ⟨x.g, 0, none⟩)] 78 (0, 0)), Chunk.blk g131 (.cells #[.slice Ay y.length cy] 28 (0, 0)), Chunk.blk g125 (.cells #[.pointer (some ⟨gd, 0, none⟩)] 23 (0, 0)), R, Chunk.lmap Try.prog 9 gm ((pre ++ x :: post).map XF.ent), Chunk.blk x.g (.cells #[.slice x.A x.p.b.length x.c, .int .i64 x.p.sf] 81 (0, 0)), Chunk.row (Kd.int .u8) 5 w0.heap.size x.S (.slice x.A x.p.b.length x.c) x.p.b, Chunk.files w0.heap.size (pre ++ post), Chunk.blk gd (.cells #[.map (some gm), .int .i64 d.most, .int .i64 d.used, .int .i64 0, .bool true] 76 (0, 0))] := Own.unbundle (A := [Chunk.blk g157 (.cells #[.pointer (some ⟨x.g, 0, none⟩)] 78 (0, 0)), Chunk.blk g131 (.cells #[.slice Ay y.length cy] 28 (0, 0)), Chunk.blk g125 (.cells #[.pointer (some ⟨gd, 0, none⟩)] 23 (0, 0)), R, Chunk.lmap Try.prog 9 gm ((pre ++ x :: post).map XF.ent), Chunk.blk x.g (.cells #[.slice x.A x.p.b.length x.c, .int .i64 x.p.sf] 81 (0, 0)), Chunk.row (Kd.int .u8) 5 w0.heap.size x.S (.slice x.A x.p.b.length x.c) x.p.b, Chunk.files w0.heap.size (pre ++ post)]) (L := [Chunk.blk gd (.cells #[.map (some gm), .int .i64 d.most, .int .i64 d.used, .int .i64 0, .bool true] 76 (0, 0))]) (by exact hb225)
        clear HO229 hb225
        clear HF222 HO210
        refine gw_ev HF227 (want_none rfl) rfl (by decide) (op_assign rfl (HF227.ev rfl)) ?_
        intro a230 HF231; clear HF227
        refine wpList_nil ?_
        refine gw_nx (hK218 _ _ ?_)
        refine wp_ret ?_
        refine gw_ret1 HF231 rfl rfl ?_
        have HO232 := Own.file_close (x := x) (pre := pre) (post := post) (by exact HO228.sel [5, 6, 7, 0, 1, 2, 3, 4, 8] (by decide))
        exact disk_fin (gd := gd) (gm := gm) (d' := { d with fuse := 0, down := true }) (xs := pre ++ x :: post) ((append_go hdn hgd (by omega)).trans (step_off hf1)) hxs (by exact HO232.sel [4, 6, 5, 0] (by decide))
      · skip
        refine ⟨_, rfl, fun a226 HF227 => ?_⟩
        have HO228 : Own w0 w224 [R, Chunk.lmap Try.prog 9 gm ((pre ++ x :: post).map XF.ent), Chunk.files w0.heap.size (pre ++ post), Chunk.blk x.g (.cells #[.slice A' ((x.p.b ++ y).length) c', .int .i64 x.p.sf] 81 (0, 0)), Chunk.row (Kd.int .u8) 5 w0.heap.size S' (.slice A' ((x.p.b ++ y).length) c') (x.p.b ++ y), Chunk.blk gd (.cells #[.map (some gm), .int .i64 (({ d with fuse := decF d.fuse } : PD).most), .int .i64 (d.used + (y.length : Int)), .int .i64 (({ d with fuse := decF d.fuse } : PD).fuse), .bool (({ d with fuse := decF d.fuse } : PD).down)] 76 (0, 0))] := Own.unbundle (A := [R, Chunk.lmap Try.prog 9 gm ((pre ++ x :: post).map XF.ent), Chunk.files w0.heap.size (pre ++ post)]) (L := [Chunk.blk x.g (.cells #[.slice A' ((x.p.b ++ y).length) c', .int .i64 x.p.sf] 81 (0, 0)), Chunk.row (Kd.int .u8) 5 w0.heap.size S' (.slice A' ((x.p.b ++ y).length) c') (x.p.b ++ y), Chunk.blk gd (.cells #[.map (some gm), .int .i64 (({ d with fuse := decF d.fuse } : PD).most), .int .i64 (d.used + (y.length : Int)), .int .i64 (({ d with fuse := decF d.fuse } : PD).fuse), .bool (({ d with fuse := decF d.fuse } : PD).down)] 76 (0, 0))]) hb225
        clear HO229 hb225
        clear HF222 HO210
        refine gw_ev HF227 (want_none rfl) rfl (by decide) (op_assign rfl (HF227.ev rfl)) ?_
        intro a233 HF234; clear HF227
        refine wpList_nil ?_
        refine gw_nx (hK218 _ _ ?_)
        refine wp_ret ?_
        refine gw_ret1 HF234 rfl rfl ?_
        have HO235 := Own.file_close (x := (⟨⟨x.p.nm, x.p.b ++ y, x.p.sf⟩, x.g, A', c', S'⟩ : XF)) (pre := pre) (post := post) (by exact HO228.sel [3, 4, 2, 0, 1, 5] (by decide))
        have el_ : (pre ++ x :: post).map XF.ent = (pre ++ (⟨⟨x.p.nm, x.p.b ++ y, x.p.sf⟩, x.g, A', c', S'⟩ : XF) :: post).map XF.ent := by simp [XF.ent]
        rw [el_] at HO235
        exact disk_fin (gd := gd) (gm := gm) (d' := _) (xs := pre ++ (⟨⟨x.p.nm, x.p.b ++ y, x.p.sf⟩, x.g, A', c', S'⟩ : XF) :: post) ((append_go hdn hgd (by omega)).trans (step_on hf1 hfu.1)) (by show _ = updF nm _ d.fs; rw [← hxs, upd_mid hnm hoth]; simp) (by exact HO235.sel [1, 3, 2, 0] (by decide))
set_option maxHeartbeats 4000000 in
set_option maxRecDepth 100000 in
theorem sync1 (w0 w : World) (R : Chunk) (gd gm : Nat) (d : PD) (x : XF) (bf : Nat) (HO : Own w0 w [R, Chunk.blk gd (.cells #[.map (some gm), .int .i64 d.most, .int .i64 d.used, .int .i64 d.fuse, .bool d.down] 76 (0, 0)), Chunk.blk x.g (.cells #[.slice x.A x.p.b.length x.c, .int .i64 x.p.sf] 81 (0, 0)), Chunk.blk bf (.cells #[.pointer (some ⟨x.g, 0, none⟩)] 78 (0, 0))]) :
    Calls Try.prog 44 #[.pointer (some ⟨bf, 0, none⟩)] w fun e w' => e = .returned (.tuple #[]) ∧ Own w0 w' [R, Chunk.blk x.g (.cells #[.slice x.A (x.p.b).length x.c, .int .i64 (x.p.b.length : Int)] 81 (0, 0)), Chunk.blk gd (.cells (dcells gm d) 76 (0, 0))] := by
  refine gw_startO (N := 9) (vs := [.pointer (some ⟨bf, 0, none⟩)]) Try.func44 rfl rfl (by simp) fun a HF => ?_
  refine gx_draw (M := [R, Chunk.blk gd (.cells #[.map (some gm), .int .i64 d.most, .int .i64 d.used, .int .i64 d.fuse, .bool d.down] 76 (0, 0)), Chunk.blk x.g (.cells #[.slice x.A x.p.b.length x.c, .int .i64 x.p.sf] 81 (0, 0)), Chunk.blk bf (.cells #[.pointer (some ⟨x.g, 0, none⟩)] 78 (0, 0))]) (fun j_ => j_ == 8) HO (by kernel_rfl) fun w1 HO2 => ?_
  clear HO
  refine gx_take 0 rfl (by kernel_rfl) HF (by exact HO2.sel [0, 1, 2, 3] (by decide)) (want_none rfl) rfl (by decide) (fun wq HO => (op_load1 gwagg78 rfl (HF.ev rfl) (blk_at (HO.get 3 rfl) rfl))) ?_
  intro a3 HF4; clear HF
  refine gx_take 1 rfl (by kernel_rfl) HF4 (by exact HO2.sel [0, 1, 2, 3] (by decide)) (want_none rfl) rfl (by decide) (fun wq HO => (op_load1 gwagg78 rfl (HF4.ev rfl) (blk_at (HO.get 3 rfl) rfl))) ?_
  intro a5 HF6; clear HF4
  refine gx_take 2 rfl (by kernel_rfl) HF6 (by exact HO2.sel [0, 1, 2, 3] (by decide)) (want_none rfl) rfl (by decide) (fun wq HO => (op_nil rfl (HF6.ev rfl))) ?_
  intro a7 HF8; clear HF6
  refine gx_take 3 rfl (by kernel_rfl) HF8 (by exact HO2.sel [0, 1, 2, 3] (by decide)) (want_none rfl) rfl (by decide) (fun wq HO => (op_field (gwfld81_0 _ _) rfl (HF8.ev rfl))) ?_
  intro a9 HF10; clear HF8
  refine gx_take 4 rfl (by kernel_rfl) HF10 (by exact HO2.sel [0, 1, 2, 3] (by decide)) (want_none rfl) rfl (by decide) (fun wq HO => (op_load1 gwagg28 rfl (HF10.ev rfl) (blk_at (HO.get 2 rfl) rfl))) ?_
  intro a11 HF12; clear HF10
  refine gx_take 5 rfl (by kernel_rfl) HF12 (by exact HO2.sel [0, 1, 2, 3] (by decide)) (want_none rfl) rfl (by decide) (fun wq HO => (op_len Try.underlying28 rfl (HF12.ev rfl))) ?_
  intro a13 HF14; clear HF12
  refine gx_step 6 rfl (by kernel_rfl) ?_
  refine gw_ev HF14 (want_none rfl) rfl (by decide) (op_nil rfl (HF14.ev rfl)) ?_
  intro a15 HF16; clear HF14
  refine gx_on (i := 6) (B := (fun j_ => j_ == 8)) (M := [R, Chunk.blk gd (.cells #[.map (some gm), .int .i64 d.most, .int .i64 d.used, .int .i64 d.fuse, .bool d.down] 76 (0, 0)), Chunk.blk x.g (.cells #[.slice x.A x.p.b.length x.c, .int .i64 x.p.sf] 81 (0, 0)), Chunk.blk bf (.cells #[.pointer (some ⟨x.g, 0, none⟩)] 78 (0, 0))]) (fun _ => (by exact HO2.sel [0, 1, 2, 3] (by decide))) ?_
  refine gx_take 7 rfl (by kernel_rfl) HF16 (by exact HO2.sel [0, 1, 2, 3] (by decide)) (want_none rfl) rfl (by decide) (fun wq HO => (op_field (gwfld81_1 _ _) rfl (HF16.ev rfl))) ?_
  intro a17 HF18; clear HF16
  refine gx_step 8 rfl (by kernel_rfl) ?_
  refine gw_set 2 HF18 HO2 rfl (want_none rfl) rfl (op_store1 gwsiz3 rfl (HF18.ev rfl) (HF18.ev rfl) rfl (blk_at (HO2.get 2 rfl) rfl) (blkf (HO2.get 2 rfl))) ?_
  intro a19 w21 HF20 HO22; clear HF18 HO2
  have HO23 : Own w0 w21 [R, Chunk.blk gd (.cells #[.map (some gm), .int .i64 d.most, .int .i64 d.used, .int .i64 d.fuse, .bool d.down] 76 (0, 0)), Chunk.blk x.g (.cells #[.slice x.A x.p.b.length x.c, .int .i64 (x.p.b.length : Int)] 81 (0, 0)), Chunk.blk bf (.cells #[.pointer (some ⟨x.g, 0, none⟩)] 78 (0, 0))] := HO22
  clear HO22
  refine gx_on (i := 8) (B := (fun j_ => j_ == 8)) (M := [R, Chunk.blk gd (.cells #[.map (some gm), .int .i64 d.most, .int .i64 d.used, .int .i64 d.fuse, .bool d.down] 76 (0, 0)), Chunk.blk x.g (.cells #[.slice x.A x.p.b.length x.c, .int .i64 x.p.sf] 81 (0, 0)), Chunk.blk bf (.cells #[.pointer (some ⟨x.g, 0, none⟩)] 78 (0, 0))]) (fun h_ => by cases h_) ?_
  refine gx_done (by kernel_rfl) ?_
  refine gw_end0 HF20 rfl ?_
  exact ⟨rfl, HO23.sel [0, 2, 1] (by decide)⟩
set_option maxHeartbeats 4000000 in
set_option maxRecDepth 100000 in
theorem sync_calls (w0 w : World) (R : Chunk) (gd : Nat) (S : Nat → Prop) (d : PD) (nm : ByteArray) (hw : wfD d) (hn : nm.size ≤ 9223372036854775807) (HO : Own w0 w [R, Chunk.disk w0.heap.size gd S d]) :
    Calls Try.prog 16 #[.pointer (some ⟨gd, 0, none⟩), .string nm] w fun e w' => e = .returned (.int .i64 (syncD nm d).2) ∧ ∃ S', Own w0 w' [R, Chunk.disk w0.heap.size gd S' (syncD nm d).1] := by
  have hu0 := hw.used
  have hm0 := hw.most
  have hfu := hw.fuse
  obtain ⟨gm, xs, hxs, hon, HO⟩ := disk_open2 HO
  refine gw_startO (N := 19) (vs := [.pointer (some ⟨gd, 0, none⟩), .string nm]) Try.func16 rfl rfl (by simp) fun a HF => ?_
  rcases look3 nm d hxs hon with hdn | ⟨hdn, hl, hgd, hno⟩ | ⟨hdn, pre, x, post, rfl, hnm, hl, hgd, hoth⟩
  · skip
    refine gw_seq fun K1 hK1 => ?_
    refine wp_region_lit ?_
    refine gw_ev HF (want_none rfl) rfl (by decide) (op_assign rfl (ev_c _ _)) ?_
    intro a2 HF3; clear HF
    refine wpList_nil ?_
    refine gw_nx (hK1 _ _ ?_)
    refine gw_seq fun K4 hK4 => ?_
    refine wp_region_lit ?_
    refine gw_ev HF3 (want_none rfl) rfl (by decide) (op_move rfl (HF3.ev rfl)) ?_
    intro a5 HF6; clear HF3
    refine gw_ev HF6 (want_none rfl) rfl (by decide) (op_move rfl (HF6.ev rfl)) ?_
    intro a7 HF8; clear HF6
    refine gw_call HF8 (want_none rfl) rfl (by decide) (op_callL Try.func42 (by kernel_rfl) rfl rfl (ar_cons (HF8.ev rfl) (ar_cons (HF8.ev rfl) ar_nil))) (find_down gd gm d nm (xs.map XF.ent) _ (by exact HO.get 1 rfl) (HO.get 2 rfl) hdn hn) ?_
    rintro e9 w10 ⟨rfl, hb11⟩
    refine ⟨_, rfl, fun a12 HF13 => ?_⟩
    have HO14 := HO.after hb11
    clear HF8 HO hb11
    refine gw_ev HF13 (want_none rfl) rfl (by decide) (op_move rfl (HF13.ev rfl)) ?_
    intro a16 HF17; clear HF13
    refine gw_ev HF17 (want_none rfl) rfl (by decide) (op_extract rfl (HF17.ev rfl) rfl) ?_
    intro a18 HF19; clear HF17
    refine gw_ev HF19 (want_none rfl) rfl (by decide) (op_extract rfl (HF19.ev rfl) rfl) ?_
    intro a20 HF21; clear HF19
    refine gw_new HF21 HO14 (want_none rfl) rfl (by decide) (op_alloc gwzer78 rfl) ?_
    intro g22 a23 w24 HF25 HO26; clear HF21 HO14
    have HO27 : Own w0 w24 [Chunk.blk g22 (.cells #[.pointer none] 78 (0, 0)), R, Chunk.blk gd (.cells #[.map (some gm), .int .i64 d.most, .int .i64 d.used, .int .i64 d.fuse, .bool d.down] 76 (0, 0)), Chunk.lmap Try.prog 9 gm (xs.map XF.ent), Chunk.files w0.heap.size xs] := HO26
    clear HO26
    refine gw_set 0 HF25 HO27 rfl (want_none rfl) rfl (op_store1 gwsiz78 rfl (HF25.ev rfl) (HF25.ev rfl) rfl (blk_at (HO27.get 0 rfl) rfl) (blkf (HO27.get 0 rfl))) ?_
    intro a28 w30 HF29 HO31; clear HF25 HO27
    have HO32 : Own w0 w30 [Chunk.blk g22 (.cells #[.pointer none] 78 (0, 0)), R, Chunk.blk gd (.cells #[.map (some gm), .int .i64 d.most, .int .i64 d.used, .int .i64 d.fuse, .bool d.down] 76 (0, 0)), Chunk.lmap Try.prog 9 gm (xs.map XF.ent), Chunk.files w0.heap.size xs] := HO31
    clear HO31
    refine gw_ev HF29 (want_none rfl) rfl (by decide) (op_assign rfl (HF29.ev rfl)) ?_
    intro a33 HF34; clear HF29
    refine wpList_nil ?_
    refine gw_nx (hK4 _ _ ?_)
    refine gw_seq fun K35 hK35 => ?_
    refine gw_seq fun K36 hK36 => ?_
    refine wp_region_lit ?_
    refine gw_ev HF34 (want_none rfl) rfl (by decide) (op_move rfl (HF34.ev rfl)) ?_
    intro a37 HF38; clear HF34
    refine gw_ev HF38 (want_none rfl) rfl (by decide) (op_nei rfl (HF38.ev rfl) (ev_c _ _)) ?_
    intro a39 HF40; clear HF38
    have HF41 := HF40.lit (b := true) (by decide)
    clear HF40
    refine wpList_nil ?_
    refine gw_nx (hK36 _ _ ?_)
    refine gw_cond HF41 rfl (fun hb42 => ?_) (fun hb42 => ?_)
    rotate_left
    · cases hb42
    refine gw_seq fun K43 hK43 => ?_
    refine wp_region_lit ?_
    refine gw_ev HF41 (want_none rfl) rfl (by decide) (op_move rfl (HF41.ev rfl)) ?_
    intro a44 HF45; clear HF41
    refine gw_ev HF45 (want_none rfl) rfl (by decide) (op_assign rfl (HF45.ev rfl)) ?_
    intro a46 HF47; clear HF45
    refine wpList_nil ?_
    refine gw_nx (hK43 _ _ ?_)
    refine wp_ret ?_
    refine gw_thr ?_
    refine gw_ret1 HF47 rfl rfl ?_
    exact disk_fin (gd := gd) (gm := gm) (d' := d) (xs := xs) (with_down hdn) hxs (by exact HO32.sel [1, 2, 3, 4] (by decide))
  · skip
    refine gw_seq fun K48 hK48 => ?_
    refine wp_region_lit ?_
    refine gw_ev HF (want_none rfl) rfl (by decide) (op_assign rfl (ev_c _ _)) ?_
    intro a49 HF50; clear HF
    refine wpList_nil ?_
    refine gw_nx (hK48 _ _ ?_)
    refine gw_seq fun K51 hK51 => ?_
    refine wp_region_lit ?_
    refine gw_ev HF50 (want_none rfl) rfl (by decide) (op_move rfl (HF50.ev rfl)) ?_
    intro a52 HF53; clear HF50
    refine gw_ev HF53 (want_none rfl) rfl (by decide) (op_move rfl (HF53.ev rfl)) ?_
    intro a54 HF55; clear HF53
    refine gw_call HF55 (want_none rfl) rfl (by decide) (op_callL Try.func42 (by kernel_rfl) rfl rfl (ar_cons (HF55.ev rfl) (ar_cons (HF55.ev rfl) ar_nil))) (find_none gd gm d nm (xs.map XF.ent) _ (by exact HO.get 1 rfl) (HO.get 2 rfl) hdn hl hn) ?_
    rintro e56 w57 ⟨rfl, hb58⟩
    refine ⟨_, rfl, fun a59 HF60 => ?_⟩
    have HO61 := HO.after hb58
    clear HF55 HO hb58
    refine gw_ev HF60 (want_none rfl) rfl (by decide) (op_move rfl (HF60.ev rfl)) ?_
    intro a63 HF64; clear HF60
    refine gw_ev HF64 (want_none rfl) rfl (by decide) (op_extract rfl (HF64.ev rfl) rfl) ?_
    intro a65 HF66; clear HF64
    refine gw_ev HF66 (want_none rfl) rfl (by decide) (op_extract rfl (HF66.ev rfl) rfl) ?_
    intro a67 HF68; clear HF66
    refine gw_new HF68 HO61 (want_none rfl) rfl (by decide) (op_alloc gwzer78 rfl) ?_
    intro g69 a70 w71 HF72 HO73; clear HF68 HO61
    have HO74 : Own w0 w71 [Chunk.blk g69 (.cells #[.pointer none] 78 (0, 0)), R, Chunk.blk gd (.cells #[.map (some gm), .int .i64 d.most, .int .i64 d.used, .int .i64 d.fuse, .bool d.down] 76 (0, 0)), Chunk.lmap Try.prog 9 gm (xs.map XF.ent), Chunk.files w0.heap.size xs] := HO73
    clear HO73
    refine gw_set 0 HF72 HO74 rfl (want_none rfl) rfl (op_store1 gwsiz78 rfl (HF72.ev rfl) (HF72.ev rfl) rfl (blk_at (HO74.get 0 rfl) rfl) (blkf (HO74.get 0 rfl))) ?_
    intro a75 w77 HF76 HO78; clear HF72 HO74
    have HO79 : Own w0 w77 [Chunk.blk g69 (.cells #[.pointer none] 78 (0, 0)), R, Chunk.blk gd (.cells #[.map (some gm), .int .i64 d.most, .int .i64 d.used, .int .i64 d.fuse, .bool d.down] 76 (0, 0)), Chunk.lmap Try.prog 9 gm (xs.map XF.ent), Chunk.files w0.heap.size xs] := HO78
    clear HO78
    refine gw_ev HF76 (want_none rfl) rfl (by decide) (op_assign rfl (HF76.ev rfl)) ?_
    intro a80 HF81; clear HF76
    refine wpList_nil ?_
    refine gw_nx (hK51 _ _ ?_)
    refine gw_seq fun K82 hK82 => ?_
    refine gw_seq fun K83 hK83 => ?_
    refine wp_region_lit ?_
    refine gw_ev HF81 (want_none rfl) rfl (by decide) (op_move rfl (HF81.ev rfl)) ?_
    intro a84 HF85; clear HF81
    refine gw_ev HF85 (want_none rfl) rfl (by decide) (op_nei rfl (HF85.ev rfl) (ev_c _ _)) ?_
    intro a86 HF87; clear HF85
    have HF88 := HF87.lit (b := true) (by decide)
    clear HF87
    refine wpList_nil ?_
    refine gw_nx (hK83 _ _ ?_)
    refine gw_cond HF88 rfl (fun hb89 => ?_) (fun hb89 => ?_)
    rotate_left
    · cases hb89
    refine gw_seq fun K90 hK90 => ?_
    refine wp_region_lit ?_
    refine gw_ev HF88 (want_none rfl) rfl (by decide) (op_move rfl (HF88.ev rfl)) ?_
    intro a91 HF92; clear HF88
    refine gw_ev HF92 (want_none rfl) rfl (by decide) (op_assign rfl (HF92.ev rfl)) ?_
    intro a93 HF94; clear HF92
    refine wpList_nil ?_
    refine gw_nx (hK90 _ _ ?_)
    refine wp_ret ?_
    refine gw_thr ?_
    refine gw_ret1 HF94 rfl rfl ?_
    exact disk_fin (gd := gd) (gm := gm) (d' := d) (xs := xs) (with_none hdn hgd) hxs (by exact HO79.sel [1, 2, 3, 4] (by decide))
  · skip
    have HO := Own.sel (Own.file_open (Own.sel HO [3, 0, 1, 2] (by decide))) [3, 4, 5, 0, 1, 2] (by decide)
    have hxl := wf_len hw (getF_mem hgd).1
    have hxs1 := hw.sf _ (getF_mem hgd).1
    have HO95 : Own w0 w [R, Chunk.blk gd (.cells #[.map (some gm), .int .i64 d.most, .int .i64 d.used, .int .i64 d.fuse, .bool d.down] 76 (0, 0)), Chunk.lmap Try.prog 9 gm ((pre ++ x :: post).map XF.ent), Chunk.blk x.g (.cells #[.slice x.A x.p.b.length x.c, .int .i64 x.p.sf] 81 (0, 0)), Chunk.row (Kd.int .u8) 5 w0.heap.size x.S (.slice x.A x.p.b.length x.c) x.p.b, Chunk.files w0.heap.size (pre ++ post)] := HO
    clear HO
    refine gw_seq fun K96 hK96 => ?_
    refine wp_region_lit ?_
    refine gw_ev HF (want_none rfl) rfl (by decide) (op_assign rfl (ev_c _ _)) ?_
    intro a97 HF98; clear HF
    refine wpList_nil ?_
    refine gw_nx (hK96 _ _ ?_)
    refine gw_seq fun K99 hK99 => ?_
    refine wp_region_lit ?_
    refine gw_ev HF98 (want_none rfl) rfl (by decide) (op_move rfl (HF98.ev rfl)) ?_
    intro a100 HF101; clear HF98
    refine gw_ev HF101 (want_none rfl) rfl (by decide) (op_move rfl (HF101.ev rfl)) ?_
    intro a102 HF103; clear HF101
    refine gw_call HF103 (want_none rfl) rfl (by decide) (op_callL Try.func42 (by kernel_rfl) rfl rfl (ar_cons (HF103.ev rfl) (ar_cons (HF103.ev rfl) ar_nil))) (find_some gd gm d nm ((pre ++ x :: post).map XF.ent) x.g _ (by exact HO95.get 1 rfl) (HO95.get 2 rfl) hdn hl hn) ?_
    rintro e104 w105 ⟨rfl, hb106⟩
    refine ⟨_, rfl, fun a107 HF108 => ?_⟩
    have HO109 := HO95.after hb106
    clear HF103 HO95 hb106
    refine gw_ev HF108 (want_none rfl) rfl (by decide) (op_move rfl (HF108.ev rfl)) ?_
    intro a111 HF112; clear HF108
    refine gw_ev HF112 (want_none rfl) rfl (by decide) (op_extract rfl (HF112.ev rfl) rfl) ?_
    intro a113 HF114; clear HF112
    refine gw_ev HF114 (want_none rfl) rfl (by decide) (op_extract rfl (HF114.ev rfl) rfl) ?_
    intro a115 HF116; clear HF114
    refine gw_new HF116 HO109 (want_none rfl) rfl (by decide) (op_alloc gwzer78 rfl) ?_
    intro g117 a118 w119 HF120 HO121; clear HF116 HO109
    have HO122 : Own w0 w119 [Chunk.blk g117 (.cells #[.pointer none] 78 (0, 0)), R, Chunk.blk gd (.cells #[.map (some gm), .int .i64 d.most, .int .i64 d.used, .int .i64 d.fuse, .bool d.down] 76 (0, 0)), Chunk.lmap Try.prog 9 gm ((pre ++ x :: post).map XF.ent), Chunk.blk x.g (.cells #[.slice x.A x.p.b.length x.c, .int .i64 x.p.sf] 81 (0, 0)), Chunk.row (Kd.int .u8) 5 w0.heap.size x.S (.slice x.A x.p.b.length x.c) x.p.b, Chunk.files w0.heap.size (pre ++ post)] := HO121
    clear HO121
    refine gw_set 0 HF120 HO122 rfl (want_none rfl) rfl (op_store1 gwsiz78 rfl (HF120.ev rfl) (HF120.ev rfl) rfl (blk_at (HO122.get 0 rfl) rfl) (blkf (HO122.get 0 rfl))) ?_
    intro a123 w125 HF124 HO126; clear HF120 HO122
    have HO127 : Own w0 w125 [Chunk.blk g117 (.cells #[.pointer (some ⟨x.g, 0, none⟩)] 78 (0, 0)), R, Chunk.blk gd (.cells #[.map (some gm), .int .i64 d.most, .int .i64 d.used, .int .i64 d.fuse, .bool d.down] 76 (0, 0)), Chunk.lmap Try.prog 9 gm ((pre ++ x :: post).map XF.ent), Chunk.blk x.g (.cells #[.slice x.A x.p.b.length x.c, .int .i64 x.p.sf] 81 (0, 0)), Chunk.row (Kd.int .u8) 5 w0.heap.size x.S (.slice x.A x.p.b.length x.c) x.p.b, Chunk.files w0.heap.size (pre ++ post)] := HO126
    clear HO126
    refine gw_ev HF124 (want_none rfl) rfl (by decide) (op_assign rfl (HF124.ev rfl)) ?_
    intro a128 HF129; clear HF124
    refine wpList_nil ?_
    refine gw_nx (hK99 _ _ ?_)
    refine gw_seq fun K130 hK130 => ?_
    refine gw_seq fun K131 hK131 => ?_
    refine wp_region_lit ?_
    refine gw_ev HF129 (want_none rfl) rfl (by decide) (op_move rfl (HF129.ev rfl)) ?_
    intro a132 HF133; clear HF129
    refine gw_ev HF133 (want_none rfl) rfl (by decide) (op_nei rfl (HF133.ev rfl) (ev_c _ _)) ?_
    intro a134 HF135; clear HF133
    have HF136 := HF135.lit (b := false) (by decide)
    clear HF135
    refine wpList_nil ?_
    refine gw_nx (hK131 _ _ ?_)
    refine gw_cond HF136 rfl (fun hb137 => ?_) (fun hb137 => ?_)
    skip
    · cases hb137
    refine wp_skip ?_
    refine gw_nx (hK130 _ _ ?_)
    refine gw_seq fun K138 hK138 => ?_
    refine wp_region_lit ?_
    refine gw_ev HF136 (want_none rfl) rfl (by decide) (op_move rfl (HF136.ev rfl)) ?_
    intro a139 HF140; clear HF136
    refine gw_ev HF140 (want_none rfl) rfl (by decide) (op_func rfl (ar_cons (HF140.ev rfl) ar_nil)) ?_
    intro a141 HF142; clear HF140
    have HO149 : Own w0 _ [(Chunk.all [Chunk.blk g117 (.cells #[.pointer (some ⟨x.g, 0, none⟩)] 78 (0, 0)), R, Chunk.lmap Try.prog 9 gm ((pre ++ x :: post).map XF.ent), Chunk.blk x.g (.cells #[.slice x.A x.p.b.length x.c, .int .i64 x.p.sf] 81 (0, 0)), Chunk.row (Kd.int .u8) 5 w0.heap.size x.S (.slice x.A x.p.b.length x.c) x.p.b, Chunk.files w0.heap.size (pre ++ post)]), Chunk.blk gd (.cells #[.map (some gm), .int .i64 d.most, .int .i64 d.used, .int .i64 d.fuse, .bool d.down] 76 (0, 0))] := Own.bundle (A := [Chunk.blk g117 (.cells #[.pointer (some ⟨x.g, 0, none⟩)] 78 (0, 0)), R, Chunk.lmap Try.prog 9 gm ((pre ++ x :: post).map XF.ent), Chunk.blk x.g (.cells #[.slice x.A x.p.b.length x.c, .int .i64 x.p.sf] 81 (0, 0)), Chunk.row (Kd.int .u8) 5 w0.heap.size x.S (.slice x.A x.p.b.length x.c) x.p.b, Chunk.files w0.heap.size (pre ++ post)]) (L := [Chunk.blk gd (.cells #[.map (some gm), .int .i64 d.most, .int .i64 d.used, .int .i64 d.fuse, .bool d.down] 76 (0, 0))]) (HO127.sel [0, 1, 3, 4, 5, 6, 2] (by decide))
    refine gw_call HF142 (want_none rfl) rfl (by decide) (op_callL Try.func40 (by kernel_rfl) rfl rfl (ar_cons (HF142.ev rfl) (ar_cons (HF142.ev rfl) ar_nil))) (step_calls w0 _ (Chunk.all [Chunk.blk g117 (.cells #[.pointer (some ⟨x.g, 0, none⟩)] 78 (0, 0)), R, Chunk.lmap Try.prog 9 gm ((pre ++ x :: post).map XF.ent), Chunk.blk x.g (.cells #[.slice x.A x.p.b.length x.c, .int .i64 x.p.sf] 81 (0, 0)), Chunk.row (Kd.int .u8) 5 w0.heap.size x.S (.slice x.A x.p.b.length x.c) x.p.b, Chunk.files w0.heap.size (pre ++ post)]) gd gm d 44 _ [.pointer (some ⟨g117, 0, none⟩)] (fun w_ => Own w0 w_ [(Chunk.all [R, Chunk.lmap Try.prog 9 gm ((pre ++ x :: post).map XF.ent), Chunk.row (Kd.int .u8) 5 w0.heap.size x.S (.slice x.A x.p.b.length x.c) x.p.b, Chunk.files w0.heap.size (pre ++ post)]), Chunk.blk x.g (.cells #[.slice x.A x.p.b.length x.c, .int .i64 (x.p.b.length : Int)] 81 (0, 0)), Chunk.blk gd (.cells #[.map (some gm), .int .i64 (({ d with fuse := decF d.fuse } : PD).most), .int .i64 (({ d with fuse := decF d.fuse } : PD).used), .int .i64 (({ d with fuse := decF d.fuse } : PD).fuse), .bool (({ d with fuse := decF d.fuse } : PD).down)] 76 (0, 0))]) Try.func44 (by kernel_rfl) rfl hfu (fun hf1 w1 h_ => sync1 w0 w1 (Chunk.all [R, Chunk.lmap Try.prog 9 gm ((pre ++ x :: post).map XF.ent), Chunk.row (Kd.int .u8) 5 w0.heap.size x.S (.slice x.A x.p.b.length x.c) x.p.b, Chunk.files w0.heap.size (pre ++ post)]) gd gm ({ d with fuse := decF d.fuse } : PD) x g117 (Own.bundle (A := [R, Chunk.lmap Try.prog 9 gm ((pre ++ x :: post).map XF.ent), Chunk.row (Kd.int .u8) 5 w0.heap.size x.S (.slice x.A x.p.b.length x.c) x.p.b, Chunk.files w0.heap.size (pre ++ post)]) (L := [Chunk.blk gd (.cells #[.map (some gm), .int .i64 (({ d with fuse := decF d.fuse } : PD).most), .int .i64 (({ d with fuse := decF d.fuse } : PD).used), .int .i64 (({ d with fuse := decF d.fuse } : PD).fuse), .bool (({ d with fuse := decF d.fuse } : PD).down)] 76 (0, 0)), Chunk.blk x.g (.cells #[.slice x.A x.p.b.length x.c, .int .i64 x.p.sf] 81 (0, 0)), Chunk.blk g117 (.cells #[.pointer (some ⟨x.g, 0, none⟩)] 78 (0, 0))]) ((Own.unbundle (A := [Chunk.blk g117 (.cells #[.pointer (some ⟨x.g, 0, none⟩)] 78 (0, 0)), R, Chunk.lmap Try.prog 9 gm ((pre ++ x :: post).map XF.ent), Chunk.blk x.g (.cells #[.slice x.A x.p.b.length x.c, .int .i64 x.p.sf] 81 (0, 0)), Chunk.row (Kd.int .u8) 5 w0.heap.size x.S (.slice x.A x.p.b.length x.c) x.p.b, Chunk.files w0.heap.size (pre ++ post)]) (L := [Chunk.blk gd (.cells #[.map (some gm), .int .i64 (({ d with fuse := decF d.fuse } : PD).most), .int .i64 (({ d with fuse := decF d.fuse } : PD).used), .int .i64 (({ d with fuse := decF d.fuse } : PD).fuse), .bool (({ d with fuse := decF d.fuse } : PD).down)] 76 (0, 0))]) (by exact h_)).sel [1, 2, 4, 5, 6, 3, 0] (by decide)))) (by exact HO149)) ?_
    rintro e143 w144 (⟨hf1, rfl, hb145⟩ | ⟨hf1, rfl, hb145⟩)
    · skip
      refine ⟨_, rfl, fun a146 HF147 => ?_⟩
      have HO148 : Own w0 w144 [Chunk.blk g117 (.cells #[.pointer (some ⟨x.g, 0, none⟩)] 78 (0, 0)), R, Chunk.lmap Try.prog 9 gm ((pre ++ x :: post).map XF.ent), Chunk.blk x.g (.cells #[.slice x.A x.p.b.length x.c, .int .i64 x.p.sf] 81 (0, 0)), Chunk.row (Kd.int .u8) 5 w0.heap.size x.S (.slice x.A x.p.b.length x.c) x.p.b, Chunk.files w0.heap.size (pre ++ post), Chunk.blk gd (.cells #[.map (some gm), .int .i64 d.most, .int .i64 d.used, .int .i64 0, .bool true] 76 (0, 0))] := Own.unbundle (A := [Chunk.blk g117 (.cells #[.pointer (some ⟨x.g, 0, none⟩)] 78 (0, 0)), R, Chunk.lmap Try.prog 9 gm ((pre ++ x :: post).map XF.ent), Chunk.blk x.g (.cells #[.slice x.A x.p.b.length x.c, .int .i64 x.p.sf] 81 (0, 0)), Chunk.row (Kd.int .u8) 5 w0.heap.size x.S (.slice x.A x.p.b.length x.c) x.p.b, Chunk.files w0.heap.size (pre ++ post)]) (L := [Chunk.blk gd (.cells #[.map (some gm), .int .i64 d.most, .int .i64 d.used, .int .i64 0, .bool true] 76 (0, 0))]) (by exact hb145)
      clear HO149 hb145
      clear HF142 HO127
      refine gw_ev HF147 (want_none rfl) rfl (by decide) (op_assign rfl (HF147.ev rfl)) ?_
      intro a150 HF151; clear HF147
      refine wpList_nil ?_
      refine gw_nx (hK138 _ _ ?_)
      refine wp_ret ?_
      refine gw_ret1 HF151 rfl rfl ?_
      have HO152 := Own.file_close (x := x) (pre := pre) (post := post) (by exact HO148.sel [3, 4, 5, 0, 1, 2, 6] (by decide))
      exact disk_fin (gd := gd) (gm := gm) (d' := { d with fuse := 0, down := true }) (xs := pre ++ x :: post) ((sync_go hdn hgd).trans (step_off hf1)) hxs (by exact HO152.sel [2, 4, 3, 0] (by decide))
    · skip
      refine ⟨_, rfl, fun a146 HF147 => ?_⟩
      have HO148 : Own w0 w144 [R, Chunk.lmap Try.prog 9 gm ((pre ++ x :: post).map XF.ent), Chunk.row (Kd.int .u8) 5 w0.heap.size x.S (.slice x.A x.p.b.length x.c) x.p.b, Chunk.files w0.heap.size (pre ++ post), Chunk.blk x.g (.cells #[.slice x.A x.p.b.length x.c, .int .i64 (x.p.b.length : Int)] 81 (0, 0)), Chunk.blk gd (.cells #[.map (some gm), .int .i64 (({ d with fuse := decF d.fuse } : PD).most), .int .i64 (({ d with fuse := decF d.fuse } : PD).used), .int .i64 (({ d with fuse := decF d.fuse } : PD).fuse), .bool (({ d with fuse := decF d.fuse } : PD).down)] 76 (0, 0))] := Own.unbundle (A := [R, Chunk.lmap Try.prog 9 gm ((pre ++ x :: post).map XF.ent), Chunk.row (Kd.int .u8) 5 w0.heap.size x.S (.slice x.A x.p.b.length x.c) x.p.b, Chunk.files w0.heap.size (pre ++ post)]) (L := [Chunk.blk x.g (.cells #[.slice x.A x.p.b.length x.c, .int .i64 (x.p.b.length : Int)] 81 (0, 0)), Chunk.blk gd (.cells #[.map (some gm), .int .i64 (({ d with fuse := decF d.fuse } : PD).most), .int .i64 (({ d with fuse := decF d.fuse } : PD).used), .int .i64 (({ d with fuse := decF d.fuse } : PD).fuse), .bool (({ d with fuse := decF d.fuse } : PD).down)] 76 (0, 0))]) hb145
      clear HO149 hb145
      clear HF142 HO127
      refine gw_ev HF147 (want_none rfl) rfl (by decide) (op_assign rfl (HF147.ev rfl)) ?_
      intro a153 HF154; clear HF147
      refine wpList_nil ?_
      refine gw_nx (hK138 _ _ ?_)
      refine wp_ret ?_
      refine gw_ret1 HF154 rfl rfl ?_
      have HO155 := Own.file_close (x := (⟨⟨x.p.nm, x.p.b, (x.p.b.length : Int)⟩, x.g, x.A, x.c, x.S⟩ : XF)) (pre := pre) (post := post) (by exact HO148.sel [4, 2, 3, 0, 1, 5] (by decide))
      have el_ : (pre ++ x :: post).map XF.ent = (pre ++ (⟨⟨x.p.nm, x.p.b, (x.p.b.length : Int)⟩, x.g, x.A, x.c, x.S⟩ : XF) :: post).map XF.ent := by simp [XF.ent]
      rw [el_] at HO155
      exact disk_fin (gd := gd) (gm := gm) (d' := _) (xs := pre ++ (⟨⟨x.p.nm, x.p.b, (x.p.b.length : Int)⟩, x.g, x.A, x.c, x.S⟩ : XF) :: post) ((sync_go hdn hgd).trans (step_on hf1 hfu.1)) (by show _ = updF nm _ d.fs; rw [← hxs, upd_mid hnm hoth]; simp) (by exact HO155.sel [1, 3, 2, 0] (by decide))
end GVfs2_
export GVfs2_ (append1 append_calls sync1 sync_calls)
end Go.Proofs.Ytkdahjnmldeklaa.PA
