/- The disk: Cut, Remove, Rename. Printed by a program of this session; Lean checks it. -/
import Derived.Test.YtkdahjnmldeklaaGVfs2
namespace Go.Proofs.Ytkdahjnmldeklaa.PA
open Go.RowKit Go.Proofs.YtkdahjnmldeklaaW.PrintWords Go.Proofs.YtkdahjnmldeklaaW.PrintLast Go.Proofs.YtkdahjnmldeklaaW.PrintMore
set_option linter.unusedVariables false
set_option linter.unusedSimpArgs false
namespace GVfs3_
theorem gwagg23 : ∀ w, (isAgg 23).run Try.prog w = .ok false w := fun _ => by kernel_rfl
theorem gwagg28 : ∀ w, (isAgg 28).run Try.prog w = .ok false w := fun _ => by kernel_rfl
theorem gwagg3 : ∀ w, (isAgg 3).run Try.prog w = .ok false w := fun _ => by kernel_rfl
theorem gwagg4 : ∀ w, (isAgg 4).run Try.prog w = .ok false w := fun _ => by kernel_rfl
theorem gwagg74 : ∀ w, (isAgg 74).run Try.prog w = .ok false w := fun _ => by kernel_rfl
theorem gwagg78 : ∀ w, (isAgg 78).run Try.prog w = .ok false w := fun _ => by kernel_rfl
theorem gwagg9 : ∀ w, (isAgg 9).run Try.prog w = .ok false w := fun _ => by kernel_rfl
theorem gwfld76_0 (g off : Nat) : ∀ w, (Instr.fieldAt 76 (.pointer (some ⟨g, off, none⟩)) 0).run Try.prog w = .ok (.pointer (some ⟨g, off + 0, none⟩)) w := fun _ => by kernel_rfl
theorem gwfld76_2 (g off : Nat) : ∀ w, (Instr.fieldAt 76 (.pointer (some ⟨g, off, none⟩)) 2).run Try.prog w = .ok (.pointer (some ⟨g, off + 2, none⟩)) w := fun _ => by kernel_rfl
theorem gwfld76_4 (g off : Nat) : ∀ w, (Instr.fieldAt 76 (.pointer (some ⟨g, off, none⟩)) 4).run Try.prog w = .ok (.pointer (some ⟨g, off + 4, none⟩)) w := fun _ => by kernel_rfl
theorem gwfld81_0 (g off : Nat) : ∀ w, (Instr.fieldAt 81 (.pointer (some ⟨g, off, none⟩)) 0).run Try.prog w = .ok (.pointer (some ⟨g, off + 0, none⟩)) w := fun _ => by kernel_rfl
theorem gwfld81_1 (g off : Nat) : ∀ w, (Instr.fieldAt 81 (.pointer (some ⟨g, off, none⟩)) 1).run Try.prog w = .ok (.pointer (some ⟨g, off + 1, none⟩)) w := fun _ => by kernel_rfl
theorem gwsiz28 : ∀ w, (sizeOf 28).run Try.prog w = .ok 1 w := fun _ => by kernel_rfl
theorem gwsiz3 : ∀ w, (sizeOf 3).run Try.prog w = .ok 1 w := fun _ => by kernel_rfl
theorem gwsiz5 : ∀ w, (sizeOf 5).run Try.prog w = .ok 1 w := fun _ => by kernel_rfl
theorem gwsiz78 : ∀ w, (sizeOf 78).run Try.prog w = .ok 1 w := fun _ => by kernel_rfl
theorem gwzer78 : ∀ w, (zeroValue 78).run Try.prog w = .ok (.pointer none) w := fun _ => by kernel_rfl
set_option maxHeartbeats 4000000 in
set_option maxRecDepth 100000 in
theorem cut1 (w0 w : World) (R : Chunk) (gd gm : Nat) (d : PD) (x : XF) (bd bf bk : Nat) (n : Int) (hn0 : 0 ≤ n ∧ n ≤ x.p.b.length) (hu : 0 ≤ d.used ∧ d.used ≤ 9223372036854775807) (hub : (x.p.b.length : Int) ≤ d.used) (HO : Own w0 w [R, Chunk.blk gd (.cells #[.map (some gm), .int .i64 d.most, .int .i64 d.used, .int .i64 d.fuse, .bool d.down] 76 (0, 0)), Chunk.blk x.g (.cells #[.slice x.A x.p.b.length x.c, .int .i64 x.p.sf] 81 (0, 0)), Chunk.row (Kd.int .u8) 5 w0.heap.size x.S (.slice x.A x.p.b.length x.c) x.p.b, Chunk.blk bd (.cells #[.pointer (some ⟨gd, 0, none⟩)] 23 (0, 0)), Chunk.blk bf (.cells #[.pointer (some ⟨x.g, 0, none⟩)] 78 (0, 0)), Chunk.blk bk (.cells #[.int .i64 n] 3 (0, 0))]) :
    Calls Try.prog 67 #[.pointer (some ⟨bd, 0, none⟩), .pointer (some ⟨bf, 0, none⟩), .pointer (some ⟨bk, 0, none⟩)] w fun e w' => e = .returned (.tuple #[]) ∧ Own w0 w' [R, Chunk.blk x.g (.cells #[.slice x.A (x.p.b.take n.toNat).length x.c, .int .i64 (mn x.p.sf n)] 81 (0, 0)), Chunk.row (Kd.int .u8) 5 w0.heap.size x.S (.slice x.A (x.p.b.take n.toNat).length x.c) (x.p.b.take n.toNat), Chunk.blk gd (.cells (dcells gm { d with used := d.used - ((x.p.b.length : Int) - n) }) 76 (0, 0))] := by
  refine gw_startO (N := 35) (vs := [.pointer (some ⟨bd, 0, none⟩), .pointer (some ⟨bf, 0, none⟩), .pointer (some ⟨bk, 0, none⟩)]) Try.func67 rfl rfl (by simp) fun a HF => ?_
  refine gw_seq fun K1 hK1 => ?_
  refine gx_draw (M := [R, Chunk.blk gd (.cells #[.map (some gm), .int .i64 d.most, .int .i64 d.used, .int .i64 d.fuse, .bool d.down] 76 (0, 0)), Chunk.blk x.g (.cells #[.slice x.A x.p.b.length x.c, .int .i64 x.p.sf] 81 (0, 0)), Chunk.row (Kd.int .u8) 5 w0.heap.size x.S (.slice x.A x.p.b.length x.c) x.p.b, Chunk.blk bd (.cells #[.pointer (some ⟨gd, 0, none⟩)] 23 (0, 0)), Chunk.blk bf (.cells #[.pointer (some ⟨x.g, 0, none⟩)] 78 (0, 0)), Chunk.blk bk (.cells #[.int .i64 n] 3 (0, 0))]) (fun j_ => j_ == 14) HO (by kernel_rfl) fun w2 HO3 => ?_
  clear HO
  refine gx_take 0 rfl (by kernel_rfl) HF (by exact HO3.sel [0, 1, 2, 3, 4, 5, 6] (by decide)) (want_none rfl) rfl (by decide) (fun wq HO => (op_load1 gwagg23 rfl (HF.ev rfl) (blk_at (HO.get 4 rfl) rfl))) ?_
  intro a4 HF5; clear HF
  refine gx_take 1 rfl (by kernel_rfl) HF5 (by exact HO3.sel [0, 1, 2, 3, 4, 5, 6] (by decide)) (want_none rfl) rfl (by decide) (fun wq HO => (op_nil rfl (HF5.ev rfl))) ?_
  intro a6 HF7; clear HF5
  refine gx_take 2 rfl (by kernel_rfl) HF7 (by exact HO3.sel [0, 1, 2, 3, 4, 5, 6] (by decide)) (want_none rfl) rfl (by decide) (fun wq HO => (op_field (gwfld76_2 _ _) rfl (HF7.ev rfl))) ?_
  intro a8 HF9; clear HF7
  refine gx_take 3 rfl (by kernel_rfl) HF9 (by exact HO3.sel [0, 1, 2, 3, 4, 5, 6] (by decide)) (want_none rfl) rfl (by decide) (fun wq HO => (op_load1 gwagg3 rfl (HF9.ev rfl) (blk_at (HO.get 1 rfl) rfl))) ?_
  intro a10 HF11; clear HF9
  refine gx_take 4 rfl (by kernel_rfl) HF11 (by exact HO3.sel [0, 1, 2, 3, 4, 5, 6] (by decide)) (want_none rfl) rfl (by decide) (fun wq HO => (op_load1 gwagg78 rfl (HF11.ev rfl) (blk_at (HO.get 5 rfl) rfl))) ?_
  intro a12 HF13; clear HF11
  refine gx_take 5 rfl (by kernel_rfl) HF13 (by exact HO3.sel [0, 1, 2, 3, 4, 5, 6] (by decide)) (want_none rfl) rfl (by decide) (fun wq HO => (op_nil rfl (HF13.ev rfl))) ?_
  intro a14 HF15; clear HF13
  refine gx_take 6 rfl (by kernel_rfl) HF15 (by exact HO3.sel [0, 1, 2, 3, 4, 5, 6] (by decide)) (want_none rfl) rfl (by decide) (fun wq HO => (op_field (gwfld81_0 _ _) rfl (HF15.ev rfl))) ?_
  intro a16 HF17; clear HF15
  refine gx_take 7 rfl (by kernel_rfl) HF17 (by exact HO3.sel [0, 1, 2, 3, 4, 5, 6] (by decide)) (want_none rfl) rfl (by decide) (fun wq HO => (op_load1 gwagg28 rfl (HF17.ev rfl) (blk_at (HO.get 2 rfl) rfl))) ?_
  intro a18 HF19; clear HF17
  refine gx_take 8 rfl (by kernel_rfl) HF19 (by exact HO3.sel [0, 1, 2, 3, 4, 5, 6] (by decide)) (want_none rfl) rfl (by decide) (fun wq HO => (op_len Try.underlying28 rfl (HF19.ev rfl))) ?_
  intro a20 HF21; clear HF19
  refine gx_take 9 rfl (by kernel_rfl) HF21 (by exact HO3.sel [0, 1, 2, 3, 4, 5, 6] (by decide)) (want_none rfl) rfl (by decide) (fun wq HO => (op_load1 gwagg3 rfl (HF21.ev rfl) (blk_at (HO.get 6 rfl) rfl))) ?_
  intro a22 HF23; clear HF21
  refine gx_take 10 rfl (by kernel_rfl) HF23 (by exact HO3.sel [0, 1, 2, 3, 4, 5, 6] (by decide)) (want_none rfl) rfl (by decide) (fun wq HO => (op_sub rfl (HF23.ev rfl) (HF23.ev rfl) (by omega))) ?_
  intro a24 HF25; clear HF23
  refine gx_take 11 rfl (by kernel_rfl) HF25 (by exact HO3.sel [0, 1, 2, 3, 4, 5, 6] (by decide)) (want_none rfl) rfl (by decide) (fun wq HO => (op_sub rfl (HF25.ev rfl) (HF25.ev rfl) (by omega))) ?_
  intro a26 HF27; clear HF25
  refine gx_step 12 rfl (by kernel_rfl) ?_
  refine gw_ev HF27 (want_none rfl) rfl (by decide) (op_nil rfl (HF27.ev rfl)) ?_
  intro a28 HF29; clear HF27
  refine gx_on (i := 12) (B := (fun j_ => j_ == 14)) (M := [R, Chunk.blk gd (.cells #[.map (some gm), .int .i64 d.most, .int .i64 d.used, .int .i64 d.fuse, .bool d.down] 76 (0, 0)), Chunk.blk x.g (.cells #[.slice x.A x.p.b.length x.c, .int .i64 x.p.sf] 81 (0, 0)), Chunk.row (Kd.int .u8) 5 w0.heap.size x.S (.slice x.A x.p.b.length x.c) x.p.b, Chunk.blk bd (.cells #[.pointer (some ⟨gd, 0, none⟩)] 23 (0, 0)), Chunk.blk bf (.cells #[.pointer (some ⟨x.g, 0, none⟩)] 78 (0, 0)), Chunk.blk bk (.cells #[.int .i64 n] 3 (0, 0))]) (fun _ => (by exact HO3.sel [0, 1, 2, 3, 4, 5, 6] (by decide))) ?_
  refine gx_take 13 rfl (by kernel_rfl) HF29 (by exact HO3.sel [0, 1, 2, 3, 4, 5, 6] (by decide)) (want_none rfl) rfl (by decide) (fun wq HO => (op_field (gwfld76_2 _ _) rfl (HF29.ev rfl))) ?_
  intro a30 HF31; clear HF29
  refine gx_step 14 rfl (by kernel_rfl) ?_
  refine gw_set 1 HF31 HO3 rfl (want_none rfl) rfl (op_store1 gwsiz3 rfl (HF31.ev rfl) (HF31.ev rfl) rfl (blk_at (HO3.get 1 rfl) rfl) (blkf (HO3.get 1 rfl))) ?_
  intro a32 w34 HF33 HO35; clear HF31 HO3
  have HO36 : Own w0 w34 [R, Chunk.blk gd (.cells #[.map (some gm), .int .i64 d.most, .int .i64 (d.used - ((x.p.b.length : Int) - n)), .int .i64 d.fuse, .bool d.down] 76 (0, 0)), Chunk.blk x.g (.cells #[.slice x.A x.p.b.length x.c, .int .i64 x.p.sf] 81 (0, 0)), Chunk.row (Kd.int .u8) 5 w0.heap.size x.S (.slice x.A x.p.b.length x.c) x.p.b, Chunk.blk bd (.cells #[.pointer (some ⟨gd, 0, none⟩)] 23 (0, 0)), Chunk.blk bf (.cells #[.pointer (some ⟨x.g, 0, none⟩)] 78 (0, 0)), Chunk.blk bk (.cells #[.int .i64 n] 3 (0, 0))] := HO35
  clear HO35
  refine gx_on (i := 14) (B := (fun j_ => j_ == 14)) (M := [R, Chunk.blk gd (.cells #[.map (some gm), .int .i64 d.most, .int .i64 d.used, .int .i64 d.fuse, .bool d.down] 76 (0, 0)), Chunk.blk x.g (.cells #[.slice x.A x.p.b.length x.c, .int .i64 x.p.sf] 81 (0, 0)), Chunk.row (Kd.int .u8) 5 w0.heap.size x.S (.slice x.A x.p.b.length x.c) x.p.b, Chunk.blk bd (.cells #[.pointer (some ⟨gd, 0, none⟩)] 23 (0, 0)), Chunk.blk bf (.cells #[.pointer (some ⟨x.g, 0, none⟩)] 78 (0, 0)), Chunk.blk bk (.cells #[.int .i64 n] 3 (0, 0))]) (fun h_ => by cases h_) ?_
  refine gx_done (by kernel_rfl) ?_
  refine gw_nx (hK1 _ _ ?_)
  refine gw_seq fun K37 hK37 => ?_
  refine gx_draw (M := [R, Chunk.blk gd (.cells #[.map (some gm), .int .i64 d.most, .int .i64 (d.used - ((x.p.b.length : Int) - n)), .int .i64 d.fuse, .bool d.down] 76 (0, 0)), Chunk.blk x.g (.cells #[.slice x.A x.p.b.length x.c, .int .i64 x.p.sf] 81 (0, 0)), Chunk.row (Kd.int .u8) 5 w0.heap.size x.S (.slice x.A x.p.b.length x.c) x.p.b, Chunk.blk bd (.cells #[.pointer (some ⟨gd, 0, none⟩)] 23 (0, 0)), Chunk.blk bf (.cells #[.pointer (some ⟨x.g, 0, none⟩)] 78 (0, 0)), Chunk.blk bk (.cells #[.int .i64 n] 3 (0, 0))]) (fun j_ => j_ == 9) HO36 (by kernel_rfl) fun w38 HO39 => ?_
  clear HO36
  refine gx_take 0 rfl (by kernel_rfl) HF33 (by exact HO39.sel [0, 1, 2, 3, 4, 5, 6] (by decide)) (want_none rfl) rfl (by decide) (fun wq HO => (op_load1 gwagg78 rfl (HF33.ev rfl) (blk_at (HO.get 5 rfl) rfl))) ?_
  intro a40 HF41; clear HF33
  refine gx_take 1 rfl (by kernel_rfl) HF41 (by exact HO39.sel [0, 1, 2, 3, 4, 5, 6] (by decide)) (want_none rfl) rfl (by decide) (fun wq HO => (op_load1 gwagg78 rfl (HF41.ev rfl) (blk_at (HO.get 5 rfl) rfl))) ?_
  intro a42 HF43; clear HF41
  refine gx_take 2 rfl (by kernel_rfl) HF43 (by exact HO39.sel [0, 1, 2, 3, 4, 5, 6] (by decide)) (want_none rfl) rfl (by decide) (fun wq HO => (op_nil rfl (HF43.ev rfl))) ?_
  intro a44 HF45; clear HF43
  refine gx_take 3 rfl (by kernel_rfl) HF45 (by exact HO39.sel [0, 1, 2, 3, 4, 5, 6] (by decide)) (want_none rfl) rfl (by decide) (fun wq HO => (op_field (gwfld81_0 _ _) rfl (HF45.ev rfl))) ?_
  intro a46 HF47; clear HF45
  refine gx_take 4 rfl (by kernel_rfl) HF47 (by exact HO39.sel [0, 1, 2, 3, 4, 5, 6] (by decide)) (want_none rfl) rfl (by decide) (fun wq HO => (op_load1 gwagg28 rfl (HF47.ev rfl) (blk_at (HO.get 2 rfl) rfl))) ?_
  intro a48 HF49; clear HF47
  refine gx_take 5 rfl (by kernel_rfl) HF49 (by exact HO39.sel [0, 1, 2, 3, 4, 5, 6] (by decide)) (want_none rfl) rfl (by decide) (fun wq HO => (op_load1 gwagg3 rfl (HF49.ev rfl) (blk_at (HO.get 6 rfl) rfl))) ?_
  intro a50 HF51; clear HF49
  obtain ⟨hr52, hc53, hC54⟩ := cut_hi (P := Try.prog) (d := (Kd.int .u8)) (t := 28) (e := 5) Try.underlying28 gwsiz5 x.A x.c x.p.b (row_cap (HO39.get 3 rfl)) n (by omega) (by omega)
  refine gx_take 6 rfl (by kernel_rfl) HF51 (by exact HO39.sel [0, 1, 2, 3, 4, 5, 6] (by decide)) (want_none rfl) rfl (by decide) (fun wq HO => (op_cut Try.underlying28 hr52 rfl (HF51.ev rfl) rfl (some_ev (HF51.ev rfl)))) ?_
  intro a55 HF56; clear HF51
  refine gx_step 7 rfl (by kernel_rfl) ?_
  refine gw_ev HF56 (want_none rfl) rfl (by decide) (op_nil rfl (HF56.ev rfl)) ?_
  intro a57 HF58; clear HF56
  refine gx_on (i := 7) (B := (fun j_ => j_ == 9)) (M := [R, Chunk.blk gd (.cells #[.map (some gm), .int .i64 d.most, .int .i64 (d.used - ((x.p.b.length : Int) - n)), .int .i64 d.fuse, .bool d.down] 76 (0, 0)), Chunk.blk x.g (.cells #[.slice x.A x.p.b.length x.c, .int .i64 x.p.sf] 81 (0, 0)), Chunk.row (Kd.int .u8) 5 w0.heap.size x.S (.slice x.A x.p.b.length x.c) x.p.b, Chunk.blk bd (.cells #[.pointer (some ⟨gd, 0, none⟩)] 23 (0, 0)), Chunk.blk bf (.cells #[.pointer (some ⟨x.g, 0, none⟩)] 78 (0, 0)), Chunk.blk bk (.cells #[.int .i64 n] 3 (0, 0))]) (fun _ => (by exact HO39.sel [0, 1, 2, 3, 4, 5, 6] (by decide))) ?_
  refine gx_take 8 rfl (by kernel_rfl) HF58 (by exact HO39.sel [0, 1, 2, 3, 4, 5, 6] (by decide)) (want_none rfl) rfl (by decide) (fun wq HO => (op_field (gwfld81_0 _ _) rfl (HF58.ev rfl))) ?_
  intro a59 HF60; clear HF58
  refine gx_step 9 rfl (by kernel_rfl) ?_
  refine gw_set 2 HF60 HO39 rfl (want_none rfl) rfl (op_store1 gwsiz28 rfl (HF60.ev rfl) (HF60.ev rfl) rfl (blk_at (HO39.get 2 rfl) rfl) (blkf (HO39.get 2 rfl))) ?_
  intro a61 w63 HF62 HO64; clear HF60 HO39
  have HO65 : Own w0 w63 [R, Chunk.blk gd (.cells #[.map (some gm), .int .i64 d.most, .int .i64 (d.used - ((x.p.b.length : Int) - n)), .int .i64 d.fuse, .bool d.down] 76 (0, 0)), Chunk.blk x.g (.cells #[.slice x.A ((x.p.b.take n.toNat).length) x.c, .int .i64 x.p.sf] 81 (0, 0)), Chunk.row (Kd.int .u8) 5 w0.heap.size x.S (.slice x.A x.p.b.length x.c) x.p.b, Chunk.blk bd (.cells #[.pointer (some ⟨gd, 0, none⟩)] 23 (0, 0)), Chunk.blk bf (.cells #[.pointer (some ⟨x.g, 0, none⟩)] 78 (0, 0)), Chunk.blk bk (.cells #[.int .i64 n] 3 (0, 0))] := HO64
  clear HO64
  refine gx_on (i := 9) (B := (fun j_ => j_ == 9)) (M := [R, Chunk.blk gd (.cells #[.map (some gm), .int .i64 d.most, .int .i64 (d.used - ((x.p.b.length : Int) - n)), .int .i64 d.fuse, .bool d.down] 76 (0, 0)), Chunk.blk x.g (.cells #[.slice x.A x.p.b.length x.c, .int .i64 x.p.sf] 81 (0, 0)), Chunk.row (Kd.int .u8) 5 w0.heap.size x.S (.slice x.A x.p.b.length x.c) x.p.b, Chunk.blk bd (.cells #[.pointer (some ⟨gd, 0, none⟩)] 23 (0, 0)), Chunk.blk bf (.cells #[.pointer (some ⟨x.g, 0, none⟩)] 78 (0, 0)), Chunk.blk bk (.cells #[.int .i64 n] 3 (0, 0))]) (fun h_ => by cases h_) ?_
  refine gx_done (by kernel_rfl) ?_
  have HO66 := HO65.row_takeL 3 rfl n.toNat (by omega)
  clear HO65
  have HO67 : Own w0 w63 [R, Chunk.blk gd (.cells #[.map (some gm), .int .i64 d.most, .int .i64 (d.used - ((x.p.b.length : Int) - n)), .int .i64 d.fuse, .bool d.down] 76 (0, 0)), Chunk.blk x.g (.cells #[.slice x.A ((x.p.b.take n.toNat).length) x.c, .int .i64 x.p.sf] 81 (0, 0)), Chunk.row (Kd.int .u8) 5 w0.heap.size x.S (.slice x.A ((x.p.b.take n.toNat).length) x.c) (x.p.b.take n.toNat), Chunk.blk bd (.cells #[.pointer (some ⟨gd, 0, none⟩)] 23 (0, 0)), Chunk.blk bf (.cells #[.pointer (some ⟨x.g, 0, none⟩)] 78 (0, 0)), Chunk.blk bk (.cells #[.int .i64 n] 3 (0, 0))] := HO66
  clear HO66
  refine gw_nx (hK37 _ _ ?_)
  refine gx_draw (M := [R, Chunk.blk gd (.cells #[.map (some gm), .int .i64 d.most, .int .i64 (d.used - ((x.p.b.length : Int) - n)), .int .i64 d.fuse, .bool d.down] 76 (0, 0)), Chunk.blk x.g (.cells #[.slice x.A ((x.p.b.take n.toNat).length) x.c, .int .i64 x.p.sf] 81 (0, 0)), Chunk.row (Kd.int .u8) 5 w0.heap.size x.S (.slice x.A ((x.p.b.take n.toNat).length) x.c) (x.p.b.take n.toNat), Chunk.blk bd (.cells #[.pointer (some ⟨gd, 0, none⟩)] 23 (0, 0)), Chunk.blk bf (.cells #[.pointer (some ⟨x.g, 0, none⟩)] 78 (0, 0)), Chunk.blk bk (.cells #[.int .i64 n] 3 (0, 0))]) (fun j_ => j_ == 9) HO67 (by kernel_rfl) fun w68 HO69 => ?_
  clear HO67
  refine gx_take 0 rfl (by kernel_rfl) HF62 (by exact HO69.sel [0, 1, 2, 3, 4, 5, 6] (by decide)) (want_none rfl) rfl (by decide) (fun wq HO => (op_load1 gwagg78 rfl (HF62.ev rfl) (blk_at (HO.get 5 rfl) rfl))) ?_
  intro a70 HF71; clear HF62
  refine gx_take 1 rfl (by kernel_rfl) HF71 (by exact HO69.sel [0, 1, 2, 3, 4, 5, 6] (by decide)) (want_none rfl) rfl (by decide) (fun wq HO => (op_load1 gwagg78 rfl (HF71.ev rfl) (blk_at (HO.get 5 rfl) rfl))) ?_
  intro a72 HF73; clear HF71
  refine gx_take 2 rfl (by kernel_rfl) HF73 (by exact HO69.sel [0, 1, 2, 3, 4, 5, 6] (by decide)) (want_none rfl) rfl (by decide) (fun wq HO => (op_nil rfl (HF73.ev rfl))) ?_
  intro a74 HF75; clear HF73
  refine gx_take 3 rfl (by kernel_rfl) HF75 (by exact HO69.sel [0, 1, 2, 3, 4, 5, 6] (by decide)) (want_none rfl) rfl (by decide) (fun wq HO => (op_field (gwfld81_1 _ _) rfl (HF75.ev rfl))) ?_
  intro a76 HF77; clear HF75
  refine gx_take 4 rfl (by kernel_rfl) HF77 (by exact HO69.sel [0, 1, 2, 3, 4, 5, 6] (by decide)) (want_none rfl) rfl (by decide) (fun wq HO => (op_load1 gwagg3 rfl (HF77.ev rfl) (blk_at (HO.get 2 rfl) rfl))) ?_
  intro a78 HF79; clear HF77
  refine gx_take 5 rfl (by kernel_rfl) HF79 (by exact HO69.sel [0, 1, 2, 3, 4, 5, 6] (by decide)) (want_none rfl) rfl (by decide) (fun wq HO => (op_load1 gwagg3 rfl (HF79.ev rfl) (blk_at (HO.get 6 rfl) rfl))) ?_
  intro a80 HF81; clear HF79
  refine gx_take 6 rfl (by kernel_rfl) HF81 (by exact HO69.sel [0, 1, 2, 3, 4, 5, 6] (by decide)) (want_none rfl) rfl (by decide) (fun wq HO => (op_min rfl (HF81.ev rfl) (HF81.ev rfl))) ?_
  intro a82 HF83; clear HF81
  refine gx_step 7 rfl (by kernel_rfl) ?_
  refine gw_ev HF83 (want_none rfl) rfl (by decide) (op_nil rfl (HF83.ev rfl)) ?_
  intro a84 HF85; clear HF83
  refine gx_on (i := 7) (B := (fun j_ => j_ == 9)) (M := [R, Chunk.blk gd (.cells #[.map (some gm), .int .i64 d.most, .int .i64 (d.used - ((x.p.b.length : Int) - n)), .int .i64 d.fuse, .bool d.down] 76 (0, 0)), Chunk.blk x.g (.cells #[.slice x.A ((x.p.b.take n.toNat).length) x.c, .int .i64 x.p.sf] 81 (0, 0)), Chunk.row (Kd.int .u8) 5 w0.heap.size x.S (.slice x.A ((x.p.b.take n.toNat).length) x.c) (x.p.b.take n.toNat), Chunk.blk bd (.cells #[.pointer (some ⟨gd, 0, none⟩)] 23 (0, 0)), Chunk.blk bf (.cells #[.pointer (some ⟨x.g, 0, none⟩)] 78 (0, 0)), Chunk.blk bk (.cells #[.int .i64 n] 3 (0, 0))]) (fun _ => (by exact HO69.sel [0, 1, 2, 3, 4, 5, 6] (by decide))) ?_
  refine gx_take 8 rfl (by kernel_rfl) HF85 (by exact HO69.sel [0, 1, 2, 3, 4, 5, 6] (by decide)) (want_none rfl) rfl (by decide) (fun wq HO => (op_field (gwfld81_1 _ _) rfl (HF85.ev rfl))) ?_
  intro a86 HF87; clear HF85
  refine gx_step 9 rfl (by kernel_rfl) ?_
  refine gw_set 2 HF87 HO69 rfl (want_none rfl) rfl (op_store1 gwsiz3 rfl (HF87.ev rfl) (HF87.ev rfl) rfl (blk_at (HO69.get 2 rfl) rfl) (blkf (HO69.get 2 rfl))) ?_
  intro a88 w90 HF89 HO91; clear HF87 HO69
  have HO92 : Own w0 w90 [R, Chunk.blk gd (.cells #[.map (some gm), .int .i64 d.most, .int .i64 (d.used - ((x.p.b.length : Int) - n)), .int .i64 d.fuse, .bool d.down] 76 (0, 0)), Chunk.blk x.g (.cells #[.slice x.A ((x.p.b.take n.toNat).length) x.c, .int .i64 (mn x.p.sf n)] 81 (0, 0)), Chunk.row (Kd.int .u8) 5 w0.heap.size x.S (.slice x.A ((x.p.b.take n.toNat).length) x.c) (x.p.b.take n.toNat), Chunk.blk bd (.cells #[.pointer (some ⟨gd, 0, none⟩)] 23 (0, 0)), Chunk.blk bf (.cells #[.pointer (some ⟨x.g, 0, none⟩)] 78 (0, 0)), Chunk.blk bk (.cells #[.int .i64 n] 3 (0, 0))] := HO91
  clear HO91
  refine gx_on (i := 9) (B := (fun j_ => j_ == 9)) (M := [R, Chunk.blk gd (.cells #[.map (some gm), .int .i64 d.most, .int .i64 (d.used - ((x.p.b.length : Int) - n)), .int .i64 d.fuse, .bool d.down] 76 (0, 0)), Chunk.blk x.g (.cells #[.slice x.A ((x.p.b.take n.toNat).length) x.c, .int .i64 x.p.sf] 81 (0, 0)), Chunk.row (Kd.int .u8) 5 w0.heap.size x.S (.slice x.A ((x.p.b.take n.toNat).length) x.c) (x.p.b.take n.toNat), Chunk.blk bd (.cells #[.pointer (some ⟨gd, 0, none⟩)] 23 (0, 0)), Chunk.blk bf (.cells #[.pointer (some ⟨x.g, 0, none⟩)] 78 (0, 0)), Chunk.blk bk (.cells #[.int .i64 n] 3 (0, 0))]) (fun h_ => by cases h_) ?_
  refine gx_done (by kernel_rfl) ?_
  refine gw_end0 HF89 rfl ?_
  exact ⟨rfl, HO92.sel [0, 2, 3, 1] (by decide)⟩
set_option maxHeartbeats 4000000 in
set_option maxRecDepth 100000 in
theorem cut_calls (w0 w : World) (R : Chunk) (gd : Nat) (S : Nat → Prop) (d : PD) (nm : ByteArray) (n : Int) (hw : wfD d) (hn : nm.size ≤ 9223372036854775807) (HO : Own w0 w [R, Chunk.disk w0.heap.size gd S d]) :
    Calls Try.prog 51 #[.pointer (some ⟨gd, 0, none⟩), .string nm, .int .i64 n] w fun e w' => e = .returned (.int .i64 (cutD nm n d).2) ∧ ∃ S', Own w0 w' [R, Chunk.disk w0.heap.size gd S' (cutD nm n d).1] := by
  have hu0 := hw.used
  have hm0 := hw.most
  have hfu := hw.fuse
  obtain ⟨gm, xs, hxs, hon, HO⟩ := disk_open2 HO
  refine gw_startO (N := 34) (vs := [.pointer (some ⟨gd, 0, none⟩), .string nm, .int .i64 n]) Try.func51 rfl rfl (by simp) fun a HF => ?_
  rcases look3 nm d hxs hon with hdn | ⟨hdn, hl, hgd, hno⟩ | ⟨hdn, pre, x, post, rfl, hnm, hl, hgd, hoth⟩
  · skip
    refine gw_seq fun K1 hK1 => ?_
    refine wp_region_lit ?_
    refine gw_new HF HO (want_none rfl) rfl (by decide) (op_box rfl (HF.ev rfl)) ?_
    intro g2 a3 w4 HF5 HO6; clear HF HO
    have HO7 : Own w0 w4 [Chunk.blk g2 (.cells #[.pointer (some ⟨gd, 0, none⟩)] 23 (0, 0)), R, Chunk.blk gd (.cells #[.map (some gm), .int .i64 d.most, .int .i64 d.used, .int .i64 d.fuse, .bool d.down] 76 (0, 0)), Chunk.lmap Try.prog 9 gm (xs.map XF.ent), Chunk.files w0.heap.size xs] := HO6
    clear HO6
    refine gw_new HF5 HO7 (want_none rfl) rfl (by decide) (op_box rfl (HF5.ev rfl)) ?_
    intro g8 a9 w10 HF11 HO12; clear HF5 HO7
    have HO13 : Own w0 w10 [Chunk.blk g8 (.cells #[.int .i64 n] 3 (0, 0)), Chunk.blk g2 (.cells #[.pointer (some ⟨gd, 0, none⟩)] 23 (0, 0)), R, Chunk.blk gd (.cells #[.map (some gm), .int .i64 d.most, .int .i64 d.used, .int .i64 d.fuse, .bool d.down] 76 (0, 0)), Chunk.lmap Try.prog 9 gm (xs.map XF.ent), Chunk.files w0.heap.size xs] := HO12
    clear HO12
    refine gw_ev HF11 (want_none rfl) rfl (by decide) (op_assign rfl (ev_c _ _)) ?_
    intro a14 HF15; clear HF11
    refine wpList_nil ?_
    refine gw_nx (hK1 _ _ ?_)
    refine gw_seq fun K16 hK16 => ?_
    refine wp_region_lit ?_
    refine gw_ev HF15 (want_none rfl) rfl (by decide) (op_load1 gwagg23 rfl (HF15.ev rfl) (blk_at (HO13.get 1 rfl) rfl)) ?_
    intro a17 HF18; clear HF15
    refine gw_ev HF18 (want_none rfl) rfl (by decide) (op_move rfl (HF18.ev rfl)) ?_
    intro a19 HF20; clear HF18
    refine gw_call HF20 (want_none rfl) rfl (by decide) (op_callL Try.func42 (by kernel_rfl) rfl rfl (ar_cons (HF20.ev rfl) (ar_cons (HF20.ev rfl) ar_nil))) (find_down gd gm d nm (xs.map XF.ent) _ (by exact HO13.get 3 rfl) (HO13.get 4 rfl) hdn hn) ?_
    rintro e21 w22 ⟨rfl, hb23⟩
    refine ⟨_, rfl, fun a24 HF25 => ?_⟩
    have HO26 := HO13.after hb23
    clear HF20 HO13 hb23
    refine gw_ev HF25 (want_none rfl) rfl (by decide) (op_move rfl (HF25.ev rfl)) ?_
    intro a28 HF29; clear HF25
    refine gw_ev HF29 (want_none rfl) rfl (by decide) (op_extract rfl (HF29.ev rfl) rfl) ?_
    intro a30 HF31; clear HF29
    refine gw_ev HF31 (want_none rfl) rfl (by decide) (op_extract rfl (HF31.ev rfl) rfl) ?_
    intro a32 HF33; clear HF31
    refine gw_new HF33 HO26 (want_none rfl) rfl (by decide) (op_alloc gwzer78 rfl) ?_
    intro g34 a35 w36 HF37 HO38; clear HF33 HO26
    have HO39 : Own w0 w36 [Chunk.blk g34 (.cells #[.pointer none] 78 (0, 0)), Chunk.blk g8 (.cells #[.int .i64 n] 3 (0, 0)), Chunk.blk g2 (.cells #[.pointer (some ⟨gd, 0, none⟩)] 23 (0, 0)), R, Chunk.blk gd (.cells #[.map (some gm), .int .i64 d.most, .int .i64 d.used, .int .i64 d.fuse, .bool d.down] 76 (0, 0)), Chunk.lmap Try.prog 9 gm (xs.map XF.ent), Chunk.files w0.heap.size xs] := HO38
    clear HO38
    refine gw_set 0 HF37 HO39 rfl (want_none rfl) rfl (op_store1 gwsiz78 rfl (HF37.ev rfl) (HF37.ev rfl) rfl (blk_at (HO39.get 0 rfl) rfl) (blkf (HO39.get 0 rfl))) ?_
    intro a40 w42 HF41 HO43; clear HF37 HO39
    have HO44 : Own w0 w42 [Chunk.blk g34 (.cells #[.pointer none] 78 (0, 0)), Chunk.blk g8 (.cells #[.int .i64 n] 3 (0, 0)), Chunk.blk g2 (.cells #[.pointer (some ⟨gd, 0, none⟩)] 23 (0, 0)), R, Chunk.blk gd (.cells #[.map (some gm), .int .i64 d.most, .int .i64 d.used, .int .i64 d.fuse, .bool d.down] 76 (0, 0)), Chunk.lmap Try.prog 9 gm (xs.map XF.ent), Chunk.files w0.heap.size xs] := HO43
    clear HO43
    refine gw_ev HF41 (want_none rfl) rfl (by decide) (op_assign rfl (HF41.ev rfl)) ?_
    intro a45 HF46; clear HF41
    refine wpList_nil ?_
    refine gw_nx (hK16 _ _ ?_)
    refine gw_seq fun K47 hK47 => ?_
    refine wp_block ?_
    refine gw_seq fun K48 hK48 => ?_
    refine wp_region_lit ?_
    refine gw_ev HF46 (want_none rfl) rfl (by decide) (op_move rfl (HF46.ev rfl)) ?_
    intro a49 HF50; clear HF46
    refine gw_ev HF50 (want_none rfl) rfl (by decide) (op_nei rfl (HF50.ev rfl) (ev_c _ _)) ?_
    intro a51 HF52; clear HF50
    have HF53 := HF52.lit (b := true) (by decide)
    clear HF52
    refine gw_ev HF53 (want_none rfl) rfl (by decide) (op_assign rfl (HF53.ev rfl)) ?_
    intro a54 HF55; clear HF53
    refine wpList_nil ?_
    refine gw_nx (hK48 _ _ ?_)
    refine gw_cond HF55 rfl (fun hb56 => ?_) (fun hb56 => ?_)
    rotate_left
    · cases hb56
    refine gw_seq fun K57 hK57 => ?_
    refine wp_region_lit ?_
    refine gw_ev HF55 (want_none rfl) rfl (by decide) (op_move rfl (HF55.ev rfl)) ?_
    intro a58 HF59; clear HF55
    refine gw_ev HF59 (want_none rfl) rfl (by decide) (op_assign rfl (HF59.ev rfl)) ?_
    intro a60 HF61; clear HF59
    refine wpList_nil ?_
    refine gw_nx (hK57 _ _ ?_)
    refine wp_ret ?_
    refine gw_blr ?_
    refine gw_thr ?_
    refine gw_ret1 HF61 rfl rfl ?_
    exact disk_fin (gd := gd) (gm := gm) (d' := d) (xs := xs) (with_down hdn) hxs (by exact HO44.sel [3, 4, 5, 6] (by decide))
  · skip
    refine gw_seq fun K62 hK62 => ?_
    refine wp_region_lit ?_
    refine gw_new HF HO (want_none rfl) rfl (by decide) (op_box rfl (HF.ev rfl)) ?_
    intro g63 a64 w65 HF66 HO67; clear HF HO
    have HO68 : Own w0 w65 [Chunk.blk g63 (.cells #[.pointer (some ⟨gd, 0, none⟩)] 23 (0, 0)), R, Chunk.blk gd (.cells #[.map (some gm), .int .i64 d.most, .int .i64 d.used, .int .i64 d.fuse, .bool d.down] 76 (0, 0)), Chunk.lmap Try.prog 9 gm (xs.map XF.ent), Chunk.files w0.heap.size xs] := HO67
    clear HO67
    refine gw_new HF66 HO68 (want_none rfl) rfl (by decide) (op_box rfl (HF66.ev rfl)) ?_
    intro g69 a70 w71 HF72 HO73; clear HF66 HO68
    have HO74 : Own w0 w71 [Chunk.blk g69 (.cells #[.int .i64 n] 3 (0, 0)), Chunk.blk g63 (.cells #[.pointer (some ⟨gd, 0, none⟩)] 23 (0, 0)), R, Chunk.blk gd (.cells #[.map (some gm), .int .i64 d.most, .int .i64 d.used, .int .i64 d.fuse, .bool d.down] 76 (0, 0)), Chunk.lmap Try.prog 9 gm (xs.map XF.ent), Chunk.files w0.heap.size xs] := HO73
    clear HO73
    refine gw_ev HF72 (want_none rfl) rfl (by decide) (op_assign rfl (ev_c _ _)) ?_
    intro a75 HF76; clear HF72
    refine wpList_nil ?_
    refine gw_nx (hK62 _ _ ?_)
    refine gw_seq fun K77 hK77 => ?_
    refine wp_region_lit ?_
    refine gw_ev HF76 (want_none rfl) rfl (by decide) (op_load1 gwagg23 rfl (HF76.ev rfl) (blk_at (HO74.get 1 rfl) rfl)) ?_
    intro a78 HF79; clear HF76
    refine gw_ev HF79 (want_none rfl) rfl (by decide) (op_move rfl (HF79.ev rfl)) ?_
    intro a80 HF81; clear HF79
    refine gw_call HF81 (want_none rfl) rfl (by decide) (op_callL Try.func42 (by kernel_rfl) rfl rfl (ar_cons (HF81.ev rfl) (ar_cons (HF81.ev rfl) ar_nil))) (find_none gd gm d nm (xs.map XF.ent) _ (by exact HO74.get 3 rfl) (HO74.get 4 rfl) hdn hl hn) ?_
    rintro e82 w83 ⟨rfl, hb84⟩
    refine ⟨_, rfl, fun a85 HF86 => ?_⟩
    have HO87 := HO74.after hb84
    clear HF81 HO74 hb84
    refine gw_ev HF86 (want_none rfl) rfl (by decide) (op_move rfl (HF86.ev rfl)) ?_
    intro a89 HF90; clear HF86
    refine gw_ev HF90 (want_none rfl) rfl (by decide) (op_extract rfl (HF90.ev rfl) rfl) ?_
    intro a91 HF92; clear HF90
    refine gw_ev HF92 (want_none rfl) rfl (by decide) (op_extract rfl (HF92.ev rfl) rfl) ?_
    intro a93 HF94; clear HF92
    refine gw_new HF94 HO87 (want_none rfl) rfl (by decide) (op_alloc gwzer78 rfl) ?_
    intro g95 a96 w97 HF98 HO99; clear HF94 HO87
    have HO100 : Own w0 w97 [Chunk.blk g95 (.cells #[.pointer none] 78 (0, 0)), Chunk.blk g69 (.cells #[.int .i64 n] 3 (0, 0)), Chunk.blk g63 (.cells #[.pointer (some ⟨gd, 0, none⟩)] 23 (0, 0)), R, Chunk.blk gd (.cells #[.map (some gm), .int .i64 d.most, .int .i64 d.used, .int .i64 d.fuse, .bool d.down] 76 (0, 0)), Chunk.lmap Try.prog 9 gm (xs.map XF.ent), Chunk.files w0.heap.size xs] := HO99
    clear HO99
    refine gw_set 0 HF98 HO100 rfl (want_none rfl) rfl (op_store1 gwsiz78 rfl (HF98.ev rfl) (HF98.ev rfl) rfl (blk_at (HO100.get 0 rfl) rfl) (blkf (HO100.get 0 rfl))) ?_
    intro a101 w103 HF102 HO104; clear HF98 HO100
    have HO105 : Own w0 w103 [Chunk.blk g95 (.cells #[.pointer none] 78 (0, 0)), Chunk.blk g69 (.cells #[.int .i64 n] 3 (0, 0)), Chunk.blk g63 (.cells #[.pointer (some ⟨gd, 0, none⟩)] 23 (0, 0)), R, Chunk.blk gd (.cells #[.map (some gm), .int .i64 d.most, .int .i64 d.used, .int .i64 d.fuse, .bool d.down] 76 (0, 0)), Chunk.lmap Try.prog 9 gm (xs.map XF.ent), Chunk.files w0.heap.size xs] := HO104
    clear HO104
    refine gw_ev HF102 (want_none rfl) rfl (by decide) (op_assign rfl (HF102.ev rfl)) ?_
    intro a106 HF107; clear HF102
    refine wpList_nil ?_
    refine gw_nx (hK77 _ _ ?_)
    refine gw_seq fun K108 hK108 => ?_
    refine wp_block ?_
    refine gw_seq fun K109 hK109 => ?_
    refine wp_region_lit ?_
    refine gw_ev HF107 (want_none rfl) rfl (by decide) (op_move rfl (HF107.ev rfl)) ?_
    intro a110 HF111; clear HF107
    refine gw_ev HF111 (want_none rfl) rfl (by decide) (op_nei rfl (HF111.ev rfl) (ev_c _ _)) ?_
    intro a112 HF113; clear HF111
    have HF114 := HF113.lit (b := true) (by decide)
    clear HF113
    refine gw_ev HF114 (want_none rfl) rfl (by decide) (op_assign rfl (HF114.ev rfl)) ?_
    intro a115 HF116; clear HF114
    refine wpList_nil ?_
    refine gw_nx (hK109 _ _ ?_)
    refine gw_cond HF116 rfl (fun hb117 => ?_) (fun hb117 => ?_)
    rotate_left
    · cases hb117
    refine gw_seq fun K118 hK118 => ?_
    refine wp_region_lit ?_
    refine gw_ev HF116 (want_none rfl) rfl (by decide) (op_move rfl (HF116.ev rfl)) ?_
    intro a119 HF120; clear HF116
    refine gw_ev HF120 (want_none rfl) rfl (by decide) (op_assign rfl (HF120.ev rfl)) ?_
    intro a121 HF122; clear HF120
    refine wpList_nil ?_
    refine gw_nx (hK118 _ _ ?_)
    refine wp_ret ?_
    refine gw_blr ?_
    refine gw_thr ?_
    refine gw_ret1 HF122 rfl rfl ?_
    exact disk_fin (gd := gd) (gm := gm) (d' := d) (xs := xs) (with_none hdn hgd) hxs (by exact HO105.sel [3, 4, 5, 6] (by decide))
  · skip
    have HO := Own.sel (Own.file_open (Own.sel HO [3, 0, 1, 2] (by decide))) [3, 4, 5, 0, 1, 2] (by decide)
    have hxl := wf_len hw (getF_mem hgd).1
    have hxs1 := hw.sf _ (getF_mem hgd).1
    have HO123 : Own w0 w [R, Chunk.blk gd (.cells #[.map (some gm), .int .i64 d.most, .int .i64 d.used, .int .i64 d.fuse, .bool d.down] 76 (0, 0)), Chunk.lmap Try.prog 9 gm ((pre ++ x :: post).map XF.ent), Chunk.blk x.g (.cells #[.slice x.A x.p.b.length x.c, .int .i64 x.p.sf] 81 (0, 0)), Chunk.row (Kd.int .u8) 5 w0.heap.size x.S (.slice x.A x.p.b.length x.c) x.p.b, Chunk.files w0.heap.size (pre ++ post)] := HO
    clear HO
    refine gw_seq fun K124 hK124 => ?_
    refine wp_region_lit ?_
    refine gw_new HF HO123 (want_none rfl) rfl (by decide) (op_box rfl (HF.ev rfl)) ?_
    intro g125 a126 w127 HF128 HO129; clear HF HO123
    have HO130 : Own w0 w127 [Chunk.blk g125 (.cells #[.pointer (some ⟨gd, 0, none⟩)] 23 (0, 0)), R, Chunk.blk gd (.cells #[.map (some gm), .int .i64 d.most, .int .i64 d.used, .int .i64 d.fuse, .bool d.down] 76 (0, 0)), Chunk.lmap Try.prog 9 gm ((pre ++ x :: post).map XF.ent), Chunk.blk x.g (.cells #[.slice x.A x.p.b.length x.c, .int .i64 x.p.sf] 81 (0, 0)), Chunk.row (Kd.int .u8) 5 w0.heap.size x.S (.slice x.A x.p.b.length x.c) x.p.b, Chunk.files w0.heap.size (pre ++ post)] := HO129
    clear HO129
    refine gw_new HF128 HO130 (want_none rfl) rfl (by decide) (op_box rfl (HF128.ev rfl)) ?_
    intro g131 a132 w133 HF134 HO135; clear HF128 HO130
    have HO136 : Own w0 w133 [Chunk.blk g131 (.cells #[.int .i64 n] 3 (0, 0)), Chunk.blk g125 (.cells #[.pointer (some ⟨gd, 0, none⟩)] 23 (0, 0)), R, Chunk.blk gd (.cells #[.map (some gm), .int .i64 d.most, .int .i64 d.used, .int .i64 d.fuse, .bool d.down] 76 (0, 0)), Chunk.lmap Try.prog 9 gm ((pre ++ x :: post).map XF.ent), Chunk.blk x.g (.cells #[.slice x.A x.p.b.length x.c, .int .i64 x.p.sf] 81 (0, 0)), Chunk.row (Kd.int .u8) 5 w0.heap.size x.S (.slice x.A x.p.b.length x.c) x.p.b, Chunk.files w0.heap.size (pre ++ post)] := HO135
    clear HO135
    refine gw_ev HF134 (want_none rfl) rfl (by decide) (op_assign rfl (ev_c _ _)) ?_
    intro a137 HF138; clear HF134
    refine wpList_nil ?_
    refine gw_nx (hK124 _ _ ?_)
    refine gw_seq fun K139 hK139 => ?_
    refine wp_region_lit ?_
    refine gw_ev HF138 (want_none rfl) rfl (by decide) (op_load1 gwagg23 rfl (HF138.ev rfl) (blk_at (HO136.get 1 rfl) rfl)) ?_
    intro a140 HF141; clear HF138
    refine gw_ev HF141 (want_none rfl) rfl (by decide) (op_move rfl (HF141.ev rfl)) ?_
    intro a142 HF143; clear HF141
    refine gw_call HF143 (want_none rfl) rfl (by decide) (op_callL Try.func42 (by kernel_rfl) rfl rfl (ar_cons (HF143.ev rfl) (ar_cons (HF143.ev rfl) ar_nil))) (find_some gd gm d nm ((pre ++ x :: post).map XF.ent) x.g _ (by exact HO136.get 3 rfl) (HO136.get 4 rfl) hdn hl hn) ?_
    rintro e144 w145 ⟨rfl, hb146⟩
    refine ⟨_, rfl, fun a147 HF148 => ?_⟩
    have HO149 := HO136.after hb146
    clear HF143 HO136 hb146
    refine gw_ev HF148 (want_none rfl) rfl (by decide) (op_move rfl (HF148.ev rfl)) ?_
    intro a151 HF152; clear HF148
    refine gw_ev HF152 (want_none rfl) rfl (by decide) (op_extract rfl (HF152.ev rfl) rfl) ?_
    intro a153 HF154; clear HF152
    refine gw_ev HF154 (want_none rfl) rfl (by decide) (op_extract rfl (HF154.ev rfl) rfl) ?_
    intro a155 HF156; clear HF154
    refine gw_new HF156 HO149 (want_none rfl) rfl (by decide) (op_alloc gwzer78 rfl) ?_
    intro g157 a158 w159 HF160 HO161; clear HF156 HO149
    have HO162 : Own w0 w159 [Chunk.blk g157 (.cells #[.pointer none] 78 (0, 0)), Chunk.blk g131 (.cells #[.int .i64 n] 3 (0, 0)), Chunk.blk g125 (.cells #[.pointer (some ⟨gd, 0, none⟩)] 23 (0, 0)), R, Chunk.blk gd (.cells #[.map (some gm), .int .i64 d.most, .int .i64 d.used, .int .i64 d.fuse, .bool d.down] 76 (0, 0)), Chunk.lmap Try.prog 9 gm ((pre ++ x :: post).map XF.ent), Chunk.blk x.g (.cells #[.slice x.A x.p.b.length x.c, .int .i64 x.p.sf] 81 (0, 0)), Chunk.row (Kd.int .u8) 5 w0.heap.size x.S (.slice x.A x.p.b.length x.c) x.p.b, Chunk.files w0.heap.size (pre ++ post)] := HO161
    clear HO161
    refine gw_set 0 HF160 HO162 rfl (want_none rfl) rfl (op_store1 gwsiz78 rfl (HF160.ev rfl) (HF160.ev rfl) rfl (blk_at (HO162.get 0 rfl) rfl) (blkf (HO162.get 0 rfl))) ?_
    intro a163 w165 HF164 HO166; clear HF160 HO162
    have HO167 : Own w0 w165 [Chunk.blk g157 (.cells #[.pointer (some ⟨x.g, 0, none⟩)] 78 (0, 0)), Chunk.blk g131 (.cells #[.int .i64 n] 3 (0, 0)), Chunk.blk g125 (.cells #[.pointer (some ⟨gd, 0, none⟩)] 23 (0, 0)), R, Chunk.blk gd (.cells #[.map (some gm), .int .i64 d.most, .int .i64 d.used, .int .i64 d.fuse, .bool d.down] 76 (0, 0)), Chunk.lmap Try.prog 9 gm ((pre ++ x :: post).map XF.ent), Chunk.blk x.g (.cells #[.slice x.A x.p.b.length x.c, .int .i64 x.p.sf] 81 (0, 0)), Chunk.row (Kd.int .u8) 5 w0.heap.size x.S (.slice x.A x.p.b.length x.c) x.p.b, Chunk.files w0.heap.size (pre ++ post)] := HO166
    clear HO166
    refine gw_ev HF164 (want_none rfl) rfl (by decide) (op_assign rfl (HF164.ev rfl)) ?_
    intro a168 HF169; clear HF164
    refine wpList_nil ?_
    refine gw_nx (hK139 _ _ ?_)
    refine gw_seq fun K170 hK170 => ?_
    refine wp_block ?_
    refine gw_seq fun K171 hK171 => ?_
    refine wp_region_lit ?_
    refine gw_ev HF169 (want_none rfl) rfl (by decide) (op_move rfl (HF169.ev rfl)) ?_
    intro a172 HF173; clear HF169
    refine gw_ev HF173 (want_none rfl) rfl (by decide) (op_nei rfl (HF173.ev rfl) (ev_c _ _)) ?_
    intro a174 HF175; clear HF173
    have HF176 := HF175.lit (b := false) (by decide)
    clear HF175
    refine gw_ev HF176 (want_none rfl) rfl (by decide) (op_assign rfl (HF176.ev rfl)) ?_
    intro a177 HF178; clear HF176
    refine wpList_nil ?_
    refine gw_nx (hK171 _ _ ?_)
    refine gw_cond HF178 rfl (fun hb179 => ?_) (fun hb179 => ?_)
    skip
    · cases hb179
    refine gw_seq fun K180 hK180 => ?_
    refine gw_drawB HO167 (by kernel_rfl) (by kernel_rfl) fun w181 HO182 => ?_
    clear HO167
    refine gq_ev HF178 (want_none rfl) rfl (by decide) (fun wq hq => have HO := HO182.after hq; (op_load1 gwagg3 rfl (HF178.ev rfl) (blk_at (HO.get 1 rfl) rfl))) ?_
    intro a183 HF184; clear HF178
    refine gq_ev HF184 (want_none rfl) rfl (by decide) (fun wq hq => have HO := HO182.after hq; (op_lss rfl (HF184.ev rfl) (ev_c _ _))) ?_
    intro a185 HF186; clear HF184
    refine gq_ev HF186 (want_none rfl) rfl (by decide) (fun wq hq => have HO := HO182.after hq; (op_move rfl (HF186.ev rfl))) ?_
    intro a187 HF188; clear HF186
    refine gq_evG HF188 rfl rfl rfl rfl (on_f _) rfl (by decide) (fun h_ wq hq => have HO := HO182.after hq; (op_load1 gwagg3 rfl (HF188.ev rfl) (blk_at (HO.get 1 rfl) rfl))) ?_
    intro a189 HF190; clear HF188
    refine gq_evG HF190 rfl rfl rfl rfl (on_f _) rfl (by decide) (fun h_ wq hq => have HO := HO182.after hq; (op_load1 gwagg78 rfl (HF190.ev rfl) (blk_at (HO.get 0 rfl) rfl))) ?_
    intro a191 HF192; clear HF190
    refine gq_evG HF192 rfl rfl rfl rfl (on_f _) rfl (by decide) (fun h_ wq hq => have HO := HO182.after hq; (op_nil rfl (ev_gv (HF192.ev rfl) h_))) ?_
    intro a193 HF194; clear HF192
    refine gq_evG HF194 rfl rfl rfl rfl (on_f _) rfl (by decide) (fun h_ wq hq => have HO := HO182.after hq; (op_field (gwfld81_0 _ _) rfl (ev_gv (HF194.ev rfl) h_))) ?_
    intro a195 HF196; clear HF194
    refine gq_evG HF196 rfl rfl rfl rfl (on_f _) rfl (by decide) (fun h_ wq hq => have HO := HO182.after hq; (op_load1 gwagg28 rfl (ev_gv (HF196.ev rfl) h_) (blk_at (HO.get 6 rfl) rfl))) ?_
    intro a197 HF198; clear HF196
    refine gq_evG HF198 rfl rfl rfl rfl (on_f _) rfl (by decide) (fun h_ wq hq => have HO := HO182.after hq; (op_len Try.underlying28 rfl (ev_gv (HF198.ev rfl) h_))) ?_
    intro a199 HF200; clear HF198
    refine gq_evG HF200 rfl rfl rfl rfl (on_f _) rfl (by decide) (fun h_ wq hq => have HO := HO182.after hq; (op_gtr rfl (ev_gv (HF200.ev rfl) h_) (ev_gv (HF200.ev rfl) h_))) ?_
    intro a201 HF202; clear HF200
    refine gq_ev HF202 (want_none rfl) rfl (by decide) (fun wq hq => have HO := HO182.after hq; (op_pick_or rfl (HF202.ev rfl) (ev_c _ _) (fun hp_ => (ev_gv (HF202.ev rfl) (not_t hp_))))) ?_
    intro a203 HF204; clear HF202
    refine gq_ev HF204 (want_none rfl) rfl (by decide) (fun wq hq => have HO := HO182.after hq; (op_assign rfl (HF204.ev rfl))) ?_
    intro a205 HF206; clear HF204
    refine wpQuiet_nil ?_
    intro w207 hq
    have HO208 := HO182.after hq
    clear HO182 hq
    refine gw_nx (hK180 _ _ ?_)
    refine gw_cond HF206 rfl (fun hb209 => ?_) (fun hb209 => ?_)
    · skip
      have HF210 := HF206.subst_ (d := 19) (b := true) rfl hb209
      clear HF206
      (try simp only [Bool.and_eq_true, Bool.or_eq_true, Bool.and_eq_false_iff, Bool.or_eq_false_iff, Bool.not_and, Bool.not_or, Bool.not_not, decide_eq_true_eq, decide_eq_false_iff_not, Bool.not_eq_true', Bool.not_eq_false', Bool.not_eq_true, Bool.not_eq_false, ne_eq, Decidable.not_not, Int.not_lt, Int.not_le, not_true_eq_false, not_false_eq_true, bne_iff_ne, beq_iff_eq, bne_eq_false_iff_eq, beq_eq_false_iff_ne] at hb209)
      refine gw_seq fun K211 hK211 => ?_
      refine wp_region_lit ?_
      refine gw_ev HF210 (want_none rfl) rfl (by decide) (op_assign rfl (ev_c _ _)) ?_
      intro a212 HF213; clear HF210
      refine wpList_nil ?_
      refine gw_nx (hK211 _ _ ?_)
      refine wp_ret ?_
      refine gw_blr ?_
      refine gw_thr ?_
      refine gw_ret1 HF213 rfl rfl ?_
      have HO214 := Own.file_close (x := x) (pre := pre) (post := post) (by exact HO208.sel [6, 7, 8, 0, 1, 2, 3, 4, 5] (by decide))
      exact disk_fin (gd := gd) (gm := gm) (d' := d) (xs := pre ++ x :: post) (cut_bad hdn hgd (by omega)) hxs (by exact HO214.sel [4, 5, 6, 0] (by decide))
    · skip
      have HF215 := HF206.subst_ (d := 19) (b := false) rfl hb209
      clear HF206
      (try simp only [Bool.and_eq_true, Bool.or_eq_true, Bool.and_eq_false_iff, Bool.or_eq_false_iff, Bool.not_and, Bool.not_or, Bool.not_not, decide_eq_true_eq, decide_eq_false_iff_not, Bool.not_eq_true', Bool.not_eq_false', Bool.not_eq_true, Bool.not_eq_false, ne_eq, Decidable.not_not, Int.not_lt, Int.not_le, not_true_eq_false, not_false_eq_true, bne_iff_ne, beq_iff_eq, bne_eq_false_iff_eq, beq_eq_false_iff_ne] at hb209)
      refine wp_skip ?_
      refine gw_blk ?_
      refine gw_nx (hK170 _ _ ?_)
      refine gw_seq fun K216 hK216 => ?_
      refine wp_region_lit ?_
      refine gw_ev HF215 (want_none rfl) rfl (by decide) (op_load1 gwagg23 rfl (HF215.ev rfl) (blk_at (HO208.get 2 rfl) rfl)) ?_
      intro a217 HF218; clear HF215
      refine gw_ev HF218 (want_none rfl) rfl (by decide) (op_func rfl (ar_cons (HF218.ev rfl) (ar_cons (HF218.ev rfl) (ar_cons (HF218.ev rfl) ar_nil)))) ?_
      intro a219 HF220; clear HF218
      have HO227 : Own w0 _ [(Chunk.all [Chunk.blk g157 (.cells #[.pointer (some ⟨x.g, 0, none⟩)] 78 (0, 0)), Chunk.blk g131 (.cells #[.int .i64 n] 3 (0, 0)), Chunk.blk g125 (.cells #[.pointer (some ⟨gd, 0, none⟩)] 23 (0, 0)), R, Chunk.lmap Try.prog 9 gm ((pre ++ x :: post).map XF.ent), Chunk.blk x.g (.cells #[.slice x.A x.p.b.length x.c, .int .i64 x.p.sf] 81 (0, 0)), Chunk.row (Kd.int .u8) 5 w0.heap.size x.S (.slice x.A x.p.b.length x.c) x.p.b, Chunk.files w0.heap.size (pre ++ post)]), Chunk.blk gd (.cells #[.map (some gm), .int .i64 d.most, .int .i64 d.used, .int .i64 d.fuse, .bool d.down] 76 (0, 0))] := Own.bundle (A := [Chunk.blk g157 (.cells #[.pointer (some ⟨x.g, 0, none⟩)] 78 (0, 0)), Chunk.blk g131 (.cells #[.int .i64 n] 3 (0, 0)), Chunk.blk g125 (.cells #[.pointer (some ⟨gd, 0, none⟩)] 23 (0, 0)), R, Chunk.lmap Try.prog 9 gm ((pre ++ x :: post).map XF.ent), Chunk.blk x.g (.cells #[.slice x.A x.p.b.length x.c, .int .i64 x.p.sf] 81 (0, 0)), Chunk.row (Kd.int .u8) 5 w0.heap.size x.S (.slice x.A x.p.b.length x.c) x.p.b, Chunk.files w0.heap.size (pre ++ post)]) (L := [Chunk.blk gd (.cells #[.map (some gm), .int .i64 d.most, .int .i64 d.used, .int .i64 d.fuse, .bool d.down] 76 (0, 0))]) (HO208.sel [0, 1, 2, 3, 5, 6, 7, 8, 4] (by decide))
      refine gw_call HF220 (want_none rfl) rfl (by decide) (op_callL Try.func40 (by kernel_rfl) rfl rfl (ar_cons (HF220.ev rfl) (ar_cons (HF220.ev rfl) ar_nil))) (step_calls w0 _ (Chunk.all [Chunk.blk g157 (.cells #[.pointer (some ⟨x.g, 0, none⟩)] 78 (0, 0)), Chunk.blk g131 (.cells #[.int .i64 n] 3 (0, 0)), Chunk.blk g125 (.cells #[.pointer (some ⟨gd, 0, none⟩)] 23 (0, 0)), R, Chunk.lmap Try.prog 9 gm ((pre ++ x :: post).map XF.ent), Chunk.blk x.g (.cells #[.slice x.A x.p.b.length x.c, .int .i64 x.p.sf] 81 (0, 0)), Chunk.row (Kd.int .u8) 5 w0.heap.size x.S (.slice x.A x.p.b.length x.c) x.p.b, Chunk.files w0.heap.size (pre ++ post)]) gd gm d 67 _ [.pointer (some ⟨g125, 0, none⟩), .pointer (some ⟨g157, 0, none⟩), .pointer (some ⟨g131, 0, none⟩)] (fun w_ => Own w0 w_ [(Chunk.all [R, Chunk.lmap Try.prog 9 gm ((pre ++ x :: post).map XF.ent), Chunk.files w0.heap.size (pre ++ post)]), Chunk.blk x.g (.cells #[.slice x.A ((x.p.b.take n.toNat).length) x.c, .int .i64 (mn x.p.sf n)] 81 (0, 0)), Chunk.row (Kd.int .u8) 5 w0.heap.size x.S (.slice x.A ((x.p.b.take n.toNat).length) x.c) (x.p.b.take n.toNat), Chunk.blk gd (.cells #[.map (some gm), .int .i64 (({ d with fuse := decF d.fuse } : PD).most), .int .i64 (d.used - ((x.p.b.length : Int) - n)), .int .i64 (({ d with fuse := decF d.fuse } : PD).fuse), .bool (({ d with fuse := decF d.fuse } : PD).down)] 76 (0, 0))]) Try.func67 (by kernel_rfl) rfl hfu (fun hf1 w1 h_ => cut1 w0 w1 (Chunk.all [R, Chunk.lmap Try.prog 9 gm ((pre ++ x :: post).map XF.ent), Chunk.files w0.heap.size (pre ++ post)]) gd gm ({ d with fuse := decF d.fuse } : PD) x g125 g157 g131 n (by omega) (by show 0 ≤ d.used ∧ d.used ≤ _; omega) (by show _ ≤ d.used; omega) (Own.bundle (A := [R, Chunk.lmap Try.prog 9 gm ((pre ++ x :: post).map XF.ent), Chunk.files w0.heap.size (pre ++ post)]) (L := [Chunk.blk gd (.cells #[.map (some gm), .int .i64 (({ d with fuse := decF d.fuse } : PD).most), .int .i64 (({ d with fuse := decF d.fuse } : PD).used), .int .i64 (({ d with fuse := decF d.fuse } : PD).fuse), .bool (({ d with fuse := decF d.fuse } : PD).down)] 76 (0, 0)), Chunk.blk x.g (.cells #[.slice x.A x.p.b.length x.c, .int .i64 x.p.sf] 81 (0, 0)), Chunk.row (Kd.int .u8) 5 w0.heap.size x.S (.slice x.A x.p.b.length x.c) x.p.b, Chunk.blk g125 (.cells #[.pointer (some ⟨gd, 0, none⟩)] 23 (0, 0)), Chunk.blk g157 (.cells #[.pointer (some ⟨x.g, 0, none⟩)] 78 (0, 0)), Chunk.blk g131 (.cells #[.int .i64 n] 3 (0, 0))]) ((Own.unbundle (A := [Chunk.blk g157 (.cells #[.pointer (some ⟨x.g, 0, none⟩)] 78 (0, 0)), Chunk.blk g131 (.cells #[.int .i64 n] 3 (0, 0)), Chunk.blk g125 (.cells #[.pointer (some ⟨gd, 0, none⟩)] 23 (0, 0)), R, Chunk.lmap Try.prog 9 gm ((pre ++ x :: post).map XF.ent), Chunk.blk x.g (.cells #[.slice x.A x.p.b.length x.c, .int .i64 x.p.sf] 81 (0, 0)), Chunk.row (Kd.int .u8) 5 w0.heap.size x.S (.slice x.A x.p.b.length x.c) x.p.b, Chunk.files w0.heap.size (pre ++ post)]) (L := [Chunk.blk gd (.cells #[.map (some gm), .int .i64 (({ d with fuse := decF d.fuse } : PD).most), .int .i64 (({ d with fuse := decF d.fuse } : PD).used), .int .i64 (({ d with fuse := decF d.fuse } : PD).fuse), .bool (({ d with fuse := decF d.fuse } : PD).down)] 76 (0, 0))]) (by exact h_)).sel [3, 4, 7, 8, 5, 6, 2, 0, 1] (by decide)))) (by exact HO227)) ?_
      rintro e221 w222 (⟨hf1, rfl, hb223⟩ | ⟨hf1, rfl, hb223⟩)
      · skip
        refine ⟨_, rfl, fun a224 HF225 => ?_⟩
        have HO226 : Own w0 w222 [Chunk.blk g157 (.cells #[.pointer (some ⟨x.g, 0, none⟩)] 78 (0, 0)), Chunk.blk g131 (.cells #[.int .i64 n] 3 (0, 0)), Chunk.blk g125 (.cells #[.pointer (some ⟨gd, 0, none⟩)] 23 (0, 0)), R, Chunk.lmap Try.prog 9 gm ((pre ++ x :: post).map XF.ent), Chunk.blk x.g (.cells #[.slice x.A x.p.b.length x.c, .int .i64 x.p.sf] 81 (0, 0)), Chunk.row (Kd.int .u8) 5 w0.heap.size x.S (.slice x.A x.p.b.length x.c) x.p.b, Chunk.files w0.heap.size (pre ++ post), Chunk.blk gd (.cells #[.map (some gm), .int .i64 d.most, .int .i64 d.used, .int .i64 0, .bool true] 76 (0, 0))] := Own.unbundle (A := [Chunk.blk g157 (.cells #[.pointer (some ⟨x.g, 0, none⟩)] 78 (0, 0)), Chunk.blk g131 (.cells #[.int .i64 n] 3 (0, 0)), Chunk.blk g125 (.cells #[.pointer (some ⟨gd, 0, none⟩)] 23 (0, 0)), R, Chunk.lmap Try.prog 9 gm ((pre ++ x :: post).map XF.ent), Chunk.blk x.g (.cells #[.slice x.A x.p.b.length x.c, .int .i64 x.p.sf] 81 (0, 0)), Chunk.row (Kd.int .u8) 5 w0.heap.size x.S (.slice x.A x.p.b.length x.c) x.p.b, Chunk.files w0.heap.size (pre ++ post)]) (L := [Chunk.blk gd (.cells #[.map (some gm), .int .i64 d.most, .int .i64 d.used, .int .i64 0, .bool true] 76 (0, 0))]) (by exact hb223)
        clear HO227 hb223
        clear HF220 HO208
        refine gw_ev HF225 (want_none rfl) rfl (by decide) (op_assign rfl (HF225.ev rfl)) ?_
        intro a228 HF229; clear HF225
        refine wpList_nil ?_
        refine gw_nx (hK216 _ _ ?_)
        refine wp_ret ?_
        refine gw_ret1 HF229 rfl rfl ?_
        have HO230 := Own.file_close (x := x) (pre := pre) (post := post) (by exact HO226.sel [5, 6, 7, 0, 1, 2, 3, 4, 8] (by decide))
        exact disk_fin (gd := gd) (gm := gm) (d' := { d with fuse := 0, down := true }) (xs := pre ++ x :: post) ((cut_go hdn hgd (by omega)).trans (step_off hf1)) hxs (by exact HO230.sel [4, 6, 5, 0] (by decide))
      · skip
        refine ⟨_, rfl, fun a224 HF225 => ?_⟩
        have HO226 : Own w0 w222 [R, Chunk.lmap Try.prog 9 gm ((pre ++ x :: post).map XF.ent), Chunk.files w0.heap.size (pre ++ post), Chunk.blk x.g (.cells #[.slice x.A ((x.p.b.take n.toNat).length) x.c, .int .i64 (mn x.p.sf n)] 81 (0, 0)), Chunk.row (Kd.int .u8) 5 w0.heap.size x.S (.slice x.A ((x.p.b.take n.toNat).length) x.c) (x.p.b.take n.toNat), Chunk.blk gd (.cells #[.map (some gm), .int .i64 (({ d with fuse := decF d.fuse } : PD).most), .int .i64 (d.used - ((x.p.b.length : Int) - n)), .int .i64 (({ d with fuse := decF d.fuse } : PD).fuse), .bool (({ d with fuse := decF d.fuse } : PD).down)] 76 (0, 0))] := Own.unbundle (A := [R, Chunk.lmap Try.prog 9 gm ((pre ++ x :: post).map XF.ent), Chunk.files w0.heap.size (pre ++ post)]) (L := [Chunk.blk x.g (.cells #[.slice x.A ((x.p.b.take n.toNat).length) x.c, .int .i64 (mn x.p.sf n)] 81 (0, 0)), Chunk.row (Kd.int .u8) 5 w0.heap.size x.S (.slice x.A ((x.p.b.take n.toNat).length) x.c) (x.p.b.take n.toNat), Chunk.blk gd (.cells #[.map (some gm), .int .i64 (({ d with fuse := decF d.fuse } : PD).most), .int .i64 (d.used - ((x.p.b.length : Int) - n)), .int .i64 (({ d with fuse := decF d.fuse } : PD).fuse), .bool (({ d with fuse := decF d.fuse } : PD).down)] 76 (0, 0))]) hb223
        clear HO227 hb223
        clear HF220 HO208
        refine gw_ev HF225 (want_none rfl) rfl (by decide) (op_assign rfl (HF225.ev rfl)) ?_
        intro a231 HF232; clear HF225
        refine wpList_nil ?_
        refine gw_nx (hK216 _ _ ?_)
        refine wp_ret ?_
        refine gw_ret1 HF232 rfl rfl ?_
        have HO233 := Own.file_close (x := (⟨⟨x.p.nm, x.p.b.take n.toNat, mn x.p.sf n⟩, x.g, x.A, x.c, x.S⟩ : XF)) (pre := pre) (post := post) (by exact HO226.sel [3, 4, 2, 0, 1, 5] (by decide))
        have el_ : (pre ++ x :: post).map XF.ent = (pre ++ (⟨⟨x.p.nm, x.p.b.take n.toNat, mn x.p.sf n⟩, x.g, x.A, x.c, x.S⟩ : XF) :: post).map XF.ent := by simp [XF.ent]
        rw [el_] at HO233
        exact disk_fin (gd := gd) (gm := gm) (d' := _) (xs := pre ++ (⟨⟨x.p.nm, x.p.b.take n.toNat, mn x.p.sf n⟩, x.g, x.A, x.c, x.S⟩ : XF) :: post) ((cut_go hdn hgd (by omega)).trans (step_on hf1 hfu.1)) (by show _ = updF nm _ d.fs; rw [← hxs, upd_mid hnm hoth]; simp) (by exact HO233.sel [1, 3, 2, 0] (by decide))
set_option maxHeartbeats 4000000 in
set_option maxRecDepth 100000 in
theorem drop1 (w0 w : World) (R : Chunk) (gd gm : Nat) (d : PD) (xs : List XF) (nm : ByteArray) (hxs : xs.map XF.p = d.fs) (hon : onceX xs) (hub : ∀ x ∈ xs, (x.p.b.length : Int) ≤ d.used) (hu : 0 ≤ d.used ∧ d.used ≤ 9223372036854775807) (hn : nm.size ≤ 9223372036854775807) (HO : Own w0 w [R, Chunk.blk gd (.cells #[.map (some gm), .int .i64 d.most, .int .i64 d.used, .int .i64 d.fuse, .bool d.down] 76 (0, 0)), Chunk.lmap Try.prog 9 gm (xs.map XF.ent), Chunk.files w0.heap.size xs]) :
    Calls Try.prog 47 #[.pointer (some ⟨gd, 0, none⟩), .string nm] w fun e w' => e = .returned (.tuple #[]) ∧ Own w0 w' (R :: diskL w0.heap.size gd gm (dropD nm d) (delX nm xs)) := by
  refine gw_startO (N := 30) (vs := [.pointer (some ⟨gd, 0, none⟩), .string nm]) Try.func47 rfl rfl (by simp) fun a HF => ?_
  rcases look_cases nm hon with ⟨hl, hgd, hno⟩ | ⟨pre, x, post, rfl, hnm, hl, hgd, hoth⟩
  · skip
    rw [hxs] at hgd
    refine gw_seq fun K1 hK1 => ?_
    refine wp_region_lit ?_
    refine gw_ev HF (want_none rfl) rfl (by decide) (op_move rfl (HF.ev rfl)) ?_
    intro a2 HF3; clear HF
    refine gw_ev HF3 (want_none rfl) rfl (by decide) (op_nil rfl (HF3.ev rfl)) ?_
    intro a4 HF5; clear HF3
    refine gw_ev HF5 (want_none rfl) rfl (by decide) (op_field (gwfld76_0 _ _) rfl (HF5.ev rfl)) ?_
    intro a6 HF7; clear HF5
    refine gw_ev HF7 (want_none rfl) rfl (by decide) (op_load1 gwagg74 rfl (HF7.ev rfl) (blk_at (HO.get 1 rfl) rfl)) ?_
    intro a8 HF9; clear HF7
    refine gw_ev HF9 (want_none rfl) rfl (by decide) (op_move rfl (HF9.ev rfl)) ?_
    intro a10 HF11; clear HF9
    refine gw_ev HF11 (want_none rfl) rfl (by decide) (op_ml_none strKey Try.underlying74 gwzer78 rfl (HF11.ev rfl) (HF11.ev rfl) (keyS (hn)) (HO.get 2 rfl) (hl)) ?_
    intro a12 HF13; clear HF11
    refine gw_ev HF13 (want_none rfl) rfl (by decide) (op_assign rfl (HF13.ev rfl)) ?_
    intro a14 HF15; clear HF13
    refine wpList_nil ?_
    refine gw_nx (hK1 _ _ ?_)
    refine gw_seq fun K16 hK16 => ?_
    refine wp_region_lit ?_
    refine gw_ev HF15 (want_none rfl) rfl (by decide) (op_move rfl (HF15.ev rfl)) ?_
    intro a17 HF18; clear HF15
    refine gw_ev HF18 (want_none rfl) rfl (by decide) (op_nep_nils Try.underlying78 rfl (HF18.ev rfl)) ?_
    intro a19 HF20; clear HF18
    refine wpList_nil ?_
    refine gw_nx (hK16 _ _ ?_)
    refine gw_cond HF20 rfl (fun hb21 => ?_) (fun hb21 => ?_)
    skip
    · cases hb21
    refine wp_skip ?_
    refine gw_end0 HF20 rfl ?_
    rw [drop_none hgd, delX_none hno]
    exact ⟨rfl, HO.sel [0, 1, 2, 3] (by decide)⟩
  · skip
    rw [hxs] at hgd
    have hxl := hub x (by simp)
    have HO := Own.sel (Own.file_open (Own.sel HO [3, 0, 1, 2] (by decide))) [3, 4, 5, 0, 1, 2] (by decide)
    have HO22 : Own w0 w [R, Chunk.blk gd (.cells #[.map (some gm), .int .i64 d.most, .int .i64 d.used, .int .i64 d.fuse, .bool d.down] 76 (0, 0)), Chunk.lmap Try.prog 9 gm ((pre ++ x :: post).map XF.ent), Chunk.blk x.g (.cells #[.slice x.A x.p.b.length x.c, .int .i64 x.p.sf] 81 (0, 0)), Chunk.row (Kd.int .u8) 5 w0.heap.size x.S (.slice x.A x.p.b.length x.c) x.p.b, Chunk.files w0.heap.size (pre ++ post)] := HO
    clear HO
    refine gw_seq fun K23 hK23 => ?_
    refine wp_region_lit ?_
    refine gw_ev HF (want_none rfl) rfl (by decide) (op_move rfl (HF.ev rfl)) ?_
    intro a24 HF25; clear HF
    refine gw_ev HF25 (want_none rfl) rfl (by decide) (op_nil rfl (HF25.ev rfl)) ?_
    intro a26 HF27; clear HF25
    refine gw_ev HF27 (want_none rfl) rfl (by decide) (op_field (gwfld76_0 _ _) rfl (HF27.ev rfl)) ?_
    intro a28 HF29; clear HF27
    refine gw_ev HF29 (want_none rfl) rfl (by decide) (op_load1 gwagg74 rfl (HF29.ev rfl) (blk_at (HO22.get 1 rfl) rfl)) ?_
    intro a30 HF31; clear HF29
    refine gw_ev HF31 (want_none rfl) rfl (by decide) (op_move rfl (HF31.ev rfl)) ?_
    intro a32 HF33; clear HF31
    refine gw_ev HF33 (want_none rfl) rfl (by decide) (op_ml_some strKey Try.underlying74 gwzer78 rfl (HF33.ev rfl) (HF33.ev rfl) (keyS (hn)) (HO22.get 2 rfl) (hl)) ?_
    intro a34 HF35; clear HF33
    refine gw_ev HF35 (want_none rfl) rfl (by decide) (op_assign rfl (HF35.ev rfl)) ?_
    intro a36 HF37; clear HF35
    refine wpList_nil ?_
    refine gw_nx (hK23 _ _ ?_)
    refine gw_seq fun K38 hK38 => ?_
    refine wp_region_lit ?_
    refine gw_ev HF37 (want_none rfl) rfl (by decide) (op_move rfl (HF37.ev rfl)) ?_
    intro a39 HF40; clear HF37
    refine gw_ev HF40 (want_none rfl) rfl (by decide) (op_nep_nil Try.underlying78 rfl (HF40.ev rfl)) ?_
    intro a41 HF42; clear HF40
    refine wpList_nil ?_
    refine gw_nx (hK38 _ _ ?_)
    refine gw_cond HF42 rfl (fun hb43 => ?_) (fun hb43 => ?_)
    rotate_left
    · cases hb43
    refine gw_seq fun K44 hK44 => ?_
    refine gx_draw (M := [R, Chunk.blk gd (.cells #[.map (some gm), .int .i64 d.most, .int .i64 d.used, .int .i64 d.fuse, .bool d.down] 76 (0, 0)), Chunk.lmap Try.prog 9 gm ((pre ++ x :: post).map XF.ent), Chunk.blk x.g (.cells #[.slice x.A x.p.b.length x.c, .int .i64 x.p.sf] 81 (0, 0)), Chunk.row (Kd.int .u8) 5 w0.heap.size x.S (.slice x.A x.p.b.length x.c) x.p.b, Chunk.files w0.heap.size (pre ++ post)]) (fun j_ => j_ == 12) HO22 (by kernel_rfl) fun w45 HO46 => ?_
    clear HO22
    refine gx_take 0 rfl (by kernel_rfl) HF42 (by exact HO46.sel [0, 1, 2, 3, 4, 5] (by decide)) (want_none rfl) rfl (by decide) (fun wq HO => (op_move rfl (HF42.ev rfl))) ?_
    intro a47 HF48; clear HF42
    refine gx_take 1 rfl (by kernel_rfl) HF48 (by exact HO46.sel [0, 1, 2, 3, 4, 5] (by decide)) (want_none rfl) rfl (by decide) (fun wq HO => (op_nil rfl (HF48.ev rfl))) ?_
    intro a49 HF50; clear HF48
    refine gx_take 2 rfl (by kernel_rfl) HF50 (by exact HO46.sel [0, 1, 2, 3, 4, 5] (by decide)) (want_none rfl) rfl (by decide) (fun wq HO => (op_field (gwfld76_2 _ _) rfl (HF50.ev rfl))) ?_
    intro a51 HF52; clear HF50
    refine gx_take 3 rfl (by kernel_rfl) HF52 (by exact HO46.sel [0, 1, 2, 3, 4, 5] (by decide)) (want_none rfl) rfl (by decide) (fun wq HO => (op_load1 gwagg3 rfl (HF52.ev rfl) (blk_at (HO.get 1 rfl) rfl))) ?_
    intro a53 HF54; clear HF52
    refine gx_take 4 rfl (by kernel_rfl) HF54 (by exact HO46.sel [0, 1, 2, 3, 4, 5] (by decide)) (want_none rfl) rfl (by decide) (fun wq HO => (op_move rfl (HF54.ev rfl))) ?_
    intro a55 HF56; clear HF54
    refine gx_take 5 rfl (by kernel_rfl) HF56 (by exact HO46.sel [0, 1, 2, 3, 4, 5] (by decide)) (want_none rfl) rfl (by decide) (fun wq HO => (op_nil rfl (HF56.ev rfl))) ?_
    intro a57 HF58; clear HF56
    refine gx_take 6 rfl (by kernel_rfl) HF58 (by exact HO46.sel [0, 1, 2, 3, 4, 5] (by decide)) (want_none rfl) rfl (by decide) (fun wq HO => (op_field (gwfld81_0 _ _) rfl (HF58.ev rfl))) ?_
    intro a59 HF60; clear HF58
    refine gx_take 7 rfl (by kernel_rfl) HF60 (by exact HO46.sel [0, 1, 2, 3, 4, 5] (by decide)) (want_none rfl) rfl (by decide) (fun wq HO => (op_load1 gwagg28 rfl (HF60.ev rfl) (blk_at (HO.get 3 rfl) rfl))) ?_
    intro a61 HF62; clear HF60
    refine gx_take 8 rfl (by kernel_rfl) HF62 (by exact HO46.sel [0, 1, 2, 3, 4, 5] (by decide)) (want_none rfl) rfl (by decide) (fun wq HO => (op_len Try.underlying28 rfl (HF62.ev rfl))) ?_
    intro a63 HF64; clear HF62
    refine gx_take 9 rfl (by kernel_rfl) HF64 (by exact HO46.sel [0, 1, 2, 3, 4, 5] (by decide)) (want_none rfl) rfl (by decide) (fun wq HO => (op_sub rfl (HF64.ev rfl) (HF64.ev rfl) (by omega))) ?_
    intro a65 HF66; clear HF64
    refine gx_step 10 rfl (by kernel_rfl) ?_
    refine gw_ev HF66 (want_none rfl) rfl (by decide) (op_nil rfl (HF66.ev rfl)) ?_
    intro a67 HF68; clear HF66
    refine gx_on (i := 10) (B := (fun j_ => j_ == 12)) (M := [R, Chunk.blk gd (.cells #[.map (some gm), .int .i64 d.most, .int .i64 d.used, .int .i64 d.fuse, .bool d.down] 76 (0, 0)), Chunk.lmap Try.prog 9 gm ((pre ++ x :: post).map XF.ent), Chunk.blk x.g (.cells #[.slice x.A x.p.b.length x.c, .int .i64 x.p.sf] 81 (0, 0)), Chunk.row (Kd.int .u8) 5 w0.heap.size x.S (.slice x.A x.p.b.length x.c) x.p.b, Chunk.files w0.heap.size (pre ++ post)]) (fun _ => (by exact HO46.sel [0, 1, 2, 3, 4, 5] (by decide))) ?_
    refine gx_take 11 rfl (by kernel_rfl) HF68 (by exact HO46.sel [0, 1, 2, 3, 4, 5] (by decide)) (want_none rfl) rfl (by decide) (fun wq HO => (op_field (gwfld76_2 _ _) rfl (HF68.ev rfl))) ?_
    intro a69 HF70; clear HF68
    refine gx_step 12 rfl (by kernel_rfl) ?_
    refine gw_set 1 HF70 HO46 rfl (want_none rfl) rfl (op_store1 gwsiz3 rfl (HF70.ev rfl) (HF70.ev rfl) rfl (blk_at (HO46.get 1 rfl) rfl) (blkf (HO46.get 1 rfl))) ?_
    intro a71 w73 HF72 HO74; clear HF70 HO46
    have HO75 : Own w0 w73 [R, Chunk.blk gd (.cells #[.map (some gm), .int .i64 d.most, .int .i64 (d.used - (x.p.b.length : Int)), .int .i64 d.fuse, .bool d.down] 76 (0, 0)), Chunk.lmap Try.prog 9 gm ((pre ++ x :: post).map XF.ent), Chunk.blk x.g (.cells #[.slice x.A x.p.b.length x.c, .int .i64 x.p.sf] 81 (0, 0)), Chunk.row (Kd.int .u8) 5 w0.heap.size x.S (.slice x.A x.p.b.length x.c) x.p.b, Chunk.files w0.heap.size (pre ++ post)] := HO74
    clear HO74
    refine gx_on (i := 12) (B := (fun j_ => j_ == 12)) (M := [R, Chunk.blk gd (.cells #[.map (some gm), .int .i64 d.most, .int .i64 d.used, .int .i64 d.fuse, .bool d.down] 76 (0, 0)), Chunk.lmap Try.prog 9 gm ((pre ++ x :: post).map XF.ent), Chunk.blk x.g (.cells #[.slice x.A x.p.b.length x.c, .int .i64 x.p.sf] 81 (0, 0)), Chunk.row (Kd.int .u8) 5 w0.heap.size x.S (.slice x.A x.p.b.length x.c) x.p.b, Chunk.files w0.heap.size (pre ++ post)]) (fun h_ => by cases h_) ?_
    refine gx_done (by kernel_rfl) ?_
    refine gw_nx (hK44 _ _ ?_)
    refine wp_region_lit ?_
    refine gw_ev HF72 (want_none rfl) rfl (by decide) (op_move rfl (HF72.ev rfl)) ?_
    intro a76 HF77; clear HF72
    refine gw_ev HF77 (want_none rfl) rfl (by decide) (op_nil rfl (HF77.ev rfl)) ?_
    intro a78 HF79; clear HF77
    refine gw_ev HF79 (want_none rfl) rfl (by decide) (op_field (gwfld76_0 _ _) rfl (HF79.ev rfl)) ?_
    intro a80 HF81; clear HF79
    refine gw_ev HF81 (want_none rfl) rfl (by decide) (op_load1 gwagg74 rfl (HF81.ev rfl) (blk_at (HO75.get 1 rfl) rfl)) ?_
    intro a82 HF83; clear HF81
    refine gw_ev HF83 (want_none rfl) rfl (by decide) (op_move rfl (HF83.ev rfl)) ?_
    intro a84 HF85; clear HF83
    refine gw_mdel 2 strKey Try.underlying74 HF85 HO75 rfl (want_none rfl) rfl rfl (HF85.ev rfl) (HF85.ev rfl) (keyS (hn)) ?_
    intro a86 w87 HF88 HO89; clear HF85 HO75
    have HO90 : Own w0 w87 [R, Chunk.blk gd (.cells #[.map (some gm), .int .i64 d.most, .int .i64 (d.used - (x.p.b.length : Int)), .int .i64 d.fuse, .bool d.down] 76 (0, 0)), Chunk.lmap Try.prog 9 gm (ldel (litS nm) ((pre ++ x :: post).map XF.ent)), Chunk.blk x.g (.cells #[.slice x.A x.p.b.length x.c, .int .i64 x.p.sf] 81 (0, 0)), Chunk.row (Kd.int .u8) 5 w0.heap.size x.S (.slice x.A x.p.b.length x.c) x.p.b, Chunk.files w0.heap.size (pre ++ post)] := HO89
    clear HO89
    refine wpList_nil ?_
    refine gw_end0 HF88 rfl ?_
    have el_ : ldel (litS nm) ((pre ++ x :: post).map XF.ent) = (pre ++ post).map XF.ent := by rw [← delX_ent, delX_mid hnm hoth]
    rw [el_] at HO90
    rw [drop_some hgd, delX_mid hnm hoth]
    exact ⟨rfl, HO90.sel [0, 1, 2, 5] (by decide)⟩
set_option maxHeartbeats 4000000 in
set_option maxRecDepth 100000 in
theorem remove1 (w0 w : World) (R : Chunk) (gd gm : Nat) (d : PD) (xs : List XF) (nm : ByteArray) (hxs : xs.map XF.p = d.fs) (hon : onceX xs) (hub : ∀ x ∈ xs, (x.p.b.length : Int) ≤ d.used) (hu : 0 ≤ d.used ∧ d.used ≤ 9223372036854775807) (bd bn : Nat) (hn : nm.size ≤ 9223372036854775807) (HO : Own w0 w [R, Chunk.blk gd (.cells #[.map (some gm), .int .i64 d.most, .int .i64 d.used, .int .i64 d.fuse, .bool d.down] 76 (0, 0)), Chunk.lmap Try.prog 9 gm (xs.map XF.ent), Chunk.files w0.heap.size xs, Chunk.blk bd (.cells #[.pointer (some ⟨gd, 0, none⟩)] 23 (0, 0)), Chunk.blk bn (.cells #[.string nm] 9 (0, 0))]) :
    Calls Try.prog 46 #[.pointer (some ⟨bd, 0, none⟩), .pointer (some ⟨bn, 0, none⟩)] w fun e w' => e = .returned (.tuple #[]) ∧ Own w0 w' (R :: diskL w0.heap.size gd gm (dropD nm d) (delX nm xs)) := by
  refine gw_startO (N := 5) (vs := [.pointer (some ⟨bd, 0, none⟩), .pointer (some ⟨bn, 0, none⟩)]) Try.func46 rfl rfl (by simp) fun a HF => ?_
  refine wp_region_lit ?_
  refine gw_ev HF (want_none rfl) rfl (by decide) (op_load1 gwagg23 rfl (HF.ev rfl) (blk_at (HO.get 4 rfl) rfl)) ?_
  intro a1 HF2; clear HF
  refine gw_ev HF2 (want_none rfl) rfl (by decide) (op_load1 gwagg9 rfl (HF2.ev rfl) (blk_at (HO.get 5 rfl) rfl)) ?_
  intro a3 HF4; clear HF2
  have HO11 : Own w0 _ [(Chunk.all [R, Chunk.blk bd (.cells #[.pointer (some ⟨gd, 0, none⟩)] 23 (0, 0)), Chunk.blk bn (.cells #[.string nm] 9 (0, 0))]), Chunk.blk gd (.cells #[.map (some gm), .int .i64 d.most, .int .i64 d.used, .int .i64 d.fuse, .bool d.down] 76 (0, 0)), Chunk.lmap Try.prog 9 gm (xs.map XF.ent), Chunk.files w0.heap.size xs] := Own.bundle (A := [R, Chunk.blk bd (.cells #[.pointer (some ⟨gd, 0, none⟩)] 23 (0, 0)), Chunk.blk bn (.cells #[.string nm] 9 (0, 0))]) (L := [Chunk.blk gd (.cells #[.map (some gm), .int .i64 d.most, .int .i64 d.used, .int .i64 d.fuse, .bool d.down] 76 (0, 0)), Chunk.lmap Try.prog 9 gm (xs.map XF.ent), Chunk.files w0.heap.size xs]) (HO.sel [0, 4, 5, 1, 2, 3] (by decide))
  refine gw_call HF4 (want_none rfl) rfl (by decide) (op_callL Try.func47 (by kernel_rfl) rfl rfl (ar_cons (HF4.ev rfl) (ar_cons (HF4.ev rfl) ar_nil))) (drop1 w0 _ (Chunk.all [R, Chunk.blk bd (.cells #[.pointer (some ⟨gd, 0, none⟩)] 23 (0, 0)), Chunk.blk bn (.cells #[.string nm] 9 (0, 0))]) gd gm d xs nm hxs hon hub hu hn (by exact HO11)) ?_
  rintro e5 w6 ⟨rfl, hb7⟩
  refine ⟨_, rfl, fun a8 HF9 => ?_⟩
  have HO10 : Own w0 w6 [R, Chunk.blk bd (.cells #[.pointer (some ⟨gd, 0, none⟩)] 23 (0, 0)), Chunk.blk bn (.cells #[.string nm] 9 (0, 0)), Chunk.blk gd (.cells #[.map (some gm), .int .i64 ((dropD nm d).most), .int .i64 ((dropD nm d).used), .int .i64 ((dropD nm d).fuse), .bool ((dropD nm d).down)] 76 (0, 0)), Chunk.lmap Try.prog 9 gm ((delX nm xs).map XF.ent), Chunk.files w0.heap.size (delX nm xs)] := Own.unbundle (A := [R, Chunk.blk bd (.cells #[.pointer (some ⟨gd, 0, none⟩)] 23 (0, 0)), Chunk.blk bn (.cells #[.string nm] 9 (0, 0))]) (L := [Chunk.blk gd (.cells #[.map (some gm), .int .i64 ((dropD nm d).most), .int .i64 ((dropD nm d).used), .int .i64 ((dropD nm d).fuse), .bool ((dropD nm d).down)] 76 (0, 0)), Chunk.lmap Try.prog 9 gm ((delX nm xs).map XF.ent), Chunk.files w0.heap.size (delX nm xs)]) (hb7.sel [0, 1, 2, 3] (by decide))
  clear HO11
  clear HF4 HO hb7
  have HO13 : Own w0 w6 [R, Chunk.blk bd (.cells #[.pointer (some ⟨gd, 0, none⟩)] 23 (0, 0)), Chunk.blk bn (.cells #[.string nm] 9 (0, 0)), Chunk.blk gd (.cells #[.map (some gm), .int .i64 ((dropD nm d).most), .int .i64 ((dropD nm d).used), .int .i64 ((dropD nm d).fuse), .bool ((dropD nm d).down)] 76 (0, 0)), Chunk.lmap Try.prog 9 gm ((delX nm xs).map XF.ent), Chunk.files w0.heap.size (delX nm xs)] := HO10
  clear HO10
  refine wpList_nil ?_
  refine gw_end0 HF9 rfl ?_
  exact ⟨rfl, HO13.sel [0, 3, 4, 5] (by decide)⟩
set_option maxHeartbeats 4000000 in
set_option maxRecDepth 100000 in
theorem remove_calls (w0 w : World) (R : Chunk) (gd : Nat) (S : Nat → Prop) (d : PD) (nm : ByteArray) (hw : wfD d) (hn : nm.size ≤ 9223372036854775807) (HO : Own w0 w [R, Chunk.disk w0.heap.size gd S d]) :
    Calls Try.prog 20 #[.pointer (some ⟨gd, 0, none⟩), .string nm] w fun e w' => e = .returned (.int .i64 (removeD nm d).2) ∧ ∃ S', Own w0 w' [R, Chunk.disk w0.heap.size gd S' (removeD nm d).1] := by
  have hu0 := hw.used
  have hm0 := hw.most
  have hfu := hw.fuse
  obtain ⟨gm, xs, hxs, hon, HO⟩ := disk_open2 HO
  refine gw_startO (N := 19) (vs := [.pointer (some ⟨gd, 0, none⟩), .string nm]) Try.func20 rfl rfl (by simp) fun a HF => ?_
  rcases look3 nm d hxs hon with hdn | ⟨hdn, hl, hgd, hno⟩ | ⟨hdn, pre, x, post, rfl, hnm, hl, hgd, hoth⟩
  · skip
    refine gw_seq fun K1 hK1 => ?_
    refine wp_region_lit ?_
    refine gw_new HF HO (want_none rfl) rfl (by decide) (op_box rfl (HF.ev rfl)) ?_
    intro g2 a3 w4 HF5 HO6; clear HF HO
    have HO7 : Own w0 w4 [Chunk.blk g2 (.cells #[.pointer (some ⟨gd, 0, none⟩)] 23 (0, 0)), R, Chunk.blk gd (.cells #[.map (some gm), .int .i64 d.most, .int .i64 d.used, .int .i64 d.fuse, .bool d.down] 76 (0, 0)), Chunk.lmap Try.prog 9 gm (xs.map XF.ent), Chunk.files w0.heap.size xs] := HO6
    clear HO6
    refine gw_new HF5 HO7 (want_none rfl) rfl (by decide) (op_box rfl (HF5.ev rfl)) ?_
    intro g8 a9 w10 HF11 HO12; clear HF5 HO7
    have HO13 : Own w0 w10 [Chunk.blk g8 (.cells #[.string nm] 9 (0, 0)), Chunk.blk g2 (.cells #[.pointer (some ⟨gd, 0, none⟩)] 23 (0, 0)), R, Chunk.blk gd (.cells #[.map (some gm), .int .i64 d.most, .int .i64 d.used, .int .i64 d.fuse, .bool d.down] 76 (0, 0)), Chunk.lmap Try.prog 9 gm (xs.map XF.ent), Chunk.files w0.heap.size xs] := HO12
    clear HO12
    refine gw_ev HF11 (want_none rfl) rfl (by decide) (op_assign rfl (ev_c _ _)) ?_
    intro a14 HF15; clear HF11
    refine wpList_nil ?_
    refine gw_nx (hK1 _ _ ?_)
    refine gw_seq fun K16 hK16 => ?_
    refine gw_seq fun K17 hK17 => ?_
    refine wp_region_lit ?_
    refine gw_ev HF15 (want_none rfl) rfl (by decide) (op_load1 gwagg23 rfl (HF15.ev rfl) (blk_at (HO13.get 1 rfl) rfl)) ?_
    intro a18 HF19; clear HF15
    refine gw_ev HF19 (want_none rfl) rfl (by decide) (op_load1 gwagg9 rfl (HF19.ev rfl) (blk_at (HO13.get 0 rfl) rfl)) ?_
    intro a20 HF21; clear HF19
    refine gw_call HF21 (want_none rfl) rfl (by decide) (op_callL Try.func42 (by kernel_rfl) rfl rfl (ar_cons (HF21.ev rfl) (ar_cons (HF21.ev rfl) ar_nil))) (find_down gd gm d nm (xs.map XF.ent) _ (by exact HO13.get 3 rfl) (HO13.get 4 rfl) hdn hn) ?_
    rintro e22 w23 ⟨rfl, hb24⟩
    refine ⟨_, rfl, fun a25 HF26 => ?_⟩
    have HO27 := HO13.after hb24
    clear HF21 HO13 hb24
    refine gw_ev HF26 (want_none rfl) rfl (by decide) (op_move rfl (HF26.ev rfl)) ?_
    intro a29 HF30; clear HF26
    refine gw_ev HF30 (want_none rfl) rfl (by decide) (op_extract rfl (HF30.ev rfl) rfl) ?_
    intro a31 HF32; clear HF30
    refine gw_ev HF32 (want_none rfl) rfl (by decide) (op_extract rfl (HF32.ev rfl) rfl) ?_
    intro a33 HF34; clear HF32
    refine gw_ev HF34 (want_none rfl) rfl (by decide) (op_assign rfl (HF34.ev rfl)) ?_
    intro a35 HF36; clear HF34
    refine gw_ev HF36 (want_none rfl) rfl (by decide) (op_assign rfl (HF36.ev rfl)) ?_
    intro a37 HF38; clear HF36
    refine wpList_nil ?_
    refine gw_nx (hK17 _ _ ?_)
    refine gw_seq fun K39 hK39 => ?_
    refine wp_region_lit ?_
    refine gw_ev HF38 (want_none rfl) rfl (by decide) (op_move rfl (HF38.ev rfl)) ?_
    intro a40 HF41; clear HF38
    refine gw_ev HF41 (want_none rfl) rfl (by decide) (op_nei rfl (HF41.ev rfl) (ev_c _ _)) ?_
    intro a42 HF43; clear HF41
    have HF44 := HF43.lit (b := true) (by decide)
    clear HF43
    refine wpList_nil ?_
    refine gw_nx (hK39 _ _ ?_)
    refine gw_cond HF44 rfl (fun hb45 => ?_) (fun hb45 => ?_)
    rotate_left
    · cases hb45
    refine gw_seq fun K46 hK46 => ?_
    refine wp_region_lit ?_
    refine gw_ev HF44 (want_none rfl) rfl (by decide) (op_move rfl (HF44.ev rfl)) ?_
    intro a47 HF48; clear HF44
    refine gw_ev HF48 (want_none rfl) rfl (by decide) (op_assign rfl (HF48.ev rfl)) ?_
    intro a49 HF50; clear HF48
    refine wpList_nil ?_
    refine gw_nx (hK46 _ _ ?_)
    refine wp_ret ?_
    refine gw_thr ?_
    refine gw_ret1 HF50 rfl rfl ?_
    exact disk_fin (gd := gd) (gm := gm) (d' := d) (xs := xs) (with_down hdn) hxs (by exact HO27.sel [2, 3, 4, 5] (by decide))
  · skip
    refine gw_seq fun K51 hK51 => ?_
    refine wp_region_lit ?_
    refine gw_new HF HO (want_none rfl) rfl (by decide) (op_box rfl (HF.ev rfl)) ?_
    intro g52 a53 w54 HF55 HO56; clear HF HO
    have HO57 : Own w0 w54 [Chunk.blk g52 (.cells #[.pointer (some ⟨gd, 0, none⟩)] 23 (0, 0)), R, Chunk.blk gd (.cells #[.map (some gm), .int .i64 d.most, .int .i64 d.used, .int .i64 d.fuse, .bool d.down] 76 (0, 0)), Chunk.lmap Try.prog 9 gm (xs.map XF.ent), Chunk.files w0.heap.size xs] := HO56
    clear HO56
    refine gw_new HF55 HO57 (want_none rfl) rfl (by decide) (op_box rfl (HF55.ev rfl)) ?_
    intro g58 a59 w60 HF61 HO62; clear HF55 HO57
    have HO63 : Own w0 w60 [Chunk.blk g58 (.cells #[.string nm] 9 (0, 0)), Chunk.blk g52 (.cells #[.pointer (some ⟨gd, 0, none⟩)] 23 (0, 0)), R, Chunk.blk gd (.cells #[.map (some gm), .int .i64 d.most, .int .i64 d.used, .int .i64 d.fuse, .bool d.down] 76 (0, 0)), Chunk.lmap Try.prog 9 gm (xs.map XF.ent), Chunk.files w0.heap.size xs] := HO62
    clear HO62
    refine gw_ev HF61 (want_none rfl) rfl (by decide) (op_assign rfl (ev_c _ _)) ?_
    intro a64 HF65; clear HF61
    refine wpList_nil ?_
    refine gw_nx (hK51 _ _ ?_)
    refine gw_seq fun K66 hK66 => ?_
    refine gw_seq fun K67 hK67 => ?_
    refine wp_region_lit ?_
    refine gw_ev HF65 (want_none rfl) rfl (by decide) (op_load1 gwagg23 rfl (HF65.ev rfl) (blk_at (HO63.get 1 rfl) rfl)) ?_
    intro a68 HF69; clear HF65
    refine gw_ev HF69 (want_none rfl) rfl (by decide) (op_load1 gwagg9 rfl (HF69.ev rfl) (blk_at (HO63.get 0 rfl) rfl)) ?_
    intro a70 HF71; clear HF69
    refine gw_call HF71 (want_none rfl) rfl (by decide) (op_callL Try.func42 (by kernel_rfl) rfl rfl (ar_cons (HF71.ev rfl) (ar_cons (HF71.ev rfl) ar_nil))) (find_none gd gm d nm (xs.map XF.ent) _ (by exact HO63.get 3 rfl) (HO63.get 4 rfl) hdn hl hn) ?_
    rintro e72 w73 ⟨rfl, hb74⟩
    refine ⟨_, rfl, fun a75 HF76 => ?_⟩
    have HO77 := HO63.after hb74
    clear HF71 HO63 hb74
    refine gw_ev HF76 (want_none rfl) rfl (by decide) (op_move rfl (HF76.ev rfl)) ?_
    intro a79 HF80; clear HF76
    refine gw_ev HF80 (want_none rfl) rfl (by decide) (op_extract rfl (HF80.ev rfl) rfl) ?_
    intro a81 HF82; clear HF80
    refine gw_ev HF82 (want_none rfl) rfl (by decide) (op_extract rfl (HF82.ev rfl) rfl) ?_
    intro a83 HF84; clear HF82
    refine gw_ev HF84 (want_none rfl) rfl (by decide) (op_assign rfl (HF84.ev rfl)) ?_
    intro a85 HF86; clear HF84
    refine gw_ev HF86 (want_none rfl) rfl (by decide) (op_assign rfl (HF86.ev rfl)) ?_
    intro a87 HF88; clear HF86
    refine wpList_nil ?_
    refine gw_nx (hK67 _ _ ?_)
    refine gw_seq fun K89 hK89 => ?_
    refine wp_region_lit ?_
    refine gw_ev HF88 (want_none rfl) rfl (by decide) (op_move rfl (HF88.ev rfl)) ?_
    intro a90 HF91; clear HF88
    refine gw_ev HF91 (want_none rfl) rfl (by decide) (op_nei rfl (HF91.ev rfl) (ev_c _ _)) ?_
    intro a92 HF93; clear HF91
    have HF94 := HF93.lit (b := true) (by decide)
    clear HF93
    refine wpList_nil ?_
    refine gw_nx (hK89 _ _ ?_)
    refine gw_cond HF94 rfl (fun hb95 => ?_) (fun hb95 => ?_)
    rotate_left
    · cases hb95
    refine gw_seq fun K96 hK96 => ?_
    refine wp_region_lit ?_
    refine gw_ev HF94 (want_none rfl) rfl (by decide) (op_move rfl (HF94.ev rfl)) ?_
    intro a97 HF98; clear HF94
    refine gw_ev HF98 (want_none rfl) rfl (by decide) (op_assign rfl (HF98.ev rfl)) ?_
    intro a99 HF100; clear HF98
    refine wpList_nil ?_
    refine gw_nx (hK96 _ _ ?_)
    refine wp_ret ?_
    refine gw_thr ?_
    refine gw_ret1 HF100 rfl rfl ?_
    exact disk_fin (gd := gd) (gm := gm) (d' := d) (xs := xs) (with_none hdn hgd) hxs (by exact HO77.sel [2, 3, 4, 5] (by decide))
  · skip
    have HO101 : Own w0 w [R, Chunk.blk gd (.cells #[.map (some gm), .int .i64 d.most, .int .i64 d.used, .int .i64 d.fuse, .bool d.down] 76 (0, 0)), Chunk.lmap Try.prog 9 gm ((pre ++ x :: post).map XF.ent), Chunk.files w0.heap.size (pre ++ x :: post)] := HO
    clear HO
    refine gw_seq fun K102 hK102 => ?_
    refine wp_region_lit ?_
    refine gw_new HF HO101 (want_none rfl) rfl (by decide) (op_box rfl (HF.ev rfl)) ?_
    intro g103 a104 w105 HF106 HO107; clear HF HO101
    have HO108 : Own w0 w105 [Chunk.blk g103 (.cells #[.pointer (some ⟨gd, 0, none⟩)] 23 (0, 0)), R, Chunk.blk gd (.cells #[.map (some gm), .int .i64 d.most, .int .i64 d.used, .int .i64 d.fuse, .bool d.down] 76 (0, 0)), Chunk.lmap Try.prog 9 gm ((pre ++ x :: post).map XF.ent), Chunk.files w0.heap.size (pre ++ x :: post)] := HO107
    clear HO107
    refine gw_new HF106 HO108 (want_none rfl) rfl (by decide) (op_box rfl (HF106.ev rfl)) ?_
    intro g109 a110 w111 HF112 HO113; clear HF106 HO108
    have HO114 : Own w0 w111 [Chunk.blk g109 (.cells #[.string nm] 9 (0, 0)), Chunk.blk g103 (.cells #[.pointer (some ⟨gd, 0, none⟩)] 23 (0, 0)), R, Chunk.blk gd (.cells #[.map (some gm), .int .i64 d.most, .int .i64 d.used, .int .i64 d.fuse, .bool d.down] 76 (0, 0)), Chunk.lmap Try.prog 9 gm ((pre ++ x :: post).map XF.ent), Chunk.files w0.heap.size (pre ++ x :: post)] := HO113
    clear HO113
    refine gw_ev HF112 (want_none rfl) rfl (by decide) (op_assign rfl (ev_c _ _)) ?_
    intro a115 HF116; clear HF112
    refine wpList_nil ?_
    refine gw_nx (hK102 _ _ ?_)
    refine gw_seq fun K117 hK117 => ?_
    refine gw_seq fun K118 hK118 => ?_
    refine wp_region_lit ?_
    refine gw_ev HF116 (want_none rfl) rfl (by decide) (op_load1 gwagg23 rfl (HF116.ev rfl) (blk_at (HO114.get 1 rfl) rfl)) ?_
    intro a119 HF120; clear HF116
    refine gw_ev HF120 (want_none rfl) rfl (by decide) (op_load1 gwagg9 rfl (HF120.ev rfl) (blk_at (HO114.get 0 rfl) rfl)) ?_
    intro a121 HF122; clear HF120
    refine gw_call HF122 (want_none rfl) rfl (by decide) (op_callL Try.func42 (by kernel_rfl) rfl rfl (ar_cons (HF122.ev rfl) (ar_cons (HF122.ev rfl) ar_nil))) (find_some gd gm d nm ((pre ++ x :: post).map XF.ent) x.g _ (by exact HO114.get 3 rfl) (HO114.get 4 rfl) hdn hl hn) ?_
    rintro e123 w124 ⟨rfl, hb125⟩
    refine ⟨_, rfl, fun a126 HF127 => ?_⟩
    have HO128 := HO114.after hb125
    clear HF122 HO114 hb125
    refine gw_ev HF127 (want_none rfl) rfl (by decide) (op_move rfl (HF127.ev rfl)) ?_
    intro a130 HF131; clear HF127
    refine gw_ev HF131 (want_none rfl) rfl (by decide) (op_extract rfl (HF131.ev rfl) rfl) ?_
    intro a132 HF133; clear HF131
    refine gw_ev HF133 (want_none rfl) rfl (by decide) (op_extract rfl (HF133.ev rfl) rfl) ?_
    intro a134 HF135; clear HF133
    refine gw_ev HF135 (want_none rfl) rfl (by decide) (op_assign rfl (HF135.ev rfl)) ?_
    intro a136 HF137; clear HF135
    refine gw_ev HF137 (want_none rfl) rfl (by decide) (op_assign rfl (HF137.ev rfl)) ?_
    intro a138 HF139; clear HF137
    refine wpList_nil ?_
    refine gw_nx (hK118 _ _ ?_)
    refine gw_seq fun K140 hK140 => ?_
    refine wp_region_lit ?_
    refine gw_ev HF139 (want_none rfl) rfl (by decide) (op_move rfl (HF139.ev rfl)) ?_
    intro a141 HF142; clear HF139
    refine gw_ev HF142 (want_none rfl) rfl (by decide) (op_nei rfl (HF142.ev rfl) (ev_c _ _)) ?_
    intro a143 HF144; clear HF142
    have HF145 := HF144.lit (b := false) (by decide)
    clear HF144
    refine wpList_nil ?_
    refine gw_nx (hK140 _ _ ?_)
    refine gw_cond HF145 rfl (fun hb146 => ?_) (fun hb146 => ?_)
    skip
    · cases hb146
    refine wp_skip ?_
    refine gw_nx (hK117 _ _ ?_)
    refine gw_seq fun K147 hK147 => ?_
    refine wp_region_lit ?_
    refine gw_ev HF145 (want_none rfl) rfl (by decide) (op_load1 gwagg23 rfl (HF145.ev rfl) (blk_at (HO128.get 1 rfl) rfl)) ?_
    intro a148 HF149; clear HF145
    refine gw_ev HF149 (want_none rfl) rfl (by decide) (op_func rfl (ar_cons (HF149.ev rfl) (ar_cons (HF149.ev rfl) ar_nil))) ?_
    intro a150 HF151; clear HF149
    have HO158 : Own w0 _ [(Chunk.all [Chunk.blk g109 (.cells #[.string nm] 9 (0, 0)), Chunk.blk g103 (.cells #[.pointer (some ⟨gd, 0, none⟩)] 23 (0, 0)), R, Chunk.lmap Try.prog 9 gm ((pre ++ x :: post).map XF.ent), Chunk.files w0.heap.size (pre ++ x :: post)]), Chunk.blk gd (.cells #[.map (some gm), .int .i64 d.most, .int .i64 d.used, .int .i64 d.fuse, .bool d.down] 76 (0, 0))] := Own.bundle (A := [Chunk.blk g109 (.cells #[.string nm] 9 (0, 0)), Chunk.blk g103 (.cells #[.pointer (some ⟨gd, 0, none⟩)] 23 (0, 0)), R, Chunk.lmap Try.prog 9 gm ((pre ++ x :: post).map XF.ent), Chunk.files w0.heap.size (pre ++ x :: post)]) (L := [Chunk.blk gd (.cells #[.map (some gm), .int .i64 d.most, .int .i64 d.used, .int .i64 d.fuse, .bool d.down] 76 (0, 0))]) (HO128.sel [0, 1, 2, 4, 5, 3] (by decide))
    refine gw_call HF151 (want_none rfl) rfl (by decide) (op_callL Try.func40 (by kernel_rfl) rfl rfl (ar_cons (HF151.ev rfl) (ar_cons (HF151.ev rfl) ar_nil))) (step_calls w0 _ (Chunk.all [Chunk.blk g109 (.cells #[.string nm] 9 (0, 0)), Chunk.blk g103 (.cells #[.pointer (some ⟨gd, 0, none⟩)] 23 (0, 0)), R, Chunk.lmap Try.prog 9 gm ((pre ++ x :: post).map XF.ent), Chunk.files w0.heap.size (pre ++ x :: post)]) gd gm d 46 _ [.pointer (some ⟨g103, 0, none⟩), .pointer (some ⟨g109, 0, none⟩)] (fun w_ => Own w0 w_ [(Chunk.all [R]), Chunk.blk gd (.cells #[.map (some gm), .int .i64 ((dropD nm ({ d with fuse := decF d.fuse } : PD)).most), .int .i64 ((dropD nm ({ d with fuse := decF d.fuse } : PD)).used), .int .i64 ((dropD nm ({ d with fuse := decF d.fuse } : PD)).fuse), .bool ((dropD nm ({ d with fuse := decF d.fuse } : PD)).down)] 76 (0, 0)), Chunk.lmap Try.prog 9 gm ((delX nm (pre ++ x :: post)).map XF.ent), Chunk.files w0.heap.size (delX nm (pre ++ x :: post))]) Try.func46 (by kernel_rfl) rfl hfu (fun hf1 w1 h_ => remove1 w0 w1 (Chunk.all [R]) gd gm ({ d with fuse := decF d.fuse } : PD) (pre ++ x :: post) nm hxs hon (by intro x_ hx_; show (x_.p.b.length : Int) ≤ d.used; exact wf_len hw (by rw [← hxs]; exact List.mem_map_of_mem hx_)) (by show 0 ≤ d.used ∧ d.used ≤ _; omega) g103 g109 hn (Own.bundle (A := [R]) (L := [Chunk.blk gd (.cells #[.map (some gm), .int .i64 (({ d with fuse := decF d.fuse } : PD).most), .int .i64 (({ d with fuse := decF d.fuse } : PD).used), .int .i64 (({ d with fuse := decF d.fuse } : PD).fuse), .bool (({ d with fuse := decF d.fuse } : PD).down)] 76 (0, 0)), Chunk.lmap Try.prog 9 gm ((pre ++ x :: post).map XF.ent), Chunk.files w0.heap.size (pre ++ x :: post), Chunk.blk g103 (.cells #[.pointer (some ⟨gd, 0, none⟩)] 23 (0, 0)), Chunk.blk g109 (.cells #[.string nm] 9 (0, 0))]) ((Own.unbundle (A := [Chunk.blk g109 (.cells #[.string nm] 9 (0, 0)), Chunk.blk g103 (.cells #[.pointer (some ⟨gd, 0, none⟩)] 23 (0, 0)), R, Chunk.lmap Try.prog 9 gm ((pre ++ x :: post).map XF.ent), Chunk.files w0.heap.size (pre ++ x :: post)]) (L := [Chunk.blk gd (.cells #[.map (some gm), .int .i64 (({ d with fuse := decF d.fuse } : PD).most), .int .i64 (({ d with fuse := decF d.fuse } : PD).used), .int .i64 (({ d with fuse := decF d.fuse } : PD).fuse), .bool (({ d with fuse := decF d.fuse } : PD).down)] 76 (0, 0))]) (by exact h_)).sel [2, 5, 3, 4, 1, 0] (by decide)))) (by exact HO158)) ?_
    rintro e152 w153 (⟨hf1, rfl, hb154⟩ | ⟨hf1, rfl, hb154⟩)
    · skip
      refine ⟨_, rfl, fun a155 HF156 => ?_⟩
      have HO157 : Own w0 w153 [Chunk.blk g109 (.cells #[.string nm] 9 (0, 0)), Chunk.blk g103 (.cells #[.pointer (some ⟨gd, 0, none⟩)] 23 (0, 0)), R, Chunk.lmap Try.prog 9 gm ((pre ++ x :: post).map XF.ent), Chunk.files w0.heap.size (pre ++ x :: post), Chunk.blk gd (.cells #[.map (some gm), .int .i64 d.most, .int .i64 d.used, .int .i64 0, .bool true] 76 (0, 0))] := Own.unbundle (A := [Chunk.blk g109 (.cells #[.string nm] 9 (0, 0)), Chunk.blk g103 (.cells #[.pointer (some ⟨gd, 0, none⟩)] 23 (0, 0)), R, Chunk.lmap Try.prog 9 gm ((pre ++ x :: post).map XF.ent), Chunk.files w0.heap.size (pre ++ x :: post)]) (L := [Chunk.blk gd (.cells #[.map (some gm), .int .i64 d.most, .int .i64 d.used, .int .i64 0, .bool true] 76 (0, 0))]) (by exact hb154)
      clear HO158 hb154
      clear HF151 HO128
      refine gw_ev HF156 (want_none rfl) rfl (by decide) (op_assign rfl (HF156.ev rfl)) ?_
      intro a159 HF160; clear HF156
      refine wpList_nil ?_
      refine gw_nx (hK147 _ _ ?_)
      refine wp_ret ?_
      refine gw_ret1 HF160 rfl rfl ?_
      exact disk_fin (gd := gd) (gm := gm) (d' := { d with fuse := 0, down := true }) (xs := (pre ++ x :: post)) ((remove_go hdn hgd).trans (step_off hf1)) hxs (by exact HO157.sel [2, 5, 3, 4] (by decide))
    · skip
      refine ⟨_, rfl, fun a155 HF156 => ?_⟩
      have HO157 : Own w0 w153 [R, Chunk.blk gd (.cells #[.map (some gm), .int .i64 ((dropD nm ({ d with fuse := decF d.fuse } : PD)).most), .int .i64 ((dropD nm ({ d with fuse := decF d.fuse } : PD)).used), .int .i64 ((dropD nm ({ d with fuse := decF d.fuse } : PD)).fuse), .bool ((dropD nm ({ d with fuse := decF d.fuse } : PD)).down)] 76 (0, 0)), Chunk.lmap Try.prog 9 gm ((delX nm (pre ++ x :: post)).map XF.ent), Chunk.files w0.heap.size (delX nm (pre ++ x :: post))] := Own.unbundle (A := [R]) (L := [Chunk.blk gd (.cells #[.map (some gm), .int .i64 ((dropD nm ({ d with fuse := decF d.fuse } : PD)).most), .int .i64 ((dropD nm ({ d with fuse := decF d.fuse } : PD)).used), .int .i64 ((dropD nm ({ d with fuse := decF d.fuse } : PD)).fuse), .bool ((dropD nm ({ d with fuse := decF d.fuse } : PD)).down)] 76 (0, 0)), Chunk.lmap Try.prog 9 gm ((delX nm (pre ++ x :: post)).map XF.ent), Chunk.files w0.heap.size (delX nm (pre ++ x :: post))]) hb154
      clear HO158 hb154
      clear HF151 HO128
      refine gw_ev HF156 (want_none rfl) rfl (by decide) (op_assign rfl (HF156.ev rfl)) ?_
      intro a161 HF162; clear HF156
      refine wpList_nil ?_
      refine gw_nx (hK147 _ _ ?_)
      refine wp_ret ?_
      refine gw_ret1 HF162 rfl rfl ?_
      exact disk_fin (gd := gd) (gm := gm) (d' := _) (xs := delX nm (pre ++ x :: post)) ((remove_go hdn hgd).trans (step_on hf1 hfu.1)) (drop_fs hxs) (by exact HO157.sel [0, 1, 2, 3] (by decide))
set_option maxHeartbeats 4000000 in
set_option maxRecDepth 100000 in
theorem rename1 (w0 w : World) (R : Chunk) (gd gm : Nat) (d : PD) (xs : List XF) (nm : ByteArray) (hxs : xs.map XF.p = d.fs) (hon : onceX xs) (x : XF) (dest : ByteArray) (hxm : x ∈ xs) (hnm : x.p.nm = nm) (hub : ∀ x ∈ xs, (x.p.b.length : Int) ≤ d.used) (hu : 0 ≤ d.used ∧ d.used ≤ 9223372036854775807) (bfr bto bd bf : Nat) (hn : nm.size ≤ 9223372036854775807) (hdest : dest.size ≤ 9223372036854775807) (hl : xs.length ≤ 1000000) (HO : Own w0 w [R, Chunk.blk gd (.cells #[.map (some gm), .int .i64 d.most, .int .i64 d.used, .int .i64 d.fuse, .bool d.down] 76 (0, 0)), Chunk.lmap Try.prog 9 gm (xs.map XF.ent), Chunk.files w0.heap.size xs, Chunk.blk bfr (.cells #[.string nm] 9 (0, 0)), Chunk.blk bto (.cells #[.string dest] 9 (0, 0)), Chunk.blk bd (.cells #[.pointer (some ⟨gd, 0, none⟩)] 23 (0, 0)), Chunk.blk bf (.cells #[.pointer (some ⟨x.g, 0, none⟩)] 78 (0, 0))]) :
    Calls Try.prog 50 #[.pointer (some ⟨bfr, 0, none⟩), .pointer (some ⟨bto, 0, none⟩), .pointer (some ⟨bd, 0, none⟩), .pointer (some ⟨bf, 0, none⟩)] w fun e w' => e = .returned (.tuple #[]) ∧ ∃ xs', xs'.map XF.p = (renK nm dest x.p d).fs ∧ Own w0 w' (R :: diskL w0.heap.size gd gm (renK nm dest x.p d) xs') := by
  refine gw_startO (N := 21) (vs := [.pointer (some ⟨bfr, 0, none⟩), .pointer (some ⟨bto, 0, none⟩), .pointer (some ⟨bd, 0, none⟩), .pointer (some ⟨bf, 0, none⟩)]) Try.func50 rfl rfl (by simp) fun a HF => ?_
  refine gw_seq fun K1 hK1 => ?_
  refine wp_region_lit ?_
  refine gw_ev HF (want_none rfl) rfl (by decide) (op_load1 gwagg9 rfl (HF.ev rfl) (blk_at (HO.get 4 rfl) rfl)) ?_
  intro a2 HF3; clear HF
  refine gw_ev HF3 (want_none rfl) rfl (by decide) (op_load1 gwagg9 rfl (HF3.ev rfl) (blk_at (HO.get 5 rfl) rfl)) ?_
  intro a4 HF5; clear HF3
  refine gw_ev HF5 (want_none rfl) rfl (by decide) (op_nes rfl (HF5.ev rfl) (HF5.ev rfl)) ?_
  intro a6 HF7; clear HF5
  refine wpList_nil ?_
  refine gw_nx (hK1 _ _ ?_)
  refine gw_cond HF7 rfl (fun hb8 => ?_) (fun hb8 => ?_)
  · skip
    have HF9 := HF7.subst_ (d := 6) (b := true) rfl hb8
    clear HF7
    (try simp only [Bool.and_eq_true, Bool.or_eq_true, Bool.and_eq_false_iff, Bool.or_eq_false_iff, Bool.not_and, Bool.not_or, Bool.not_not, decide_eq_true_eq, decide_eq_false_iff_not, Bool.not_eq_true', Bool.not_eq_false', Bool.not_eq_true, Bool.not_eq_false, ne_eq, Decidable.not_not, Int.not_lt, Int.not_le, not_true_eq_false, not_false_eq_true, bne_iff_ne, beq_iff_eq, bne_eq_false_iff_eq, beq_eq_false_iff_ne] at hb8)
    have hne0 := hb8
    refine gw_seq fun K10 hK10 => ?_
    refine wp_region_lit ?_
    refine gw_ev HF9 (want_none rfl) rfl (by decide) (op_load1 gwagg23 rfl (HF9.ev rfl) (blk_at (HO.get 6 rfl) rfl)) ?_
    intro a11 HF12; clear HF9
    refine gw_ev HF12 (want_none rfl) rfl (by decide) (op_load1 gwagg9 rfl (HF12.ev rfl) (blk_at (HO.get 5 rfl) rfl)) ?_
    intro a13 HF14; clear HF12
    have HO21 : Own w0 _ [(Chunk.all [R, Chunk.blk bfr (.cells #[.string nm] 9 (0, 0)), Chunk.blk bto (.cells #[.string dest] 9 (0, 0)), Chunk.blk bd (.cells #[.pointer (some ⟨gd, 0, none⟩)] 23 (0, 0)), Chunk.blk bf (.cells #[.pointer (some ⟨x.g, 0, none⟩)] 78 (0, 0))]), Chunk.blk gd (.cells #[.map (some gm), .int .i64 d.most, .int .i64 d.used, .int .i64 d.fuse, .bool d.down] 76 (0, 0)), Chunk.lmap Try.prog 9 gm (xs.map XF.ent), Chunk.files w0.heap.size xs] := Own.bundle (A := [R, Chunk.blk bfr (.cells #[.string nm] 9 (0, 0)), Chunk.blk bto (.cells #[.string dest] 9 (0, 0)), Chunk.blk bd (.cells #[.pointer (some ⟨gd, 0, none⟩)] 23 (0, 0)), Chunk.blk bf (.cells #[.pointer (some ⟨x.g, 0, none⟩)] 78 (0, 0))]) (L := [Chunk.blk gd (.cells #[.map (some gm), .int .i64 d.most, .int .i64 d.used, .int .i64 d.fuse, .bool d.down] 76 (0, 0)), Chunk.lmap Try.prog 9 gm (xs.map XF.ent), Chunk.files w0.heap.size xs]) (HO.sel [0, 4, 5, 6, 7, 1, 2, 3] (by decide))
    refine gw_call HF14 (want_none rfl) rfl (by decide) (op_callL Try.func47 (by kernel_rfl) rfl rfl (ar_cons (HF14.ev rfl) (ar_cons (HF14.ev rfl) ar_nil))) (drop1 w0 _ (Chunk.all [R, Chunk.blk bfr (.cells #[.string nm] 9 (0, 0)), Chunk.blk bto (.cells #[.string dest] 9 (0, 0)), Chunk.blk bd (.cells #[.pointer (some ⟨gd, 0, none⟩)] 23 (0, 0)), Chunk.blk bf (.cells #[.pointer (some ⟨x.g, 0, none⟩)] 78 (0, 0))]) gd gm d xs dest hxs hon hub hu hdest (by exact HO21)) ?_
    rintro e15 w16 ⟨rfl, hb17⟩
    refine ⟨_, rfl, fun a18 HF19 => ?_⟩
    have HO20 : Own w0 w16 [R, Chunk.blk bfr (.cells #[.string nm] 9 (0, 0)), Chunk.blk bto (.cells #[.string dest] 9 (0, 0)), Chunk.blk bd (.cells #[.pointer (some ⟨gd, 0, none⟩)] 23 (0, 0)), Chunk.blk bf (.cells #[.pointer (some ⟨x.g, 0, none⟩)] 78 (0, 0)), Chunk.blk gd (.cells #[.map (some gm), .int .i64 ((dropD dest d).most), .int .i64 ((dropD dest d).used), .int .i64 ((dropD dest d).fuse), .bool ((dropD dest d).down)] 76 (0, 0)), Chunk.lmap Try.prog 9 gm ((delX dest xs).map XF.ent), Chunk.files w0.heap.size (delX dest xs)] := Own.unbundle (A := [R, Chunk.blk bfr (.cells #[.string nm] 9 (0, 0)), Chunk.blk bto (.cells #[.string dest] 9 (0, 0)), Chunk.blk bd (.cells #[.pointer (some ⟨gd, 0, none⟩)] 23 (0, 0)), Chunk.blk bf (.cells #[.pointer (some ⟨x.g, 0, none⟩)] 78 (0, 0))]) (L := [Chunk.blk gd (.cells #[.map (some gm), .int .i64 ((dropD dest d).most), .int .i64 ((dropD dest d).used), .int .i64 ((dropD dest d).fuse), .bool ((dropD dest d).down)] 76 (0, 0)), Chunk.lmap Try.prog 9 gm ((delX dest xs).map XF.ent), Chunk.files w0.heap.size (delX dest xs)]) (hb17.sel [0, 1, 2, 3] (by decide))
    clear HO21
    clear HF14 HO hb17
    have HO23 : Own w0 w16 [R, Chunk.blk bfr (.cells #[.string nm] 9 (0, 0)), Chunk.blk bto (.cells #[.string dest] 9 (0, 0)), Chunk.blk bd (.cells #[.pointer (some ⟨gd, 0, none⟩)] 23 (0, 0)), Chunk.blk bf (.cells #[.pointer (some ⟨x.g, 0, none⟩)] 78 (0, 0)), Chunk.blk gd (.cells #[.map (some gm), .int .i64 ((dropD dest d).most), .int .i64 ((dropD dest d).used), .int .i64 ((dropD dest d).fuse), .bool ((dropD dest d).down)] 76 (0, 0)), Chunk.lmap Try.prog 9 gm ((delX dest xs).map XF.ent), Chunk.files w0.heap.size (delX dest xs)] := HO20
    clear HO20
    refine wpList_nil ?_
    refine gw_nx (hK10 _ _ ?_)
    refine gw_seq fun K24 hK24 => ?_
    refine gx_draw (M := [R, Chunk.blk bfr (.cells #[.string nm] 9 (0, 0)), Chunk.blk bto (.cells #[.string dest] 9 (0, 0)), Chunk.blk bd (.cells #[.pointer (some ⟨gd, 0, none⟩)] 23 (0, 0)), Chunk.blk bf (.cells #[.pointer (some ⟨x.g, 0, none⟩)] 78 (0, 0)), Chunk.blk gd (.cells #[.map (some gm), .int .i64 ((dropD dest d).most), .int .i64 ((dropD dest d).used), .int .i64 ((dropD dest d).fuse), .bool ((dropD dest d).down)] 76 (0, 0)), Chunk.lmap Try.prog 9 gm ((delX dest xs).map XF.ent), Chunk.files w0.heap.size (delX dest xs)]) (fun j_ => j_ == 5) HO23 (by kernel_rfl) fun w25 HO26 => ?_
    clear HO23
    refine gx_take 4 rfl (by kernel_rfl) HF19 (by exact HO26.sel [0, 1, 2, 3, 4, 5, 6, 7] (by decide)) (want_none rfl) rfl (by decide) (fun wq HO => (op_load1 gwagg9 rfl (HF19.ev rfl) (blk_at (HO.get 1 rfl) rfl))) ?_
    intro a27 HF28; clear HF19
    refine gx_step 0 rfl (by kernel_rfl) ?_
    refine gw_ev HF28 (want_none rfl) rfl (by decide) (op_load1 gwagg23 rfl (HF28.ev rfl) (blk_at (HO26.get 3 rfl) rfl)) ?_
    intro a29 HF30; clear HF28
    refine gx_on (i := 0) (B := (fun j_ => j_ == 5)) (M := [R, Chunk.blk bfr (.cells #[.string nm] 9 (0, 0)), Chunk.blk bto (.cells #[.string dest] 9 (0, 0)), Chunk.blk bd (.cells #[.pointer (some ⟨gd, 0, none⟩)] 23 (0, 0)), Chunk.blk bf (.cells #[.pointer (some ⟨x.g, 0, none⟩)] 78 (0, 0)), Chunk.blk gd (.cells #[.map (some gm), .int .i64 ((dropD dest d).most), .int .i64 ((dropD dest d).used), .int .i64 ((dropD dest d).fuse), .bool ((dropD dest d).down)] 76 (0, 0)), Chunk.lmap Try.prog 9 gm ((delX dest xs).map XF.ent), Chunk.files w0.heap.size (delX dest xs)]) (fun _ => (by exact HO26.sel [0, 1, 2, 3, 4, 5, 6, 7] (by decide))) ?_
    refine gx_step 1 rfl (by kernel_rfl) ?_
    refine gw_ev HF30 (want_none rfl) rfl (by decide) (op_nil rfl (HF30.ev rfl)) ?_
    intro a31 HF32; clear HF30
    refine gx_on (i := 1) (B := (fun j_ => j_ == 5)) (M := [R, Chunk.blk bfr (.cells #[.string nm] 9 (0, 0)), Chunk.blk bto (.cells #[.string dest] 9 (0, 0)), Chunk.blk bd (.cells #[.pointer (some ⟨gd, 0, none⟩)] 23 (0, 0)), Chunk.blk bf (.cells #[.pointer (some ⟨x.g, 0, none⟩)] 78 (0, 0)), Chunk.blk gd (.cells #[.map (some gm), .int .i64 ((dropD dest d).most), .int .i64 ((dropD dest d).used), .int .i64 ((dropD dest d).fuse), .bool ((dropD dest d).down)] 76 (0, 0)), Chunk.lmap Try.prog 9 gm ((delX dest xs).map XF.ent), Chunk.files w0.heap.size (delX dest xs)]) (fun _ => (by exact HO26.sel [0, 1, 2, 3, 4, 5, 6, 7] (by decide))) ?_
    refine gx_step 2 rfl (by kernel_rfl) ?_
    refine gw_ev HF32 (want_none rfl) rfl (by decide) (op_field (gwfld76_0 _ _) rfl (HF32.ev rfl)) ?_
    intro a33 HF34; clear HF32
    refine gx_on (i := 2) (B := (fun j_ => j_ == 5)) (M := [R, Chunk.blk bfr (.cells #[.string nm] 9 (0, 0)), Chunk.blk bto (.cells #[.string dest] 9 (0, 0)), Chunk.blk bd (.cells #[.pointer (some ⟨gd, 0, none⟩)] 23 (0, 0)), Chunk.blk bf (.cells #[.pointer (some ⟨x.g, 0, none⟩)] 78 (0, 0)), Chunk.blk gd (.cells #[.map (some gm), .int .i64 ((dropD dest d).most), .int .i64 ((dropD dest d).used), .int .i64 ((dropD dest d).fuse), .bool ((dropD dest d).down)] 76 (0, 0)), Chunk.lmap Try.prog 9 gm ((delX dest xs).map XF.ent), Chunk.files w0.heap.size (delX dest xs)]) (fun _ => (by exact HO26.sel [0, 1, 2, 3, 4, 5, 6, 7] (by decide))) ?_
    refine gx_take 3 rfl (by kernel_rfl) HF34 (by exact HO26.sel [0, 1, 2, 3, 4, 5, 6, 7] (by decide)) (want_none rfl) rfl (by decide) (fun wq HO => (op_load1 gwagg74 rfl (HF34.ev rfl) (blk_at (HO.get 5 rfl) rfl))) ?_
    intro a35 HF36; clear HF34
    refine gx_step 5 rfl (by kernel_rfl) ?_
    refine gw_mdel 6 strKey Try.underlying74 HF36 HO26 rfl (want_none rfl) rfl rfl (HF36.ev rfl) (HF36.ev rfl) (keyS (hn)) ?_
    intro a37 w38 HF39 HO40; clear HF36 HO26
    have HO41 : Own w0 w38 [R, Chunk.blk bfr (.cells #[.string nm] 9 (0, 0)), Chunk.blk bto (.cells #[.string dest] 9 (0, 0)), Chunk.blk bd (.cells #[.pointer (some ⟨gd, 0, none⟩)] 23 (0, 0)), Chunk.blk bf (.cells #[.pointer (some ⟨x.g, 0, none⟩)] 78 (0, 0)), Chunk.blk gd (.cells #[.map (some gm), .int .i64 ((dropD dest d).most), .int .i64 ((dropD dest d).used), .int .i64 ((dropD dest d).fuse), .bool ((dropD dest d).down)] 76 (0, 0)), Chunk.lmap Try.prog 9 gm (ldel (litS nm) ((delX dest xs).map XF.ent)), Chunk.files w0.heap.size (delX dest xs)] := HO40
    clear HO40
    refine gx_on (i := 5) (B := (fun j_ => j_ == 5)) (M := [R, Chunk.blk bfr (.cells #[.string nm] 9 (0, 0)), Chunk.blk bto (.cells #[.string dest] 9 (0, 0)), Chunk.blk bd (.cells #[.pointer (some ⟨gd, 0, none⟩)] 23 (0, 0)), Chunk.blk bf (.cells #[.pointer (some ⟨x.g, 0, none⟩)] 78 (0, 0)), Chunk.blk gd (.cells #[.map (some gm), .int .i64 ((dropD dest d).most), .int .i64 ((dropD dest d).used), .int .i64 ((dropD dest d).fuse), .bool ((dropD dest d).down)] 76 (0, 0)), Chunk.lmap Try.prog 9 gm ((delX dest xs).map XF.ent), Chunk.files w0.heap.size (delX dest xs)]) (fun h_ => by cases h_) ?_
    refine gx_done (by kernel_rfl) ?_
    refine gw_nx (hK24 _ _ ?_)
    refine gx_draw (M := [R, Chunk.blk bfr (.cells #[.string nm] 9 (0, 0)), Chunk.blk bto (.cells #[.string dest] 9 (0, 0)), Chunk.blk bd (.cells #[.pointer (some ⟨gd, 0, none⟩)] 23 (0, 0)), Chunk.blk bf (.cells #[.pointer (some ⟨x.g, 0, none⟩)] 78 (0, 0)), Chunk.blk gd (.cells #[.map (some gm), .int .i64 ((dropD dest d).most), .int .i64 ((dropD dest d).used), .int .i64 ((dropD dest d).fuse), .bool ((dropD dest d).down)] 76 (0, 0)), Chunk.lmap Try.prog 9 gm (ldel (litS nm) ((delX dest xs).map XF.ent)), Chunk.files w0.heap.size (delX dest xs)]) (fun j_ => j_ == 6) HO41 (by kernel_rfl) fun w42 HO43 => ?_
    clear HO41
    refine gx_take 0 rfl (by kernel_rfl) HF39 (by exact HO43.sel [0, 1, 2, 3, 4, 5, 6, 7] (by decide)) (want_none rfl) rfl (by decide) (fun wq HO => (op_load1 gwagg23 rfl (HF39.ev rfl) (blk_at (HO.get 3 rfl) rfl))) ?_
    intro a44 HF45; clear HF39
    refine gx_take 1 rfl (by kernel_rfl) HF45 (by exact HO43.sel [0, 1, 2, 3, 4, 5, 6, 7] (by decide)) (want_none rfl) rfl (by decide) (fun wq HO => (op_nil rfl (HF45.ev rfl))) ?_
    intro a46 HF47; clear HF45
    refine gx_take 2 rfl (by kernel_rfl) HF47 (by exact HO43.sel [0, 1, 2, 3, 4, 5, 6, 7] (by decide)) (want_none rfl) rfl (by decide) (fun wq HO => (op_field (gwfld76_0 _ _) rfl (HF47.ev rfl))) ?_
    intro a48 HF49; clear HF47
    refine gx_take 3 rfl (by kernel_rfl) HF49 (by exact HO43.sel [0, 1, 2, 3, 4, 5, 6, 7] (by decide)) (want_none rfl) rfl (by decide) (fun wq HO => (op_load1 gwagg74 rfl (HF49.ev rfl) (blk_at (HO.get 5 rfl) rfl))) ?_
    intro a50 HF51; clear HF49
    refine gx_take 4 rfl (by kernel_rfl) HF51 (by exact HO43.sel [0, 1, 2, 3, 4, 5, 6, 7] (by decide)) (want_none rfl) rfl (by decide) (fun wq HO => (op_load1 gwagg9 rfl (HF51.ev rfl) (blk_at (HO.get 2 rfl) rfl))) ?_
    intro a52 HF53; clear HF51
    refine gx_take 5 rfl (by kernel_rfl) HF53 (by exact HO43.sel [0, 1, 2, 3, 4, 5, 6, 7] (by decide)) (want_none rfl) rfl (by decide) (fun wq HO => (op_load1 gwagg78 rfl (HF53.ev rfl) (blk_at (HO.get 4 rfl) rfl))) ?_
    intro a54 HF55; clear HF53
    refine gx_step 6 rfl (by kernel_rfl) ?_
    refine gw_mput 6 strKey Try.underlying74 HF55 HO43 rfl (want_none rfl) rfl rfl (HF55.ev rfl) (HF55.ev rfl) (HF55.ev rfl) (keyS (hdest)) (by have h1_ := List.length_filter_le (fun p : Lit × Value => !p.1.sameKey (litS nm)) ((delX dest xs).map XF.ent); have h2_ := List.length_filter_le (fun x : XF => !decide (x.p.nm = dest)) xs; rw [List.length_map] at h1_; unfold ldel; unfold delX at h1_ ⊢; omega) ?_
    intro a56 w57 HF58 HO59; clear HF55 HO43
    have HO60 : Own w0 w57 [R, Chunk.blk bfr (.cells #[.string nm] 9 (0, 0)), Chunk.blk bto (.cells #[.string dest] 9 (0, 0)), Chunk.blk bd (.cells #[.pointer (some ⟨gd, 0, none⟩)] 23 (0, 0)), Chunk.blk bf (.cells #[.pointer (some ⟨x.g, 0, none⟩)] 78 (0, 0)), Chunk.blk gd (.cells #[.map (some gm), .int .i64 ((dropD dest d).most), .int .i64 ((dropD dest d).used), .int .i64 ((dropD dest d).fuse), .bool ((dropD dest d).down)] 76 (0, 0)), Chunk.lmap Try.prog 9 gm (lput (litS dest) (.pointer (some ⟨x.g, 0, none⟩)) (ldel (litS nm) ((delX dest xs).map XF.ent))), Chunk.files w0.heap.size (delX dest xs)] := HO59
    clear HO59
    refine gx_on (i := 6) (B := (fun j_ => j_ == 6)) (M := [R, Chunk.blk bfr (.cells #[.string nm] 9 (0, 0)), Chunk.blk bto (.cells #[.string dest] 9 (0, 0)), Chunk.blk bd (.cells #[.pointer (some ⟨gd, 0, none⟩)] 23 (0, 0)), Chunk.blk bf (.cells #[.pointer (some ⟨x.g, 0, none⟩)] 78 (0, 0)), Chunk.blk gd (.cells #[.map (some gm), .int .i64 ((dropD dest d).most), .int .i64 ((dropD dest d).used), .int .i64 ((dropD dest d).fuse), .bool ((dropD dest d).down)] 76 (0, 0)), Chunk.lmap Try.prog 9 gm (ldel (litS nm) ((delX dest xs).map XF.ent)), Chunk.files w0.heap.size (delX dest xs)]) (fun h_ => by cases h_) ?_
    refine gx_done (by kernel_rfl) ?_
    refine gw_end0 HF58 rfl ?_
    have hne : nm ≠ dest := fun e => by rw [e] at hne0; simp at hne0
    have HO61 := rename_files hon hxm hnm hne (by exact HO60.sel [7, 0, 1, 2, 3, 4, 5, 6] (by decide))
    have el_ : lput (litS dest) (.pointer (some ⟨x.g, 0, none⟩)) (ldel (litS nm) ((delX dest xs).map XF.ent)) = (insX ⟨⟨dest, x.p.b, x.p.sf⟩, x.g, x.A, x.c, x.S⟩ (delX dest (delX nm (delX dest xs)))).map XF.ent := by rw [insX_ent]; unfold lput; rw [← delX_ent, ← delX_ent]; rfl
    rw [el_] at HO61
    have e2_ : renK nm dest x.p d = { dropD dest d with fs := insF { x.p with nm := dest } (delF dest (delF nm (dropD dest d).fs)) } := if_neg hne
    rw [e2_]
    refine ⟨rfl, (insX ⟨⟨dest, x.p.b, x.p.sf⟩, x.g, x.A, x.c, x.S⟩ (delX dest (delX nm (delX dest xs)))), ?_, HO61.sel [1, 6, 7, 0] (by decide)⟩
    rw [insX_p, delX_p, delX_p, drop_fs hxs]
  · skip
    have HF62 := HF7.subst_ (d := 6) (b := false) rfl hb8
    clear HF7
    (try simp only [Bool.and_eq_true, Bool.or_eq_true, Bool.and_eq_false_iff, Bool.or_eq_false_iff, Bool.not_and, Bool.not_or, Bool.not_not, decide_eq_true_eq, decide_eq_false_iff_not, Bool.not_eq_true', Bool.not_eq_false', Bool.not_eq_true, Bool.not_eq_false, ne_eq, Decidable.not_not, Int.not_lt, Int.not_le, not_true_eq_false, not_false_eq_true, bne_iff_ne, beq_iff_eq, bne_eq_false_iff_eq, beq_eq_false_iff_ne] at hb8)
    have hne0 := hb8
    refine wp_skip ?_
    refine gw_end0 HF62 rfl ?_
    have e_ : nm = dest := bytes_ext (by simpa using hne0)
    have e2_ : renK nm dest x.p d = d := if_pos e_
    rw [e2_]
    exact ⟨rfl, xs, hxs, HO.sel [0, 1, 2, 3] (by decide)⟩
set_option maxHeartbeats 4000000 in
set_option maxRecDepth 100000 in
theorem rename_calls (w0 w : World) (R : Chunk) (gd : Nat) (S : Nat → Prop) (d : PD) (nm : ByteArray) (dest : ByteArray) (hw : wfD d) (hn : nm.size ≤ 9223372036854775807) (hdest : dest.size ≤ 9223372036854775807) (hlen : d.fs.length ≤ 1000000) (HO : Own w0 w [R, Chunk.disk w0.heap.size gd S d]) :
    Calls Try.prog 23 #[.pointer (some ⟨gd, 0, none⟩), .string nm, .string dest] w fun e w' => e = .returned (.int .i64 (renameD nm dest d).2) ∧ ∃ S', Own w0 w' [R, Chunk.disk w0.heap.size gd S' (renameD nm dest d).1] := by
  have hu0 := hw.used
  have hm0 := hw.most
  have hfu := hw.fuse
  obtain ⟨gm, xs, hxs, hon, HO⟩ := disk_open2 HO
  refine gw_startO (N := 28) (vs := [.pointer (some ⟨gd, 0, none⟩), .string nm, .string dest]) Try.func23 rfl rfl (by simp) fun a HF => ?_
  rcases look3 nm d hxs hon with hdn | ⟨hdn, hl, hgd, hno⟩ | ⟨hdn, pre, x, post, rfl, hnm, hl, hgd, hoth⟩
  · skip
    refine gw_seq fun K1 hK1 => ?_
    refine wp_region_lit ?_
    refine gw_new HF HO (want_none rfl) rfl (by decide) (op_box rfl (HF.ev rfl)) ?_
    intro g2 a3 w4 HF5 HO6; clear HF HO
    have HO7 : Own w0 w4 [Chunk.blk g2 (.cells #[.pointer (some ⟨gd, 0, none⟩)] 23 (0, 0)), R, Chunk.blk gd (.cells #[.map (some gm), .int .i64 d.most, .int .i64 d.used, .int .i64 d.fuse, .bool d.down] 76 (0, 0)), Chunk.lmap Try.prog 9 gm (xs.map XF.ent), Chunk.files w0.heap.size xs] := HO6
    clear HO6
    refine gw_new HF5 HO7 (want_none rfl) rfl (by decide) (op_box rfl (HF5.ev rfl)) ?_
    intro g8 a9 w10 HF11 HO12; clear HF5 HO7
    have HO13 : Own w0 w10 [Chunk.blk g8 (.cells #[.string nm] 9 (0, 0)), Chunk.blk g2 (.cells #[.pointer (some ⟨gd, 0, none⟩)] 23 (0, 0)), R, Chunk.blk gd (.cells #[.map (some gm), .int .i64 d.most, .int .i64 d.used, .int .i64 d.fuse, .bool d.down] 76 (0, 0)), Chunk.lmap Try.prog 9 gm (xs.map XF.ent), Chunk.files w0.heap.size xs] := HO12
    clear HO12
    refine gw_new HF11 HO13 (want_none rfl) rfl (by decide) (op_box rfl (HF11.ev rfl)) ?_
    intro g14 a15 w16 HF17 HO18; clear HF11 HO13
    have HO19 : Own w0 w16 [Chunk.blk g14 (.cells #[.string dest] 9 (0, 0)), Chunk.blk g8 (.cells #[.string nm] 9 (0, 0)), Chunk.blk g2 (.cells #[.pointer (some ⟨gd, 0, none⟩)] 23 (0, 0)), R, Chunk.blk gd (.cells #[.map (some gm), .int .i64 d.most, .int .i64 d.used, .int .i64 d.fuse, .bool d.down] 76 (0, 0)), Chunk.lmap Try.prog 9 gm (xs.map XF.ent), Chunk.files w0.heap.size xs] := HO18
    clear HO18
    refine gw_ev HF17 (want_none rfl) rfl (by decide) (op_assign rfl (ev_c _ _)) ?_
    intro a20 HF21; clear HF17
    refine wpList_nil ?_
    refine gw_nx (hK1 _ _ ?_)
    refine gw_seq fun K22 hK22 => ?_
    refine gw_seq fun K23 hK23 => ?_
    refine wp_region_lit ?_
    refine gw_ev HF21 (want_none rfl) rfl (by decide) (op_load1 gwagg23 rfl (HF21.ev rfl) (blk_at (HO19.get 2 rfl) rfl)) ?_
    intro a24 HF25; clear HF21
    refine gw_ev HF25 (want_none rfl) rfl (by decide) (op_nil rfl (HF25.ev rfl)) ?_
    intro a26 HF27; clear HF25
    refine gw_ev HF27 (want_none rfl) rfl (by decide) (op_field (gwfld76_4 _ _) rfl (HF27.ev rfl)) ?_
    intro a28 HF29; clear HF27
    refine gw_ev HF29 (want_none rfl) rfl (by decide) (op_load1 gwagg4 rfl (HF29.ev rfl) (blk_at (HO19.get 4 rfl) rfl)) ?_
    intro a30 HF31; clear HF29
    have HF32 := HF31.lit (b := true) (hdn)
    clear HF31
    refine wpList_nil ?_
    refine gw_nx (hK23 _ _ ?_)
    refine gw_cond HF32 rfl (fun hb33 => ?_) (fun hb33 => ?_)
    rotate_left
    · cases hb33
    refine gw_seq fun K34 hK34 => ?_
    refine wp_region_lit ?_
    refine gw_ev HF32 (want_none rfl) rfl (by decide) (op_assign rfl (ev_c _ _)) ?_
    intro a35 HF36; clear HF32
    refine wpList_nil ?_
    refine gw_nx (hK34 _ _ ?_)
    refine wp_ret ?_
    refine gw_thr ?_
    refine gw_ret1 HF36 rfl rfl ?_
    exact disk_fin (gd := gd) (gm := gm) (d' := d) (xs := xs) (rename_down hdn) hxs (by exact HO19.sel [3, 4, 5, 6] (by decide))
  · skip
    refine gw_seq fun K37 hK37 => ?_
    refine wp_region_lit ?_
    refine gw_new HF HO (want_none rfl) rfl (by decide) (op_box rfl (HF.ev rfl)) ?_
    intro g38 a39 w40 HF41 HO42; clear HF HO
    have HO43 : Own w0 w40 [Chunk.blk g38 (.cells #[.pointer (some ⟨gd, 0, none⟩)] 23 (0, 0)), R, Chunk.blk gd (.cells #[.map (some gm), .int .i64 d.most, .int .i64 d.used, .int .i64 d.fuse, .bool d.down] 76 (0, 0)), Chunk.lmap Try.prog 9 gm (xs.map XF.ent), Chunk.files w0.heap.size xs] := HO42
    clear HO42
    refine gw_new HF41 HO43 (want_none rfl) rfl (by decide) (op_box rfl (HF41.ev rfl)) ?_
    intro g44 a45 w46 HF47 HO48; clear HF41 HO43
    have HO49 : Own w0 w46 [Chunk.blk g44 (.cells #[.string nm] 9 (0, 0)), Chunk.blk g38 (.cells #[.pointer (some ⟨gd, 0, none⟩)] 23 (0, 0)), R, Chunk.blk gd (.cells #[.map (some gm), .int .i64 d.most, .int .i64 d.used, .int .i64 d.fuse, .bool d.down] 76 (0, 0)), Chunk.lmap Try.prog 9 gm (xs.map XF.ent), Chunk.files w0.heap.size xs] := HO48
    clear HO48
    refine gw_new HF47 HO49 (want_none rfl) rfl (by decide) (op_box rfl (HF47.ev rfl)) ?_
    intro g50 a51 w52 HF53 HO54; clear HF47 HO49
    have HO55 : Own w0 w52 [Chunk.blk g50 (.cells #[.string dest] 9 (0, 0)), Chunk.blk g44 (.cells #[.string nm] 9 (0, 0)), Chunk.blk g38 (.cells #[.pointer (some ⟨gd, 0, none⟩)] 23 (0, 0)), R, Chunk.blk gd (.cells #[.map (some gm), .int .i64 d.most, .int .i64 d.used, .int .i64 d.fuse, .bool d.down] 76 (0, 0)), Chunk.lmap Try.prog 9 gm (xs.map XF.ent), Chunk.files w0.heap.size xs] := HO54
    clear HO54
    refine gw_ev HF53 (want_none rfl) rfl (by decide) (op_assign rfl (ev_c _ _)) ?_
    intro a56 HF57; clear HF53
    refine wpList_nil ?_
    refine gw_nx (hK37 _ _ ?_)
    refine gw_seq fun K58 hK58 => ?_
    refine gw_seq fun K59 hK59 => ?_
    refine wp_region_lit ?_
    refine gw_ev HF57 (want_none rfl) rfl (by decide) (op_load1 gwagg23 rfl (HF57.ev rfl) (blk_at (HO55.get 2 rfl) rfl)) ?_
    intro a60 HF61; clear HF57
    refine gw_ev HF61 (want_none rfl) rfl (by decide) (op_nil rfl (HF61.ev rfl)) ?_
    intro a62 HF63; clear HF61
    refine gw_ev HF63 (want_none rfl) rfl (by decide) (op_field (gwfld76_4 _ _) rfl (HF63.ev rfl)) ?_
    intro a64 HF65; clear HF63
    refine gw_ev HF65 (want_none rfl) rfl (by decide) (op_load1 gwagg4 rfl (HF65.ev rfl) (blk_at (HO55.get 4 rfl) rfl)) ?_
    intro a66 HF67; clear HF65
    have HF68 := HF67.lit (b := false) (hdn)
    clear HF67
    refine wpList_nil ?_
    refine gw_nx (hK59 _ _ ?_)
    refine gw_cond HF68 rfl (fun hb69 => ?_) (fun hb69 => ?_)
    skip
    · cases hb69
    refine wp_skip ?_
    refine gw_nx (hK58 _ _ ?_)
    refine gw_seq fun K70 hK70 => ?_
    refine gw_seq fun K71 hK71 => ?_
    refine wp_region_lit ?_
    refine gw_ev HF68 (want_none rfl) rfl (by decide) (op_load1 gwagg9 rfl (HF68.ev rfl) (blk_at (HO55.get 0 rfl) rfl)) ?_
    intro a72 HF73; clear HF68
    refine gw_call HF73 (want_none rfl) rfl (by decide) (op_callL Try.func39 (by kernel_rfl) rfl rfl (ar_cons (HF73.ev rfl) ar_nil)) (named_calls dest _) ?_
    rintro e74 w75 ⟨rfl, hb76⟩
    refine ⟨_, rfl, fun a77 HF78 => ?_⟩
    have HO79 := HO55.after hb76
    clear HF73 HO55 hb76
    refine gw_ev HF78 (want_none rfl) rfl (by decide) (op_not rfl (HF78.ev rfl)) ?_
    intro a81 HF82; clear HF78
    refine wpList_nil ?_
    refine gw_nx (hK71 _ _ ?_)
    refine gw_cond HF82 rfl (fun hb83 => ?_) (fun hb83 => ?_)
    · skip
      have HF84 := HF82.subst_ (d := 15) (b := true) rfl hb83
      clear HF82
      (try simp only [Bool.and_eq_true, Bool.or_eq_true, Bool.and_eq_false_iff, Bool.or_eq_false_iff, Bool.not_and, Bool.not_or, Bool.not_not, decide_eq_true_eq, decide_eq_false_iff_not, Bool.not_eq_true', Bool.not_eq_false', Bool.not_eq_true, Bool.not_eq_false, ne_eq, Decidable.not_not, Int.not_lt, Int.not_le, not_true_eq_false, not_false_eq_true, bne_iff_ne, beq_iff_eq, bne_eq_false_iff_eq, beq_eq_false_iff_ne] at hb83)
      have hnb : namedB dest = false := by simpa using hb83
      refine gw_seq fun K85 hK85 => ?_
      refine wp_region_lit ?_
      refine gw_ev HF84 (want_none rfl) rfl (by decide) (op_assign rfl (ev_c _ _)) ?_
      intro a86 HF87; clear HF84
      refine wpList_nil ?_
      refine gw_nx (hK85 _ _ ?_)
      refine wp_ret ?_
      refine gw_thr ?_
      refine gw_ret1 HF87 rfl rfl ?_
      exact disk_fin (gd := gd) (gm := gm) (d' := d) (xs := xs) (rename_bad hdn hnb) hxs (by exact HO79.sel [3, 4, 5, 6] (by decide))
    · skip
      have HF88 := HF82.subst_ (d := 15) (b := false) rfl hb83
      clear HF82
      (try simp only [Bool.and_eq_true, Bool.or_eq_true, Bool.and_eq_false_iff, Bool.or_eq_false_iff, Bool.not_and, Bool.not_or, Bool.not_not, decide_eq_true_eq, decide_eq_false_iff_not, Bool.not_eq_true', Bool.not_eq_false', Bool.not_eq_true, Bool.not_eq_false, ne_eq, Decidable.not_not, Int.not_lt, Int.not_le, not_true_eq_false, not_false_eq_true, bne_iff_ne, beq_iff_eq, bne_eq_false_iff_eq, beq_eq_false_iff_ne] at hb83)
      have hnb : namedB dest = true := by simpa using hb83
      refine wp_skip ?_
      refine gw_nx (hK70 _ _ ?_)
      refine gw_seq fun K89 hK89 => ?_
      refine wp_region_lit ?_
      refine gw_ev HF88 (want_none rfl) rfl (by decide) (op_load1 gwagg23 rfl (HF88.ev rfl) (blk_at (HO79.get 2 rfl) rfl)) ?_
      intro a90 HF91; clear HF88
      refine gw_ev HF91 (want_none rfl) rfl (by decide) (op_load1 gwagg9 rfl (HF91.ev rfl) (blk_at (HO79.get 1 rfl) rfl)) ?_
      intro a92 HF93; clear HF91
      refine gw_call HF93 (want_none rfl) rfl (by decide) (op_callL Try.func42 (by kernel_rfl) rfl rfl (ar_cons (HF93.ev rfl) (ar_cons (HF93.ev rfl) ar_nil))) (find_none gd gm d nm (xs.map XF.ent) _ (by exact HO79.get 4 rfl) (HO79.get 5 rfl) hdn hl hn) ?_
      rintro e94 w95 ⟨rfl, hb96⟩
      refine ⟨_, rfl, fun a97 HF98 => ?_⟩
      have HO99 := HO79.after hb96
      clear HF93 HO79 hb96
      refine gw_ev HF98 (want_none rfl) rfl (by decide) (op_move rfl (HF98.ev rfl)) ?_
      intro a101 HF102; clear HF98
      refine gw_ev HF102 (want_none rfl) rfl (by decide) (op_extract rfl (HF102.ev rfl) rfl) ?_
      intro a103 HF104; clear HF102
      refine gw_ev HF104 (want_none rfl) rfl (by decide) (op_extract rfl (HF104.ev rfl) rfl) ?_
      intro a105 HF106; clear HF104
      refine gw_new HF106 HO99 (want_none rfl) rfl (by decide) (op_alloc gwzer78 rfl) ?_
      intro g107 a108 w109 HF110 HO111; clear HF106 HO99
      have HO112 : Own w0 w109 [Chunk.blk g107 (.cells #[.pointer none] 78 (0, 0)), Chunk.blk g50 (.cells #[.string dest] 9 (0, 0)), Chunk.blk g44 (.cells #[.string nm] 9 (0, 0)), Chunk.blk g38 (.cells #[.pointer (some ⟨gd, 0, none⟩)] 23 (0, 0)), R, Chunk.blk gd (.cells #[.map (some gm), .int .i64 d.most, .int .i64 d.used, .int .i64 d.fuse, .bool d.down] 76 (0, 0)), Chunk.lmap Try.prog 9 gm (xs.map XF.ent), Chunk.files w0.heap.size xs] := HO111
      clear HO111
      refine gw_set 0 HF110 HO112 rfl (want_none rfl) rfl (op_store1 gwsiz78 rfl (HF110.ev rfl) (HF110.ev rfl) rfl (blk_at (HO112.get 0 rfl) rfl) (blkf (HO112.get 0 rfl))) ?_
      intro a113 w115 HF114 HO116; clear HF110 HO112
      have HO117 : Own w0 w115 [Chunk.blk g107 (.cells #[.pointer none] 78 (0, 0)), Chunk.blk g50 (.cells #[.string dest] 9 (0, 0)), Chunk.blk g44 (.cells #[.string nm] 9 (0, 0)), Chunk.blk g38 (.cells #[.pointer (some ⟨gd, 0, none⟩)] 23 (0, 0)), R, Chunk.blk gd (.cells #[.map (some gm), .int .i64 d.most, .int .i64 d.used, .int .i64 d.fuse, .bool d.down] 76 (0, 0)), Chunk.lmap Try.prog 9 gm (xs.map XF.ent), Chunk.files w0.heap.size xs] := HO116
      clear HO116
      refine gw_ev HF114 (want_none rfl) rfl (by decide) (op_assign rfl (HF114.ev rfl)) ?_
      intro a118 HF119; clear HF114
      refine wpList_nil ?_
      refine gw_nx (hK89 _ _ ?_)
      refine gw_seq fun K120 hK120 => ?_
      refine gw_seq fun K121 hK121 => ?_
      refine wp_region_lit ?_
      refine gw_ev HF119 (want_none rfl) rfl (by decide) (op_move rfl (HF119.ev rfl)) ?_
      intro a122 HF123; clear HF119
      refine gw_ev HF123 (want_none rfl) rfl (by decide) (op_nei rfl (HF123.ev rfl) (ev_c _ _)) ?_
      intro a124 HF125; clear HF123
      have HF126 := HF125.lit (b := true) (by decide)
      clear HF125
      refine wpList_nil ?_
      refine gw_nx (hK121 _ _ ?_)
      refine gw_cond HF126 rfl (fun hb127 => ?_) (fun hb127 => ?_)
      rotate_left
      · cases hb127
      refine gw_seq fun K128 hK128 => ?_
      refine wp_region_lit ?_
      refine gw_ev HF126 (want_none rfl) rfl (by decide) (op_move rfl (HF126.ev rfl)) ?_
      intro a129 HF130; clear HF126
      refine gw_ev HF130 (want_none rfl) rfl (by decide) (op_assign rfl (HF130.ev rfl)) ?_
      intro a131 HF132; clear HF130
      refine wpList_nil ?_
      refine gw_nx (hK128 _ _ ?_)
      refine wp_ret ?_
      refine gw_thr ?_
      refine gw_ret1 HF132 rfl rfl ?_
      exact disk_fin (gd := gd) (gm := gm) (d' := d) (xs := xs) (rename_none hdn hnb hgd) hxs (by exact HO117.sel [4, 5, 6, 7] (by decide))
  · skip
    have HO133 : Own w0 w [R, Chunk.blk gd (.cells #[.map (some gm), .int .i64 d.most, .int .i64 d.used, .int .i64 d.fuse, .bool d.down] 76 (0, 0)), Chunk.lmap Try.prog 9 gm ((pre ++ x :: post).map XF.ent), Chunk.files w0.heap.size (pre ++ x :: post)] := HO
    clear HO
    refine gw_seq fun K134 hK134 => ?_
    refine wp_region_lit ?_
    refine gw_new HF HO133 (want_none rfl) rfl (by decide) (op_box rfl (HF.ev rfl)) ?_
    intro g135 a136 w137 HF138 HO139; clear HF HO133
    have HO140 : Own w0 w137 [Chunk.blk g135 (.cells #[.pointer (some ⟨gd, 0, none⟩)] 23 (0, 0)), R, Chunk.blk gd (.cells #[.map (some gm), .int .i64 d.most, .int .i64 d.used, .int .i64 d.fuse, .bool d.down] 76 (0, 0)), Chunk.lmap Try.prog 9 gm ((pre ++ x :: post).map XF.ent), Chunk.files w0.heap.size (pre ++ x :: post)] := HO139
    clear HO139
    refine gw_new HF138 HO140 (want_none rfl) rfl (by decide) (op_box rfl (HF138.ev rfl)) ?_
    intro g141 a142 w143 HF144 HO145; clear HF138 HO140
    have HO146 : Own w0 w143 [Chunk.blk g141 (.cells #[.string nm] 9 (0, 0)), Chunk.blk g135 (.cells #[.pointer (some ⟨gd, 0, none⟩)] 23 (0, 0)), R, Chunk.blk gd (.cells #[.map (some gm), .int .i64 d.most, .int .i64 d.used, .int .i64 d.fuse, .bool d.down] 76 (0, 0)), Chunk.lmap Try.prog 9 gm ((pre ++ x :: post).map XF.ent), Chunk.files w0.heap.size (pre ++ x :: post)] := HO145
    clear HO145
    refine gw_new HF144 HO146 (want_none rfl) rfl (by decide) (op_box rfl (HF144.ev rfl)) ?_
    intro g147 a148 w149 HF150 HO151; clear HF144 HO146
    have HO152 : Own w0 w149 [Chunk.blk g147 (.cells #[.string dest] 9 (0, 0)), Chunk.blk g141 (.cells #[.string nm] 9 (0, 0)), Chunk.blk g135 (.cells #[.pointer (some ⟨gd, 0, none⟩)] 23 (0, 0)), R, Chunk.blk gd (.cells #[.map (some gm), .int .i64 d.most, .int .i64 d.used, .int .i64 d.fuse, .bool d.down] 76 (0, 0)), Chunk.lmap Try.prog 9 gm ((pre ++ x :: post).map XF.ent), Chunk.files w0.heap.size (pre ++ x :: post)] := HO151
    clear HO151
    refine gw_ev HF150 (want_none rfl) rfl (by decide) (op_assign rfl (ev_c _ _)) ?_
    intro a153 HF154; clear HF150
    refine wpList_nil ?_
    refine gw_nx (hK134 _ _ ?_)
    refine gw_seq fun K155 hK155 => ?_
    refine gw_seq fun K156 hK156 => ?_
    refine wp_region_lit ?_
    refine gw_ev HF154 (want_none rfl) rfl (by decide) (op_load1 gwagg23 rfl (HF154.ev rfl) (blk_at (HO152.get 2 rfl) rfl)) ?_
    intro a157 HF158; clear HF154
    refine gw_ev HF158 (want_none rfl) rfl (by decide) (op_nil rfl (HF158.ev rfl)) ?_
    intro a159 HF160; clear HF158
    refine gw_ev HF160 (want_none rfl) rfl (by decide) (op_field (gwfld76_4 _ _) rfl (HF160.ev rfl)) ?_
    intro a161 HF162; clear HF160
    refine gw_ev HF162 (want_none rfl) rfl (by decide) (op_load1 gwagg4 rfl (HF162.ev rfl) (blk_at (HO152.get 4 rfl) rfl)) ?_
    intro a163 HF164; clear HF162
    have HF165 := HF164.lit (b := false) (hdn)
    clear HF164
    refine wpList_nil ?_
    refine gw_nx (hK156 _ _ ?_)
    refine gw_cond HF165 rfl (fun hb166 => ?_) (fun hb166 => ?_)
    skip
    · cases hb166
    refine wp_skip ?_
    refine gw_nx (hK155 _ _ ?_)
    refine gw_seq fun K167 hK167 => ?_
    refine gw_seq fun K168 hK168 => ?_
    refine wp_region_lit ?_
    refine gw_ev HF165 (want_none rfl) rfl (by decide) (op_load1 gwagg9 rfl (HF165.ev rfl) (blk_at (HO152.get 0 rfl) rfl)) ?_
    intro a169 HF170; clear HF165
    refine gw_call HF170 (want_none rfl) rfl (by decide) (op_callL Try.func39 (by kernel_rfl) rfl rfl (ar_cons (HF170.ev rfl) ar_nil)) (named_calls dest _) ?_
    rintro e171 w172 ⟨rfl, hb173⟩
    refine ⟨_, rfl, fun a174 HF175 => ?_⟩
    have HO176 := HO152.after hb173
    clear HF170 HO152 hb173
    refine gw_ev HF175 (want_none rfl) rfl (by decide) (op_not rfl (HF175.ev rfl)) ?_
    intro a178 HF179; clear HF175
    refine wpList_nil ?_
    refine gw_nx (hK168 _ _ ?_)
    refine gw_cond HF179 rfl (fun hb180 => ?_) (fun hb180 => ?_)
    · skip
      have HF181 := HF179.subst_ (d := 15) (b := true) rfl hb180
      clear HF179
      (try simp only [Bool.and_eq_true, Bool.or_eq_true, Bool.and_eq_false_iff, Bool.or_eq_false_iff, Bool.not_and, Bool.not_or, Bool.not_not, decide_eq_true_eq, decide_eq_false_iff_not, Bool.not_eq_true', Bool.not_eq_false', Bool.not_eq_true, Bool.not_eq_false, ne_eq, Decidable.not_not, Int.not_lt, Int.not_le, not_true_eq_false, not_false_eq_true, bne_iff_ne, beq_iff_eq, bne_eq_false_iff_eq, beq_eq_false_iff_ne] at hb180)
      have hnb : namedB dest = false := by simpa using hb180
      refine gw_seq fun K182 hK182 => ?_
      refine wp_region_lit ?_
      refine gw_ev HF181 (want_none rfl) rfl (by decide) (op_assign rfl (ev_c _ _)) ?_
      intro a183 HF184; clear HF181
      refine wpList_nil ?_
      refine gw_nx (hK182 _ _ ?_)
      refine wp_ret ?_
      refine gw_thr ?_
      refine gw_ret1 HF184 rfl rfl ?_
      exact disk_fin (gd := gd) (gm := gm) (d' := d) (xs := (pre ++ x :: post)) (rename_bad hdn hnb) hxs (by exact HO176.sel [3, 4, 5, 6] (by decide))
    · skip
      have HF185 := HF179.subst_ (d := 15) (b := false) rfl hb180
      clear HF179
      (try simp only [Bool.and_eq_true, Bool.or_eq_true, Bool.and_eq_false_iff, Bool.or_eq_false_iff, Bool.not_and, Bool.not_or, Bool.not_not, decide_eq_true_eq, decide_eq_false_iff_not, Bool.not_eq_true', Bool.not_eq_false', Bool.not_eq_true, Bool.not_eq_false, ne_eq, Decidable.not_not, Int.not_lt, Int.not_le, not_true_eq_false, not_false_eq_true, bne_iff_ne, beq_iff_eq, bne_eq_false_iff_eq, beq_eq_false_iff_ne] at hb180)
      have hnb : namedB dest = true := by simpa using hb180
      refine wp_skip ?_
      refine gw_nx (hK167 _ _ ?_)
      refine gw_seq fun K186 hK186 => ?_
      refine wp_region_lit ?_
      refine gw_ev HF185 (want_none rfl) rfl (by decide) (op_load1 gwagg23 rfl (HF185.ev rfl) (blk_at (HO176.get 2 rfl) rfl)) ?_
      intro a187 HF188; clear HF185
      refine gw_ev HF188 (want_none rfl) rfl (by decide) (op_load1 gwagg9 rfl (HF188.ev rfl) (blk_at (HO176.get 1 rfl) rfl)) ?_
      intro a189 HF190; clear HF188
      refine gw_call HF190 (want_none rfl) rfl (by decide) (op_callL Try.func42 (by kernel_rfl) rfl rfl (ar_cons (HF190.ev rfl) (ar_cons (HF190.ev rfl) ar_nil))) (find_some gd gm d nm ((pre ++ x :: post).map XF.ent) x.g _ (by exact HO176.get 4 rfl) (HO176.get 5 rfl) hdn hl hn) ?_
      rintro e191 w192 ⟨rfl, hb193⟩
      refine ⟨_, rfl, fun a194 HF195 => ?_⟩
      have HO196 := HO176.after hb193
      clear HF190 HO176 hb193
      refine gw_ev HF195 (want_none rfl) rfl (by decide) (op_move rfl (HF195.ev rfl)) ?_
      intro a198 HF199; clear HF195
      refine gw_ev HF199 (want_none rfl) rfl (by decide) (op_extract rfl (HF199.ev rfl) rfl) ?_
      intro a200 HF201; clear HF199
      refine gw_ev HF201 (want_none rfl) rfl (by decide) (op_extract rfl (HF201.ev rfl) rfl) ?_
      intro a202 HF203; clear HF201
      refine gw_new HF203 HO196 (want_none rfl) rfl (by decide) (op_alloc gwzer78 rfl) ?_
      intro g204 a205 w206 HF207 HO208; clear HF203 HO196
      have HO209 : Own w0 w206 [Chunk.blk g204 (.cells #[.pointer none] 78 (0, 0)), Chunk.blk g147 (.cells #[.string dest] 9 (0, 0)), Chunk.blk g141 (.cells #[.string nm] 9 (0, 0)), Chunk.blk g135 (.cells #[.pointer (some ⟨gd, 0, none⟩)] 23 (0, 0)), R, Chunk.blk gd (.cells #[.map (some gm), .int .i64 d.most, .int .i64 d.used, .int .i64 d.fuse, .bool d.down] 76 (0, 0)), Chunk.lmap Try.prog 9 gm ((pre ++ x :: post).map XF.ent), Chunk.files w0.heap.size (pre ++ x :: post)] := HO208
      clear HO208
      refine gw_set 0 HF207 HO209 rfl (want_none rfl) rfl (op_store1 gwsiz78 rfl (HF207.ev rfl) (HF207.ev rfl) rfl (blk_at (HO209.get 0 rfl) rfl) (blkf (HO209.get 0 rfl))) ?_
      intro a210 w212 HF211 HO213; clear HF207 HO209
      have HO214 : Own w0 w212 [Chunk.blk g204 (.cells #[.pointer (some ⟨x.g, 0, none⟩)] 78 (0, 0)), Chunk.blk g147 (.cells #[.string dest] 9 (0, 0)), Chunk.blk g141 (.cells #[.string nm] 9 (0, 0)), Chunk.blk g135 (.cells #[.pointer (some ⟨gd, 0, none⟩)] 23 (0, 0)), R, Chunk.blk gd (.cells #[.map (some gm), .int .i64 d.most, .int .i64 d.used, .int .i64 d.fuse, .bool d.down] 76 (0, 0)), Chunk.lmap Try.prog 9 gm ((pre ++ x :: post).map XF.ent), Chunk.files w0.heap.size (pre ++ x :: post)] := HO213
      clear HO213
      refine gw_ev HF211 (want_none rfl) rfl (by decide) (op_assign rfl (HF211.ev rfl)) ?_
      intro a215 HF216; clear HF211
      refine wpList_nil ?_
      refine gw_nx (hK186 _ _ ?_)
      refine gw_seq fun K217 hK217 => ?_
      refine gw_seq fun K218 hK218 => ?_
      refine wp_region_lit ?_
      refine gw_ev HF216 (want_none rfl) rfl (by decide) (op_move rfl (HF216.ev rfl)) ?_
      intro a219 HF220; clear HF216
      refine gw_ev HF220 (want_none rfl) rfl (by decide) (op_nei rfl (HF220.ev rfl) (ev_c _ _)) ?_
      intro a221 HF222; clear HF220
      have HF223 := HF222.lit (b := false) (by decide)
      clear HF222
      refine wpList_nil ?_
      refine gw_nx (hK218 _ _ ?_)
      refine gw_cond HF223 rfl (fun hb224 => ?_) (fun hb224 => ?_)
      skip
      · cases hb224
      refine wp_skip ?_
      refine gw_nx (hK217 _ _ ?_)
      refine gw_seq fun K225 hK225 => ?_
      refine wp_region_lit ?_
      refine gw_ev HF223 (want_none rfl) rfl (by decide) (op_load1 gwagg23 rfl (HF223.ev rfl) (blk_at (HO214.get 3 rfl) rfl)) ?_
      intro a226 HF227; clear HF223
      refine gw_ev HF227 (want_none rfl) rfl (by decide) (op_func rfl (ar_cons (HF227.ev rfl) (ar_cons (HF227.ev rfl) (ar_cons (HF227.ev rfl) (ar_cons (HF227.ev rfl) ar_nil))))) ?_
      intro a228 HF229; clear HF227
      have HO236 : Own w0 _ [(Chunk.all [Chunk.blk g204 (.cells #[.pointer (some ⟨x.g, 0, none⟩)] 78 (0, 0)), Chunk.blk g147 (.cells #[.string dest] 9 (0, 0)), Chunk.blk g141 (.cells #[.string nm] 9 (0, 0)), Chunk.blk g135 (.cells #[.pointer (some ⟨gd, 0, none⟩)] 23 (0, 0)), R, Chunk.lmap Try.prog 9 gm ((pre ++ x :: post).map XF.ent), Chunk.files w0.heap.size (pre ++ x :: post)]), Chunk.blk gd (.cells #[.map (some gm), .int .i64 d.most, .int .i64 d.used, .int .i64 d.fuse, .bool d.down] 76 (0, 0))] := Own.bundle (A := [Chunk.blk g204 (.cells #[.pointer (some ⟨x.g, 0, none⟩)] 78 (0, 0)), Chunk.blk g147 (.cells #[.string dest] 9 (0, 0)), Chunk.blk g141 (.cells #[.string nm] 9 (0, 0)), Chunk.blk g135 (.cells #[.pointer (some ⟨gd, 0, none⟩)] 23 (0, 0)), R, Chunk.lmap Try.prog 9 gm ((pre ++ x :: post).map XF.ent), Chunk.files w0.heap.size (pre ++ x :: post)]) (L := [Chunk.blk gd (.cells #[.map (some gm), .int .i64 d.most, .int .i64 d.used, .int .i64 d.fuse, .bool d.down] 76 (0, 0))]) (HO214.sel [0, 1, 2, 3, 4, 6, 7, 5] (by decide))
      refine gw_call HF229 (want_none rfl) rfl (by decide) (op_callL Try.func40 (by kernel_rfl) rfl rfl (ar_cons (HF229.ev rfl) (ar_cons (HF229.ev rfl) ar_nil))) (step_calls w0 _ (Chunk.all [Chunk.blk g204 (.cells #[.pointer (some ⟨x.g, 0, none⟩)] 78 (0, 0)), Chunk.blk g147 (.cells #[.string dest] 9 (0, 0)), Chunk.blk g141 (.cells #[.string nm] 9 (0, 0)), Chunk.blk g135 (.cells #[.pointer (some ⟨gd, 0, none⟩)] 23 (0, 0)), R, Chunk.lmap Try.prog 9 gm ((pre ++ x :: post).map XF.ent), Chunk.files w0.heap.size (pre ++ x :: post)]) gd gm d 50 _ [.pointer (some ⟨g141, 0, none⟩), .pointer (some ⟨g147, 0, none⟩), .pointer (some ⟨g135, 0, none⟩), .pointer (some ⟨g204, 0, none⟩)] (fun w_ => ∃ xs', (xs'.map XF.p = (renK nm dest x.p ({ d with fuse := decF d.fuse } : PD)).fs) ∧ Own w0 w_ [(Chunk.all [R]), Chunk.blk gd (.cells #[.map (some gm), .int .i64 ((renK nm dest x.p ({ d with fuse := decF d.fuse } : PD)).most), .int .i64 ((renK nm dest x.p ({ d with fuse := decF d.fuse } : PD)).used), .int .i64 ((renK nm dest x.p ({ d with fuse := decF d.fuse } : PD)).fuse), .bool ((renK nm dest x.p ({ d with fuse := decF d.fuse } : PD)).down)] 76 (0, 0)), Chunk.lmap Try.prog 9 gm (xs'.map XF.ent), Chunk.files w0.heap.size xs']) Try.func50 (by kernel_rfl) rfl hfu (fun hf1 w1 h_ => rename1 w0 w1 (Chunk.all [R]) gd gm ({ d with fuse := decF d.fuse } : PD) (pre ++ x :: post) nm hxs hon x dest (by simp) hnm (by intro x_ hx_; show (x_.p.b.length : Int) ≤ d.used; exact wf_len hw (by rw [← hxs]; exact List.mem_map_of_mem hx_)) (by show 0 ≤ d.used ∧ d.used ≤ _; omega) g141 g147 g135 g204 hn hdest (by have hl_ := hlen; rw [← hxs, List.length_map] at hl_; exact hl_) (Own.bundle (A := [R]) (L := [Chunk.blk gd (.cells #[.map (some gm), .int .i64 (({ d with fuse := decF d.fuse } : PD).most), .int .i64 (({ d with fuse := decF d.fuse } : PD).used), .int .i64 (({ d with fuse := decF d.fuse } : PD).fuse), .bool (({ d with fuse := decF d.fuse } : PD).down)] 76 (0, 0)), Chunk.lmap Try.prog 9 gm ((pre ++ x :: post).map XF.ent), Chunk.files w0.heap.size (pre ++ x :: post), Chunk.blk g141 (.cells #[.string nm] 9 (0, 0)), Chunk.blk g147 (.cells #[.string dest] 9 (0, 0)), Chunk.blk g135 (.cells #[.pointer (some ⟨gd, 0, none⟩)] 23 (0, 0)), Chunk.blk g204 (.cells #[.pointer (some ⟨x.g, 0, none⟩)] 78 (0, 0))]) ((Own.unbundle (A := [Chunk.blk g204 (.cells #[.pointer (some ⟨x.g, 0, none⟩)] 78 (0, 0)), Chunk.blk g147 (.cells #[.string dest] 9 (0, 0)), Chunk.blk g141 (.cells #[.string nm] 9 (0, 0)), Chunk.blk g135 (.cells #[.pointer (some ⟨gd, 0, none⟩)] 23 (0, 0)), R, Chunk.lmap Try.prog 9 gm ((pre ++ x :: post).map XF.ent), Chunk.files w0.heap.size (pre ++ x :: post)]) (L := [Chunk.blk gd (.cells #[.map (some gm), .int .i64 (({ d with fuse := decF d.fuse } : PD).most), .int .i64 (({ d with fuse := decF d.fuse } : PD).used), .int .i64 (({ d with fuse := decF d.fuse } : PD).fuse), .bool (({ d with fuse := decF d.fuse } : PD).down)] 76 (0, 0))]) (by exact h_)).sel [4, 7, 5, 6, 2, 1, 3, 0] (by decide)))) (by exact HO236)) ?_
      rintro e230 w231 (⟨hf1, rfl, hb232⟩ | ⟨hf1, rfl, ⟨xs', hx', hb232⟩⟩)
      · skip
        refine ⟨_, rfl, fun a233 HF234 => ?_⟩
        have HO235 : Own w0 w231 [Chunk.blk g204 (.cells #[.pointer (some ⟨x.g, 0, none⟩)] 78 (0, 0)), Chunk.blk g147 (.cells #[.string dest] 9 (0, 0)), Chunk.blk g141 (.cells #[.string nm] 9 (0, 0)), Chunk.blk g135 (.cells #[.pointer (some ⟨gd, 0, none⟩)] 23 (0, 0)), R, Chunk.lmap Try.prog 9 gm ((pre ++ x :: post).map XF.ent), Chunk.files w0.heap.size (pre ++ x :: post), Chunk.blk gd (.cells #[.map (some gm), .int .i64 d.most, .int .i64 d.used, .int .i64 0, .bool true] 76 (0, 0))] := Own.unbundle (A := [Chunk.blk g204 (.cells #[.pointer (some ⟨x.g, 0, none⟩)] 78 (0, 0)), Chunk.blk g147 (.cells #[.string dest] 9 (0, 0)), Chunk.blk g141 (.cells #[.string nm] 9 (0, 0)), Chunk.blk g135 (.cells #[.pointer (some ⟨gd, 0, none⟩)] 23 (0, 0)), R, Chunk.lmap Try.prog 9 gm ((pre ++ x :: post).map XF.ent), Chunk.files w0.heap.size (pre ++ x :: post)]) (L := [Chunk.blk gd (.cells #[.map (some gm), .int .i64 d.most, .int .i64 d.used, .int .i64 0, .bool true] 76 (0, 0))]) (by exact hb232)
        clear HO236 hb232
        clear HF229 HO214
        refine gw_ev HF234 (want_none rfl) rfl (by decide) (op_assign rfl (HF234.ev rfl)) ?_
        intro a237 HF238; clear HF234
        refine wpList_nil ?_
        refine gw_nx (hK225 _ _ ?_)
        refine wp_ret ?_
        refine gw_ret1 HF238 rfl rfl ?_
        exact disk_fin (gd := gd) (gm := gm) (d' := { d with fuse := 0, down := true }) (xs := (pre ++ x :: post)) ((rename_go hdn hnb hgd).trans (step_off hf1)) hxs (by exact HO235.sel [4, 7, 5, 6] (by decide))
      · skip
        refine ⟨_, rfl, fun a233 HF234 => ?_⟩
        have HO235 : Own w0 w231 [R, Chunk.blk gd (.cells #[.map (some gm), .int .i64 ((renK nm dest x.p ({ d with fuse := decF d.fuse } : PD)).most), .int .i64 ((renK nm dest x.p ({ d with fuse := decF d.fuse } : PD)).used), .int .i64 ((renK nm dest x.p ({ d with fuse := decF d.fuse } : PD)).fuse), .bool ((renK nm dest x.p ({ d with fuse := decF d.fuse } : PD)).down)] 76 (0, 0)), Chunk.lmap Try.prog 9 gm (xs'.map XF.ent), Chunk.files w0.heap.size xs'] := Own.unbundle (A := [R]) (L := [Chunk.blk gd (.cells #[.map (some gm), .int .i64 ((renK nm dest x.p ({ d with fuse := decF d.fuse } : PD)).most), .int .i64 ((renK nm dest x.p ({ d with fuse := decF d.fuse } : PD)).used), .int .i64 ((renK nm dest x.p ({ d with fuse := decF d.fuse } : PD)).fuse), .bool ((renK nm dest x.p ({ d with fuse := decF d.fuse } : PD)).down)] 76 (0, 0)), Chunk.lmap Try.prog 9 gm (xs'.map XF.ent), Chunk.files w0.heap.size xs']) hb232
        clear HO236 hb232
        clear HF229 HO214
        refine gw_ev HF234 (want_none rfl) rfl (by decide) (op_assign rfl (HF234.ev rfl)) ?_
        intro a239 HF240; clear HF234
        refine wpList_nil ?_
        refine gw_nx (hK225 _ _ ?_)
        refine wp_ret ?_
        refine gw_ret1 HF240 rfl rfl ?_
        exact disk_fin (gd := gd) (gm := gm) (d' := _) (xs := xs') ((rename_go hdn hnb hgd).trans (step_on hf1 hfu.1)) hx' (by exact HO235.sel [0, 1, 2, 3] (by decide))
end GVfs3_
export GVfs3_ (cut_calls remove_calls rename_calls)
end Go.Proofs.Ytkdahjnmldeklaa.PA
