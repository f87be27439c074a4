/- The disk: Crash. Printed by a program of this session; Lean checks it. -/
import Derived.Test.YtkdahjnmldeklaaGVfs4
namespace Go.Proofs.Ytkdahjnmldeklaa.PA
open Go.RowKit Go.Proofs.YtkdahjnmldeklaaW.PrintWords Go.Proofs.YtkdahjnmldeklaaW.PrintLast Go.Proofs.YtkdahjnmldeklaaW.PrintMore
set_option linter.unusedVariables false
set_option linter.unusedSimpArgs false
namespace GVfs5_
theorem gwagg28 : ∀ w, (isAgg 28).run Try.prog w = .ok false w := fun _ => by kernel_rfl
theorem gwagg3 : ∀ w, (isAgg 3).run Try.prog w = .ok false w := fun _ => by kernel_rfl
theorem gwagg74 : ∀ w, (isAgg 74).run Try.prog w = .ok false w := fun _ => by kernel_rfl
theorem gwagg9 : ∀ w, (isAgg 9).run Try.prog w = .ok false w := fun _ => by kernel_rfl
theorem gwfld76_0 (g off : Nat) : ∀ w, (Instr.fieldAt 76 (.pointer (some ⟨g, off, none⟩)) 0).run Try.prog w = .ok (.pointer (some ⟨g, off + 0, none⟩)) w := fun _ => by kernel_rfl
theorem gwfld76_2 (g off : Nat) : ∀ w, (Instr.fieldAt 76 (.pointer (some ⟨g, off, none⟩)) 2).run Try.prog w = .ok (.pointer (some ⟨g, off + 2, none⟩)) w := fun _ => by kernel_rfl
theorem gwfld76_3 (g off : Nat) : ∀ w, (Instr.fieldAt 76 (.pointer (some ⟨g, off, none⟩)) 3).run Try.prog w = .ok (.pointer (some ⟨g, off + 3, none⟩)) w := fun _ => by kernel_rfl
theorem gwfld76_4 (g off : Nat) : ∀ w, (Instr.fieldAt 76 (.pointer (some ⟨g, off, none⟩)) 4).run Try.prog w = .ok (.pointer (some ⟨g, off + 4, none⟩)) w := fun _ => by kernel_rfl
theorem gwfld81_0 (g off : Nat) : ∀ w, (Instr.fieldAt 81 (.pointer (some ⟨g, off, none⟩)) 0).run Try.prog w = .ok (.pointer (some ⟨g, off + 0, none⟩)) w := fun _ => by kernel_rfl
theorem gwfld81_1 (g off : Nat) : ∀ w, (Instr.fieldAt 81 (.pointer (some ⟨g, off, none⟩)) 1).run Try.prog w = .ok (.pointer (some ⟨g, off + 1, none⟩)) w := fun _ => by kernel_rfl
theorem gwsiz28 : ∀ w, (sizeOf 28).run Try.prog w = .ok 1 w := fun _ => by kernel_rfl
theorem gwsiz3 : ∀ w, (sizeOf 3).run Try.prog w = .ok 1 w := fun _ => by kernel_rfl
theorem gwsiz4 : ∀ w, (sizeOf 4).run Try.prog w = .ok 1 w := fun _ => by kernel_rfl
theorem gwsiz5 : ∀ w, (sizeOf 5).run Try.prog w = .ok 1 w := fun _ => by kernel_rfl
theorem gwsiz9 : ∀ w, (sizeOf 9).run Try.prog w = .ok 1 w := fun _ => by kernel_rfl
theorem gwzer78 : ∀ w, (zeroValue 78).run Try.prog w = .ok (.pointer none) w := fun _ => by kernel_rfl
set_option maxHeartbeats 4000000 in
set_option maxRecDepth 100000 in
theorem crash_calls (w0 w : World) (R : Chunk) (gd : Nat) (S : Nat → Prop) (d : PD) (Ak0 : Option Addr) (ck0 : Nat) (keep : List Int) (hk0 : ∀ w1, Own w0 w1 [R] → Kd.C (Kd.int .i64) w1 Ak0 keep.length keep) (hc0 : keep.length ≤ ck0) (hw : wfD d) (hlen : d.fs.length ≤ 1000000) (HO : Own w0 w [R, Chunk.disk w0.heap.size gd S d]) :
    Calls Try.prog 17 #[.pointer (some ⟨gd, 0, none⟩), .slice Ak0 keep.length ck0] w fun e w' => e = .returned (.tuple #[]) ∧ ∃ S', Own w0 w' [R, Chunk.disk w0.heap.size gd S' (crashD keep d)] := by
  have hu0 := hw.used
  have hm0 := hw.most
  have hfu := hw.fuse
  obtain ⟨gm, xs, hxs, hon, HO⟩ := disk_open2 HO
  have hnl : (xs.map fun x => x.p.nm).length ≤ 1000000 := by rw [← hxs, List.length_map] at hlen; rw [List.length_map]; exact hlen
  refine gw_startO (N := 84) (vs := [.pointer (some ⟨gd, 0, none⟩), .slice Ak0 keep.length ck0]) Try.func17 rfl rfl (by simp) fun a HF => ?_
  refine gw_seq fun K1 hK1 => ?_
  refine wp_region_lit ?_
  refine gw_ev HF (want_none rfl) rfl (by decide) (op_move rfl (HF.ev rfl)) ?_
  intro a2 HF3; clear HF
  refine gw_ev HF3 (want_none rfl) rfl (by decide) (op_move rfl (HF3.ev rfl)) ?_
  intro a4 HF5; clear HF3
  refine gw_ev HF5 (want_none rfl) rfl (by decide) (op_nil rfl (HF5.ev rfl)) ?_
  intro a6 HF7; clear HF5
  refine gw_ev HF7 (want_none rfl) rfl (by decide) (op_field (gwfld76_4 _ _) rfl (HF7.ev rfl)) ?_
  intro a8 HF9; clear HF7
  refine gw_set 1 HF9 HO rfl (want_none rfl) rfl (op_store1 gwsiz4 rfl (HF9.ev rfl) (ev_c _ _) rfl (blk_at (HO.get 1 rfl) rfl) (blkf (HO.get 1 rfl))) ?_
  intro a10 w12 HF11 HO13; clear HF9 HO
  have HO14 : Own w0 w12 [R, Chunk.blk gd (.cells #[.map (some gm), .int .i64 d.most, .int .i64 d.used, .int .i64 d.fuse, .bool false] 76 (0, 0)), Chunk.lmap Try.prog 9 gm (xs.map XF.ent), Chunk.files w0.heap.size xs] := HO13
  clear HO13
  refine gw_ev HF11 (want_none rfl) rfl (by decide) (op_nil rfl (HF11.ev rfl)) ?_
  intro a15 HF16; clear HF11
  refine gw_ev HF16 (want_none rfl) rfl (by decide) (op_field (gwfld76_3 _ _) rfl (HF16.ev rfl)) ?_
  intro a17 HF18; clear HF16
  refine gw_set 1 HF18 HO14 rfl (want_none rfl) rfl (op_store1 gwsiz3 rfl (HF18.ev rfl) (ev_c _ _) rfl (blk_at (HO14.get 1 rfl) rfl) (blkf (HO14.get 1 rfl))) ?_
  intro a19 w21 HF20 HO22; clear HF18 HO14
  have HO23 : Own w0 w21 [R, Chunk.blk gd (.cells #[.map (some gm), .int .i64 d.most, .int .i64 d.used, .int .i64 0, .bool false] 76 (0, 0)), Chunk.lmap Try.prog 9 gm (xs.map XF.ent), Chunk.files w0.heap.size xs] := HO22
  clear HO22
  refine wpList_nil ?_
  refine gw_nx (hK1 _ _ ?_)
  refine gw_seq fun K24 hK24 => ?_
  refine wp_region_lit ?_
  refine gw_ev HF20 (want_none rfl) rfl (by decide) (op_move rfl (HF20.ev rfl)) ?_
  intro a25 HF26; clear HF20
  obtain ⟨S_d, HOd⟩ := disk_close2 (R := R) (base := w0.heap.size) (gd := gd) (gm := gm) (d := { d with down := false, fuse := 0 }) (xs := xs) hxs (by exact HO23.sel [0, 1, 2, 3] (by decide))
  refine gw_call HF26 (want_none rfl) rfl (by decide) (op_callL Try.func22 (by kernel_rfl) rfl rfl (ar_cons (HF26.ev rfl) ar_nil)) (by have h_ := names_calls _ _ _ _ _ (HOd.get 1 rfl) hlen; rw [show namesD { d with down := false, fuse := 0 } = (xs.map fun x => x.p.nm) by (unfold namesD; show d.fs.map PF.nm = _; rw [← hxs, List.map_map]; rfl)] at h_; exact h_) ?_
  rintro e30 w31 ⟨A27, c28, S29, rfl, hb32⟩
  refine ⟨_, rfl, fun a33 HF34 => ?_⟩
  have HO35 := HO23.fresh hb32
  have hbel36 := HO23.below
  clear HF26 HO23 hb32
  have HO37 := HO35.lowrow 0 rfl (base' := w0.heap.size) (Below.size hbel36)
  have HO38 : Own w0 w31 [Chunk.row Kd.string 9 w0.heap.size S29 (.slice A27 ((xs.map fun x => x.p.nm).length) c28) (xs.map fun x => x.p.nm), R, Chunk.blk gd (.cells #[.map (some gm), .int .i64 d.most, .int .i64 d.used, .int .i64 0, .bool false] 76 (0, 0)), Chunk.lmap Try.prog 9 gm (xs.map XF.ent), Chunk.files w0.heap.size xs] := HO37
  clear HO37
  have HO39 := HO38.row_view 0 rfl
  clear HO38
  have HO40 : Own w0 w31 [Chunk.view Kd.string S29 A27 ((xs.map fun x => x.p.nm).length) c28 (xs.map fun x => x.p.nm), R, Chunk.blk gd (.cells #[.map (some gm), .int .i64 d.most, .int .i64 d.used, .int .i64 0, .bool false] 76 (0, 0)), Chunk.lmap Try.prog 9 gm (xs.map XF.ent), Chunk.files w0.heap.size xs] := HO39
  clear HO39
  refine gw_ev HF34 (want_none rfl) rfl (by decide) (op_len Try.underlying37 rfl (HF34.ev rfl)) ?_
  intro a41 HF42; clear HF34
  refine gw_ev HF42 (want_none rfl) rfl (by decide) (op_move rfl (ev_c _ _)) ?_
  intro a43 HF44; clear HF42
  refine wpList_nil ?_
  refine gw_nx (hK24 _ _ ?_)
  refine wp_block ?_
  refine gw_loop (fun m_ a_ w_ => ∃ (i : Int) (ys : List XF) (zs : List XF) (us : Int) (Ak : Option Addr) (ck : Nat) (kl : List Int), Fr 84 a_ [(18, .int .i64 i), (1, .slice Ak kl.length ck), (0, .pointer (some ⟨gd, 0, none⟩)), (16, .slice A27 ((xs.map fun x => x.p.nm).length) c28), (17, .int .i64 (((xs.map fun x => x.p.nm).length) : Int))] ∧ Own w0 w_ [R, Chunk.blk gd (.cells #[.map (some gm), .int .i64 d.most, .int .i64 us, .int .i64 0, .bool false] 76 (0, 0)), Chunk.lmap Try.prog 9 gm ((ys ++ zs).map XF.ent), Chunk.files w0.heap.size (ys ++ zs), Chunk.view Kd.string S29 A27 ((xs.map fun x => x.p.nm).length) c28 (xs.map fun x => x.p.nm)] ∧ (i = ys.length ∧ i ≤ (xs.map fun x => x.p.nm).length) ∧ ((xs.map fun x => x.p.nm) = (ys ++ zs).map fun x => x.p.nm) ∧ (onceX (ys ++ zs)) ∧ (us = (((ys ++ zs).map fun x => x.p.b.length).sum : Nat) ∧ us ≤ d.used) ∧ (∀ x ∈ zs, 0 ≤ x.p.sf ∧ x.p.sf ≤ x.p.b.length ∧ x.p.nm.size ≤ 40) ∧ ((crashF d.fs keep).1 = ys.map XF.p ++ (crashF (zs.map XF.p) kl).1 ∧ d.used - (crashF d.fs keep).2 = us - (crashF (zs.map XF.p) kl).2) ∧ (∀ w1, Own w0 w1 [R] → Kd.C (Kd.int .i64) w1 Ak kl.length kl) ∧ (kl.length ≤ ck) ∧ m_ = ((xs.map fun x => x.p.nm).length - i.toNat)) (((xs.map fun x => x.p.nm).length - (0 : Int).toNat)) ?_ ?_
  · refine ⟨0, [], xs, d.used, Ak0, ck0, keep, (HF44.pick (t := 18) rfl (HF44.pick (t := 1) rfl (HF44.pick (t := 0) rfl (HF44.pick (t := 16) rfl (HF44.pick (t := 17) rfl HF44.nil))))), HO40.sel [1, 2, 3, 4, 0] (by decide), ?_, ?_, ?_, ?_, ?_, ?_, ?_, ?_, rfl⟩
    · simp
    · simp
    · exact hon
    · rw [List.nil_append]; exact ⟨by rw [hw.used, ← hxs, List.map_map]; rfl, Int.le_refl _⟩
    · intro x_ hx_; have h1_ : x_.p ∈ d.fs := by rw [← hxs]; exact List.mem_map_of_mem hx_
      exact ⟨(hw.sf _ h1_).1, (hw.sf _ h1_).2, hw.nm _ h1_⟩
    · rw [hxs]; simp
    · exact hk0
    · exact hc0
  · rintro m46 a47 w48 ⟨i, ys, zs, us, Ak, ck, kl, HF49, HO50, hi, hnm, hon2, hus, hsf, hcr, hkc, hkl, hm51⟩
    refine gw_seq fun K52 hK52 => ?_
    refine wp_region_lit ?_
    refine gw_ev HF49 (want_none rfl) rfl (by decide) (op_lss rfl (HF49.ev rfl) (HF49.ev rfl)) ?_
    intro a53 HF54; clear HF49
    refine wpList_nil ?_
    refine gw_nx (hK52 _ _ ?_)
    refine gw_seq fun K55 hK55 => ?_
    refine gw_cond HF54 rfl (fun hb56 => ?_) (fun hb56 => ?_)
    · skip
      have HF57 := HF54.subst_ (d := 19) (b := true) rfl hb56
      clear HF54
      (try simp only [Bool.and_eq_true, Bool.or_eq_true, Bool.and_eq_false_iff, Bool.or_eq_false_iff, Bool.not_and, Bool.not_or, Bool.not_not, decide_eq_true_eq, decide_eq_false_iff_not, Bool.not_eq_true', Bool.not_eq_false', Bool.not_eq_true, Bool.not_eq_false, ne_eq, Decidable.not_not, Int.not_lt, Int.not_le, not_true_eq_false, not_false_eq_true, bne_iff_ne, beq_iff_eq, bne_eq_false_iff_eq, beq_eq_false_iff_ne] at hb56)
      have hb_ := hb56
      have hz_ : zs ≠ [] := by intro e; rw [hnm, e] at hb_; simp at hb_; omega
      obtain ⟨x, zs', rfl⟩ := List.exists_cons_of_ne_nil hz_
      clear hb_ hz_
      have hx1 := hsf x (List.mem_cons_self ..)
      have hus2 := hus
      rw [totalX_mid] at hus2
      have hex : (xs.map fun x => x.p.nm).getD i.toNat (⟨#[]⟩ : ByteArray) = x.p.nm := by rw [hnm]; simp [hi.1]
      have hl1 := look_mid hon2
      have HO58 := Own.file_open (pre := ys) (x := x) (post := zs') (by exact HO50.sel [3, 0, 1, 2, 4] (by decide))
      have HO59 : Own w0 w48 [Chunk.blk x.g (.cells #[.slice x.A x.p.b.length x.c, .int .i64 x.p.sf] 81 (0, 0)), Chunk.row (Kd.int .u8) 5 w0.heap.size x.S (.slice x.A x.p.b.length x.c) x.p.b, Chunk.files w0.heap.size (ys ++ zs'), R, Chunk.blk gd (.cells #[.map (some gm), .int .i64 d.most, .int .i64 us, .int .i64 0, .bool false] 76 (0, 0)), Chunk.lmap Try.prog 9 gm ((ys ++ x :: zs').map XF.ent), Chunk.view Kd.string S29 A27 ((xs.map fun x => x.p.nm).length) c28 (xs.map fun x => x.p.nm)] := HO58
      clear HO58
      refine wp_skip ?_
      refine gw_nx (hK55 _ _ ?_)
      refine gw_seq fun K60 hK60 => ?_
      refine wp_block ?_
      refine gw_seq fun K61 hK61 => ?_
      refine wp_region_lit ?_
      have HO68 := HO59.pin 6 rfl
      clear HO59
      have HO69 : Own w0 w48 [Chunk.blk x.g (.cells #[.slice x.A x.p.b.length x.c, .int .i64 x.p.sf] 81 (0, 0)), Chunk.row (Kd.int .u8) 5 w0.heap.size x.S (.slice x.A x.p.b.length x.c) x.p.b, Chunk.files w0.heap.size (ys ++ zs'), R, Chunk.blk gd (.cells #[.map (some gm), .int .i64 d.most, .int .i64 us, .int .i64 0, .bool false] 76 (0, 0)), Chunk.lmap Try.prog 9 gm ((ys ++ x :: zs').map XF.ent), Chunk.viewAt w48 Kd.string S29 A27 ((xs.map fun x => x.p.nm).length) c28 (xs.map fun x => x.p.nm)] := HO68
      clear HO68
      obtain ⟨ad62, cs65, hA63, hl66, hK67, hc64, _⟩ := Kd.F_get (viewAt_F (HO69.get 6 rfl)) (⟨#[]⟩ : ByteArray) i (by omega) (by omega)
      obtain rfl := str_openF hK67
      clear hl66
      refine gw_ev HF57 (want_none rfl) rfl (by decide) (op_index Try.underlying37 gwsiz9 rfl (HF57.ev rfl) (HF57.ev rfl) hA63 (⟨by omega, by omega⟩)) ?_
      intro a70 HF71; clear HF57
      refine gw_ev HF71 (want_none rfl) rfl (by decide) (op_load1 gwagg9 rfl (HF71.ev rfl) (((pin_cells (HO69.get 6 rfl) hA63 hc64) 0 _ rfl))) ?_
      intro a72 HF73; clear HF71
      have HF74 := HF73.conv (v' := .string x.p.nm) (congrArg Value.string hex)
      clear HF73
      refine gw_ev HF74 (want_none rfl) rfl (by decide) (op_assign rfl (HF74.ev rfl)) ?_
      intro a75 HF76; clear HF74
      refine wpList_nil ?_
      refine gw_nx (hK61 _ _ ?_)
      refine gw_seq fun K77 hK77 => ?_
      refine wp_region_lit ?_
      refine gw_ev HF76 (want_none rfl) rfl (by decide) (op_move rfl (HF76.ev rfl)) ?_
      intro a78 HF79; clear HF76
      refine gw_ev HF79 (want_none rfl) rfl (by decide) (op_nil rfl (HF79.ev rfl)) ?_
      intro a80 HF81; clear HF79
      refine gw_ev HF81 (want_none rfl) rfl (by decide) (op_field (gwfld76_0 _ _) rfl (HF81.ev rfl)) ?_
      intro a82 HF83; clear HF81
      refine gw_ev HF83 (want_none rfl) rfl (by decide) (op_load1 gwagg74 rfl (HF83.ev rfl) (blk_at (HO69.get 4 rfl) rfl)) ?_
      intro a84 HF85; clear HF83
      refine gw_ev HF85 (want_none rfl) rfl (by decide) (op_move rfl (HF85.ev rfl)) ?_
      intro a86 HF87; clear HF85
      refine gw_ev HF87 (want_none rfl) rfl (by decide) (op_ml_some strKey Try.underlying74 gwzer78 rfl (HF87.ev rfl) (HF87.ev rfl) (keyS (by omega)) (HO69.get 5 rfl) (hl1)) ?_
      intro a88 HF89; clear HF87
      refine gw_ev HF89 (want_none rfl) rfl (by decide) (op_assign rfl (HF89.ev rfl)) ?_
      intro a90 HF91; clear HF89
      refine wpList_nil ?_
      refine gw_nx (hK77 _ _ ?_)
      refine gw_seq fun K92 hK92 => ?_
      refine gw_drawB HO69 (by kernel_rfl) (by kernel_rfl) fun w93 HO94 => ?_
      clear HO69
      refine gq_ev HF91 (want_none rfl) rfl (by decide) (fun wq hq => have HO := HO94.after hq; (op_move rfl (HF91.ev rfl))) ?_
      intro a95 HF96; clear HF91
      refine gq_ev HF96 (want_none rfl) rfl (by decide) (fun wq hq => have HO := HO94.after hq; (op_nil rfl (HF96.ev rfl))) ?_
      intro a97 HF98; clear HF96
      refine gq_ev HF98 (want_none rfl) rfl (by decide) (fun wq hq => have HO := HO94.after hq; (op_field (gwfld81_0 _ _) rfl (HF98.ev rfl))) ?_
      intro a99 HF100; clear HF98
      refine gq_ev HF100 (want_none rfl) rfl (by decide) (fun wq hq => have HO := HO94.after hq; (op_load1 gwagg28 rfl (HF100.ev rfl) (blk_at (HO.get 0 rfl) rfl))) ?_
      intro a101 HF102; clear HF100
      refine gq_ev HF102 (want_none rfl) rfl (by decide) (fun wq hq => have HO := HO94.after hq; (op_len Try.underlying28 rfl (HF102.ev rfl))) ?_
      intro a103 HF104; clear HF102
      refine gq_ev HF104 (want_none rfl) rfl (by decide) (fun wq hq => have HO := HO94.after hq; (op_move rfl (HF104.ev rfl))) ?_
      intro a105 HF106; clear HF104
      refine gq_ev HF106 (want_none rfl) rfl (by decide) (fun wq hq => have HO := HO94.after hq; (op_nil rfl (HF106.ev rfl))) ?_
      intro a107 HF108; clear HF106
      refine gq_ev HF108 (want_none rfl) rfl (by decide) (fun wq hq => have HO := HO94.after hq; (op_field (gwfld81_1 _ _) rfl (HF108.ev rfl))) ?_
      intro a109 HF110; clear HF108
      refine gq_ev HF110 (want_none rfl) rfl (by decide) (fun wq hq => have HO := HO94.after hq; (op_load1 gwagg3 rfl (HF110.ev rfl) (blk_at (HO.get 0 rfl) rfl))) ?_
      intro a111 HF112; clear HF110
      refine gq_ev HF112 (want_none rfl) rfl (by decide) (fun wq hq => have HO := HO94.after hq; (op_sub rfl (HF112.ev rfl) (HF112.ev rfl) (by omega))) ?_
      intro a113 HF114; clear HF112
      refine gq_ev HF114 (want_none rfl) rfl (by decide) (fun wq hq => have HO := HO94.after hq; (op_assign rfl (HF114.ev rfl))) ?_
      intro a115 HF116; clear HF114
      refine wpQuiet_nil ?_
      intro w117 hq
      have HO118 := HO94.after hq
      clear HO94 hq
      refine gw_nx (hK92 _ _ ?_)
      refine gw_seq fun K119 hK119 => ?_
      refine gw_seq fun K120 hK120 => ?_
      refine wp_region_lit ?_
      refine gw_ev HF116 (want_none rfl) rfl (by decide) (op_move rfl (HF116.ev rfl)) ?_
      intro a121 HF122; clear HF116
      refine gw_ev HF122 (want_none rfl) rfl (by decide) (op_eqi rfl (HF122.ev rfl) (ev_c _ _)) ?_
      intro a123 HF124; clear HF122
      refine wpList_nil ?_
      refine gw_nx (hK120 _ _ ?_)
      refine gw_cond HF124 rfl (fun hb125 => ?_) (fun hb125 => ?_)
      · skip
        have HF126 := HF124.subst_ (d := 39) (b := true) rfl hb125
        clear HF124
        (try simp only [Bool.and_eq_true, Bool.or_eq_true, Bool.and_eq_false_iff, Bool.or_eq_false_iff, Bool.not_and, Bool.not_or, Bool.not_not, decide_eq_true_eq, decide_eq_false_iff_not, Bool.not_eq_true', Bool.not_eq_false', Bool.not_eq_true, Bool.not_eq_false, ne_eq, Decidable.not_not, Int.not_lt, Int.not_le, not_true_eq_false, not_false_eq_true, bne_iff_ne, beq_iff_eq, bne_eq_false_iff_eq, beq_eq_false_iff_ne] at hb125)
        have h1z : (x.p.b.length : Int) - x.p.sf = 0 := by omega
        refine wp_exit ?_
        refine gw_thx ?_
        refine gw_in ?_
        refine gw_nx (hK60 _ _ ?_)
        refine wp_region_lit ?_
        refine gw_ev HF126 (want_none rfl) rfl (by decide) (op_add rfl (HF126.ev rfl) (ev_c _ _) (by omega)) ?_
        intro a127 HF128; clear HF126
        refine gw_ev HF128 (want_none rfl) rfl (by decide) (op_move rfl (HF128.ev rfl)) ?_
        intro a129 HF130; clear HF128
        refine wpList_nil ?_
        have HO131 := HO118.unpin 6 rfl
        clear HO118
        have HO132 : Own w0 w117 [Chunk.blk x.g (.cells #[.slice x.A x.p.b.length x.c, .int .i64 x.p.sf] 81 (0, 0)), Chunk.row (Kd.int .u8) 5 w0.heap.size x.S (.slice x.A x.p.b.length x.c) x.p.b, Chunk.files w0.heap.size (ys ++ zs'), R, Chunk.blk gd (.cells #[.map (some gm), .int .i64 d.most, .int .i64 us, .int .i64 0, .bool false] 76 (0, 0)), Chunk.lmap Try.prog 9 gm ((ys ++ x :: zs').map XF.ent), Chunk.view Kd.string S29 A27 ((xs.map fun x => x.p.nm).length) c28 (xs.map fun x => x.p.nm)] := HO131
        clear HO131
        have HO133 := Own.file_close (x := x) (pre := ys) (post := zs') (by exact HO132.sel [0, 1, 2, 3, 4, 5, 6] (by decide))
        have el_ : (ys ++ x :: zs').map XF.ent = (ys ++ x :: zs').map XF.ent := by simp [XF.ent]
        rw [el_] at HO133
        have ea_ : ys ++ x :: zs' = (ys ++ [x]) ++ zs' := by simp
        rw [ea_] at HO133
        refine gw_nx ⟨_, ?_, i + 1, ys ++ [x], zs', us, Ak, ck, kl, (HF130.pick (t := 18) rfl (HF130.pick (t := 1) rfl (HF130.pick (t := 0) rfl (HF130.pick (t := 16) rfl (HF130.pick (t := 17) rfl HF130.nil))))), HO133.sel [1, 2, 3, 0, 4] (by decide), ?_, ?_, ?_, ?_, ?_, ?_, ?_, ?_, rfl⟩
        · rw [hm51]; omega
        · exact ⟨by rw [List.length_append, List.length_singleton]; omega, by omega⟩
        · rw [hnm, ea_.symm]; try simp
        · rw [← ea_]; exact once_same hon2 rfl
        · rw [← ea_]; exact hus
        · intro x_ hx_; exact hsf x_ (List.mem_cons_of_mem _ hx_)
        · exact ⟨by rw [hcr.1, List.map_cons, crash_keep h1z]; simp, by rw [hcr.2, List.map_cons, crash_keep h1z]⟩
        · intro w_ h_; exact hkc w_ h_
        · exact hkl
      · skip
        have HF135 := HF124.subst_ (d := 39) (b := false) rfl hb125
        clear HF124
        (try simp only [Bool.and_eq_true, Bool.or_eq_true, Bool.and_eq_false_iff, Bool.or_eq_false_iff, Bool.not_and, Bool.not_or, Bool.not_not, decide_eq_true_eq, decide_eq_false_iff_not, Bool.not_eq_true', Bool.not_eq_false', Bool.not_eq_true, Bool.not_eq_false, ne_eq, Decidable.not_not, Int.not_lt, Int.not_le, not_true_eq_false, not_false_eq_true, bne_iff_ne, beq_iff_eq, bne_eq_false_iff_eq, beq_eq_false_iff_ne] at hb125)
        have h1_ := hb125
        refine wp_skip ?_
        refine gw_nx (hK119 _ _ ?_)
        refine gw_seq fun K136 hK136 => ?_
        refine wp_region_lit ?_
        refine gw_ev HF135 (want_none rfl) rfl (by decide) (op_assign rfl (ev_c _ _)) ?_
        intro a137 HF138; clear HF135
        refine wpList_nil ?_
        refine gw_nx (hK136 _ _ ?_)
        refine gw_seq fun K139 hK139 => ?_
        refine gw_seq fun K140 hK140 => ?_
        refine wp_region_lit ?_
        refine gw_ev HF138 (want_none rfl) rfl (by decide) (op_move rfl (HF138.ev rfl)) ?_
        intro a141 HF142; clear HF138
        refine gw_ev HF142 (want_none rfl) rfl (by decide) (op_len Try.underlying32 rfl (HF142.ev rfl)) ?_
        intro a143 HF144; clear HF142
        refine gw_ev HF144 (want_none rfl) rfl (by decide) (op_gtr rfl (HF144.ev rfl) (ev_c _ _)) ?_
        intro a145 HF146; clear HF144
        refine wpList_nil ?_
        refine gw_nx (hK140 _ _ ?_)
        refine gw_cond HF146 rfl (fun hb147 => ?_) (fun hb147 => ?_)
        · skip
          have HF148 := HF146.subst_ (d := 42) (b := true) rfl hb147
          clear HF146
          (try simp only [Bool.and_eq_true, Bool.or_eq_true, Bool.and_eq_false_iff, Bool.or_eq_false_iff, Bool.not_and, Bool.not_or, Bool.not_not, decide_eq_true_eq, decide_eq_false_iff_not, Bool.not_eq_true', Bool.not_eq_false', Bool.not_eq_true, Bool.not_eq_false, ne_eq, Decidable.not_not, Int.not_lt, Int.not_le, not_true_eq_false, not_false_eq_true, bne_iff_ne, beq_iff_eq, bne_eq_false_iff_eq, beq_eq_false_iff_ne] at hb147)
          have hke : 0 ≤ keepN kl ((x.p.b.length : Int) - x.p.sf) ∧ keepN kl ((x.p.b.length : Int) - x.p.sf) ≤ ((x.p.b.length : Int) - x.p.sf) := keepN_in kl (by omega)
          have hkn1 : keepN kl ((x.p.b.length : Int) - x.p.sf) = (keepN kl ((x.p.b.length : Int) - x.p.sf)) := rfl
          have hkd : kl.drop 1 = (kl.drop (1 : Int).toNat) := rfl
          have hl2 : ((x.p.b.take (x.p.sf + (keepN kl ((x.p.b.length : Int) - x.p.sf))).toNat).length : Int) = x.p.sf + (keepN kl ((x.p.b.length : Int) - x.p.sf)) := by rw [List.length_take]; omega
          refine gw_drawB HO118 (by kernel_rfl) (by kernel_rfl) fun w149 HO150 => ?_
          clear HO118
          refine gq_ev HF148 (want_none rfl) rfl (by decide) (fun wq hq => have HO := HO150.after hq; (op_move rfl (HF148.ev rfl))) ?_
          intro a151 HF152; clear HF148
          obtain ⟨ad153, cs156, hA154, hl157, hK158, hc155⟩ := Kd.C_get (hkc _ (HO150.sel [3] (by decide))) (0 : Int) 0 (by omega) (by omega)
          obtain rfl := id hK158
          clear hl157
          refine gq_ev HF152 (want_none rfl) rfl (by decide) (fun wq hq => have HO := HO150.after hq; (op_index Try.underlying32 gwsiz3 rfl (HF152.ev rfl) (ev_c _ _) hA154 (⟨by omega, by omega⟩))) ?_
          intro a159 HF160; clear HF152
          refine gq_ev HF160 (want_none rfl) rfl (by decide) (fun wq hq => have HO := HO150.after hq; (op_load1 gwagg3 rfl (HF160.ev rfl) ((cellb hq (at0 hc155))))) ?_
          intro a161 HF162; clear HF160
          refine gq_ev HF162 (want_none rfl) rfl (by decide) (fun wq hq => have HO := HO150.after hq; (op_max rfl (HF162.ev rfl) (ev_c _ _))) ?_
          intro a163 HF164; clear HF162
          refine gq_ev HF164 (want_none rfl) rfl (by decide) (fun wq hq => have HO := HO150.after hq; (op_move rfl (HF164.ev rfl))) ?_
          intro a165 HF166; clear HF164
          refine gq_ev HF166 (want_none rfl) rfl (by decide) (fun wq hq => have HO := HO150.after hq; (op_min rfl (HF166.ev rfl) (HF166.ev rfl))) ?_
          intro a167 HF168; clear HF166
          have HF169 := HF168.conv (v' := .int .i64 (keepN kl ((x.p.b.length : Int) - x.p.sf))) (congrArg (Value.int .i64) (keepN_pos (by omega)))
          clear HF168
          refine gq_ev HF169 (want_none rfl) rfl (by decide) (fun wq hq => have HO := HO150.after hq; (op_move rfl (HF169.ev rfl))) ?_
          intro a170 HF171; clear HF169
          obtain ⟨A172, c173, hr174, hc175, hC176, hA177⟩ := cut_lo (P := Try.prog) (d := (Kd.int .i64)) (t := 32) (e := 3) Try.underlying32 gwsiz3 Ak ck kl hkl 1 (by omega) (by omega)
          refine gq_ev HF171 (want_none rfl) rfl (by decide) (fun wq hq => have HO := HO150.after hq; (op_cut Try.underlying32 hr174 rfl (HF171.ev rfl) (some_ev (ev_c _ _)) rfl)) ?_
          intro a178 HF179; clear HF171
          refine gq_ev HF179 (want_none rfl) rfl (by decide) (fun wq hq => have HO := HO150.after hq; (op_assign rfl (HF179.ev rfl))) ?_
          intro a180 HF181; clear HF179
          refine gq_ev HF181 (want_none rfl) rfl (by decide) (fun wq hq => have HO := HO150.after hq; (op_assign rfl (HF181.ev rfl))) ?_
          intro a182 HF183; clear HF181
          refine wpQuiet_nil ?_
          intro w184 hq
          have HO185 := HO150.after hq
          clear HO150 hq
          refine gw_nx (hK139 _ _ ?_)
          refine gw_seq fun K186 hK186 => ?_
          refine wp_region_lit ?_
          refine gw_ev HF183 (want_none rfl) rfl (by decide) (op_move rfl (HF183.ev rfl)) ?_
          intro a187 HF188; clear HF183
          refine gw_ev HF188 (want_none rfl) rfl (by decide) (op_nil rfl (HF188.ev rfl)) ?_
          intro a189 HF190; clear HF188
          refine gw_ev HF190 (want_none rfl) rfl (by decide) (op_field (gwfld76_2 _ _) rfl (HF190.ev rfl)) ?_
          intro a191 HF192; clear HF190
          refine gw_ev HF192 (want_none rfl) rfl (by decide) (op_load1 gwagg3 rfl (HF192.ev rfl) (blk_at (HO185.get 4 rfl) rfl)) ?_
          intro a193 HF194; clear HF192
          refine gw_ev HF194 (want_none rfl) rfl (by decide) (op_move rfl (HF194.ev rfl)) ?_
          intro a195 HF196; clear HF194
          refine gw_ev HF196 (want_none rfl) rfl (by decide) (op_move rfl (HF196.ev rfl)) ?_
          intro a197 HF198; clear HF196
          refine gw_ev HF198 (want_none rfl) rfl (by decide) (op_sub rfl (HF198.ev rfl) (HF198.ev rfl) (by omega)) ?_
          intro a199 HF200; clear HF198
          refine gw_ev HF200 (want_none rfl) rfl (by decide) (op_sub rfl (HF200.ev rfl) (HF200.ev rfl) (by omega)) ?_
          intro a201 HF202; clear HF200
          refine gw_ev HF202 (want_none rfl) rfl (by decide) (op_nil rfl (HF202.ev rfl)) ?_
          intro a203 HF204; clear HF202
          refine gw_ev HF204 (want_none rfl) rfl (by decide) (op_field (gwfld76_2 _ _) rfl (HF204.ev rfl)) ?_
          intro a205 HF206; clear HF204
          refine gw_set 4 HF206 HO185 rfl (want_none rfl) rfl (op_store1 gwsiz3 rfl (HF206.ev rfl) (HF206.ev rfl) rfl (blk_at (HO185.get 4 rfl) rfl) (blkf (HO185.get 4 rfl))) ?_
          intro a207 w209 HF208 HO210; clear HF206 HO185
          have HO211 : Own w0 w209 [Chunk.blk x.g (.cells #[.slice x.A x.p.b.length x.c, .int .i64 x.p.sf] 81 (0, 0)), Chunk.row (Kd.int .u8) 5 w0.heap.size x.S (.slice x.A x.p.b.length x.c) x.p.b, Chunk.files w0.heap.size (ys ++ zs'), R, Chunk.blk gd (.cells #[.map (some gm), .int .i64 d.most, .int .i64 (us - (((x.p.b.length : Int) - x.p.sf) - (keepN kl ((x.p.b.length : Int) - x.p.sf)))), .int .i64 0, .bool false] 76 (0, 0)), Chunk.lmap Try.prog 9 gm ((ys ++ x :: zs').map XF.ent), Chunk.viewAt w48 Kd.string S29 A27 ((xs.map fun x => x.p.nm).length) c28 (xs.map fun x => x.p.nm)] := HO210
          clear HO210
          refine wpList_nil ?_
          refine gw_nx (hK186 _ _ ?_)
          refine gw_seq fun K212 hK212 => ?_
          refine gx_draw (M := [Chunk.blk x.g (.cells #[.slice x.A x.p.b.length x.c, .int .i64 x.p.sf] 81 (0, 0)), Chunk.row (Kd.int .u8) 5 w0.heap.size x.S (.slice x.A x.p.b.length x.c) x.p.b, Chunk.files w0.heap.size (ys ++ zs'), R, Chunk.blk gd (.cells #[.map (some gm), .int .i64 d.most, .int .i64 (us - (((x.p.b.length : Int) - x.p.sf) - (keepN kl ((x.p.b.length : Int) - x.p.sf)))), .int .i64 0, .bool false] 76 (0, 0)), Chunk.lmap Try.prog 9 gm ((ys ++ x :: zs').map XF.ent), Chunk.viewAt w48 Kd.string S29 A27 ((xs.map fun x => x.p.nm).length) c28 (xs.map fun x => x.p.nm)]) (fun j_ => j_ == 14) HO211 (by kernel_rfl) fun w213 HO214 => ?_
          clear HO211
          refine gx_take 0 rfl (by kernel_rfl) HF208 (by exact HO214.sel [0, 1, 2, 3, 4, 5, 6] (by decide)) (want_none rfl) rfl (by decide) (fun wq HO => (op_move rfl (HF208.ev rfl))) ?_
          intro a215 HF216; clear HF208
          refine gx_take 1 rfl (by kernel_rfl) HF216 (by exact HO214.sel [0, 1, 2, 3, 4, 5, 6] (by decide)) (want_none rfl) rfl (by decide) (fun wq HO => (op_move rfl (HF216.ev rfl))) ?_
          intro a217 HF218; clear HF216
          refine gx_take 2 rfl (by kernel_rfl) HF218 (by exact HO214.sel [0, 1, 2, 3, 4, 5, 6] (by decide)) (want_none rfl) rfl (by decide) (fun wq HO => (op_nil rfl (HF218.ev rfl))) ?_
          intro a219 HF220; clear HF218
          refine gx_take 3 rfl (by kernel_rfl) HF220 (by exact HO214.sel [0, 1, 2, 3, 4, 5, 6] (by decide)) (want_none rfl) rfl (by decide) (fun wq HO => (op_field (gwfld81_0 _ _) rfl (HF220.ev rfl))) ?_
          intro a221 HF222; clear HF220
          refine gx_take 4 rfl (by kernel_rfl) HF222 (by exact HO214.sel [0, 1, 2, 3, 4, 5, 6] (by decide)) (want_none rfl) rfl (by decide) (fun wq HO => (op_load1 gwagg28 rfl (HF222.ev rfl) (blk_at (HO.get 0 rfl) rfl))) ?_
          intro a223 HF224; clear HF222
          refine gx_take 5 rfl (by kernel_rfl) HF224 (by exact HO214.sel [0, 1, 2, 3, 4, 5, 6] (by decide)) (want_none rfl) rfl (by decide) (fun wq HO => (op_move rfl (HF224.ev rfl))) ?_
          intro a225 HF226; clear HF224
          refine gx_take 6 rfl (by kernel_rfl) HF226 (by exact HO214.sel [0, 1, 2, 3, 4, 5, 6] (by decide)) (want_none rfl) rfl (by decide) (fun wq HO => (op_nil rfl (HF226.ev rfl))) ?_
          intro a227 HF228; clear HF226
          refine gx_take 7 rfl (by kernel_rfl) HF228 (by exact HO214.sel [0, 1, 2, 3, 4, 5, 6] (by decide)) (want_none rfl) rfl (by decide) (fun wq HO => (op_field (gwfld81_1 _ _) rfl (HF228.ev rfl))) ?_
          intro a229 HF230; clear HF228
          refine gx_take 8 rfl (by kernel_rfl) HF230 (by exact HO214.sel [0, 1, 2, 3, 4, 5, 6] (by decide)) (want_none rfl) rfl (by decide) (fun wq HO => (op_load1 gwagg3 rfl (HF230.ev rfl) (blk_at (HO.get 0 rfl) rfl))) ?_
          intro a231 HF232; clear HF230
          refine gx_take 9 rfl (by kernel_rfl) HF232 (by exact HO214.sel [0, 1, 2, 3, 4, 5, 6] (by decide)) (want_none rfl) rfl (by decide) (fun wq HO => (op_move rfl (HF232.ev rfl))) ?_
          intro a233 HF234; clear HF232
          refine gx_take 10 rfl (by kernel_rfl) HF234 (by exact HO214.sel [0, 1, 2, 3, 4, 5, 6] (by decide)) (want_none rfl) rfl (by decide) (fun wq HO => (op_add rfl (HF234.ev rfl) (HF234.ev rfl) (by omega))) ?_
          intro a235 HF236; clear HF234
          obtain ⟨hr237, hc238, hC239⟩ := cut_hi (P := Try.prog) (d := (Kd.int .u8)) (t := 28) (e := 5) Try.underlying28 gwsiz5 x.A x.c x.p.b (row_cap (HO214.get 1 rfl)) (x.p.sf + (keepN kl ((x.p.b.length : Int) - x.p.sf))) (by omega) (by omega)
          refine gx_take 11 rfl (by kernel_rfl) HF236 (by exact HO214.sel [0, 1, 2, 3, 4, 5, 6] (by decide)) (want_none rfl) rfl (by decide) (fun wq HO => (op_cut Try.underlying28 hr237 rfl (HF236.ev rfl) rfl (some_ev (HF236.ev rfl)))) ?_
          intro a240 HF241; clear HF236
          refine gx_step 12 rfl (by kernel_rfl) ?_
          refine gw_ev HF241 (want_none rfl) rfl (by decide) (op_nil rfl (HF241.ev rfl)) ?_
          intro a242 HF243; clear HF241
          refine gx_on (i := 12) (B := (fun j_ => j_ == 14)) (M := [Chunk.blk x.g (.cells #[.slice x.A x.p.b.length x.c, .int .i64 x.p.sf] 81 (0, 0)), Chunk.row (Kd.int .u8) 5 w0.heap.size x.S (.slice x.A x.p.b.length x.c) x.p.b, Chunk.files w0.heap.size (ys ++ zs'), R, Chunk.blk gd (.cells #[.map (some gm), .int .i64 d.most, .int .i64 (us - (((x.p.b.length : Int) - x.p.sf) - (keepN kl ((x.p.b.length : Int) - x.p.sf)))), .int .i64 0, .bool false] 76 (0, 0)), Chunk.lmap Try.prog 9 gm ((ys ++ x :: zs').map XF.ent), Chunk.viewAt w48 Kd.string S29 A27 ((xs.map fun x => x.p.nm).length) c28 (xs.map fun x => x.p.nm)]) (fun _ => (by exact HO214.sel [0, 1, 2, 3, 4, 5, 6] (by decide))) ?_
          refine gx_take 13 rfl (by kernel_rfl) HF243 (by exact HO214.sel [0, 1, 2, 3, 4, 5, 6] (by decide)) (want_none rfl) rfl (by decide) (fun wq HO => (op_field (gwfld81_0 _ _) rfl (HF243.ev rfl))) ?_
          intro a244 HF245; clear HF243
          refine gx_step 14 rfl (by kernel_rfl) ?_
          refine gw_set 0 HF245 HO214 rfl (want_none rfl) rfl (op_store1 gwsiz28 rfl (HF245.ev rfl) (HF245.ev rfl) rfl (blk_at (HO214.get 0 rfl) rfl) (blkf (HO214.get 0 rfl))) ?_
          intro a246 w248 HF247 HO249; clear HF245 HO214
          have HO250 : Own w0 w248 [Chunk.blk x.g (.cells #[.slice x.A ((x.p.b.take (x.p.sf + (keepN kl ((x.p.b.length : Int) - x.p.sf))).toNat).length) x.c, .int .i64 x.p.sf] 81 (0, 0)), Chunk.row (Kd.int .u8) 5 w0.heap.size x.S (.slice x.A x.p.b.length x.c) x.p.b, Chunk.files w0.heap.size (ys ++ zs'), R, Chunk.blk gd (.cells #[.map (some gm), .int .i64 d.most, .int .i64 (us - (((x.p.b.length : Int) - x.p.sf) - (keepN kl ((x.p.b.length : Int) - x.p.sf)))), .int .i64 0, .bool false] 76 (0, 0)), Chunk.lmap Try.prog 9 gm ((ys ++ x :: zs').map XF.ent), Chunk.viewAt w48 Kd.string S29 A27 ((xs.map fun x => x.p.nm).length) c28 (xs.map fun x => x.p.nm)] := HO249
          clear HO249
          refine gx_on (i := 14) (B := (fun j_ => j_ == 14)) (M := [Chunk.blk x.g (.cells #[.slice x.A x.p.b.length x.c, .int .i64 x.p.sf] 81 (0, 0)), Chunk.row (Kd.int .u8) 5 w0.heap.size x.S (.slice x.A x.p.b.length x.c) x.p.b, Chunk.files w0.heap.size (ys ++ zs'), R, Chunk.blk gd (.cells #[.map (some gm), .int .i64 d.most, .int .i64 (us - (((x.p.b.length : Int) - x.p.sf) - (keepN kl ((x.p.b.length : Int) - x.p.sf)))), .int .i64 0, .bool false] 76 (0, 0)), Chunk.lmap Try.prog 9 gm ((ys ++ x :: zs').map XF.ent), Chunk.viewAt w48 Kd.string S29 A27 ((xs.map fun x => x.p.nm).length) c28 (xs.map fun x => x.p.nm)]) (fun h_ => by cases h_) ?_
          refine gx_done (by kernel_rfl) ?_
          have HO251 := HO250.row_takeL 1 rfl ((x.p.sf + (keepN kl ((x.p.b.length : Int) - x.p.sf))).toNat) (by omega)
          clear HO250
          have HO252 : Own w0 w248 [Chunk.blk x.g (.cells #[.slice x.A ((x.p.b.take (x.p.sf + (keepN kl ((x.p.b.length : Int) - x.p.sf))).toNat).length) x.c, .int .i64 x.p.sf] 81 (0, 0)), Chunk.row (Kd.int .u8) 5 w0.heap.size x.S (.slice x.A ((x.p.b.take (x.p.sf + (keepN kl ((x.p.b.length : Int) - x.p.sf))).toNat).length) x.c) (x.p.b.take (x.p.sf + (keepN kl ((x.p.b.length : Int) - x.p.sf))).toNat), Chunk.files w0.heap.size (ys ++ zs'), R, Chunk.blk gd (.cells #[.map (some gm), .int .i64 d.most, .int .i64 (us - (((x.p.b.length : Int) - x.p.sf) - (keepN kl ((x.p.b.length : Int) - x.p.sf)))), .int .i64 0, .bool false] 76 (0, 0)), Chunk.lmap Try.prog 9 gm ((ys ++ x :: zs').map XF.ent), Chunk.viewAt w48 Kd.string S29 A27 ((xs.map fun x => x.p.nm).length) c28 (xs.map fun x => x.p.nm)] := HO251
          clear HO251
          refine gw_nx (hK212 _ _ ?_)
          refine wp_region_lit ?_
          refine gw_ev HF247 (want_none rfl) rfl (by decide) (op_move rfl (HF247.ev rfl)) ?_
          intro a253 HF254; clear HF247
          refine gw_ev HF254 (want_none rfl) rfl (by decide) (op_move rfl (HF254.ev rfl)) ?_
          intro a255 HF256; clear HF254
          refine gw_ev HF256 (want_none rfl) rfl (by decide) (op_nil rfl (HF256.ev rfl)) ?_
          intro a257 HF258; clear HF256
          refine gw_ev HF258 (want_none rfl) rfl (by decide) (op_field (gwfld81_0 _ _) rfl (HF258.ev rfl)) ?_
          intro a259 HF260; clear HF258
          refine gw_ev HF260 (want_none rfl) rfl (by decide) (op_load1 gwagg28 rfl (HF260.ev rfl) (blk_at (HO252.get 0 rfl) rfl)) ?_
          intro a261 HF262; clear HF260
          refine gw_ev HF262 (want_none rfl) rfl (by decide) (op_len Try.underlying28 rfl (HF262.ev rfl)) ?_
          intro a263 HF264; clear HF262
          have HF265 := HF264.conv (v' := .int .i64 (x.p.sf + (keepN kl ((x.p.b.length : Int) - x.p.sf)))) (congrArg (Value.int .i64) hl2)
          clear HF264
          refine gw_ev HF265 (want_none rfl) rfl (by decide) (op_nil rfl (HF265.ev rfl)) ?_
          intro a266 HF267; clear HF265
          refine gw_ev HF267 (want_none rfl) rfl (by decide) (op_field (gwfld81_1 _ _) rfl (HF267.ev rfl)) ?_
          intro a268 HF269; clear HF267
          refine gw_set 0 HF269 HO252 rfl (want_none rfl) rfl (op_store1 gwsiz3 rfl (HF269.ev rfl) (HF269.ev rfl) rfl (blk_at (HO252.get 0 rfl) rfl) (blkf (HO252.get 0 rfl))) ?_
          intro a270 w272 HF271 HO273; clear HF269 HO252
          have HO274 : Own w0 w272 [Chunk.blk x.g (.cells #[.slice x.A ((x.p.b.take (x.p.sf + (keepN kl ((x.p.b.length : Int) - x.p.sf))).toNat).length) x.c, .int .i64 (x.p.sf + (keepN kl ((x.p.b.length : Int) - x.p.sf)))] 81 (0, 0)), Chunk.row (Kd.int .u8) 5 w0.heap.size x.S (.slice x.A ((x.p.b.take (x.p.sf + (keepN kl ((x.p.b.length : Int) - x.p.sf))).toNat).length) x.c) (x.p.b.take (x.p.sf + (keepN kl ((x.p.b.length : Int) - x.p.sf))).toNat), Chunk.files w0.heap.size (ys ++ zs'), R, Chunk.blk gd (.cells #[.map (some gm), .int .i64 d.most, .int .i64 (us - (((x.p.b.length : Int) - x.p.sf) - (keepN kl ((x.p.b.length : Int) - x.p.sf)))), .int .i64 0, .bool false] 76 (0, 0)), Chunk.lmap Try.prog 9 gm ((ys ++ x :: zs').map XF.ent), Chunk.viewAt w48 Kd.string S29 A27 ((xs.map fun x => x.p.nm).length) c28 (xs.map fun x => x.p.nm)] := HO273
          clear HO273
          refine wpList_nil ?_
          refine gw_blk ?_
          refine gw_nx (hK60 _ _ ?_)
          refine wp_region_lit ?_
          refine gw_ev HF271 (want_none rfl) rfl (by decide) (op_add rfl (HF271.ev rfl) (ev_c _ _) (by omega)) ?_
          intro a275 HF276; clear HF271
          refine gw_ev HF276 (want_none rfl) rfl (by decide) (op_move rfl (HF276.ev rfl)) ?_
          intro a277 HF278; clear HF276
          refine wpList_nil ?_
          have HO279 := HO274.unpin 6 rfl
          clear HO274
          have HO280 : Own w0 w272 [Chunk.blk x.g (.cells #[.slice x.A ((x.p.b.take (x.p.sf + (keepN kl ((x.p.b.length : Int) - x.p.sf))).toNat).length) x.c, .int .i64 (x.p.sf + (keepN kl ((x.p.b.length : Int) - x.p.sf)))] 81 (0, 0)), Chunk.row (Kd.int .u8) 5 w0.heap.size x.S (.slice x.A ((x.p.b.take (x.p.sf + (keepN kl ((x.p.b.length : Int) - x.p.sf))).toNat).length) x.c) (x.p.b.take (x.p.sf + (keepN kl ((x.p.b.length : Int) - x.p.sf))).toNat), Chunk.files w0.heap.size (ys ++ zs'), R, Chunk.blk gd (.cells #[.map (some gm), .int .i64 d.most, .int .i64 (us - (((x.p.b.length : Int) - x.p.sf) - (keepN kl ((x.p.b.length : Int) - x.p.sf)))), .int .i64 0, .bool false] 76 (0, 0)), Chunk.lmap Try.prog 9 gm ((ys ++ x :: zs').map XF.ent), Chunk.view Kd.string S29 A27 ((xs.map fun x => x.p.nm).length) c28 (xs.map fun x => x.p.nm)] := HO279
          clear HO279
          have HO281 := Own.file_close (x := (⟨⟨x.p.nm, (x.p.b.take (x.p.sf + (keepN kl ((x.p.b.length : Int) - x.p.sf))).toNat), x.p.sf + (keepN kl ((x.p.b.length : Int) - x.p.sf))⟩, x.g, x.A, x.c, x.S⟩ : XF)) (pre := ys) (post := zs') (by exact HO280.sel [0, 1, 2, 3, 4, 5, 6] (by decide))
          have el_ : (ys ++ x :: zs').map XF.ent = (ys ++ (⟨⟨x.p.nm, (x.p.b.take (x.p.sf + (keepN kl ((x.p.b.length : Int) - x.p.sf))).toNat), x.p.sf + (keepN kl ((x.p.b.length : Int) - x.p.sf))⟩, x.g, x.A, x.c, x.S⟩ : XF) :: zs').map XF.ent := by simp [XF.ent]
          rw [el_] at HO281
          have ea_ : ys ++ (⟨⟨x.p.nm, (x.p.b.take (x.p.sf + (keepN kl ((x.p.b.length : Int) - x.p.sf))).toNat), x.p.sf + (keepN kl ((x.p.b.length : Int) - x.p.sf))⟩, x.g, x.A, x.c, x.S⟩ : XF) :: zs' = (ys ++ [(⟨⟨x.p.nm, (x.p.b.take (x.p.sf + (keepN kl ((x.p.b.length : Int) - x.p.sf))).toNat), x.p.sf + (keepN kl ((x.p.b.length : Int) - x.p.sf))⟩, x.g, x.A, x.c, x.S⟩ : XF)]) ++ zs' := by simp
          rw [ea_] at HO281
          refine gw_nx ⟨_, ?_, i + 1, ys ++ [(⟨⟨x.p.nm, (x.p.b.take (x.p.sf + (keepN kl ((x.p.b.length : Int) - x.p.sf))).toNat), x.p.sf + (keepN kl ((x.p.b.length : Int) - x.p.sf))⟩, x.g, x.A, x.c, x.S⟩ : XF)], zs', (us - (((x.p.b.length : Int) - x.p.sf) - (keepN kl ((x.p.b.length : Int) - x.p.sf)))), A172, c173, (kl.drop (1 : Int).toNat), (HF278.pick (t := 18) rfl (HF278.pick (t := 1) rfl (HF278.pick (t := 0) rfl (HF278.pick (t := 16) rfl (HF278.pick (t := 17) rfl HF278.nil))))), HO281.sel [1, 2, 3, 0, 4] (by decide), ?_, ?_, ?_, ?_, ?_, ?_, ?_, ?_, rfl⟩
          · rw [hm51]; omega
          · exact ⟨by rw [List.length_append, List.length_singleton]; omega, by omega⟩
          · rw [hnm, ea_.symm]; try simp
          · rw [← ea_]; exact once_same hon2 rfl
          · rw [← ea_, totalX_mid]; exact ⟨by show _ = ((_ + (x.p.b.take (x.p.sf + (keepN kl ((x.p.b.length : Int) - x.p.sf))).toNat).length : Nat) : Int); omega, by omega⟩
          · intro x_ hx_; exact hsf x_ (List.mem_cons_of_mem _ hx_)
          · exact ⟨by rw [hcr.1, List.map_cons, crash_go h1_ hkn1 hkd]; simp, by rw [hcr.2, List.map_cons, crash_go h1_ hkn1 hkd]; show us - (_ + _) = _; omega⟩
          · intro w_ h_; exact hC176 _ (hkc w_ h_)
          · exact hc175
        · skip
          have HF283 := HF146.subst_ (d := 42) (b := false) rfl hb147
          clear HF146
          (try simp only [Bool.and_eq_true, Bool.or_eq_true, Bool.and_eq_false_iff, Bool.or_eq_false_iff, Bool.not_and, Bool.not_or, Bool.not_not, decide_eq_true_eq, decide_eq_false_iff_not, Bool.not_eq_true', Bool.not_eq_false', Bool.not_eq_true, Bool.not_eq_false, ne_eq, Decidable.not_not, Int.not_lt, Int.not_le, not_true_eq_false, not_false_eq_true, bne_iff_ne, beq_iff_eq, bne_eq_false_iff_eq, beq_eq_false_iff_ne] at hb147)
          have hke : 0 ≤ keepN kl ((x.p.b.length : Int) - x.p.sf) ∧ keepN kl ((x.p.b.length : Int) - x.p.sf) ≤ ((x.p.b.length : Int) - x.p.sf) := keepN_in kl (by omega)
          have hkn1 : keepN kl ((x.p.b.length : Int) - x.p.sf) = 0 := keepN_zero (by omega)
          have hkd : kl.drop 1 = kl := List.drop_eq_nil_of_le (by omega) |>.trans (List.length_eq_zero_iff.1 (by omega)).symm
          have hl2 : ((x.p.b.take (x.p.sf + 0).toNat).length : Int) = x.p.sf + 0 := by rw [List.length_take]; omega
          refine wp_skip ?_
          refine gw_nx (hK139 _ _ ?_)
          refine gw_seq fun K284 hK284 => ?_
          refine wp_region_lit ?_
          refine gw_ev HF283 (want_none rfl) rfl (by decide) (op_move rfl (HF283.ev rfl)) ?_
          intro a285 HF286; clear HF283
          refine gw_ev HF286 (want_none rfl) rfl (by decide) (op_nil rfl (HF286.ev rfl)) ?_
          intro a287 HF288; clear HF286
          refine gw_ev HF288 (want_none rfl) rfl (by decide) (op_field (gwfld76_2 _ _) rfl (HF288.ev rfl)) ?_
          intro a289 HF290; clear HF288
          refine gw_ev HF290 (want_none rfl) rfl (by decide) (op_load1 gwagg3 rfl (HF290.ev rfl) (blk_at (HO118.get 4 rfl) rfl)) ?_
          intro a291 HF292; clear HF290
          refine gw_ev HF292 (want_none rfl) rfl (by decide) (op_move rfl (HF292.ev rfl)) ?_
          intro a293 HF294; clear HF292
          refine gw_ev HF294 (want_none rfl) rfl (by decide) (op_move rfl (HF294.ev rfl)) ?_
          intro a295 HF296; clear HF294
          refine gw_ev HF296 (want_none rfl) rfl (by decide) (op_sub rfl (HF296.ev rfl) (HF296.ev rfl) (by omega)) ?_
          intro a297 HF298; clear HF296
          refine gw_ev HF298 (want_none rfl) rfl (by decide) (op_sub rfl (HF298.ev rfl) (HF298.ev rfl) (by omega)) ?_
          intro a299 HF300; clear HF298
          refine gw_ev HF300 (want_none rfl) rfl (by decide) (op_nil rfl (HF300.ev rfl)) ?_
          intro a301 HF302; clear HF300
          refine gw_ev HF302 (want_none rfl) rfl (by decide) (op_field (gwfld76_2 _ _) rfl (HF302.ev rfl)) ?_
          intro a303 HF304; clear HF302
          refine gw_set 4 HF304 HO118 rfl (want_none rfl) rfl (op_store1 gwsiz3 rfl (HF304.ev rfl) (HF304.ev rfl) rfl (blk_at (HO118.get 4 rfl) rfl) (blkf (HO118.get 4 rfl))) ?_
          intro a305 w307 HF306 HO308; clear HF304 HO118
          have HO309 : Own w0 w307 [Chunk.blk x.g (.cells #[.slice x.A x.p.b.length x.c, .int .i64 x.p.sf] 81 (0, 0)), Chunk.row (Kd.int .u8) 5 w0.heap.size x.S (.slice x.A x.p.b.length x.c) x.p.b, Chunk.files w0.heap.size (ys ++ zs'), R, Chunk.blk gd (.cells #[.map (some gm), .int .i64 d.most, .int .i64 (us - (((x.p.b.length : Int) - x.p.sf) - 0)), .int .i64 0, .bool false] 76 (0, 0)), Chunk.lmap Try.prog 9 gm ((ys ++ x :: zs').map XF.ent), Chunk.viewAt w48 Kd.string S29 A27 ((xs.map fun x => x.p.nm).length) c28 (xs.map fun x => x.p.nm)] := HO308
          clear HO308
          refine wpList_nil ?_
          refine gw_nx (hK284 _ _ ?_)
          refine gw_seq fun K310 hK310 => ?_
          refine gx_draw (M := [Chunk.blk x.g (.cells #[.slice x.A x.p.b.length x.c, .int .i64 x.p.sf] 81 (0, 0)), Chunk.row (Kd.int .u8) 5 w0.heap.size x.S (.slice x.A x.p.b.length x.c) x.p.b, Chunk.files w0.heap.size (ys ++ zs'), R, Chunk.blk gd (.cells #[.map (some gm), .int .i64 d.most, .int .i64 (us - (((x.p.b.length : Int) - x.p.sf) - 0)), .int .i64 0, .bool false] 76 (0, 0)), Chunk.lmap Try.prog 9 gm ((ys ++ x :: zs').map XF.ent), Chunk.viewAt w48 Kd.string S29 A27 ((xs.map fun x => x.p.nm).length) c28 (xs.map fun x => x.p.nm)]) (fun j_ => j_ == 14) HO309 (by kernel_rfl) fun w311 HO312 => ?_
          clear HO309
          refine gx_take 0 rfl (by kernel_rfl) HF306 (by exact HO312.sel [0, 1, 2, 3, 4, 5, 6] (by decide)) (want_none rfl) rfl (by decide) (fun wq HO => (op_move rfl (HF306.ev rfl))) ?_
          intro a313 HF314; clear HF306
          refine gx_take 1 rfl (by kernel_rfl) HF314 (by exact HO312.sel [0, 1, 2, 3, 4, 5, 6] (by decide)) (want_none rfl) rfl (by decide) (fun wq HO => (op_move rfl (HF314.ev rfl))) ?_
          intro a315 HF316; clear HF314
          refine gx_take 2 rfl (by kernel_rfl) HF316 (by exact HO312.sel [0, 1, 2, 3, 4, 5, 6] (by decide)) (want_none rfl) rfl (by decide) (fun wq HO => (op_nil rfl (HF316.ev rfl))) ?_
          intro a317 HF318; clear HF316
          refine gx_take 3 rfl (by kernel_rfl) HF318 (by exact HO312.sel [0, 1, 2, 3, 4, 5, 6] (by decide)) (want_none rfl) rfl (by decide) (fun wq HO => (op_field (gwfld81_0 _ _) rfl (HF318.ev rfl))) ?_
          intro a319 HF320; clear HF318
          refine gx_take 4 rfl (by kernel_rfl) HF320 (by exact HO312.sel [0, 1, 2, 3, 4, 5, 6] (by decide)) (want_none rfl) rfl (by decide) (fun wq HO => (op_load1 gwagg28 rfl (HF320.ev rfl) (blk_at (HO.get 0 rfl) rfl))) ?_
          intro a321 HF322; clear HF320
          refine gx_take 5 rfl (by kernel_rfl) HF322 (by exact HO312.sel [0, 1, 2, 3, 4, 5, 6] (by decide)) (want_none rfl) rfl (by decide) (fun wq HO => (op_move rfl (HF322.ev rfl))) ?_
          intro a323 HF324; clear HF322
          refine gx_take 6 rfl (by kernel_rfl) HF324 (by exact HO312.sel [0, 1, 2, 3, 4, 5, 6] (by decide)) (want_none rfl) rfl (by decide) (fun wq HO => (op_nil rfl (HF324.ev rfl))) ?_
          intro a325 HF326; clear HF324
          refine gx_take 7 rfl (by kernel_rfl) HF326 (by exact HO312.sel [0, 1, 2, 3, 4, 5, 6] (by decide)) (want_none rfl) rfl (by decide) (fun wq HO => (op_field (gwfld81_1 _ _) rfl (HF326.ev rfl))) ?_
          intro a327 HF328; clear HF326
          refine gx_take 8 rfl (by kernel_rfl) HF328 (by exact HO312.sel [0, 1, 2, 3, 4, 5, 6] (by decide)) (want_none rfl) rfl (by decide) (fun wq HO => (op_load1 gwagg3 rfl (HF328.ev rfl) (blk_at (HO.get 0 rfl) rfl))) ?_
          intro a329 HF330; clear HF328
          refine gx_take 9 rfl (by kernel_rfl) HF330 (by exact HO312.sel [0, 1, 2, 3, 4, 5, 6] (by decide)) (want_none rfl) rfl (by decide) (fun wq HO => (op_move rfl (HF330.ev rfl))) ?_
          intro a331 HF332; clear HF330
          refine gx_take 10 rfl (by kernel_rfl) HF332 (by exact HO312.sel [0, 1, 2, 3, 4, 5, 6] (by decide)) (want_none rfl) rfl (by decide) (fun wq HO => (op_add rfl (HF332.ev rfl) (HF332.ev rfl) (by omega))) ?_
          intro a333 HF334; clear HF332
          obtain ⟨hr335, hc336, hC337⟩ := cut_hi (P := Try.prog) (d := (Kd.int .u8)) (t := 28) (e := 5) Try.underlying28 gwsiz5 x.A x.c x.p.b (row_cap (HO312.get 1 rfl)) (x.p.sf + 0) (by omega) (by omega)
          refine gx_take 11 rfl (by kernel_rfl) HF334 (by exact HO312.sel [0, 1, 2, 3, 4, 5, 6] (by decide)) (want_none rfl) rfl (by decide) (fun wq HO => (op_cut Try.underlying28 hr335 rfl (HF334.ev rfl) rfl (some_ev (HF334.ev rfl)))) ?_
          intro a338 HF339; clear HF334
          refine gx_step 12 rfl (by kernel_rfl) ?_
          refine gw_ev HF339 (want_none rfl) rfl (by decide) (op_nil rfl (HF339.ev rfl)) ?_
          intro a340 HF341; clear HF339
          refine gx_on (i := 12) (B := (fun j_ => j_ == 14)) (M := [Chunk.blk x.g (.cells #[.slice x.A x.p.b.length x.c, .int .i64 x.p.sf] 81 (0, 0)), Chunk.row (Kd.int .u8) 5 w0.heap.size x.S (.slice x.A x.p.b.length x.c) x.p.b, Chunk.files w0.heap.size (ys ++ zs'), R, Chunk.blk gd (.cells #[.map (some gm), .int .i64 d.most, .int .i64 (us - (((x.p.b.length : Int) - x.p.sf) - 0)), .int .i64 0, .bool false] 76 (0, 0)), Chunk.lmap Try.prog 9 gm ((ys ++ x :: zs').map XF.ent), Chunk.viewAt w48 Kd.string S29 A27 ((xs.map fun x => x.p.nm).length) c28 (xs.map fun x => x.p.nm)]) (fun _ => (by exact HO312.sel [0, 1, 2, 3, 4, 5, 6] (by decide))) ?_
          refine gx_take 13 rfl (by kernel_rfl) HF341 (by exact HO312.sel [0, 1, 2, 3, 4, 5, 6] (by decide)) (want_none rfl) rfl (by decide) (fun wq HO => (op_field (gwfld81_0 _ _) rfl (HF341.ev rfl))) ?_
          intro a342 HF343; clear HF341
          refine gx_step 14 rfl (by kernel_rfl) ?_
          refine gw_set 0 HF343 HO312 rfl (want_none rfl) rfl (op_store1 gwsiz28 rfl (HF343.ev rfl) (HF343.ev rfl) rfl (blk_at (HO312.get 0 rfl) rfl) (blkf (HO312.get 0 rfl))) ?_
          intro a344 w346 HF345 HO347; clear HF343 HO312
          have HO348 : Own w0 w346 [Chunk.blk x.g (.cells #[.slice x.A ((x.p.b.take (x.p.sf + 0).toNat).length) x.c, .int .i64 x.p.sf] 81 (0, 0)), Chunk.row (Kd.int .u8) 5 w0.heap.size x.S (.slice x.A x.p.b.length x.c) x.p.b, Chunk.files w0.heap.size (ys ++ zs'), R, Chunk.blk gd (.cells #[.map (some gm), .int .i64 d.most, .int .i64 (us - (((x.p.b.length : Int) - x.p.sf) - 0)), .int .i64 0, .bool false] 76 (0, 0)), Chunk.lmap Try.prog 9 gm ((ys ++ x :: zs').map XF.ent), Chunk.viewAt w48 Kd.string S29 A27 ((xs.map fun x => x.p.nm).length) c28 (xs.map fun x => x.p.nm)] := HO347
          clear HO347
          refine gx_on (i := 14) (B := (fun j_ => j_ == 14)) (M := [Chunk.blk x.g (.cells #[.slice x.A x.p.b.length x.c, .int .i64 x.p.sf] 81 (0, 0)), Chunk.row (Kd.int .u8) 5 w0.heap.size x.S (.slice x.A x.p.b.length x.c) x.p.b, Chunk.files w0.heap.size (ys ++ zs'), R, Chunk.blk gd (.cells #[.map (some gm), .int .i64 d.most, .int .i64 (us - (((x.p.b.length : Int) - x.p.sf) - 0)), .int .i64 0, .bool false] 76 (0, 0)), Chunk.lmap Try.prog 9 gm ((ys ++ x :: zs').map XF.ent), Chunk.viewAt w48 Kd.string S29 A27 ((xs.map fun x => x.p.nm).length) c28 (xs.map fun x => x.p.nm)]) (fun h_ => by cases h_) ?_
          refine gx_done (by kernel_rfl) ?_
          have HO349 := HO348.row_takeL 1 rfl ((x.p.sf + 0).toNat) (by omega)
          clear HO348
          have HO350 : Own w0 w346 [Chunk.blk x.g (.cells #[.slice x.A ((x.p.b.take (x.p.sf + 0).toNat).length) x.c, .int .i64 x.p.sf] 81 (0, 0)), Chunk.row (Kd.int .u8) 5 w0.heap.size x.S (.slice x.A ((x.p.b.take (x.p.sf + 0).toNat).length) x.c) (x.p.b.take (x.p.sf + 0).toNat), Chunk.files w0.heap.size (ys ++ zs'), R, Chunk.blk gd (.cells #[.map (some gm), .int .i64 d.most, .int .i64 (us - (((x.p.b.length : Int) - x.p.sf) - 0)), .int .i64 0, .bool false] 76 (0, 0)), Chunk.lmap Try.prog 9 gm ((ys ++ x :: zs').map XF.ent), Chunk.viewAt w48 Kd.string S29 A27 ((xs.map fun x => x.p.nm).length) c28 (xs.map fun x => x.p.nm)] := HO349
          clear HO349
          refine gw_nx (hK310 _ _ ?_)
          refine wp_region_lit ?_
          refine gw_ev HF345 (want_none rfl) rfl (by decide) (op_move rfl (HF345.ev rfl)) ?_
          intro a351 HF352; clear HF345
          refine gw_ev HF352 (want_none rfl) rfl (by decide) (op_move rfl (HF352.ev rfl)) ?_
          intro a353 HF354; clear HF352
          refine gw_ev HF354 (want_none rfl) rfl (by decide) (op_nil rfl (HF354.ev rfl)) ?_
          intro a355 HF356; clear HF354
          refine gw_ev HF356 (want_none rfl) rfl (by decide) (op_field (gwfld81_0 _ _) rfl (HF356.ev rfl)) ?_
          intro a357 HF358; clear HF356
          refine gw_ev HF358 (want_none rfl) rfl (by decide) (op_load1 gwagg28 rfl (HF358.ev rfl) (blk_at (HO350.get 0 rfl) rfl)) ?_
          intro a359 HF360; clear HF358
          refine gw_ev HF360 (want_none rfl) rfl (by decide) (op_len Try.underlying28 rfl (HF360.ev rfl)) ?_
          intro a361 HF362; clear HF360
          have HF363 := HF362.conv (v' := .int .i64 (x.p.sf + 0)) (congrArg (Value.int .i64) hl2)
          clear HF362
          refine gw_ev HF363 (want_none rfl) rfl (by decide) (op_nil rfl (HF363.ev rfl)) ?_
          intro a364 HF365; clear HF363
          refine gw_ev HF365 (want_none rfl) rfl (by decide) (op_field (gwfld81_1 _ _) rfl (HF365.ev rfl)) ?_
          intro a366 HF367; clear HF365
          refine gw_set 0 HF367 HO350 rfl (want_none rfl) rfl (op_store1 gwsiz3 rfl (HF367.ev rfl) (HF367.ev rfl) rfl (blk_at (HO350.get 0 rfl) rfl) (blkf (HO350.get 0 rfl))) ?_
          intro a368 w370 HF369 HO371; clear HF367 HO350
          have HO372 : Own w0 w370 [Chunk.blk x.g (.cells #[.slice x.A ((x.p.b.take (x.p.sf + 0).toNat).length) x.c, .int .i64 (x.p.sf + 0)] 81 (0, 0)), Chunk.row (Kd.int .u8) 5 w0.heap.size x.S (.slice x.A ((x.p.b.take (x.p.sf + 0).toNat).length) x.c) (x.p.b.take (x.p.sf + 0).toNat), Chunk.files w0.heap.size (ys ++ zs'), R, Chunk.blk gd (.cells #[.map (some gm), .int .i64 d.most, .int .i64 (us - (((x.p.b.length : Int) - x.p.sf) - 0)), .int .i64 0, .bool false] 76 (0, 0)), Chunk.lmap Try.prog 9 gm ((ys ++ x :: zs').map XF.ent), Chunk.viewAt w48 Kd.string S29 A27 ((xs.map fun x => x.p.nm).length) c28 (xs.map fun x => x.p.nm)] := HO371
          clear HO371
          refine wpList_nil ?_
          refine gw_blk ?_
          refine gw_nx (hK60 _ _ ?_)
          refine wp_region_lit ?_
          refine gw_ev HF369 (want_none rfl) rfl (by decide) (op_add rfl (HF369.ev rfl) (ev_c _ _) (by omega)) ?_
          intro a373 HF374; clear HF369
          refine gw_ev HF374 (want_none rfl) rfl (by decide) (op_move rfl (HF374.ev rfl)) ?_
          intro a375 HF376; clear HF374
          refine wpList_nil ?_
          have HO377 := HO372.unpin 6 rfl
          clear HO372
          have HO378 : Own w0 w370 [Chunk.blk x.g (.cells #[.slice x.A ((x.p.b.take (x.p.sf + 0).toNat).length) x.c, .int .i64 (x.p.sf + 0)] 81 (0, 0)), Chunk.row (Kd.int .u8) 5 w0.heap.size x.S (.slice x.A ((x.p.b.take (x.p.sf + 0).toNat).length) x.c) (x.p.b.take (x.p.sf + 0).toNat), Chunk.files w0.heap.size (ys ++ zs'), R, Chunk.blk gd (.cells #[.map (some gm), .int .i64 d.most, .int .i64 (us - (((x.p.b.length : Int) - x.p.sf) - 0)), .int .i64 0, .bool false] 76 (0, 0)), Chunk.lmap Try.prog 9 gm ((ys ++ x :: zs').map XF.ent), Chunk.view Kd.string S29 A27 ((xs.map fun x => x.p.nm).length) c28 (xs.map fun x => x.p.nm)] := HO377
          clear HO377
          have HO379 := Own.file_close (x := (⟨⟨x.p.nm, (x.p.b.take (x.p.sf + 0).toNat), x.p.sf + 0⟩, x.g, x.A, x.c, x.S⟩ : XF)) (pre := ys) (post := zs') (by exact HO378.sel [0, 1, 2, 3, 4, 5, 6] (by decide))
          have el_ : (ys ++ x :: zs').map XF.ent = (ys ++ (⟨⟨x.p.nm, (x.p.b.take (x.p.sf + 0).toNat), x.p.sf + 0⟩, x.g, x.A, x.c, x.S⟩ : XF) :: zs').map XF.ent := by simp [XF.ent]
          rw [el_] at HO379
          have ea_ : ys ++ (⟨⟨x.p.nm, (x.p.b.take (x.p.sf + 0).toNat), x.p.sf + 0⟩, x.g, x.A, x.c, x.S⟩ : XF) :: zs' = (ys ++ [(⟨⟨x.p.nm, (x.p.b.take (x.p.sf + 0).toNat), x.p.sf + 0⟩, x.g, x.A, x.c, x.S⟩ : XF)]) ++ zs' := by simp
          rw [ea_] at HO379
          refine gw_nx ⟨_, ?_, i + 1, ys ++ [(⟨⟨x.p.nm, (x.p.b.take (x.p.sf + 0).toNat), x.p.sf + 0⟩, x.g, x.A, x.c, x.S⟩ : XF)], zs', (us - (((x.p.b.length : Int) - x.p.sf) - 0)), Ak, ck, kl, (HF376.pick (t := 18) rfl (HF376.pick (t := 1) rfl (HF376.pick (t := 0) rfl (HF376.pick (t := 16) rfl (HF376.pick (t := 17) rfl HF376.nil))))), HO379.sel [1, 2, 3, 0, 4] (by decide), ?_, ?_, ?_, ?_, ?_, ?_, ?_, ?_, rfl⟩
          · rw [hm51]; omega
          · exact ⟨by rw [List.length_append, List.length_singleton]; omega, by omega⟩
          · rw [hnm, ea_.symm]; try simp
          · rw [← ea_]; exact once_same hon2 rfl
          · rw [← ea_, totalX_mid]; exact ⟨by show _ = ((_ + (x.p.b.take (x.p.sf + 0).toNat).length : Nat) : Int); omega, by omega⟩
          · intro x_ hx_; exact hsf x_ (List.mem_cons_of_mem _ hx_)
          · exact ⟨by rw [hcr.1, List.map_cons, crash_go h1_ hkn1 hkd]; simp, by rw [hcr.2, List.map_cons, crash_go h1_ hkn1 hkd]; show us - (_ + _) = _; omega⟩
          · intro w_ h_; exact hkc w_ h_
          · exact hkl
    · skip
      have HF381 := HF54.subst_ (d := 19) (b := false) rfl hb56
      clear HF54
      (try simp only [Bool.and_eq_true, Bool.or_eq_true, Bool.and_eq_false_iff, Bool.or_eq_false_iff, Bool.not_and, Bool.not_or, Bool.not_not, decide_eq_true_eq, decide_eq_false_iff_not, Bool.not_eq_true', Bool.not_eq_false', Bool.not_eq_true, Bool.not_eq_false, ne_eq, Decidable.not_not, Int.not_lt, Int.not_le, not_true_eq_false, not_false_eq_true, bne_iff_ne, beq_iff_eq, bne_eq_false_iff_eq, beq_eq_false_iff_ne] at hb56)
      refine wp_exit ?_
      refine gw_thx ?_
      refine gw_thx ?_
      refine gw_in ?_
      refine gw_end0 HF381 rfl ?_
      have hz0 : zs = [] := by cases zs with | nil => rfl | cons a r => exfalso; rw [hnm] at hb56; simp at hb56; omega
      subst hz0
      have hu_ : us = d.used - (crashF d.fs keep).2 := by rw [hcr.2]; simp [crash_nil]
      rw [hu_] at HO50
      exact ⟨rfl, disk_close2 (d := crashD keep d) (xs := ys ++ []) (by show _ = (crashF d.fs keep).1; rw [hcr.1]; simp [crash_nil]) (by exact HO50.sel [0, 1, 2, 3] (by decide))⟩
end GVfs5_
export GVfs5_ (crash_calls)
end Go.Proofs.Ytkdahjnmldeklaa.PA
