/- VfsRoom. Printed by a program of this session; Lean checks it. -/
import Derived.Test.YtkdahjnmldeklaaGVfsA
import Derived.Test.YtkdahjnmldeklaaHKinds
namespace Go.Proofs.Ytkdahjnmldeklaa.PA
open Go.RowKit Go.Proofs.YtkdahjnmldeklaaW.PrintWords Go.Proofs.YtkdahjnmldeklaaW.PrintLast Go.Proofs.YtkdahjnmldeklaaW.PrintMore
set_option linter.unusedVariables false
set_option linter.unusedSimpArgs false
namespace GVfsR_
theorem gwagg28 : ∀ w, (isAgg 28).run Try.prog w = .ok false w := fun _ => by kernel_rfl
theorem gwagg3 : ∀ w, (isAgg 3).run Try.prog w = .ok false w := fun _ => by kernel_rfl
theorem gwagg32 : ∀ w, (isAgg 32).run Try.prog w = .ok false w := fun _ => by kernel_rfl
theorem gwagg45 : ∀ w, (isAgg 45).run Try.prog w = .ok true w := fun _ => by kernel_rfl
theorem gwagg9 : ∀ w, (isAgg 9).run Try.prog w = .ok false w := fun _ => by kernel_rfl
theorem gwfld45_0 (g off : Nat) : ∀ w, (Instr.fieldAt 45 (.pointer (some ⟨g, off, none⟩)) 0).run Try.prog w = .ok (.pointer (some ⟨g, off + 0, none⟩)) w := fun _ => by kernel_rfl
theorem gwfld45_1 (g off : Nat) : ∀ w, (Instr.fieldAt 45 (.pointer (some ⟨g, off, none⟩)) 1).run Try.prog w = .ok (.pointer (some ⟨g, off + 1, none⟩)) w := fun _ => by kernel_rfl
theorem gwfld45_2 (g off : Nat) : ∀ w, (Instr.fieldAt 45 (.pointer (some ⟨g, off, none⟩)) 2).run Try.prog w = .ok (.pointer (some ⟨g, off + 2, none⟩)) w := fun _ => by kernel_rfl
theorem gwfld45_3 (g off : Nat) : ∀ w, (Instr.fieldAt 45 (.pointer (some ⟨g, off, none⟩)) 3).run Try.prog w = .ok (.pointer (some ⟨g, off + 3, none⟩)) w := fun _ => by kernel_rfl
theorem gwfld45_4 (g off : Nat) : ∀ w, (Instr.fieldAt 45 (.pointer (some ⟨g, off, none⟩)) 4).run Try.prog w = .ok (.pointer (some ⟨g, off + 4, none⟩)) w := fun _ => by kernel_rfl
theorem gwfld45_5 (g off : Nat) : ∀ w, (Instr.fieldAt 45 (.pointer (some ⟨g, off, none⟩)) 5).run Try.prog w = .ok (.pointer (some ⟨g, off + 5, none⟩)) w := fun _ => by kernel_rfl
theorem gwsiz45 : ∀ w, (sizeOf 45).run Try.prog w = .ok 6 w := fun _ => by kernel_rfl
theorem gwsiz9 : ∀ w, (sizeOf 9).run Try.prog w = .ok 1 w := fun _ => by kernel_rfl
theorem gwzer45 : ∀ w, (zeroValue 45).run Try.prog w = .ok (.agg #[.int .i64 0, .string (⟨#[]⟩ : ByteArray), .string (⟨#[]⟩ : ByteArray), .int .i64 0, .slice none 0 0, .slice none 0 0]) w := fun _ => by kernel_rfl
set_option maxHeartbeats 4000000 in
set_option maxRecDepth 100000 in
theorem does_calls (w0 w : World) (R : Chunk) (gd : Nat) (S : Nat → Prop) (d : PD) (kd : Int) (nm dest : ByteArray) (n : Int) (Ay : Option Addr) (cy : Nat) (y : List Int) (hy : ∀ w1, Own w0 w1 [R] → Kd.C (Kd.int .u8) w1 Ay y.length y) (hcy : y.length ≤ cy) (A5 : Option Addr) (n5 c5 : Nat) (hw : wfD d) (hn : nm.size ≤ 9223372036854775807) (hdest : dest.size ≤ 9223372036854775807) (hlen : d.fs.length ≤ 1000000) (hroom : d.used + y.length ≤ 140737488355327) (HO : Own w0 w [R, Chunk.disk w0.heap.size gd S d]) :
    Calls Try.prog 25 #[.pointer (some ⟨gd, 0, none⟩), .agg #[.int .i64 kd, .string nm, .string dest, .int .i64 n, .slice Ay y.length cy, .slice A5 n5 c5]] w fun e w' => e = .returned (.int .i64 (doesD kd nm dest n y d).2) ∧ ∃ S', Own w0 w' [R, Chunk.disk w0.heap.size gd S' (doesD kd nm dest n y d).1] := by
  refine gw_startO (N := 47) (vs := [.pointer (some ⟨gd, 0, none⟩), .agg #[.int .i64 kd, .string nm, .string dest, .int .i64 n, .slice Ay y.length cy, .slice A5 n5 c5]]) Try.func25 rfl rfl (by simp) fun a HF => ?_
  refine gw_seq fun K1 hK1 => ?_
  refine wp_region_lit ?_
  refine gw_new HF HO (want_none rfl) rfl (by decide) (op_box rfl (HF.ev rfl)) ?_
  intro g2 a3 w4 HF5 HO6; clear HF HO
  have HO7 : Own w0 w4 [Chunk.blk g2 (.cells #[.int .i64 kd, .string nm, .string dest, .int .i64 n, .slice Ay y.length cy, .slice A5 n5 c5] 45 (0, 0)), R, Chunk.disk w0.heap.size gd S d] := HO6
  clear HO6
  refine gw_ev HF5 (want_none rfl) rfl (by decide) (op_assign rfl (ev_c _ _)) ?_
  intro a8 HF9; clear HF5
  refine wpList_nil ?_
  refine gw_nx (hK1 _ _ ?_)
  refine gw_seq fun K10 hK10 => ?_
  refine gw_seq fun K11 hK11 => ?_
  refine wp_region_lit ?_
  refine gw_ev HF9 (want_none rfl) rfl (by decide) (op_field (gwfld45_0 _ _) rfl (HF9.ev rfl)) ?_
  intro a12 HF13; clear HF9
  refine gw_ev HF13 (want_none rfl) rfl (by decide) (op_load1 gwagg3 rfl (HF13.ev rfl) (blk_at (HO7.get 0 rfl) rfl)) ?_
  intro a14 HF15; clear HF13
  refine wpList_nil ?_
  refine gw_nx (hK11 _ _ ?_)
  refine wp_block ?_
  refine gw_seq fun K16 hK16 => ?_
  refine wp_region_lit ?_
  refine gw_ev HF15 (want_none rfl) rfl (by decide) (op_eqi rfl (HF15.ev rfl) (ev_c _ _)) ?_
  intro a17 HF18; clear HF15
  refine gw_ev HF18 (want_none rfl) rfl (by decide) (op_assign rfl (HF18.ev rfl)) ?_
  intro a19 HF20; clear HF18
  refine wpList_nil ?_
  refine gw_nx (hK16 _ _ ?_)
  refine gw_cond HF20 rfl (fun hb21 => ?_) (fun hb21 => ?_)
  · skip
    have HF22 := HF20.subst_ (d := 7) (b := true) rfl hb21
    clear HF20
    (try simp only [Bool.and_eq_true, Bool.or_eq_true, Bool.and_eq_false_iff, Bool.or_eq_false_iff, Bool.not_and, Bool.not_or, Bool.not_not, decide_eq_true_eq, decide_eq_false_iff_not, Bool.not_eq_true', Bool.not_eq_false', Bool.not_eq_true, Bool.not_eq_false, ne_eq, Decidable.not_not, Int.not_lt, Int.not_le, not_true_eq_false, not_false_eq_true, bne_iff_ne, beq_iff_eq, bne_eq_false_iff_eq, beq_eq_false_iff_ne] at hb21)
    have hk1 := hb21
    refine gw_seq fun K23 hK23 => ?_
    refine wp_region_lit ?_
    refine gw_ev HF22 (want_none rfl) rfl (by decide) (op_move rfl (HF22.ev rfl)) ?_
    intro a24 HF25; clear HF22
    refine gw_ev HF25 (want_none rfl) rfl (by decide) (op_field (gwfld45_1 _ _) rfl (HF25.ev rfl)) ?_
    intro a26 HF27; clear HF25
    refine gw_ev HF27 (want_none rfl) rfl (by decide) (op_load1 gwagg9 rfl (HF27.ev rfl) (blk_at (HO7.get 0 rfl) rfl)) ?_
    intro a28 HF29; clear HF27
    have HO38 : Own w0 _ [(Chunk.all [Chunk.blk g2 (.cells #[.int .i64 kd, .string nm, .string dest, .int .i64 n, .slice Ay y.length cy, .slice A5 n5 c5] 45 (0, 0)), R]), Chunk.disk w0.heap.size gd S d] := Own.bundle (A := [Chunk.blk g2 (.cells #[.int .i64 kd, .string nm, .string dest, .int .i64 n, .slice Ay y.length cy, .slice A5 n5 c5] 45 (0, 0)), R]) (L := [Chunk.disk w0.heap.size gd S d]) (HO7.sel [0, 1, 2] (by decide))
    refine gw_call HF29 (want_none rfl) rfl (by decide) (op_callL Try.func13 (by kernel_rfl) rfl rfl (ar_cons (HF29.ev rfl) (ar_cons (HF29.ev rfl) ar_nil))) (create_calls w0 _ (Chunk.all [Chunk.blk g2 (.cells #[.int .i64 kd, .string nm, .string dest, .int .i64 n, .slice Ay y.length cy, .slice A5 n5 c5] 45 (0, 0)), R]) gd S d nm hw hn hlen (by exact HO38)) ?_
    rintro e32 w33 ⟨rfl, S30, hb34⟩
    refine ⟨_, rfl, fun a35 HF36 => ?_⟩
    have HO37 : Own w0 w33 [Chunk.blk g2 (.cells #[.int .i64 kd, .string nm, .string dest, .int .i64 n, .slice Ay y.length cy, .slice A5 n5 c5] 45 (0, 0)), R, Chunk.disk w0.heap.size gd S30 ((createD nm d).1)] := Own.unbundle (A := [Chunk.blk g2 (.cells #[.int .i64 kd, .string nm, .string dest, .int .i64 n, .slice Ay y.length cy, .slice A5 n5 c5] 45 (0, 0)), R]) (L := [Chunk.disk w0.heap.size gd S30 ((createD nm d).1)]) (hb34.sel [0, 1] (by decide))
    clear HO38
    clear HF29 HO7 hb34
    have HO40 : Own w0 w33 [Chunk.blk g2 (.cells #[.int .i64 kd, .string nm, .string dest, .int .i64 n, .slice Ay y.length cy, .slice A5 n5 c5] 45 (0, 0)), R, Chunk.disk w0.heap.size gd S30 ((createD nm d).1)] := HO37
    clear HO37
    have hwf31 : wfD ((createD nm d).1) := wf_create hw
    refine gw_ev HF36 (want_none rfl) rfl (by decide) (op_assign rfl (HF36.ev rfl)) ?_
    intro a41 HF42; clear HF36
    refine wpList_nil ?_
    refine gw_nx (hK23 _ _ ?_)
    refine wp_ret ?_
    refine gw_blr ?_
    refine gw_thr ?_
    refine gw_ret1 HF42 rfl rfl ?_
    rw [does1 hk1]
    exact ⟨rfl, _, HO40.sel [1, 2] (by decide)⟩
  · skip
    have HF43 := HF20.subst_ (d := 7) (b := false) rfl hb21
    clear HF20
    (try simp only [Bool.and_eq_true, Bool.or_eq_true, Bool.and_eq_false_iff, Bool.or_eq_false_iff, Bool.not_and, Bool.not_or, Bool.not_not, decide_eq_true_eq, decide_eq_false_iff_not, Bool.not_eq_true', Bool.not_eq_false', Bool.not_eq_true, Bool.not_eq_false, ne_eq, Decidable.not_not, Int.not_lt, Int.not_le, not_true_eq_false, not_false_eq_true, bne_iff_ne, beq_iff_eq, bne_eq_false_iff_eq, beq_eq_false_iff_ne] at hb21)
    have hk1 := hb21
    refine gw_seq fun K44 hK44 => ?_
    refine wp_region_lit ?_
    refine gw_ev HF43 (want_none rfl) rfl (by decide) (op_eqi rfl (HF43.ev rfl) (ev_c _ _)) ?_
    intro a45 HF46; clear HF43
    refine gw_ev HF46 (want_none rfl) rfl (by decide) (op_assign rfl (HF46.ev rfl)) ?_
    intro a47 HF48; clear HF46
    refine wpList_nil ?_
    refine gw_nx (hK44 _ _ ?_)
    refine gw_cond HF48 rfl (fun hb49 => ?_) (fun hb49 => ?_)
    · skip
      have HF50 := HF48.subst_ (d := 13) (b := true) rfl hb49
      clear HF48
      (try simp only [Bool.and_eq_true, Bool.or_eq_true, Bool.and_eq_false_iff, Bool.or_eq_false_iff, Bool.not_and, Bool.not_or, Bool.not_not, decide_eq_true_eq, decide_eq_false_iff_not, Bool.not_eq_true', Bool.not_eq_false', Bool.not_eq_true, Bool.not_eq_false, ne_eq, Decidable.not_not, Int.not_lt, Int.not_le, not_true_eq_false, not_false_eq_true, bne_iff_ne, beq_iff_eq, bne_eq_false_iff_eq, beq_eq_false_iff_ne] at hb49)
      have hk2 := hb49
      refine gw_seq fun K51 hK51 => ?_
      refine wp_region_lit ?_
      refine gw_ev HF50 (want_none rfl) rfl (by decide) (op_move rfl (HF50.ev rfl)) ?_
      intro a52 HF53; clear HF50
      refine gw_ev HF53 (want_none rfl) rfl (by decide) (op_field (gwfld45_1 _ _) rfl (HF53.ev rfl)) ?_
      intro a54 HF55; clear HF53
      refine gw_ev HF55 (want_none rfl) rfl (by decide) (op_load1 gwagg9 rfl (HF55.ev rfl) (blk_at (HO7.get 0 rfl) rfl)) ?_
      intro a56 HF57; clear HF55
      refine gw_ev HF57 (want_none rfl) rfl (by decide) (op_field (gwfld45_4 _ _) rfl (HF57.ev rfl)) ?_
      intro a58 HF59; clear HF57
      refine gw_ev HF59 (want_none rfl) rfl (by decide) (op_load1 gwagg28 rfl (HF59.ev rfl) (blk_at (HO7.get 0 rfl) rfl)) ?_
      intro a60 HF61; clear HF59
      have HO70 : Own w0 _ [(Chunk.all [Chunk.blk g2 (.cells #[.int .i64 kd, .string nm, .string dest, .int .i64 n, .slice Ay y.length cy, .slice A5 n5 c5] 45 (0, 0)), R]), Chunk.disk w0.heap.size gd S d] := Own.bundle (A := [Chunk.blk g2 (.cells #[.int .i64 kd, .string nm, .string dest, .int .i64 n, .slice Ay y.length cy, .slice A5 n5 c5] 45 (0, 0)), R]) (L := [Chunk.disk w0.heap.size gd S d]) (HO7.sel [0, 1, 2] (by decide))
      refine gw_call HF61 (want_none rfl) rfl (by decide) (op_callL Try.func15 (by kernel_rfl) rfl rfl (ar_cons (HF61.ev rfl) (ar_cons (HF61.ev rfl) (ar_cons (HF61.ev rfl) ar_nil)))) (append_calls w0 _ (Chunk.all [Chunk.blk g2 (.cells #[.int .i64 kd, .string nm, .string dest, .int .i64 n, .slice Ay y.length cy, .slice A5 n5 c5] 45 (0, 0)), R]) gd S d nm Ay cy y (fun w_ h_ => (hy _ ((Own.unbundle (A := [Chunk.blk g2 (.cells #[.int .i64 kd, .string nm, .string dest, .int .i64 n, .slice Ay y.length cy, .slice A5 n5 c5] 45 (0, 0)), R]) (L := []) h_).sel [1] (by decide)))) hcy hw hn hroom (by exact HO70)) ?_
      rintro e64 w65 ⟨rfl, S62, hb66⟩
      refine ⟨_, rfl, fun a67 HF68 => ?_⟩
      have HO69 : Own w0 w65 [Chunk.blk g2 (.cells #[.int .i64 kd, .string nm, .string dest, .int .i64 n, .slice Ay y.length cy, .slice A5 n5 c5] 45 (0, 0)), R, Chunk.disk w0.heap.size gd S62 ((appendD nm y d).1)] := Own.unbundle (A := [Chunk.blk g2 (.cells #[.int .i64 kd, .string nm, .string dest, .int .i64 n, .slice Ay y.length cy, .slice A5 n5 c5] 45 (0, 0)), R]) (L := [Chunk.disk w0.heap.size gd S62 ((appendD nm y d).1)]) (hb66.sel [0, 1] (by decide))
      clear HO70
      clear HF61 HO7 hb66
      have HO72 : Own w0 w65 [Chunk.blk g2 (.cells #[.int .i64 kd, .string nm, .string dest, .int .i64 n, .slice Ay y.length cy, .slice A5 n5 c5] 45 (0, 0)), R, Chunk.disk w0.heap.size gd S62 ((appendD nm y d).1)] := HO69
      clear HO69
      have hwf63 : wfD ((appendD nm y d).1) := wf_append hw
      refine gw_ev HF68 (want_none rfl) rfl (by decide) (op_assign rfl (HF68.ev rfl)) ?_
      intro a73 HF74; clear HF68
      refine wpList_nil ?_
      refine gw_nx (hK51 _ _ ?_)
      refine wp_ret ?_
      refine gw_blr ?_
      refine gw_thr ?_
      refine gw_ret1 HF74 rfl rfl ?_
      rw [does2 hk1 hk2]
      exact ⟨rfl, _, HO72.sel [1, 2] (by decide)⟩
    · skip
      have HF75 := HF48.subst_ (d := 13) (b := false) rfl hb49
      clear HF48
      (try simp only [Bool.and_eq_true, Bool.or_eq_true, Bool.and_eq_false_iff, Bool.or_eq_false_iff, Bool.not_and, Bool.not_or, Bool.not_not, decide_eq_true_eq, decide_eq_false_iff_not, Bool.not_eq_true', Bool.not_eq_false', Bool.not_eq_true, Bool.not_eq_false, ne_eq, Decidable.not_not, Int.not_lt, Int.not_le, not_true_eq_false, not_false_eq_true, bne_iff_ne, beq_iff_eq, bne_eq_false_iff_eq, beq_eq_false_iff_ne] at hb49)
      have hk2 := hb49
      refine gw_seq fun K76 hK76 => ?_
      refine wp_region_lit ?_
      refine gw_ev HF75 (want_none rfl) rfl (by decide) (op_eqi rfl (HF75.ev rfl) (ev_c _ _)) ?_
      intro a77 HF78; clear HF75
      refine gw_ev HF78 (want_none rfl) rfl (by decide) (op_assign rfl (HF78.ev rfl)) ?_
      intro a79 HF80; clear HF78
      refine wpList_nil ?_
      refine gw_nx (hK76 _ _ ?_)
      refine gw_cond HF80 rfl (fun hb81 => ?_) (fun hb81 => ?_)
      · skip
        have HF82 := HF80.subst_ (d := 21) (b := true) rfl hb81
        clear HF80
        (try simp only [Bool.and_eq_true, Bool.or_eq_true, Bool.and_eq_false_iff, Bool.or_eq_false_iff, Bool.not_and, Bool.not_or, Bool.not_not, decide_eq_true_eq, decide_eq_false_iff_not, Bool.not_eq_true', Bool.not_eq_false', Bool.not_eq_true, Bool.not_eq_false, ne_eq, Decidable.not_not, Int.not_lt, Int.not_le, not_true_eq_false, not_false_eq_true, bne_iff_ne, beq_iff_eq, bne_eq_false_iff_eq, beq_eq_false_iff_ne] at hb81)
        have hk3 := hb81
        refine gw_seq fun K83 hK83 => ?_
        refine wp_region_lit ?_
        refine gw_ev HF82 (want_none rfl) rfl (by decide) (op_move rfl (HF82.ev rfl)) ?_
        intro a84 HF85; clear HF82
        refine gw_ev HF85 (want_none rfl) rfl (by decide) (op_field (gwfld45_1 _ _) rfl (HF85.ev rfl)) ?_
        intro a86 HF87; clear HF85
        refine gw_ev HF87 (want_none rfl) rfl (by decide) (op_load1 gwagg9 rfl (HF87.ev rfl) (blk_at (HO7.get 0 rfl) rfl)) ?_
        intro a88 HF89; clear HF87
        have HO98 : Own w0 _ [(Chunk.all [Chunk.blk g2 (.cells #[.int .i64 kd, .string nm, .string dest, .int .i64 n, .slice Ay y.length cy, .slice A5 n5 c5] 45 (0, 0)), R]), Chunk.disk w0.heap.size gd S d] := Own.bundle (A := [Chunk.blk g2 (.cells #[.int .i64 kd, .string nm, .string dest, .int .i64 n, .slice Ay y.length cy, .slice A5 n5 c5] 45 (0, 0)), R]) (L := [Chunk.disk w0.heap.size gd S d]) (HO7.sel [0, 1, 2] (by decide))
        refine gw_call HF89 (want_none rfl) rfl (by decide) (op_callL Try.func16 (by kernel_rfl) rfl rfl (ar_cons (HF89.ev rfl) (ar_cons (HF89.ev rfl) ar_nil))) (sync_calls w0 _ (Chunk.all [Chunk.blk g2 (.cells #[.int .i64 kd, .string nm, .string dest, .int .i64 n, .slice Ay y.length cy, .slice A5 n5 c5] 45 (0, 0)), R]) gd S d nm hw hn (by exact HO98)) ?_
        rintro e92 w93 ⟨rfl, S90, hb94⟩
        refine ⟨_, rfl, fun a95 HF96 => ?_⟩
        have HO97 : Own w0 w93 [Chunk.blk g2 (.cells #[.int .i64 kd, .string nm, .string dest, .int .i64 n, .slice Ay y.length cy, .slice A5 n5 c5] 45 (0, 0)), R, Chunk.disk w0.heap.size gd S90 ((syncD nm d).1)] := Own.unbundle (A := [Chunk.blk g2 (.cells #[.int .i64 kd, .string nm, .string dest, .int .i64 n, .slice Ay y.length cy, .slice A5 n5 c5] 45 (0, 0)), R]) (L := [Chunk.disk w0.heap.size gd S90 ((syncD nm d).1)]) (hb94.sel [0, 1] (by decide))
        clear HO98
        clear HF89 HO7 hb94
        have HO100 : Own w0 w93 [Chunk.blk g2 (.cells #[.int .i64 kd, .string nm, .string dest, .int .i64 n, .slice Ay y.length cy, .slice A5 n5 c5] 45 (0, 0)), R, Chunk.disk w0.heap.size gd S90 ((syncD nm d).1)] := HO97
        clear HO97
        have hwf91 : wfD ((syncD nm d).1) := wf_sync hw
        refine gw_ev HF96 (want_none rfl) rfl (by decide) (op_assign rfl (HF96.ev rfl)) ?_
        intro a101 HF102; clear HF96
        refine wpList_nil ?_
        refine gw_nx (hK83 _ _ ?_)
        refine wp_ret ?_
        refine gw_blr ?_
        refine gw_thr ?_
        refine gw_ret1 HF102 rfl rfl ?_
        rw [does3 hk1 hk2 hk3]
        exact ⟨rfl, _, HO100.sel [1, 2] (by decide)⟩
      · skip
        have HF103 := HF80.subst_ (d := 21) (b := false) rfl hb81
        clear HF80
        (try simp only [Bool.and_eq_true, Bool.or_eq_true, Bool.and_eq_false_iff, Bool.or_eq_false_iff, Bool.not_and, Bool.not_or, Bool.not_not, decide_eq_true_eq, decide_eq_false_iff_not, Bool.not_eq_true', Bool.not_eq_false', Bool.not_eq_true, Bool.not_eq_false, ne_eq, Decidable.not_not, Int.not_lt, Int.not_le, not_true_eq_false, not_false_eq_true, bne_iff_ne, beq_iff_eq, bne_eq_false_iff_eq, beq_eq_false_iff_ne] at hb81)
        have hk3 := hb81
        refine gw_seq fun K104 hK104 => ?_
        refine wp_region_lit ?_
        refine gw_ev HF103 (want_none rfl) rfl (by decide) (op_eqi rfl (HF103.ev rfl) (ev_c _ _)) ?_
        intro a105 HF106; clear HF103
        refine gw_ev HF106 (want_none rfl) rfl (by decide) (op_assign rfl (HF106.ev rfl)) ?_
        intro a107 HF108; clear HF106
        refine wpList_nil ?_
        refine gw_nx (hK104 _ _ ?_)
        refine gw_cond HF108 rfl (fun hb109 => ?_) (fun hb109 => ?_)
        · skip
          have HF110 := HF108.subst_ (d := 27) (b := true) rfl hb109
          clear HF108
          (try simp only [Bool.and_eq_true, Bool.or_eq_true, Bool.and_eq_false_iff, Bool.or_eq_false_iff, Bool.not_and, Bool.not_or, Bool.not_not, decide_eq_true_eq, decide_eq_false_iff_not, Bool.not_eq_true', Bool.not_eq_false', Bool.not_eq_true, Bool.not_eq_false, ne_eq, Decidable.not_not, Int.not_lt, Int.not_le, not_true_eq_false, not_false_eq_true, bne_iff_ne, beq_iff_eq, bne_eq_false_iff_eq, beq_eq_false_iff_ne] at hb109)
          have hk4 := hb109
          refine gw_seq fun K111 hK111 => ?_
          refine wp_region_lit ?_
          refine gw_ev HF110 (want_none rfl) rfl (by decide) (op_move rfl (HF110.ev rfl)) ?_
          intro a112 HF113; clear HF110
          refine gw_ev HF113 (want_none rfl) rfl (by decide) (op_field (gwfld45_1 _ _) rfl (HF113.ev rfl)) ?_
          intro a114 HF115; clear HF113
          refine gw_ev HF115 (want_none rfl) rfl (by decide) (op_load1 gwagg9 rfl (HF115.ev rfl) (blk_at (HO7.get 0 rfl) rfl)) ?_
          intro a116 HF117; clear HF115
          refine gw_ev HF117 (want_none rfl) rfl (by decide) (op_field (gwfld45_2 _ _) rfl (HF117.ev rfl)) ?_
          intro a118 HF119; clear HF117
          refine gw_ev HF119 (want_none rfl) rfl (by decide) (op_load1 gwagg9 rfl (HF119.ev rfl) (blk_at (HO7.get 0 rfl) rfl)) ?_
          intro a120 HF121; clear HF119
          have HO130 : Own w0 _ [(Chunk.all [Chunk.blk g2 (.cells #[.int .i64 kd, .string nm, .string dest, .int .i64 n, .slice Ay y.length cy, .slice A5 n5 c5] 45 (0, 0)), R]), Chunk.disk w0.heap.size gd S d] := Own.bundle (A := [Chunk.blk g2 (.cells #[.int .i64 kd, .string nm, .string dest, .int .i64 n, .slice Ay y.length cy, .slice A5 n5 c5] 45 (0, 0)), R]) (L := [Chunk.disk w0.heap.size gd S d]) (HO7.sel [0, 1, 2] (by decide))
          refine gw_call HF121 (want_none rfl) rfl (by decide) (op_callL Try.func23 (by kernel_rfl) rfl rfl (ar_cons (HF121.ev rfl) (ar_cons (HF121.ev rfl) (ar_cons (HF121.ev rfl) ar_nil)))) (rename_calls w0 _ (Chunk.all [Chunk.blk g2 (.cells #[.int .i64 kd, .string nm, .string dest, .int .i64 n, .slice Ay y.length cy, .slice A5 n5 c5] 45 (0, 0)), R]) gd S d nm dest hw hn hdest hlen (by exact HO130)) ?_
          rintro e124 w125 ⟨rfl, S122, hb126⟩
          refine ⟨_, rfl, fun a127 HF128 => ?_⟩
          have HO129 : Own w0 w125 [Chunk.blk g2 (.cells #[.int .i64 kd, .string nm, .string dest, .int .i64 n, .slice Ay y.length cy, .slice A5 n5 c5] 45 (0, 0)), R, Chunk.disk w0.heap.size gd S122 ((renameD nm dest d).1)] := Own.unbundle (A := [Chunk.blk g2 (.cells #[.int .i64 kd, .string nm, .string dest, .int .i64 n, .slice Ay y.length cy, .slice A5 n5 c5] 45 (0, 0)), R]) (L := [Chunk.disk w0.heap.size gd S122 ((renameD nm dest d).1)]) (hb126.sel [0, 1] (by decide))
          clear HO130
          clear HF121 HO7 hb126
          have HO132 : Own w0 w125 [Chunk.blk g2 (.cells #[.int .i64 kd, .string nm, .string dest, .int .i64 n, .slice Ay y.length cy, .slice A5 n5 c5] 45 (0, 0)), R, Chunk.disk w0.heap.size gd S122 ((renameD nm dest d).1)] := HO129
          clear HO129
          have hwf123 : wfD ((renameD nm dest d).1) := wf_rename hw
          refine gw_ev HF128 (want_none rfl) rfl (by decide) (op_assign rfl (HF128.ev rfl)) ?_
          intro a133 HF134; clear HF128
          refine wpList_nil ?_
          refine gw_nx (hK111 _ _ ?_)
          refine wp_ret ?_
          refine gw_blr ?_
          refine gw_thr ?_
          refine gw_ret1 HF134 rfl rfl ?_
          rw [does4 hk1 hk2 hk3 hk4]
          exact ⟨rfl, _, HO132.sel [1, 2] (by decide)⟩
        · skip
          have HF135 := HF108.subst_ (d := 27) (b := false) rfl hb109
          clear HF108
          (try simp only [Bool.and_eq_true, Bool.or_eq_true, Bool.and_eq_false_iff, Bool.or_eq_false_iff, Bool.not_and, Bool.not_or, Bool.not_not, decide_eq_true_eq, decide_eq_false_iff_not, Bool.not_eq_true', Bool.not_eq_false', Bool.not_eq_true, Bool.not_eq_false, ne_eq, Decidable.not_not, Int.not_lt, Int.not_le, not_true_eq_false, not_false_eq_true, bne_iff_ne, beq_iff_eq, bne_eq_false_iff_eq, beq_eq_false_iff_ne] at hb109)
          have hk4 := hb109
          refine gw_seq fun K136 hK136 => ?_
          refine wp_region_lit ?_
          refine gw_ev HF135 (want_none rfl) rfl (by decide) (op_eqi rfl (HF135.ev rfl) (ev_c _ _)) ?_
          intro a137 HF138; clear HF135
          refine gw_ev HF138 (want_none rfl) rfl (by decide) (op_assign rfl (HF138.ev rfl)) ?_
          intro a139 HF140; clear HF138
          refine wpList_nil ?_
          refine gw_nx (hK136 _ _ ?_)
          refine gw_cond HF140 rfl (fun hb141 => ?_) (fun hb141 => ?_)
          · skip
            have HF142 := HF140.subst_ (d := 35) (b := true) rfl hb141
            clear HF140
            (try simp only [Bool.and_eq_true, Bool.or_eq_true, Bool.and_eq_false_iff, Bool.or_eq_false_iff, Bool.not_and, Bool.not_or, Bool.not_not, decide_eq_true_eq, decide_eq_false_iff_not, Bool.not_eq_true', Bool.not_eq_false', Bool.not_eq_true, Bool.not_eq_false, ne_eq, Decidable.not_not, Int.not_lt, Int.not_le, not_true_eq_false, not_false_eq_true, bne_iff_ne, beq_iff_eq, bne_eq_false_iff_eq, beq_eq_false_iff_ne] at hb141)
            have hk5 := hb141
            refine gw_seq fun K143 hK143 => ?_
            refine wp_region_lit ?_
            refine gw_ev HF142 (want_none rfl) rfl (by decide) (op_move rfl (HF142.ev rfl)) ?_
            intro a144 HF145; clear HF142
            refine gw_ev HF145 (want_none rfl) rfl (by decide) (op_field (gwfld45_1 _ _) rfl (HF145.ev rfl)) ?_
            intro a146 HF147; clear HF145
            refine gw_ev HF147 (want_none rfl) rfl (by decide) (op_load1 gwagg9 rfl (HF147.ev rfl) (blk_at (HO7.get 0 rfl) rfl)) ?_
            intro a148 HF149; clear HF147
            refine gw_ev HF149 (want_none rfl) rfl (by decide) (op_field (gwfld45_3 _ _) rfl (HF149.ev rfl)) ?_
            intro a150 HF151; clear HF149
            refine gw_ev HF151 (want_none rfl) rfl (by decide) (op_load1 gwagg3 rfl (HF151.ev rfl) (blk_at (HO7.get 0 rfl) rfl)) ?_
            intro a152 HF153; clear HF151
            have HO162 : Own w0 _ [(Chunk.all [Chunk.blk g2 (.cells #[.int .i64 kd, .string nm, .string dest, .int .i64 n, .slice Ay y.length cy, .slice A5 n5 c5] 45 (0, 0)), R]), Chunk.disk w0.heap.size gd S d] := Own.bundle (A := [Chunk.blk g2 (.cells #[.int .i64 kd, .string nm, .string dest, .int .i64 n, .slice Ay y.length cy, .slice A5 n5 c5] 45 (0, 0)), R]) (L := [Chunk.disk w0.heap.size gd S d]) (HO7.sel [0, 1, 2] (by decide))
            refine gw_call HF153 (want_none rfl) rfl (by decide) (op_callL Try.func51 (by kernel_rfl) rfl rfl (ar_cons (HF153.ev rfl) (ar_cons (HF153.ev rfl) (ar_cons (HF153.ev rfl) ar_nil)))) (cut_calls w0 _ (Chunk.all [Chunk.blk g2 (.cells #[.int .i64 kd, .string nm, .string dest, .int .i64 n, .slice Ay y.length cy, .slice A5 n5 c5] 45 (0, 0)), R]) gd S d nm n hw hn (by exact HO162)) ?_
            rintro e156 w157 ⟨rfl, S154, hb158⟩
            refine ⟨_, rfl, fun a159 HF160 => ?_⟩
            have HO161 : Own w0 w157 [Chunk.blk g2 (.cells #[.int .i64 kd, .string nm, .string dest, .int .i64 n, .slice Ay y.length cy, .slice A5 n5 c5] 45 (0, 0)), R, Chunk.disk w0.heap.size gd S154 ((cutD nm n d).1)] := Own.unbundle (A := [Chunk.blk g2 (.cells #[.int .i64 kd, .string nm, .string dest, .int .i64 n, .slice Ay y.length cy, .slice A5 n5 c5] 45 (0, 0)), R]) (L := [Chunk.disk w0.heap.size gd S154 ((cutD nm n d).1)]) (hb158.sel [0, 1] (by decide))
            clear HO162
            clear HF153 HO7 hb158
            have HO164 : Own w0 w157 [Chunk.blk g2 (.cells #[.int .i64 kd, .string nm, .string dest, .int .i64 n, .slice Ay y.length cy, .slice A5 n5 c5] 45 (0, 0)), R, Chunk.disk w0.heap.size gd S154 ((cutD nm n d).1)] := HO161
            clear HO161
            have hwf155 : wfD ((cutD nm n d).1) := wf_cut hw
            refine gw_ev HF160 (want_none rfl) rfl (by decide) (op_assign rfl (HF160.ev rfl)) ?_
            intro a165 HF166; clear HF160
            refine wpList_nil ?_
            refine gw_nx (hK143 _ _ ?_)
            refine wp_ret ?_
            refine gw_blr ?_
            refine gw_thr ?_
            refine gw_ret1 HF166 rfl rfl ?_
            rw [does5 hk1 hk2 hk3 hk4 hk5]
            exact ⟨rfl, _, HO164.sel [1, 2] (by decide)⟩
          · skip
            have HF167 := HF140.subst_ (d := 35) (b := false) rfl hb141
            clear HF140
            (try simp only [Bool.and_eq_true, Bool.or_eq_true, Bool.and_eq_false_iff, Bool.or_eq_false_iff, Bool.not_and, Bool.not_or, Bool.not_not, decide_eq_true_eq, decide_eq_false_iff_not, Bool.not_eq_true', Bool.not_eq_false', Bool.not_eq_true, Bool.not_eq_false, ne_eq, Decidable.not_not, Int.not_lt, Int.not_le, not_true_eq_false, not_false_eq_true, bne_iff_ne, beq_iff_eq, bne_eq_false_iff_eq, beq_eq_false_iff_ne] at hb141)
            have hk5 := hb141
            refine wp_skip ?_
            refine gw_blk ?_
            refine gw_nx (hK10 _ _ ?_)
            refine gw_seq fun K168 hK168 => ?_
            refine wp_region_lit ?_
            refine gw_ev HF167 (want_none rfl) rfl (by decide) (op_move rfl (HF167.ev rfl)) ?_
            intro a169 HF170; clear HF167
            refine gw_ev HF170 (want_none rfl) rfl (by decide) (op_field (gwfld45_1 _ _) rfl (HF170.ev rfl)) ?_
            intro a171 HF172; clear HF170
            refine gw_ev HF172 (want_none rfl) rfl (by decide) (op_load1 gwagg9 rfl (HF172.ev rfl) (blk_at (HO7.get 0 rfl) rfl)) ?_
            intro a173 HF174; clear HF172
            have HO183 : Own w0 _ [(Chunk.all [Chunk.blk g2 (.cells #[.int .i64 kd, .string nm, .string dest, .int .i64 n, .slice Ay y.length cy, .slice A5 n5 c5] 45 (0, 0)), R]), Chunk.disk w0.heap.size gd S d] := Own.bundle (A := [Chunk.blk g2 (.cells #[.int .i64 kd, .string nm, .string dest, .int .i64 n, .slice Ay y.length cy, .slice A5 n5 c5] 45 (0, 0)), R]) (L := [Chunk.disk w0.heap.size gd S d]) (HO7.sel [0, 1, 2] (by decide))
            refine gw_call HF174 (want_none rfl) rfl (by decide) (op_callL Try.func20 (by kernel_rfl) rfl rfl (ar_cons (HF174.ev rfl) (ar_cons (HF174.ev rfl) ar_nil))) (remove_calls w0 _ (Chunk.all [Chunk.blk g2 (.cells #[.int .i64 kd, .string nm, .string dest, .int .i64 n, .slice Ay y.length cy, .slice A5 n5 c5] 45 (0, 0)), R]) gd S d nm hw hn (by exact HO183)) ?_
            rintro e177 w178 ⟨rfl, S175, hb179⟩
            refine ⟨_, rfl, fun a180 HF181 => ?_⟩
            have HO182 : Own w0 w178 [Chunk.blk g2 (.cells #[.int .i64 kd, .string nm, .string dest, .int .i64 n, .slice Ay y.length cy, .slice A5 n5 c5] 45 (0, 0)), R, Chunk.disk w0.heap.size gd S175 ((removeD nm d).1)] := Own.unbundle (A := [Chunk.blk g2 (.cells #[.int .i64 kd, .string nm, .string dest, .int .i64 n, .slice Ay y.length cy, .slice A5 n5 c5] 45 (0, 0)), R]) (L := [Chunk.disk w0.heap.size gd S175 ((removeD nm d).1)]) (hb179.sel [0, 1] (by decide))
            clear HO183
            clear HF174 HO7 hb179
            have HO185 : Own w0 w178 [Chunk.blk g2 (.cells #[.int .i64 kd, .string nm, .string dest, .int .i64 n, .slice Ay y.length cy, .slice A5 n5 c5] 45 (0, 0)), R, Chunk.disk w0.heap.size gd S175 ((removeD nm d).1)] := HO182
            clear HO182
            have hwf176 : wfD ((removeD nm d).1) := wf_remove hw
            refine gw_ev HF181 (want_none rfl) rfl (by decide) (op_assign rfl (HF181.ev rfl)) ?_
            intro a186 HF187; clear HF181
            refine wpList_nil ?_
            refine gw_nx (hK168 _ _ ?_)
            refine wp_ret ?_
            refine gw_ret1 HF187 rfl rfl ?_
            rw [does6 hk1 hk2 hk3 hk4 hk5]
            exact ⟨rfl, _, HO185.sel [1, 2] (by decide)⟩
set_option maxHeartbeats 4000000 in
set_option maxRecDepth 100000 in
theorem VfsRoom_walk (room : Int) (A1 : Option Addr) (c1 : Nat) (script : List S45) (w : World) (hr1c : Kd.C k45 w A1 script.length script) (hc1 : script.length ≤ c1) (hl : script.length ≤ 4000000000000) (hz : ∀ x ∈ script, x.f1.size ≤ 9223372036854775807 ∧ x.f2.size ≤ 9223372036854775807) :
    Calls Try.prog 6 #[.int .i64 room, .slice A1 script.length c1] w fun e w' => e = .returned (.bool true) ∧ Below w.heap.size w w' := by
  refine gw_start (N := 126) (vs := [.int .i64 room, .slice A1 script.length c1]) Try.func6 rfl rfl (by simp) fun a HF HO => ?_
  replace HO : Own w w [] := HO
  refine gw_seq fun K1 hK1 => ?_
  refine wp_region_lit ?_
  refine gw_ev HF (want_none rfl) rfl (by decide) (op_assign rfl (ev_c _ _)) ?_
  intro a2 HF3; clear HF
  refine wpList_nil ?_
  refine gw_nx (hK1 _ _ ?_)
  refine gw_seq fun K4 hK4 => ?_
  refine wp_region_lit ?_
  refine gw_ev HF3 (want_none rfl) rfl (by decide) (op_move rfl (HF3.ev rfl)) ?_
  intro a5 HF6; clear HF3
  refine gw_ev HF6 (want_none rfl) rfl (by decide) (op_and rfl (HF6.ev rfl) (ev_c _ _)) ?_
  intro a7 HF8; clear HF6
  obtain ⟨rm, hrm, hr1, hr2⟩ : ∃ rm : Int, bits .and .i64 room 255 = rm ∧ 0 ≤ rm ∧ rm ≤ 255 := ⟨_, rfl, and_low room 255 (by decide)⟩
  have HF9 := HF8.conv (v' := .int .i64 rm) (congrArg (Value.int .i64) hrm)
  clear HF8
  refine gw_ev HF9 (want_none rfl) rfl (by decide) (op_assign rfl (HF9.ev rfl)) ?_
  intro a10 HF11; clear HF9
  refine wpList_nil ?_
  refine gw_nx (hK4 _ _ ?_)
  refine gw_seq fun K12 hK12 => ?_
  refine wp_region_lit ?_
  refine gw_ev HF11 (want_none rfl) rfl (by decide) (op_move rfl (HF11.ev rfl)) ?_
  intro a13 HF14; clear HF11
  have HO24 : Own w _ [(Chunk.all [])] := Own.bundle (A := []) (L := []) (HO.sel [] (by decide))
  refine gw_call HF14 (want_none rfl) rfl (by decide) (op_callL Try.func11 (by kernel_rfl) rfl rfl (ar_cons (HF14.ev rfl) ar_nil)) (new_own w _ (Chunk.all []) rm (by exact HO24)) ?_
  rintro e18 w19 ⟨gd15, S16, rfl, hb20⟩
  refine ⟨_, rfl, fun a21 HF22 => ?_⟩
  have HO23 : Own w w19 [Chunk.disk w.heap.size gd15 S16 (newD rm)] := Own.unbundle (A := []) (L := [Chunk.disk w.heap.size gd15 S16 (newD rm)]) (hb20.sel [0, 1] (by decide))
  clear HO24
  clear HF14 HO hb20
  have HO26 : Own w w19 [Chunk.disk w.heap.size gd15 S16 (newD rm)] := HO23
  clear HO23
  have hwf17 : wfD (newD rm) := wf_new (by omega)
  refine gw_ev HF22 (want_none rfl) rfl (by decide) (op_assign rfl (HF22.ev rfl)) ?_
  intro a27 HF28; clear HF22
  refine wpList_nil ?_
  refine gw_nx (hK12 _ _ ?_)
  refine gw_seq fun K29 hK29 => ?_
  refine gw_seq fun K30 hK30 => ?_
  refine wp_region_lit ?_
  refine gw_ev HF28 (want_none rfl) rfl (by decide) (op_move rfl (HF28.ev rfl)) ?_
  intro a31 HF32; clear HF28
  refine gw_ev HF32 (want_none rfl) rfl (by decide) (op_eqp_nil Try.underlying23 rfl (HF32.ev rfl)) ?_
  intro a33 HF34; clear HF32
  refine gw_ev HF34 (want_none rfl) rfl (by decide) (op_move rfl (HF34.ev rfl)) ?_
  intro a35 HF36; clear HF34
  refine gw_call HF36 (want_yes HF36 rfl rfl rfl rfl) rfl (by decide) (op_callL Try.func12 (by kernel_rfl) rfl rfl ar_nil) (alive_calls _) ?_
  rintro e37 w38 ⟨rfl, hb39⟩
  refine ⟨_, rfl, fun a40 HF41 => ?_⟩
  have HO42 := HO26.after hb39
  clear HF36 HO26 hb39
  refine gw_ev HF41 (want_yes HF41 rfl rfl rfl rfl) rfl (by decide) (op_not rfl (HF41.ev rfl)) ?_
  intro a44 HF45; clear HF41
  refine gw_ev HF45 (want_none rfl) rfl (by decide) (op_pick_f rfl (HF45.ev rfl) (HF45.ev rfl)) ?_
  intro a46 HF47; clear HF45
  refine wpList_nil ?_
  refine gw_nx (hK30 _ _ ?_)
  refine gw_cond HF47 rfl (fun hb48 => ?_) (fun hb48 => ?_)
  skip
  · cases hb48
  refine wp_skip ?_
  refine gw_nx (hK29 _ _ ?_)
  refine gw_seq fun K49 hK49 => ?_
  refine gw_seq fun K50 hK50 => ?_
  refine wp_region_lit ?_
  refine gw_ev HF47 (want_none rfl) rfl (by decide) (op_move rfl (HF47.ev rfl)) ?_
  intro a51 HF52; clear HF47
  refine gw_ev HF52 (want_none rfl) rfl (by decide) (op_len Try.underlying43 rfl (HF52.ev rfl)) ?_
  intro a53 HF54; clear HF52
  refine gw_ev HF54 (want_none rfl) rfl (by decide) (op_move rfl (ev_c _ _)) ?_
  intro a55 HF56; clear HF54
  refine wpList_nil ?_
  refine gw_nx (hK50 _ _ ?_)
  refine wp_block ?_
  refine gw_loop (fun m_ a_ w_ => ∃ (i : Int) (d : PD) (Sd : Nat → Prop), Fr 126 a_ [(27, .int .i64 i), (0, .int .i64 rm), (5, .pointer (some ⟨gd15, 0, none⟩)), (25, .slice A1 script.length c1), (26, .int .i64 (script.length : Int))] ∧ Own w w_ [Chunk.disk w.heap.size gd15 Sd d] ∧ (0 ≤ i ∧ i ≤ script.length) ∧ (JR d rm (mn i 100)) ∧ m_ = (script.length - i.toNat)) ((script.length - (0 : Int).toNat)) ?_ ?_
  · refine ⟨0, (newD rm), S16, (HF56.pick (t := 27) rfl (HF56.pick (t := 0) rfl (HF56.pick (t := 5) rfl (HF56.pick (t := 25) rfl (HF56.pick (t := 26) rfl HF56.nil))))), HO42.sel [0] (by decide), ?_, ?_, rfl⟩
    · omega
    · exact ⟨wf_new (by omega), rfl, rfl, by show mx rm 0 = rm; unfold mx; split <;> omega, Int.le_refl _⟩
  · rintro m58 a59 w60 ⟨i, d, Sd, HF61, HO62, hi, hJ, hm63⟩
    have hmn : mn i 100 ≤ 100 := by unfold mn; split <;> omega
    refine gw_seq fun K64 hK64 => ?_
    refine wp_region_lit ?_
    refine gw_ev HF61 (want_none rfl) rfl (by decide) (op_lss rfl (HF61.ev rfl) (HF61.ev rfl)) ?_
    intro a65 HF66; clear HF61
    refine wpList_nil ?_
    refine gw_nx (hK64 _ _ ?_)
    refine gw_seq fun K67 hK67 => ?_
    refine gw_cond HF66 rfl (fun hb68 => ?_) (fun hb68 => ?_)
    · skip
      have HF69 := HF66.subst_ (d := 28) (b := true) rfl hb68
      clear HF66
      (try simp only [Bool.and_eq_true, Bool.or_eq_true, Bool.and_eq_false_iff, Bool.or_eq_false_iff, Bool.not_and, Bool.not_or, Bool.not_not, decide_eq_true_eq, decide_eq_false_iff_not, Bool.not_eq_true', Bool.not_eq_false', Bool.not_eq_true, Bool.not_eq_false, ne_eq, Decidable.not_not, Int.not_lt, Int.not_le, not_true_eq_false, not_false_eq_true, bne_iff_ne, beq_iff_eq, bne_eq_false_iff_eq, beq_eq_false_iff_ne] at hb68)
      refine wp_skip ?_
      refine gw_nx (hK67 _ _ ?_)
      refine gw_seq fun K70 hK70 => ?_
      refine wp_block ?_
      refine gw_seq fun K71 hK71 => ?_
      refine wp_region_lit ?_
      refine gw_ev HF69 (want_none rfl) rfl (by decide) (op_move rfl (HF69.ev rfl)) ?_
      intro a72 HF73; clear HF69
      obtain ⟨ad74, cs77, hA75, hl78, hK79, hc76⟩ := Kd.C_get hr1c z45 i (by omega) (by omega)
      obtain ⟨A80, c81, A84, c85, rfl, hl82, hC83, hl86, hC87⟩ := k45_open hK79
      clear hl78
      refine gw_ev HF73 (want_none rfl) rfl (by decide) (op_index Try.underlying43 gwsiz45 rfl (HF73.ev rfl) (HF73.ev rfl) hA75 (⟨by omega, by omega⟩)) ?_
      intro a88 HF89; clear HF73
      refine gw_ev HF89 (want_none rfl) rfl (by decide) (op_loadc gwagg45 gwsiz45 rfl (HF89.ev rfl) rfl (cells0 HO62 hc76)) ?_
      intro a90 HF91; clear HF89
      refine gw_new HF91 HO62 (want_none rfl) rfl (by decide) (op_alloc gwzer45 rfl) ?_
      intro g92 a93 w94 HF95 HO96; clear HF91 HO62
      have HO97 : Own w w94 [Chunk.blk g92 (.cells #[.int .i64 0, .string (⟨#[]⟩ : ByteArray), .string (⟨#[]⟩ : ByteArray), .int .i64 0, .slice none 0 0, .slice none 0 0] 45 (0, 0)), Chunk.disk w.heap.size gd15 Sd d] := HO96
      clear HO96
      refine gw_ev HF95 (want_none rfl) rfl (by decide) (op_assign rfl (HF95.ev rfl)) ?_
      intro a98 HF99; clear HF95
      refine gw_setn 0 HF99 HO97 rfl (want_none rfl) rfl (op_storen gwsiz45 rfl (HF99.ev rfl) (HF99.ev rfl) (HO97.get 0 rfl) rfl (by simp) (by simp [Value.oneCell'])) ?_
      intro a100 w102 HF101 HO103; clear HF99 HO97
      have HO104 : Own w w102 [Chunk.blk g92 (.cells #[.int .i64 ((script.getD i.toNat z45).f0), .string ((script.getD i.toNat z45).f1), .string ((script.getD i.toNat z45).f2), .int .i64 ((script.getD i.toNat z45).f3), .slice A80 ((script.getD i.toNat z45).f4.length) c81, .slice A84 ((script.getD i.toNat z45).f5.length) c85] 45 (0, 0)), Chunk.disk w.heap.size gd15 Sd d] := HO103
      clear HO103
      refine wpList_nil ?_
      refine gw_nx (hK71 _ _ ?_)
      refine gw_seq fun K105 hK105 => ?_
      refine gw_seq fun K106 hK106 => ?_
      refine wp_region_lit ?_
      refine gw_ev HF101 (want_none rfl) rfl (by decide) (op_move rfl (HF101.ev rfl)) ?_
      intro a107 HF108; clear HF101
      refine gw_ev HF108 (want_none rfl) rfl (by decide) (op_geq rfl (HF108.ev rfl) (ev_c _ _)) ?_
      intro a109 HF110; clear HF108
      refine gw_ev HF110 (want_none rfl) rfl (by decide) (op_move rfl (HF110.ev rfl)) ?_
      intro a111 HF112; clear HF110
      refine gw_evG HF112 rfl rfl rfl rfl (on_f _) rfl (by decide) (fun h_ => (op_field (gwfld45_4 _ _) rfl (HF112.ev rfl))) ?_
      intro a113 HF114; clear HF112
      refine gw_evG HF114 rfl rfl rfl rfl (on_f _) rfl (by decide) (fun h_ => (op_load1 gwagg28 rfl (ev_gv (HF114.ev rfl) h_) (blk_at (HO104.get 0 rfl) rfl))) ?_
      intro a115 HF116; clear HF114
      refine gw_evG HF116 rfl rfl rfl rfl (on_f _) rfl (by decide) (fun h_ => (op_len Try.underlying28 rfl (ev_gv (HF116.ev rfl) h_))) ?_
      intro a117 HF118; clear HF116
      refine gw_evG HF118 rfl rfl rfl rfl (on_f _) rfl (by decide) (fun h_ => (op_gtr rfl (ev_gv (HF118.ev rfl) h_) (ev_c _ _))) ?_
      intro a119 HF120; clear HF118
      refine gw_ev HF120 (want_none rfl) rfl (by decide) (op_pick_or rfl (HF120.ev rfl) (ev_c _ _) (fun hp_ => (ev_gv (HF120.ev rfl) (not_t hp_)))) ?_
      intro a121 HF122; clear HF120
      refine wpList_nil ?_
      refine gw_nx (hK106 _ _ ?_)
      refine gw_cond HF122 rfl (fun hb123 => ?_) (fun hb123 => ?_)
      · skip
        have HF124 := HF122.subst_ (d := 39) (b := true) rfl hb123
        clear HF122
        (try simp only [Bool.and_eq_true, Bool.or_eq_true, Bool.and_eq_false_iff, Bool.or_eq_false_iff, Bool.not_and, Bool.not_or, Bool.not_not, decide_eq_true_eq, decide_eq_false_iff_not, Bool.not_eq_true', Bool.not_eq_false', Bool.not_eq_true, Bool.not_eq_false, ne_eq, Decidable.not_not, Int.not_lt, Int.not_le, not_true_eq_false, not_false_eq_true, bne_iff_ne, beq_iff_eq, bne_eq_false_iff_eq, beq_eq_false_iff_ne] at hb123)
        refine wp_exit ?_
        refine gw_thx ?_
        refine gw_in ?_
        refine gw_nx (hK70 _ _ ?_)
        refine wp_region_lit ?_
        refine gw_ev HF124 (want_none rfl) rfl (by decide) (op_add rfl (HF124.ev rfl) (ev_c _ _) (by omega)) ?_
        intro a125 HF126; clear HF124
        refine gw_ev HF126 (want_none rfl) rfl (by decide) (op_move rfl (HF126.ev rfl)) ?_
        intro a127 HF128; clear HF126
        refine wpList_nil ?_
        refine gw_nx ⟨_, ?_, i + 1, d, Sd, (HF128.pick (t := 27) rfl (HF128.pick (t := 0) rfl (HF128.pick (t := 5) rfl (HF128.pick (t := 25) rfl (HF128.pick (t := 26) rfl HF128.nil))))), HO104.sel [1] (by decide), ?_, ?_, rfl⟩
        · rw [hm63]; omega
        · omega
        · exact hJ.more (by unfold mn; (repeat' split) <;> omega)
      · skip
        have HF129 := HF122.subst_ (d := 39) (b := false) rfl hb123
        clear HF122
        (try simp only [Bool.and_eq_true, Bool.or_eq_true, Bool.and_eq_false_iff, Bool.or_eq_false_iff, Bool.not_and, Bool.not_or, Bool.not_not, decide_eq_true_eq, decide_eq_false_iff_not, Bool.not_eq_true', Bool.not_eq_false', Bool.not_eq_true, Bool.not_eq_false, ne_eq, Decidable.not_not, Int.not_lt, Int.not_le, not_true_eq_false, not_false_eq_true, bne_iff_ne, beq_iff_eq, bne_eq_false_iff_eq, beq_eq_false_iff_ne] at hb123)
        have hmi : mn i 100 = i := by unfold mn; split <;> omega
        rw [hmi] at hJ
        have hzx := hz _ (getD_mem (z := z45) script i.toNat (by omega))
        have hJm := hJ.wf.most
        have hJr := hJ.most
        have hJu := hJ.wf.used
        refine wp_skip ?_
        refine gw_nx (hK105 _ _ ?_)
        refine gw_seq fun K130 hK130 => ?_
        refine wp_region_lit ?_
        refine gw_ev HF129 (want_none rfl) rfl (by decide) (op_move rfl (HF129.ev rfl)) ?_
        intro a131 HF132; clear HF129
        refine gw_call HF132 (want_none rfl) rfl (by decide) (op_callL Try.func24 (by kernel_rfl) rfl rfl (ar_cons (HF132.ev rfl) ar_nil)) (room_calls w.heap.size gd15 Sd d _ (HO104.get 1 rfl) hJ.wf) ?_
        rintro e133 w134 ⟨rfl, hb135⟩
        refine ⟨_, rfl, fun a136 HF137 => ?_⟩
        have HO138 := HO104.after hb135
        clear HF132 HO104 hb135
        refine gw_ev HF137 (want_none rfl) rfl (by decide) (op_assign rfl (HF137.ev rfl)) ?_
        intro a140 HF141; clear HF137
        refine wpList_nil ?_
        refine gw_nx (hK130 _ _ ?_)
        refine gw_seq fun K142 hK142 => ?_
        refine wp_region_lit ?_
        refine gw_ev HF141 (want_none rfl) rfl (by decide) (op_assign rfl (ev_c _ _)) ?_
        intro a143 HF144; clear HF141
        refine wpList_nil ?_
        refine gw_nx (hK142 _ _ ?_)
        refine gw_seq fun K145 hK145 => ?_
        refine gw_seq fun K146 hK146 => ?_
        refine wp_region_lit ?_
        refine gw_ev HF144 (want_none rfl) rfl (by decide) (op_field (gwfld45_0 _ _) rfl (HF144.ev rfl)) ?_
        intro a147 HF148; clear HF144
        refine gw_ev HF148 (want_none rfl) rfl (by decide) (op_load1 gwagg3 rfl (HF148.ev rfl) (blk_at (HO138.get 0 rfl) rfl)) ?_
        intro a149 HF150; clear HF148
        refine gw_ev HF150 (want_none rfl) rfl (by decide) (op_geq rfl (HF150.ev rfl) (ev_c _ _)) ?_
        intro a151 HF152; clear HF150
        refine gw_ev HF152 (want_none rfl) rfl (by decide) (op_move rfl (HF152.ev rfl)) ?_
        intro a153 HF154; clear HF152
        refine gw_evG HF154 rfl rfl rfl rfl (on_t _) rfl (by decide) (fun h_ => (op_field (gwfld45_0 _ _) rfl (HF154.ev rfl))) ?_
        intro a155 HF156; clear HF154
        refine gw_evG HF156 rfl rfl rfl rfl (on_t _) rfl (by decide) (fun h_ => (op_load1 gwagg3 rfl (ev_gv (HF156.ev rfl) h_) (blk_at (HO138.get 0 rfl) rfl))) ?_
        intro a157 HF158; clear HF156
        refine gw_evG HF158 rfl rfl rfl rfl (on_t _) rfl (by decide) (fun h_ => (op_leq rfl (ev_gv (HF158.ev rfl) h_) (ev_c _ _))) ?_
        intro a159 HF160; clear HF158
        refine gw_ev HF160 (want_none rfl) rfl (by decide) (op_pick_and rfl (HF160.ev rfl) (fun hp_ => (ev_gv (HF160.ev rfl) hp_)) (ev_c _ _)) ?_
        intro a161 HF162; clear HF160
        refine wpList_nil ?_
        refine gw_nx (hK146 _ _ ?_)
        refine gw_cond HF162 rfl (fun hb163 => ?_) (fun hb163 => ?_)
        · skip
          have HF164 := HF162.subst_ (d := 49) (b := true) rfl hb163
          clear HF162
          (try simp only [Bool.and_eq_true, Bool.or_eq_true, Bool.and_eq_false_iff, Bool.or_eq_false_iff, Bool.not_and, Bool.not_or, Bool.not_not, decide_eq_true_eq, decide_eq_false_iff_not, Bool.not_eq_true', Bool.not_eq_false', Bool.not_eq_true, Bool.not_eq_false, ne_eq, Decidable.not_not, Int.not_lt, Int.not_le, not_true_eq_false, not_false_eq_true, bne_iff_ne, beq_iff_eq, bne_eq_false_iff_eq, beq_eq_false_iff_ne] at hb163)
          refine wp_region_lit ?_
          refine gw_ev HF164 (want_none rfl) rfl (by decide) (op_move rfl (HF164.ev rfl)) ?_
          intro a165 HF166; clear HF164
          refine gw_ev HF166 (want_none rfl) rfl (by decide) (op_loadn gwagg45 gwsiz45 rfl (HF166.ev rfl) (HO138.get 0 rfl) rfl rfl) ?_
          intro a167 HF168; clear HF166
          have HO177 : Own w _ [(Chunk.all [Chunk.blk g92 (.cells #[.int .i64 ((script.getD i.toNat z45).f0), .string ((script.getD i.toNat z45).f1), .string ((script.getD i.toNat z45).f2), .int .i64 ((script.getD i.toNat z45).f3), .slice A80 ((script.getD i.toNat z45).f4.length) c81, .slice A84 ((script.getD i.toNat z45).f5.length) c85] 45 (0, 0))]), Chunk.disk w.heap.size gd15 Sd d] := Own.bundle (A := [Chunk.blk g92 (.cells #[.int .i64 ((script.getD i.toNat z45).f0), .string ((script.getD i.toNat z45).f1), .string ((script.getD i.toNat z45).f2), .int .i64 ((script.getD i.toNat z45).f3), .slice A80 ((script.getD i.toNat z45).f4.length) c81, .slice A84 ((script.getD i.toNat z45).f5.length) c85] 45 (0, 0))]) (L := [Chunk.disk w.heap.size gd15 Sd d]) (HO138.sel [0, 1] (by decide))
          refine gw_call HF168 (want_none rfl) rfl (by decide) (op_callL Try.func25 (by kernel_rfl) rfl rfl (ar_cons (HF168.ev rfl) (ar_cons (HF168.ev rfl) ar_nil))) (does_calls w _ (Chunk.all [Chunk.blk g92 (.cells #[.int .i64 ((script.getD i.toNat z45).f0), .string ((script.getD i.toNat z45).f1), .string ((script.getD i.toNat z45).f2), .int .i64 ((script.getD i.toNat z45).f3), .slice A80 ((script.getD i.toNat z45).f4.length) c81, .slice A84 ((script.getD i.toNat z45).f5.length) c85] 45 (0, 0))]) gd15 Sd d ((script.getD i.toNat z45).f0) ((script.getD i.toNat z45).f1) ((script.getD i.toNat z45).f2) ((script.getD i.toNat z45).f3) A80 c81 ((script.getD i.toNat z45).f4) (fun w_ h_ => Kd.C_below hC83 h_.below) hl82 A84 ((script.getD i.toNat z45).f5.length) c85 hJ.wf hzx.1 hzx.2 (by have h_ := hJ.len; omega) (by have h1_ := hJ.wf.most; have h2_ := hJ.most; omega) (by exact HO177)) ?_
          rintro e171 w172 ⟨rfl, S169, hb173⟩
          refine ⟨_, rfl, fun a174 HF175 => ?_⟩
          have HO176 : Own w w172 [Chunk.blk g92 (.cells #[.int .i64 ((script.getD i.toNat z45).f0), .string ((script.getD i.toNat z45).f1), .string ((script.getD i.toNat z45).f2), .int .i64 ((script.getD i.toNat z45).f3), .slice A80 ((script.getD i.toNat z45).f4.length) c81, .slice A84 ((script.getD i.toNat z45).f5.length) c85] 45 (0, 0)), Chunk.disk w.heap.size gd15 S169 ((doesD ((script.getD i.toNat z45).f0) ((script.getD i.toNat z45).f1) ((script.getD i.toNat z45).f2) ((script.getD i.toNat z45).f3) ((script.getD i.toNat z45).f4) d).1)] := Own.unbundle (A := [Chunk.blk g92 (.cells #[.int .i64 ((script.getD i.toNat z45).f0), .string ((script.getD i.toNat z45).f1), .string ((script.getD i.toNat z45).f2), .int .i64 ((script.getD i.toNat z45).f3), .slice A80 ((script.getD i.toNat z45).f4.length) c81, .slice A84 ((script.getD i.toNat z45).f5.length) c85] 45 (0, 0))]) (L := [Chunk.disk w.heap.size gd15 S169 ((doesD ((script.getD i.toNat z45).f0) ((script.getD i.toNat z45).f1) ((script.getD i.toNat z45).f2) ((script.getD i.toNat z45).f3) ((script.getD i.toNat z45).f4) d).1)]) (hb173.sel [0, 1] (by decide))
          clear HO177
          clear HF168 HO138 hb173
          have HO179 : Own w w172 [Chunk.blk g92 (.cells #[.int .i64 ((script.getD i.toNat z45).f0), .string ((script.getD i.toNat z45).f1), .string ((script.getD i.toNat z45).f2), .int .i64 ((script.getD i.toNat z45).f3), .slice A80 ((script.getD i.toNat z45).f4.length) c81, .slice A84 ((script.getD i.toNat z45).f5.length) c85] 45 (0, 0)), Chunk.disk w.heap.size gd15 S169 ((doesD ((script.getD i.toNat z45).f0) ((script.getD i.toNat z45).f1) ((script.getD i.toNat z45).f2) ((script.getD i.toNat z45).f3) ((script.getD i.toNat z45).f4) d).1)] := HO176
          clear HO176
          have hJn : JR (doesD ((script.getD i.toNat z45).f0) ((script.getD i.toNat z45).f1) ((script.getD i.toNat z45).f2) ((script.getD i.toNat z45).f3) ((script.getD i.toNat z45).f4) d).1 rm (i + 1) := hJ.does
          have hA : (script.getD i.toNat z45).f0 = 2 → (doesD ((script.getD i.toNat z45).f0) ((script.getD i.toNat z45).f1) ((script.getD i.toNat z45).f2) ((script.getD i.toNat z45).f3) ((script.getD i.toNat z45).f4) d).2 = 0 → (doesD ((script.getD i.toNat z45).f0) ((script.getD i.toNat z45).f1) ((script.getD i.toNat z45).f2) ((script.getD i.toNat z45).f3) ((script.getD i.toNat z45).f4) d).1.used = d.used + ((script.getD i.toNat z45).f4).length := fun hk_ => hJ.does2 hk_
          have hB : (doesD ((script.getD i.toNat z45).f0) ((script.getD i.toNat z45).f1) ((script.getD i.toNat z45).f2) ((script.getD i.toNat z45).f3) ((script.getD i.toNat z45).f4) d).2 = 71 → (doesD ((script.getD i.toNat z45).f0) ((script.getD i.toNat z45).f1) ((script.getD i.toNat z45).f2) ((script.getD i.toNat z45).f3) ((script.getD i.toNat z45).f4) d).1 = d ∧ d.most - d.used < ((script.getD i.toNat z45).f4).length := hJ.full
          refine gw_ev HF175 (want_none rfl) rfl (by decide) (op_assign rfl (HF175.ev rfl)) ?_
          intro a180 HF181; clear HF175
          refine wpList_nil ?_
          refine gw_nx (hK145 _ _ ?_)
          refine gw_seq fun K182 hK182 => ?_
          refine wp_region_lit ?_
          refine gw_ev HF181 (want_none rfl) rfl (by decide) (op_assign rfl (ev_c _ _)) ?_
          intro a183 HF184; clear HF181
          refine wpList_nil ?_
          refine gw_nx (hK182 _ _ ?_)
          refine gw_seq fun K185 hK185 => ?_
          refine gw_seq fun K186 hK186 => ?_
          refine wp_region_lit ?_
          refine gw_ev HF184 (want_none rfl) rfl (by decide) (op_move rfl (HF184.ev rfl)) ?_
          intro a187 HF188; clear HF184
          refine gw_call HF188 (want_none rfl) rfl (by decide) (op_callL Try.func22 (by kernel_rfl) rfl rfl (ar_cons (HF188.ev rfl) ar_nil)) (names_calls w.heap.size gd15 S169 ((doesD ((script.getD i.toNat z45).f0) ((script.getD i.toNat z45).f1) ((script.getD i.toNat z45).f2) ((script.getD i.toNat z45).f3) ((script.getD i.toNat z45).f4) d).1) _ (by exact HO179.get 1 rfl) (by have h_ := hJn.len; omega)) ?_
          rintro e192 w193 ⟨A189, c190, S191, rfl, hb194⟩
          refine ⟨_, rfl, fun a195 HF196 => ?_⟩
          have HO197 := HO179.fresh hb194
          have hbel198 := HO179.below
          clear HF188 HO179 hb194
          have HO199 := HO197.lowrow 0 rfl (base' := w.heap.size) (Below.size hbel198)
          have HO200 : Own w w193 [Chunk.row Kd.string 9 w.heap.size S191 (.slice A189 ((namesD ((doesD ((script.getD i.toNat z45).f0) ((script.getD i.toNat z45).f1) ((script.getD i.toNat z45).f2) ((script.getD i.toNat z45).f3) ((script.getD i.toNat z45).f4) d).1)).length) c190) (namesD ((doesD ((script.getD i.toNat z45).f0) ((script.getD i.toNat z45).f1) ((script.getD i.toNat z45).f2) ((script.getD i.toNat z45).f3) ((script.getD i.toNat z45).f4) d).1)), Chunk.blk g92 (.cells #[.int .i64 ((script.getD i.toNat z45).f0), .string ((script.getD i.toNat z45).f1), .string ((script.getD i.toNat z45).f2), .int .i64 ((script.getD i.toNat z45).f3), .slice A80 ((script.getD i.toNat z45).f4.length) c81, .slice A84 ((script.getD i.toNat z45).f5.length) c85] 45 (0, 0)), Chunk.disk w.heap.size gd15 S169 ((doesD ((script.getD i.toNat z45).f0) ((script.getD i.toNat z45).f1) ((script.getD i.toNat z45).f2) ((script.getD i.toNat z45).f3) ((script.getD i.toNat z45).f4) d).1)] := HO199
          clear HO199
          have HO201 := HO200.row_view 0 rfl
          clear HO200
          have HO202 : Own w w193 [Chunk.view Kd.string S191 A189 ((namesD ((doesD ((script.getD i.toNat z45).f0) ((script.getD i.toNat z45).f1) ((script.getD i.toNat z45).f2) ((script.getD i.toNat z45).f3) ((script.getD i.toNat z45).f4) d).1)).length) c190 (namesD ((doesD ((script.getD i.toNat z45).f0) ((script.getD i.toNat z45).f1) ((script.getD i.toNat z45).f2) ((script.getD i.toNat z45).f3) ((script.getD i.toNat z45).f4) d).1)), Chunk.blk g92 (.cells #[.int .i64 ((script.getD i.toNat z45).f0), .string ((script.getD i.toNat z45).f1), .string ((script.getD i.toNat z45).f2), .int .i64 ((script.getD i.toNat z45).f3), .slice A80 ((script.getD i.toNat z45).f4.length) c81, .slice A84 ((script.getD i.toNat z45).f5.length) c85] 45 (0, 0)), Chunk.disk w.heap.size gd15 S169 ((doesD ((script.getD i.toNat z45).f0) ((script.getD i.toNat z45).f1) ((script.getD i.toNat z45).f2) ((script.getD i.toNat z45).f3) ((script.getD i.toNat z45).f4) d).1)] := HO201
          clear HO201
          refine gw_ev HF196 (want_none rfl) rfl (by decide) (op_len Try.underlying37 rfl (HF196.ev rfl)) ?_
          intro a203 HF204; clear HF196
          refine gw_ev HF204 (want_none rfl) rfl (by decide) (op_move rfl (ev_c _ _)) ?_
          intro a205 HF206; clear HF204
          refine wpList_nil ?_
          refine gw_nx (hK186 _ _ ?_)
          refine wp_block ?_
          refine gw_loop (fun m_ a_ w_ => ∃ (j : Int) (tot : Int), Fr 126 a_ [(63, .int .i64 j), (10, .int .i64 tot), (27, .int .i64 i), (0, .int .i64 rm), (5, .pointer (some ⟨gd15, 0, none⟩)), (25, .slice A1 script.length c1), (26, .int .i64 (script.length : Int)), (28, .bool true), (29, .int .i64 i), (30, .pointer (some (ad74.add (i.toNat * 6)))), (31, .agg #[.int .i64 ((script.getD i.toNat z45).f0), .string ((script.getD i.toNat z45).f1), .string ((script.getD i.toNat z45).f2), .int .i64 ((script.getD i.toNat z45).f3), .slice A80 ((script.getD i.toNat z45).f4.length) c81, .slice A84 ((script.getD i.toNat z45).f5.length) c85]), (7, .pointer (some ⟨g92, 0, none⟩)), (6, .int .i64 i), (32, .int .i64 i), (33, .bool (decide (100 ≤ i))), (34, .bool (decide (100 ≤ i))), (35, gv (!(decide (100 ≤ i))) (.pointer (some ⟨g92, 4, none⟩))), (36, gv (!(decide (100 ≤ i))) (.slice A80 ((script.getD i.toNat z45).f4.length) c81)), (37, gv (!(decide (100 ≤ i))) (.int .i64 (((script.getD i.toNat z45).f4.length) : Int))), (38, gv (!(decide (100 ≤ i))) (.bool (decide (1000 < (((script.getD i.toNat z45).f4.length) : Int))))), (39, .bool false), (40, .pointer (some ⟨gd15, 0, none⟩)), (41, .int .i64 (d.most - d.used)), (8, .int .i64 (d.most - d.used)), (42, .pointer (some ⟨g92, 0, none⟩)), (43, .int .i64 ((script.getD i.toNat z45).f0)), (44, .bool (decide (1 ≤ ((script.getD i.toNat z45).f0)))), (45, .bool (decide (1 ≤ ((script.getD i.toNat z45).f0)))), (46, gv (decide (1 ≤ ((script.getD i.toNat z45).f0))) (.pointer (some ⟨g92, 0, none⟩))), (47, gv (decide (1 ≤ ((script.getD i.toNat z45).f0))) (.int .i64 ((script.getD i.toNat z45).f0))), (48, gv (decide (1 ≤ ((script.getD i.toNat z45).f0))) (.bool (decide (((script.getD i.toNat z45).f0) ≤ 6)))), (49, .bool true), (50, .pointer (some ⟨gd15, 0, none⟩)), (51, .agg #[.int .i64 ((script.getD i.toNat z45).f0), .string ((script.getD i.toNat z45).f1), .string ((script.getD i.toNat z45).f2), .int .i64 ((script.getD i.toNat z45).f3), .slice A80 ((script.getD i.toNat z45).f4.length) c81, .slice A84 ((script.getD i.toNat z45).f5.length) c85]), (52, .int .i64 ((doesD ((script.getD i.toNat z45).f0) ((script.getD i.toNat z45).f1) ((script.getD i.toNat z45).f2) ((script.getD i.toNat z45).f3) ((script.getD i.toNat z45).f4) d).2)), (9, .int .i64 ((doesD ((script.getD i.toNat z45).f0) ((script.getD i.toNat z45).f1) ((script.getD i.toNat z45).f2) ((script.getD i.toNat z45).f3) ((script.getD i.toNat z45).f4) d).2)), (60, .pointer (some ⟨gd15, 0, none⟩)), (61, .slice A189 ((namesD ((doesD ((script.getD i.toNat z45).f0) ((script.getD i.toNat z45).f1) ((script.getD i.toNat z45).f2) ((script.getD i.toNat z45).f3) ((script.getD i.toNat z45).f4) d).1)).length) c190), (62, .int .i64 (((namesD ((doesD ((script.getD i.toNat z45).f0) ((script.getD i.toNat z45).f1) ((script.getD i.toNat z45).f2) ((script.getD i.toNat z45).f3) ((script.getD i.toNat z45).f4) d).1)).length) : Int))] ∧ Own w w_ [Chunk.view Kd.string S191 A189 ((namesD ((doesD ((script.getD i.toNat z45).f0) ((script.getD i.toNat z45).f1) ((script.getD i.toNat z45).f2) ((script.getD i.toNat z45).f3) ((script.getD i.toNat z45).f4) d).1)).length) c190 (namesD ((doesD ((script.getD i.toNat z45).f0) ((script.getD i.toNat z45).f1) ((script.getD i.toNat z45).f2) ((script.getD i.toNat z45).f3) ((script.getD i.toNat z45).f4) d).1)), Chunk.blk g92 (.cells #[.int .i64 ((script.getD i.toNat z45).f0), .string ((script.getD i.toNat z45).f1), .string ((script.getD i.toNat z45).f2), .int .i64 ((script.getD i.toNat z45).f3), .slice A80 ((script.getD i.toNat z45).f4.length) c81, .slice A84 ((script.getD i.toNat z45).f5.length) c85] 45 (0, 0)), Chunk.disk w.heap.size gd15 S169 ((doesD ((script.getD i.toNat z45).f0) ((script.getD i.toNat z45).f1) ((script.getD i.toNat z45).f2) ((script.getD i.toNat z45).f3) ((script.getD i.toNat z45).f4) d).1)] ∧ (0 ≤ j ∧ j ≤ (namesD ((doesD ((script.getD i.toNat z45).f0) ((script.getD i.toNat z45).f1) ((script.getD i.toNat z45).f2) ((script.getD i.toNat z45).f3) ((script.getD i.toNat z45).f4) d).1)).length) ∧ (tot = (totF (((doesD ((script.getD i.toNat z45).f0) ((script.getD i.toNat z45).f1) ((script.getD i.toNat z45).f2) ((script.getD i.toNat z45).f3) ((script.getD i.toNat z45).f4) d).1).fs.take j.toNat) : Nat)) ∧ m_ = ((namesD ((doesD ((script.getD i.toNat z45).f0) ((script.getD i.toNat z45).f1) ((script.getD i.toNat z45).f2) ((script.getD i.toNat z45).f3) ((script.getD i.toNat z45).f4) d).1)).length - j.toNat)) (((namesD ((doesD ((script.getD i.toNat z45).f0) ((script.getD i.toNat z45).f1) ((script.getD i.toNat z45).f2) ((script.getD i.toNat z45).f3) ((script.getD i.toNat z45).f4) d).1)).length - (0 : Int).toNat)) ?_ ?_
          · refine ⟨0, 0, (HF206.pick (t := 63) rfl (HF206.pick (t := 10) rfl (HF206.pick (t := 27) rfl (HF206.pick (t := 0) rfl (HF206.pick (t := 5) rfl (HF206.pick (t := 25) rfl (HF206.pick (t := 26) rfl (HF206.pick (t := 28) rfl (HF206.pick (t := 29) rfl (HF206.pick (t := 30) rfl (HF206.pick (t := 31) rfl (HF206.pick (t := 7) rfl (HF206.pick (t := 6) rfl (HF206.pick (t := 32) rfl (HF206.pick (t := 33) rfl (HF206.pick (t := 34) rfl (HF206.pick (t := 35) rfl (HF206.pick (t := 36) rfl (HF206.pick (t := 37) rfl (HF206.pick (t := 38) rfl (HF206.pick (t := 39) rfl (HF206.pick (t := 40) rfl (HF206.pick (t := 41) rfl (HF206.pick (t := 8) rfl (HF206.pick (t := 42) rfl (HF206.pick (t := 43) rfl (HF206.pick (t := 44) rfl (HF206.pick (t := 45) rfl (HF206.pick (t := 46) rfl (HF206.pick (t := 47) rfl (HF206.pick (t := 48) rfl (HF206.pick (t := 49) rfl (HF206.pick (t := 50) rfl (HF206.pick (t := 51) rfl (HF206.pick (t := 52) rfl (HF206.pick (t := 9) rfl (HF206.pick (t := 60) rfl (HF206.pick (t := 61) rfl (HF206.pick (t := 62) rfl HF206.nil))))))))))))))))))))))))))))))))))))))), HO202.sel [0, 1, 2] (by decide), ?_, ?_, rfl⟩
            · omega
            · rfl
          · rintro m208 a209 w210 ⟨j, tot, HF211, HO212, hj, htot, hm213⟩
            have hnl := names_len ((doesD ((script.getD i.toNat z45).f0) ((script.getD i.toNat z45).f1) ((script.getD i.toNat z45).f2) ((script.getD i.toNat z45).f3) ((script.getD i.toNat z45).f4) d).1)
            have hjl := hJn.len
            refine gw_seq fun K214 hK214 => ?_
            refine wp_region_lit ?_
            refine gw_ev HF211 (want_none rfl) rfl (by decide) (op_lss rfl (HF211.ev rfl) (HF211.ev rfl)) ?_
            intro a215 HF216; clear HF211
            refine wpList_nil ?_
            refine gw_nx (hK214 _ _ ?_)
            refine gw_seq fun K217 hK217 => ?_
            refine gw_cond HF216 rfl (fun hb218 => ?_) (fun hb218 => ?_)
            · skip
              have HF219 := HF216.subst_ (d := 64) (b := true) rfl hb218
              clear HF216
              (try simp only [Bool.and_eq_true, Bool.or_eq_true, Bool.and_eq_false_iff, Bool.or_eq_false_iff, Bool.not_and, Bool.not_or, Bool.not_not, decide_eq_true_eq, decide_eq_false_iff_not, Bool.not_eq_true', Bool.not_eq_false', Bool.not_eq_true, Bool.not_eq_false, ne_eq, Decidable.not_not, Int.not_lt, Int.not_le, not_true_eq_false, not_false_eq_true, bne_iff_ne, beq_iff_eq, bne_eq_false_iff_eq, beq_eq_false_iff_ne] at hb218)
              refine wp_skip ?_
              refine gw_nx (hK217 _ _ ?_)
              refine gw_seq fun K220 hK220 => ?_
              refine wp_block ?_
              refine gw_seq fun K221 hK221 => ?_
              refine wp_region_lit ?_
              have HO228 := HO212.pin 0 rfl
              clear HO212
              have HO229 : Own w w210 [Chunk.viewAt w210 Kd.string S191 A189 ((namesD ((doesD ((script.getD i.toNat z45).f0) ((script.getD i.toNat z45).f1) ((script.getD i.toNat z45).f2) ((script.getD i.toNat z45).f3) ((script.getD i.toNat z45).f4) d).1)).length) c190 (namesD ((doesD ((script.getD i.toNat z45).f0) ((script.getD i.toNat z45).f1) ((script.getD i.toNat z45).f2) ((script.getD i.toNat z45).f3) ((script.getD i.toNat z45).f4) d).1)), Chunk.blk g92 (.cells #[.int .i64 ((script.getD i.toNat z45).f0), .string ((script.getD i.toNat z45).f1), .string ((script.getD i.toNat z45).f2), .int .i64 ((script.getD i.toNat z45).f3), .slice A80 ((script.getD i.toNat z45).f4.length) c81, .slice A84 ((script.getD i.toNat z45).f5.length) c85] 45 (0, 0)), Chunk.disk w.heap.size gd15 S169 ((doesD ((script.getD i.toNat z45).f0) ((script.getD i.toNat z45).f1) ((script.getD i.toNat z45).f2) ((script.getD i.toNat z45).f3) ((script.getD i.toNat z45).f4) d).1)] := HO228
              clear HO228
              obtain ⟨ad222, cs225, hA223, hl226, hK227, hc224, _⟩ := Kd.F_get (viewAt_F (HO229.get 0 rfl)) (⟨#[]⟩ : ByteArray) j (by omega) (by omega)
              obtain rfl := str_openF hK227
              clear hl226
              refine gw_ev HF219 (want_none rfl) rfl (by decide) (op_index Try.underlying37 gwsiz9 rfl (HF219.ev rfl) (HF219.ev rfl) hA223 (⟨by omega, by omega⟩)) ?_
              intro a230 HF231; clear HF219
              refine gw_ev HF231 (want_none rfl) rfl (by decide) (op_load1 gwagg9 rfl (HF231.ev rfl) (((pin_cells (HO229.get 0 rfl) hA223 hc224) 0 _ rfl))) ?_
              intro a232 HF233; clear HF231
              refine gw_ev HF233 (want_none rfl) rfl (by decide) (op_assign rfl (HF233.ev rfl)) ?_
              intro a234 HF235; clear HF233
              refine wpList_nil ?_
              refine gw_nx (hK221 _ _ ?_)
              refine gw_seq fun K236 hK236 => ?_
              refine wp_region_lit ?_
              refine gw_ev HF235 (want_none rfl) rfl (by decide) (op_move rfl (HF235.ev rfl)) ?_
              intro a237 HF238; clear HF235
              refine gw_ev HF238 (want_none rfl) rfl (by decide) (op_move rfl (HF238.ev rfl)) ?_
              intro a239 HF240; clear HF238
              refine gw_call HF240 (want_none rfl) rfl (by decide) (op_callL Try.func18 (by kernel_rfl) rfl rfl (ar_cons (HF240.ev rfl) (ar_cons (HF240.ev rfl) ar_nil))) ((by have h_ := read_calls w.heap.size gd15 S169 ((doesD ((script.getD i.toNat z45).f0) ((script.getD i.toNat z45).f1) ((script.getD i.toNat z45).f2) ((script.getD i.toNat z45).f3) ((script.getD i.toNat z45).f4) d).1) ((namesD ((doesD ((script.getD i.toNat z45).f0) ((script.getD i.toNat z45).f1) ((script.getD i.toNat z45).f2) ((script.getD i.toNat z45).f3) ((script.getD i.toNat z45).f4) d).1)).getD j.toNat (⟨#[]⟩ : ByteArray)) _ (by exact HO229.get 2 rfl) (names_sz hJn.wf j.toNat) hJn.wf (by have h1_ := hJn.wf.most; have h2_ := hJn.most; omega); rw [show (readD ((namesD ((doesD ((script.getD i.toNat z45).f0) ((script.getD i.toNat z45).f1) ((script.getD i.toNat z45).f2) ((script.getD i.toNat z45).f3) ((script.getD i.toNat z45).f4) d).1)).getD j.toNat (⟨#[]⟩ : ByteArray)) ((doesD ((script.getD i.toNat z45).f0) ((script.getD i.toNat z45).f1) ((script.getD i.toNat z45).f2) ((script.getD i.toNat z45).f3) ((script.getD i.toNat z45).f4) d).1)) = ((((doesD ((script.getD i.toNat z45).f0) ((script.getD i.toNat z45).f1) ((script.getD i.toNat z45).f2) ((script.getD i.toNat z45).f3) ((script.getD i.toNat z45).f4) d).1).fs.getD j.toNat ⟨⟨#[]⟩, [], 0⟩).b, 0) from (read_at hJn.wf hJn.up j.toNat (by have h_ := names_len ((doesD ((script.getD i.toNat z45).f0) ((script.getD i.toNat z45).f1) ((script.getD i.toNat z45).f2) ((script.getD i.toNat z45).f3) ((script.getD i.toNat z45).f4) d).1); omega))] at h_; (try dsimp only at h_); exact h_)) ?_
              rintro e244 w245 ⟨A241, c242, S243, rfl, hb246⟩
              refine ⟨_, rfl, fun a247 HF248 => ?_⟩
              have HO249 := HO229.fresh hb246
              have hbel250 := HO229.below
              clear HF240 HO229 hb246
              have HO251 := HO249.lowrow 0 rfl (base' := w.heap.size) (Below.size hbel250)
              have HO252 : Own w w245 [Chunk.row (Kd.int .u8) 5 w.heap.size S243 (.slice A241 (((((doesD ((script.getD i.toNat z45).f0) ((script.getD i.toNat z45).f1) ((script.getD i.toNat z45).f2) ((script.getD i.toNat z45).f3) ((script.getD i.toNat z45).f4) d).1).fs.getD j.toNat ⟨⟨#[]⟩, [], 0⟩).b).length) c242) ((((doesD ((script.getD i.toNat z45).f0) ((script.getD i.toNat z45).f1) ((script.getD i.toNat z45).f2) ((script.getD i.toNat z45).f3) ((script.getD i.toNat z45).f4) d).1).fs.getD j.toNat ⟨⟨#[]⟩, [], 0⟩).b), Chunk.viewAt w210 Kd.string S191 A189 ((namesD ((doesD ((script.getD i.toNat z45).f0) ((script.getD i.toNat z45).f1) ((script.getD i.toNat z45).f2) ((script.getD i.toNat z45).f3) ((script.getD i.toNat z45).f4) d).1)).length) c190 (namesD ((doesD ((script.getD i.toNat z45).f0) ((script.getD i.toNat z45).f1) ((script.getD i.toNat z45).f2) ((script.getD i.toNat z45).f3) ((script.getD i.toNat z45).f4) d).1)), Chunk.blk g92 (.cells #[.int .i64 ((script.getD i.toNat z45).f0), .string ((script.getD i.toNat z45).f1), .string ((script.getD i.toNat z45).f2), .int .i64 ((script.getD i.toNat z45).f3), .slice A80 ((script.getD i.toNat z45).f4.length) c81, .slice A84 ((script.getD i.toNat z45).f5.length) c85] 45 (0, 0)), Chunk.disk w.heap.size gd15 S169 ((doesD ((script.getD i.toNat z45).f0) ((script.getD i.toNat z45).f1) ((script.getD i.toNat z45).f2) ((script.getD i.toNat z45).f3) ((script.getD i.toNat z45).f4) d).1)] := HO251
              clear HO251
              refine gw_ev HF248 (want_none rfl) rfl (by decide) (op_move rfl (HF248.ev rfl)) ?_
              intro a253 HF254; clear HF248
              refine gw_ev HF254 (want_none rfl) rfl (by decide) (op_extract rfl (HF254.ev rfl) rfl) ?_
              intro a255 HF256; clear HF254
              refine gw_ev HF256 (want_none rfl) rfl (by decide) (op_extract rfl (HF256.ev rfl) rfl) ?_
              intro a257 HF258; clear HF256
              refine gw_ev HF258 (want_none rfl) rfl (by decide) (op_assign rfl (HF258.ev rfl)) ?_
              intro a259 HF260; clear HF258
              refine gw_ev HF260 (want_none rfl) rfl (by decide) (op_assign rfl (HF260.ev rfl)) ?_
              intro a261 HF262; clear HF260
              refine wpList_nil ?_
              refine gw_nx (hK236 _ _ ?_)
              refine wp_region_lit ?_
              refine gw_ev HF262 (want_none rfl) rfl (by decide) (op_move rfl (HF262.ev rfl)) ?_
              intro a263 HF264; clear HF262
              refine gw_ev HF264 (want_none rfl) rfl (by decide) (op_move rfl (HF264.ev rfl)) ?_
              intro a265 HF266; clear HF264
              refine gw_ev HF266 (want_none rfl) rfl (by decide) (op_len Try.underlying28 rfl (HF266.ev rfl)) ?_
              intro a267 HF268; clear HF266
              refine gw_ev HF268 (want_none rfl) rfl (by decide) (op_add rfl (HF268.ev rfl) (HF268.ev rfl) (by have h1_ := tot_take ((doesD ((script.getD i.toNat z45).f0) ((script.getD i.toNat z45).f1) ((script.getD i.toNat z45).f2) ((script.getD i.toNat z45).f3) ((script.getD i.toNat z45).f4) d).1).fs j.toNat (by omega); have h2_ := tot_le ((doesD ((script.getD i.toNat z45).f0) ((script.getD i.toNat z45).f1) ((script.getD i.toNat z45).f2) ((script.getD i.toNat z45).f3) ((script.getD i.toNat z45).f4) d).1).fs (j.toNat + 1); have h3_ : ((doesD ((script.getD i.toNat z45).f0) ((script.getD i.toNat z45).f1) ((script.getD i.toNat z45).f2) ((script.getD i.toNat z45).f3) ((script.getD i.toNat z45).f4) d).1).used = (totF ((doesD ((script.getD i.toNat z45).f0) ((script.getD i.toNat z45).f1) ((script.getD i.toNat z45).f2) ((script.getD i.toNat z45).f3) ((script.getD i.toNat z45).f4) d).1).fs : Nat) := hJn.wf.used; have h4_ := hJn.wf.most; have h5_ := hJn.most; omega)) ?_
              intro a269 HF270; clear HF268
              refine gw_ev HF270 (want_none rfl) rfl (by decide) (op_assign rfl (HF270.ev rfl)) ?_
              intro a271 HF272; clear HF270
              refine wpList_nil ?_
              refine gw_blk ?_
              refine gw_nx (hK220 _ _ ?_)
              refine wp_region_lit ?_
              refine gw_ev HF272 (want_none rfl) rfl (by decide) (op_add rfl (HF272.ev rfl) (ev_c _ _) (by omega)) ?_
              intro a273 HF274; clear HF272
              refine gw_ev HF274 (want_none rfl) rfl (by decide) (op_move rfl (HF274.ev rfl)) ?_
              intro a275 HF276; clear HF274
              refine wpList_nil ?_
              have HO277 := HO252.unpin 1 rfl
              clear HO252
              have HO278 : Own w w245 [Chunk.row (Kd.int .u8) 5 w.heap.size S243 (.slice A241 (((((doesD ((script.getD i.toNat z45).f0) ((script.getD i.toNat z45).f1) ((script.getD i.toNat z45).f2) ((script.getD i.toNat z45).f3) ((script.getD i.toNat z45).f4) d).1).fs.getD j.toNat ⟨⟨#[]⟩, [], 0⟩).b).length) c242) ((((doesD ((script.getD i.toNat z45).f0) ((script.getD i.toNat z45).f1) ((script.getD i.toNat z45).f2) ((script.getD i.toNat z45).f3) ((script.getD i.toNat z45).f4) d).1).fs.getD j.toNat ⟨⟨#[]⟩, [], 0⟩).b), Chunk.view Kd.string S191 A189 ((namesD ((doesD ((script.getD i.toNat z45).f0) ((script.getD i.toNat z45).f1) ((script.getD i.toNat z45).f2) ((script.getD i.toNat z45).f3) ((script.getD i.toNat z45).f4) d).1)).length) c190 (namesD ((doesD ((script.getD i.toNat z45).f0) ((script.getD i.toNat z45).f1) ((script.getD i.toNat z45).f2) ((script.getD i.toNat z45).f3) ((script.getD i.toNat z45).f4) d).1)), Chunk.blk g92 (.cells #[.int .i64 ((script.getD i.toNat z45).f0), .string ((script.getD i.toNat z45).f1), .string ((script.getD i.toNat z45).f2), .int .i64 ((script.getD i.toNat z45).f3), .slice A80 ((script.getD i.toNat z45).f4.length) c81, .slice A84 ((script.getD i.toNat z45).f5.length) c85] 45 (0, 0)), Chunk.disk w.heap.size gd15 S169 ((doesD ((script.getD i.toNat z45).f0) ((script.getD i.toNat z45).f1) ((script.getD i.toNat z45).f2) ((script.getD i.toNat z45).f3) ((script.getD i.toNat z45).f4) d).1)] := HO277
              clear HO277
              refine gw_nx ⟨_, ?_, j + 1, (tot + ((((((doesD ((script.getD i.toNat z45).f0) ((script.getD i.toNat z45).f1) ((script.getD i.toNat z45).f2) ((script.getD i.toNat z45).f3) ((script.getD i.toNat z45).f4) d).1).fs.getD j.toNat ⟨⟨#[]⟩, [], 0⟩).b).length) : Int)), (HF276.pick (t := 63) rfl (HF276.pick (t := 10) rfl (HF276.pick (t := 27) rfl (HF276.pick (t := 0) rfl (HF276.pick (t := 5) rfl (HF276.pick (t := 25) rfl (HF276.pick (t := 26) rfl (HF276.pick (t := 28) rfl (HF276.pick (t := 29) rfl (HF276.pick (t := 30) rfl (HF276.pick (t := 31) rfl (HF276.pick (t := 7) rfl (HF276.pick (t := 6) rfl (HF276.pick (t := 32) rfl (HF276.pick (t := 33) rfl (HF276.pick (t := 34) rfl (HF276.pick (t := 35) rfl (HF276.pick (t := 36) rfl (HF276.pick (t := 37) rfl (HF276.pick (t := 38) rfl (HF276.pick (t := 39) rfl (HF276.pick (t := 40) rfl (HF276.pick (t := 41) rfl (HF276.pick (t := 8) rfl (HF276.pick (t := 42) rfl (HF276.pick (t := 43) rfl (HF276.pick (t := 44) rfl (HF276.pick (t := 45) rfl (HF276.pick (t := 46) rfl (HF276.pick (t := 47) rfl (HF276.pick (t := 48) rfl (HF276.pick (t := 49) rfl (HF276.pick (t := 50) rfl (HF276.pick (t := 51) rfl (HF276.pick (t := 52) rfl (HF276.pick (t := 9) rfl (HF276.pick (t := 60) rfl (HF276.pick (t := 61) rfl (HF276.pick (t := 62) rfl HF276.nil))))))))))))))))))))))))))))))))))))))), HO278.sel [1, 2, 3] (by decide), ?_, ?_, rfl⟩
              · rw [hm213]; omega
              · omega
              · rw [show (j + 1).toNat = j.toNat + 1 by omega, tot_take _ _ (by have h_ := names_len ((doesD ((script.getD i.toNat z45).f0) ((script.getD i.toNat z45).f1) ((script.getD i.toNat z45).f2) ((script.getD i.toNat z45).f3) ((script.getD i.toNat z45).f4) d).1); omega)]; omega
            · skip
              have HF279 := HF216.subst_ (d := 64) (b := false) rfl hb218
              clear HF216
              (try simp only [Bool.and_eq_true, Bool.or_eq_true, Bool.and_eq_false_iff, Bool.or_eq_false_iff, Bool.not_and, Bool.not_or, Bool.not_not, decide_eq_true_eq, decide_eq_false_iff_not, Bool.not_eq_true', Bool.not_eq_false', Bool.not_eq_true, Bool.not_eq_false, ne_eq, Decidable.not_not, Int.not_lt, Int.not_le, not_true_eq_false, not_false_eq_true, bne_iff_ne, beq_iff_eq, bne_eq_false_iff_eq, beq_eq_false_iff_ne] at hb218)
              have htot2 : tot = ((doesD ((script.getD i.toNat z45).f0) ((script.getD i.toNat z45).f1) ((script.getD i.toNat z45).f2) ((script.getD i.toNat z45).f3) ((script.getD i.toNat z45).f4) d).1).used := by rw [htot, List.take_of_length_le (by omega)]; exact hJn.wf.used.symm
              have hDu := hJn.wf.used
              have hDm := hJn.wf.most
              have hDr := hJn.most
              refine wp_exit ?_
              refine gw_thx ?_
              refine gw_thx ?_
              refine gw_in ?_
              refine gw_nx (hK185 _ _ ?_)
              refine gw_seq fun K280 hK280 => ?_
              refine gw_drawB HO212 (by kernel_rfl) (by kernel_rfl) fun w281 HO282 => ?_
              clear HO212
              refine gq_ev HF279 (want_none rfl) rfl (by decide) (fun wq hq => have HO := HO282.after hq; (op_move rfl (HF279.ev rfl))) ?_
              intro a283 HF284; clear HF279
              refine gq_call HF284 (want_none rfl) rfl (by decide) (fun wq hq => have HO := HO282.after hq; (op_callL Try.func24 (by kernel_rfl) rfl rfl (ar_cons (HF284.ev rfl) ar_nil))) (fun wq hq => have HO := HO282.after hq; (room_calls w.heap.size gd15 S169 ((doesD ((script.getD i.toNat z45).f0) ((script.getD i.toNat z45).f1) ((script.getD i.toNat z45).f2) ((script.getD i.toNat z45).f3) ((script.getD i.toNat z45).f4) d).1) _ (HO.get 2 rfl) hJn.wf).mono fun e w' h => ⟨h.1, below_then hq h.2⟩) ?_
              intro a285 HF286; clear HF284
              refine gq_ev HF286 (want_none rfl) rfl (by decide) (fun wq hq => have HO := HO282.after hq; (op_move rfl (HF286.ev rfl))) ?_
              intro a287 HF288; clear HF286
              refine gq_ev HF288 (want_none rfl) rfl (by decide) (fun wq hq => have HO := HO282.after hq; (op_move rfl (HF288.ev rfl))) ?_
              intro a289 HF290; clear HF288
              refine gq_ev HF290 (want_none rfl) rfl (by decide) (fun wq hq => have HO := HO282.after hq; (op_sub rfl (HF290.ev rfl) (HF290.ev rfl) (by omega))) ?_
              intro a291 HF292; clear HF290
              refine gq_ev HF292 (want_none rfl) rfl (by decide) (fun wq hq => have HO := HO282.after hq; (op_nei rfl (HF292.ev rfl) (HF292.ev rfl))) ?_
              intro a293 HF294; clear HF292
              have HF295 := HF294.lit (b := false) (by have h1_ := hJn.most; rw [decide_eq_false_iff_not]; omega)
              clear HF294
              refine gq_ev HF295 (want_none rfl) rfl (by decide) (fun wq hq => have HO := HO282.after hq; (op_move rfl (HF295.ev rfl))) ?_
              intro a296 HF297; clear HF295
              refine gq_ev HF297 (want_yes HF297 rfl rfl rfl rfl) rfl (by decide) (fun wq hq => have HO := HO282.after hq; (op_move rfl (HF297.ev rfl))) ?_
              intro a298 HF299; clear HF297
              refine gq_call HF299 (want_yes HF299 rfl rfl rfl rfl) rfl (by decide) (fun wq hq => have HO := HO282.after hq; (op_callL Try.func24 (by kernel_rfl) rfl rfl (ar_cons (HF299.ev rfl) ar_nil))) (fun wq hq => have HO := HO282.after hq; (room_calls w.heap.size gd15 S169 ((doesD ((script.getD i.toNat z45).f0) ((script.getD i.toNat z45).f1) ((script.getD i.toNat z45).f2) ((script.getD i.toNat z45).f3) ((script.getD i.toNat z45).f4) d).1) _ (HO.get 2 rfl) hJn.wf).mono fun e w' h => ⟨h.1, below_then hq h.2⟩) ?_
              intro a300 HF301; clear HF299
              refine gq_ev HF301 (want_yes HF301 rfl rfl rfl rfl) rfl (by decide) (fun wq hq => have HO := HO282.after hq; (op_lss rfl (HF301.ev rfl) (ev_c _ _))) ?_
              intro a302 HF303; clear HF301
              have HF304 := HF303.lit (b := false) (by have h1_ := hJn.wf.most; rw [decide_eq_false_iff_not]; omega)
              clear HF303
              refine gq_ev HF304 (want_none rfl) rfl (by decide) (fun wq hq => have HO := HO282.after hq; (op_pick_f rfl (HF304.ev rfl) (HF304.ev rfl))) ?_
              intro a305 HF306; clear HF304
              refine gq_ev HF306 (want_none rfl) rfl (by decide) (fun wq hq => have HO := HO282.after hq; (op_move rfl (HF306.ev rfl))) ?_
              intro a307 HF308; clear HF306
              refine gq_ev HF308 (want_yes HF308 rfl rfl rfl rfl) rfl (by decide) (fun wq hq => have HO := HO282.after hq; (op_field (gwfld45_0 _ _) rfl (HF308.ev rfl))) ?_
              intro a309 HF310; clear HF308
              refine gq_ev HF310 (want_yes HF310 rfl rfl rfl rfl) rfl (by decide) (fun wq hq => have HO := HO282.after hq; (op_load1 gwagg3 rfl (HF310.ev rfl) (blk_at (HO.get 1 rfl) rfl))) ?_
              intro a311 HF312; clear HF310
              refine gq_ev HF312 (want_yes HF312 rfl rfl rfl rfl) rfl (by decide) (fun wq hq => have HO := HO282.after hq; (op_eqi rfl (HF312.ev rfl) (ev_c _ _))) ?_
              intro a313 HF314; clear HF312
              refine gq_ev HF314 (want_yes HF314 rfl rfl rfl rfl) rfl (by decide) (fun wq hq => have HO := HO282.after hq; (op_move rfl (HF314.ev rfl))) ?_
              intro a315 HF316; clear HF314
              refine gq_evG HF316 rfl rfl rfl rfl (on_t _) rfl (by decide) (fun h_ wq hq => have HO := HO282.after hq; (op_move rfl (HF316.ev rfl))) ?_
              intro a317 HF318; clear HF316
              refine gq_evG HF318 rfl rfl rfl rfl (on_t _) rfl (by decide) (fun h_ wq hq => have HO := HO282.after hq; (op_eqi rfl (ev_gv (HF318.ev rfl) h_) (ev_c _ _))) ?_
              intro a319 HF320; clear HF318
              refine gq_ev HF320 (want_yes HF320 rfl rfl rfl rfl) rfl (by decide) (fun wq hq => have HO := HO282.after hq; (op_pick_and rfl (HF320.ev rfl) (fun hp_ => (ev_gv (HF320.ev rfl) hp_)) (ev_c _ _))) ?_
              intro a321 HF322; clear HF320
              refine gq_ev HF322 (want_yes HF322 rfl rfl rfl rfl) rfl (by decide) (fun wq hq => have HO := HO282.after hq; (op_move rfl (HF322.ev rfl))) ?_
              intro a323 HF324; clear HF322
              refine gq_evG HF324 rfl rfl rfl rfl (on_t _) rfl (by decide) (fun h_ wq hq => have HO := HO282.after hq; (op_move rfl (HF324.ev rfl))) ?_
              intro a325 HF326; clear HF324
              refine gq_callG HF326 rfl rfl rfl rfl (on_t _) rfl (by decide) (fun h_ wq hq => have HO := HO282.after hq; (op_callL Try.func24 (by kernel_rfl) rfl rfl (ar_cons (ev_gv (HF326.ev rfl) h_) ar_nil))) (fun h_ wq hq => have HO := HO282.after hq; (room_calls w.heap.size gd15 S169 ((doesD ((script.getD i.toNat z45).f0) ((script.getD i.toNat z45).f1) ((script.getD i.toNat z45).f2) ((script.getD i.toNat z45).f3) ((script.getD i.toNat z45).f4) d).1) _ (HO.get 2 rfl) hJn.wf).mono fun e w' h => ⟨h.1, below_then hq h.2⟩) ?_
              intro a327 HF328; clear HF326
              refine gq_evG HF328 rfl rfl rfl rfl (on_t _) rfl (by decide) (fun h_ wq hq => have HO := HO282.after hq; (op_move rfl (HF328.ev rfl))) ?_
              intro a329 HF330; clear HF328
              refine gq_evG HF330 rfl rfl rfl rfl (on_t _) rfl (by decide) (fun h_ wq hq => have HO := HO282.after hq; (op_field (gwfld45_4 _ _) rfl (HF330.ev rfl))) ?_
              intro a331 HF332; clear HF330
              refine gq_evG HF332 rfl rfl rfl rfl (on_t _) rfl (by decide) (fun h_ wq hq => have HO := HO282.after hq; (op_load1 gwagg28 rfl (ev_gv (HF332.ev rfl) h_) (blk_at (HO.get 1 rfl) rfl))) ?_
              intro a333 HF334; clear HF332
              refine gq_evG HF334 rfl rfl rfl rfl (on_t _) rfl (by decide) (fun h_ wq hq => have HO := HO282.after hq; (op_len Try.underlying28 rfl (ev_gv (HF334.ev rfl) h_))) ?_
              intro a335 HF336; clear HF334
              refine gq_evG HF336 rfl rfl rfl rfl (on_t _) rfl (by decide) (fun h_ wq hq => have HO := HO282.after hq; (op_sub rfl (ev_gv (HF336.ev rfl) h_) (ev_gv (HF336.ev rfl) h_) (by (try simp only [Bool.and_eq_true, Bool.or_eq_true, Bool.and_eq_false_iff, Bool.or_eq_false_iff, Bool.not_and, Bool.not_or, Bool.not_not, decide_eq_true_eq, decide_eq_false_iff_not, Bool.not_eq_true', Bool.not_eq_false', Bool.not_eq_true, Bool.not_eq_false, ne_eq, Decidable.not_not, Int.not_lt, Int.not_le, not_true_eq_false, not_false_eq_true, bne_iff_ne, beq_iff_eq, bne_eq_false_iff_eq, beq_eq_false_iff_ne] at h_); omega))) ?_
              intro a337 HF338; clear HF336
              refine gq_evG HF338 rfl rfl rfl rfl (on_t _) rfl (by decide) (fun h_ wq hq => have HO := HO282.after hq; (op_nei rfl (ev_gv (HF338.ev rfl) h_) (ev_gv (HF338.ev rfl) h_))) ?_
              intro a339 HF340; clear HF338
              refine gq_ev HF340 (want_yes HF340 rfl rfl rfl rfl) rfl (by decide) (fun wq hq => have HO := HO282.after hq; (op_pick_and rfl (HF340.ev rfl) (fun hp_ => (ev_gv (HF340.ev rfl) hp_)) (ev_c _ _))) ?_
              intro a341 HF342; clear HF340
              have HF343 := HF342.lit (b := false) (room_a (fun hk_ he_ => by have h1_ := hA hk_ he_; have h2_ := hJn.most; have h3_ := hJ.most; omega))
              clear HF342
              refine gq_ev HF343 (want_none rfl) rfl (by decide) (fun wq hq => have HO := HO282.after hq; (op_pick_f rfl (HF343.ev rfl) (HF343.ev rfl))) ?_
              intro a344 HF345; clear HF343
              refine gq_ev HF345 (want_none rfl) rfl (by decide) (fun wq hq => have HO := HO282.after hq; (op_move rfl (HF345.ev rfl))) ?_
              intro a346 HF347; clear HF345
              refine gq_ev HF347 (want_yes HF347 rfl rfl rfl rfl) rfl (by decide) (fun wq hq => have HO := HO282.after hq; (op_move rfl (HF347.ev rfl))) ?_
              intro a348 HF349; clear HF347
              refine gq_ev HF349 (want_yes HF349 rfl rfl rfl rfl) rfl (by decide) (fun wq hq => have HO := HO282.after hq; (op_eqi rfl (HF349.ev rfl) (ev_c _ _))) ?_
              intro a350 HF351; clear HF349
              refine gq_ev HF351 (want_yes HF351 rfl rfl rfl rfl) rfl (by decide) (fun wq hq => have HO := HO282.after hq; (op_move rfl (HF351.ev rfl))) ?_
              intro a352 HF353; clear HF351
              refine gq_evG HF353 rfl rfl rfl rfl (on_t _) rfl (by decide) (fun h_ wq hq => have HO := HO282.after hq; (op_move rfl (HF353.ev rfl))) ?_
              intro a354 HF355; clear HF353
              refine gq_callG HF355 rfl rfl rfl rfl (on_t _) rfl (by decide) (fun h_ wq hq => have HO := HO282.after hq; (op_callL Try.func24 (by kernel_rfl) rfl rfl (ar_cons (ev_gv (HF355.ev rfl) h_) ar_nil))) (fun h_ wq hq => have HO := HO282.after hq; (room_calls w.heap.size gd15 S169 ((doesD ((script.getD i.toNat z45).f0) ((script.getD i.toNat z45).f1) ((script.getD i.toNat z45).f2) ((script.getD i.toNat z45).f3) ((script.getD i.toNat z45).f4) d).1) _ (HO.get 2 rfl) hJn.wf).mono fun e w' h => ⟨h.1, below_then hq h.2⟩) ?_
              intro a356 HF357; clear HF355
              refine gq_evG HF357 rfl rfl rfl rfl (on_t _) rfl (by decide) (fun h_ wq hq => have HO := HO282.after hq; (op_move rfl (HF357.ev rfl))) ?_
              intro a358 HF359; clear HF357
              refine gq_evG HF359 rfl rfl rfl rfl (on_t _) rfl (by decide) (fun h_ wq hq => have HO := HO282.after hq; (op_nei rfl (ev_gv (HF359.ev rfl) h_) (ev_gv (HF359.ev rfl) h_))) ?_
              intro a360 HF361; clear HF359
              refine gq_evG HF361 rfl rfl rfl rfl (on_t _) rfl (by decide) (fun h_ wq hq => have HO := HO282.after hq; (op_move rfl (ev_gv (HF361.ev rfl) h_))) ?_
              intro a362 HF363; clear HF361
              refine gq_evG HF363 rfl rfl rfl rfl (on_gf _ _) rfl (by decide) (fun h_ wq hq => have HO := HO282.after hq; (op_field (gwfld45_4 _ _) rfl (HF363.ev rfl))) ?_
              intro a364 HF365; clear HF363
              refine gq_evG HF365 rfl rfl rfl rfl (on_gf _ _) rfl (by decide) (fun h_ wq hq => have HO := HO282.after hq; (op_load1 gwagg28 rfl (ev_gv (HF365.ev rfl) (andi (and1 h_) (and2 h_))) (blk_at (HO.get 1 rfl) rfl))) ?_
              intro a366 HF367; clear HF365
              refine gq_evG HF367 rfl rfl rfl rfl (on_gf _ _) rfl (by decide) (fun h_ wq hq => have HO := HO282.after hq; (op_len Try.underlying28 rfl (ev_gv (HF367.ev rfl) (andi (and1 h_) (and2 h_))))) ?_
              intro a368 HF369; clear HF367
              refine gq_evG HF369 rfl rfl rfl rfl (on_gf _ _) rfl (by decide) (fun h_ wq hq => have HO := HO282.after hq; (op_move rfl (HF369.ev rfl))) ?_
              intro a370 HF371; clear HF369
              refine gq_evG HF371 rfl rfl rfl rfl (on_gf _ _) rfl (by decide) (fun h_ wq hq => have HO := HO282.after hq; (op_leq rfl (ev_gv (HF371.ev rfl) (andi (and1 h_) (and2 h_))) (ev_gv (HF371.ev rfl) (andi (and1 h_) (and2 h_))))) ?_
              intro a372 HF373; clear HF371
              refine gq_evG HF373 rfl rfl rfl rfl (on_t _) rfl (by decide) (fun h_ wq hq => have HO := HO282.after hq; (op_pick_or rfl (ev_gv (HF373.ev rfl) h_) (ev_c _ _) (fun hp_ => (ev_gv (HF373.ev rfl) (andi h_ (not_t hp_)))))) ?_
              intro a374 HF375; clear HF373
              refine gq_ev HF375 (want_yes HF375 rfl rfl rfl rfl) rfl (by decide) (fun wq hq => have HO := HO282.after hq; (op_pick_and rfl (HF375.ev rfl) (fun hp_ => (ev_gv (HF375.ev rfl) hp_)) (ev_c _ _))) ?_
              intro a376 HF377; clear HF375
              have HF378 := HF377.lit (b := false) (room_b (fun he_ => by obtain ⟨h1_, h2_⟩ := hB he_; rw [h1_]; exact ⟨rfl, by omega⟩))
              clear HF377
              refine gq_ev HF378 (want_none rfl) rfl (by decide) (fun wq hq => have HO := HO282.after hq; (op_pick_f rfl (HF378.ev rfl) (HF378.ev rfl))) ?_
              intro a379 HF380; clear HF378
              refine wpQuiet_nil ?_
              intro w381 hq
              have HO382 := HO282.after hq
              clear HO282 hq
              refine gw_nx (hK280 _ _ ?_)
              refine gw_cond HF380 rfl (fun hb383 => ?_) (fun hb383 => ?_)
              skip
              · cases hb383
              refine wp_skip ?_
              refine gw_blk ?_
              refine gw_nx (hK70 _ _ ?_)
              refine wp_region_lit ?_
              refine gw_ev HF380 (want_none rfl) rfl (by decide) (op_add rfl (HF380.ev rfl) (ev_c _ _) (by omega)) ?_
              intro a384 HF385; clear HF380
              refine gw_ev HF385 (want_none rfl) rfl (by decide) (op_move rfl (HF385.ev rfl)) ?_
              intro a386 HF387; clear HF385
              refine wpList_nil ?_
              refine gw_nx ⟨_, ?_, i + 1, ((doesD ((script.getD i.toNat z45).f0) ((script.getD i.toNat z45).f1) ((script.getD i.toNat z45).f2) ((script.getD i.toNat z45).f3) ((script.getD i.toNat z45).f4) d).1), S169, (HF387.pick (t := 27) rfl (HF387.pick (t := 0) rfl (HF387.pick (t := 5) rfl (HF387.pick (t := 25) rfl (HF387.pick (t := 26) rfl HF387.nil))))), HO382.sel [2] (by decide), ?_, ?_, rfl⟩
              · rw [hm63]; omega
              · omega
              · exact hJn.more (by unfold mn; (repeat' split) <;> omega)
        · skip
          have HF388 := HF162.subst_ (d := 49) (b := false) rfl hb163
          clear HF162
          (try simp only [Bool.and_eq_true, Bool.or_eq_true, Bool.and_eq_false_iff, Bool.or_eq_false_iff, Bool.not_and, Bool.not_or, Bool.not_not, decide_eq_true_eq, decide_eq_false_iff_not, Bool.not_eq_true', Bool.not_eq_false', Bool.not_eq_true, Bool.not_eq_false, ne_eq, Decidable.not_not, Int.not_lt, Int.not_le, not_true_eq_false, not_false_eq_true, bne_iff_ne, beq_iff_eq, bne_eq_false_iff_eq, beq_eq_false_iff_ne] at hb163)
          refine gw_seq fun K389 hK389 => ?_
          refine wp_region_lit ?_
          refine gw_ev HF388 (want_none rfl) rfl (by decide) (op_field (gwfld45_0 _ _) rfl (HF388.ev rfl)) ?_
          intro a390 HF391; clear HF388
          refine gw_ev HF391 (want_none rfl) rfl (by decide) (op_load1 gwagg3 rfl (HF391.ev rfl) (blk_at (HO138.get 0 rfl) rfl)) ?_
          intro a392 HF393; clear HF391
          refine gw_ev HF393 (want_none rfl) rfl (by decide) (op_eqi rfl (HF393.ev rfl) (ev_c _ _)) ?_
          intro a394 HF395; clear HF393
          refine wpList_nil ?_
          refine gw_nx (hK389 _ _ ?_)
          refine gw_cond HF395 rfl (fun hb396 => ?_) (fun hb396 => ?_)
          · skip
            have HF397 := HF395.subst_ (d := 55) (b := true) rfl hb396
            clear HF395
            (try simp only [Bool.and_eq_true, Bool.or_eq_true, Bool.and_eq_false_iff, Bool.or_eq_false_iff, Bool.not_and, Bool.not_or, Bool.not_not, decide_eq_true_eq, decide_eq_false_iff_not, Bool.not_eq_true', Bool.not_eq_false', Bool.not_eq_true, Bool.not_eq_false, ne_eq, Decidable.not_not, Int.not_lt, Int.not_le, not_true_eq_false, not_false_eq_true, bne_iff_ne, beq_iff_eq, bne_eq_false_iff_eq, beq_eq_false_iff_ne] at hb396)
            refine wp_region_lit ?_
            refine gw_ev HF397 (want_none rfl) rfl (by decide) (op_move rfl (HF397.ev rfl)) ?_
            intro a398 HF399; clear HF397
            refine gw_ev HF399 (want_none rfl) rfl (by decide) (op_field (gwfld45_5 _ _) rfl (HF399.ev rfl)) ?_
            intro a400 HF401; clear HF399
            refine gw_ev HF401 (want_none rfl) rfl (by decide) (op_load1 gwagg32 rfl (HF401.ev rfl) (blk_at (HO138.get 0 rfl) rfl)) ?_
            intro a402 HF403; clear HF401
            have HO412 : Own w _ [(Chunk.all [Chunk.blk g92 (.cells #[.int .i64 ((script.getD i.toNat z45).f0), .string ((script.getD i.toNat z45).f1), .string ((script.getD i.toNat z45).f2), .int .i64 ((script.getD i.toNat z45).f3), .slice A80 ((script.getD i.toNat z45).f4.length) c81, .slice A84 ((script.getD i.toNat z45).f5.length) c85] 45 (0, 0))]), Chunk.disk w.heap.size gd15 Sd d] := Own.bundle (A := [Chunk.blk g92 (.cells #[.int .i64 ((script.getD i.toNat z45).f0), .string ((script.getD i.toNat z45).f1), .string ((script.getD i.toNat z45).f2), .int .i64 ((script.getD i.toNat z45).f3), .slice A80 ((script.getD i.toNat z45).f4.length) c81, .slice A84 ((script.getD i.toNat z45).f5.length) c85] 45 (0, 0))]) (L := [Chunk.disk w.heap.size gd15 Sd d]) (HO138.sel [0, 1] (by decide))
            refine gw_call HF403 (want_none rfl) rfl (by decide) (op_callL Try.func17 (by kernel_rfl) rfl rfl (ar_cons (HF403.ev rfl) (ar_cons (HF403.ev rfl) ar_nil))) (crash_calls w _ (Chunk.all [Chunk.blk g92 (.cells #[.int .i64 ((script.getD i.toNat z45).f0), .string ((script.getD i.toNat z45).f1), .string ((script.getD i.toNat z45).f2), .int .i64 ((script.getD i.toNat z45).f3), .slice A80 ((script.getD i.toNat z45).f4.length) c81, .slice A84 ((script.getD i.toNat z45).f5.length) c85] 45 (0, 0))]) gd15 Sd d A84 c85 ((script.getD i.toNat z45).f5) (fun w_ h_ => Kd.C_below hC87 h_.below) hl86 hJ.wf (by have h_ := hJ.len; omega) (by exact HO412)) ?_
            rintro e406 w407 ⟨rfl, S404, hb408⟩
            refine ⟨_, rfl, fun a409 HF410 => ?_⟩
            have HO411 : Own w w407 [Chunk.blk g92 (.cells #[.int .i64 ((script.getD i.toNat z45).f0), .string ((script.getD i.toNat z45).f1), .string ((script.getD i.toNat z45).f2), .int .i64 ((script.getD i.toNat z45).f3), .slice A80 ((script.getD i.toNat z45).f4.length) c81, .slice A84 ((script.getD i.toNat z45).f5.length) c85] 45 (0, 0)), Chunk.disk w.heap.size gd15 S404 (crashD ((script.getD i.toNat z45).f5) d)] := Own.unbundle (A := [Chunk.blk g92 (.cells #[.int .i64 ((script.getD i.toNat z45).f0), .string ((script.getD i.toNat z45).f1), .string ((script.getD i.toNat z45).f2), .int .i64 ((script.getD i.toNat z45).f3), .slice A80 ((script.getD i.toNat z45).f4.length) c81, .slice A84 ((script.getD i.toNat z45).f5.length) c85] 45 (0, 0))]) (L := [Chunk.disk w.heap.size gd15 S404 (crashD ((script.getD i.toNat z45).f5) d)]) (hb408.sel [0, 1] (by decide))
            clear HO412
            clear HF403 HO138 hb408
            have HO414 : Own w w407 [Chunk.blk g92 (.cells #[.int .i64 ((script.getD i.toNat z45).f0), .string ((script.getD i.toNat z45).f1), .string ((script.getD i.toNat z45).f2), .int .i64 ((script.getD i.toNat z45).f3), .slice A80 ((script.getD i.toNat z45).f4.length) c81, .slice A84 ((script.getD i.toNat z45).f5.length) c85] 45 (0, 0)), Chunk.disk w.heap.size gd15 S404 (crashD ((script.getD i.toNat z45).f5) d)] := HO411
            clear HO411
            have hJn : JR (crashD ((script.getD i.toNat z45).f5) d) rm (i + 1) := hJ.crash
            refine wpList_nil ?_
            refine gw_nx (hK145 _ _ ?_)
            refine gw_seq fun K415 hK415 => ?_
            refine wp_region_lit ?_
            refine gw_ev HF410 (want_none rfl) rfl (by decide) (op_assign rfl (ev_c _ _)) ?_
            intro a416 HF417; clear HF410
            refine wpList_nil ?_
            refine gw_nx (hK415 _ _ ?_)
            refine gw_seq fun K418 hK418 => ?_
            refine gw_seq fun K419 hK419 => ?_
            refine wp_region_lit ?_
            refine gw_ev HF417 (want_none rfl) rfl (by decide) (op_move rfl (HF417.ev rfl)) ?_
            intro a420 HF421; clear HF417
            refine gw_call HF421 (want_none rfl) rfl (by decide) (op_callL Try.func22 (by kernel_rfl) rfl rfl (ar_cons (HF421.ev rfl) ar_nil)) (names_calls w.heap.size gd15 S404 (crashD ((script.getD i.toNat z45).f5) d) _ (by exact HO414.get 1 rfl) (by have h_ := hJn.len; omega)) ?_
            rintro e425 w426 ⟨A422, c423, S424, rfl, hb427⟩
            refine ⟨_, rfl, fun a428 HF429 => ?_⟩
            have HO430 := HO414.fresh hb427
            have hbel431 := HO414.below
            clear HF421 HO414 hb427
            have HO432 := HO430.lowrow 0 rfl (base' := w.heap.size) (Below.size hbel431)
            have HO433 : Own w w426 [Chunk.row Kd.string 9 w.heap.size S424 (.slice A422 ((namesD (crashD ((script.getD i.toNat z45).f5) d)).length) c423) (namesD (crashD ((script.getD i.toNat z45).f5) d)), Chunk.blk g92 (.cells #[.int .i64 ((script.getD i.toNat z45).f0), .string ((script.getD i.toNat z45).f1), .string ((script.getD i.toNat z45).f2), .int .i64 ((script.getD i.toNat z45).f3), .slice A80 ((script.getD i.toNat z45).f4.length) c81, .slice A84 ((script.getD i.toNat z45).f5.length) c85] 45 (0, 0)), Chunk.disk w.heap.size gd15 S404 (crashD ((script.getD i.toNat z45).f5) d)] := HO432
            clear HO432
            have HO434 := HO433.row_view 0 rfl
            clear HO433
            have HO435 : Own w w426 [Chunk.view Kd.string S424 A422 ((namesD (crashD ((script.getD i.toNat z45).f5) d)).length) c423 (namesD (crashD ((script.getD i.toNat z45).f5) d)), Chunk.blk g92 (.cells #[.int .i64 ((script.getD i.toNat z45).f0), .string ((script.getD i.toNat z45).f1), .string ((script.getD i.toNat z45).f2), .int .i64 ((script.getD i.toNat z45).f3), .slice A80 ((script.getD i.toNat z45).f4.length) c81, .slice A84 ((script.getD i.toNat z45).f5.length) c85] 45 (0, 0)), Chunk.disk w.heap.size gd15 S404 (crashD ((script.getD i.toNat z45).f5) d)] := HO434
            clear HO434
            refine gw_ev HF429 (want_none rfl) rfl (by decide) (op_len Try.underlying37 rfl (HF429.ev rfl)) ?_
            intro a436 HF437; clear HF429
            refine gw_ev HF437 (want_none rfl) rfl (by decide) (op_move rfl (ev_c _ _)) ?_
            intro a438 HF439; clear HF437
            refine wpList_nil ?_
            refine gw_nx (hK419 _ _ ?_)
            refine wp_block ?_
            refine gw_loop (fun m_ a_ w_ => ∃ (j : Int) (tot : Int), Fr 126 a_ [(63, .int .i64 j), (10, .int .i64 tot), (27, .int .i64 i), (0, .int .i64 rm), (5, .pointer (some ⟨gd15, 0, none⟩)), (25, .slice A1 script.length c1), (26, .int .i64 (script.length : Int)), (28, .bool true), (29, .int .i64 i), (30, .pointer (some (ad74.add (i.toNat * 6)))), (31, .agg #[.int .i64 ((script.getD i.toNat z45).f0), .string ((script.getD i.toNat z45).f1), .string ((script.getD i.toNat z45).f2), .int .i64 ((script.getD i.toNat z45).f3), .slice A80 ((script.getD i.toNat z45).f4.length) c81, .slice A84 ((script.getD i.toNat z45).f5.length) c85]), (7, .pointer (some ⟨g92, 0, none⟩)), (6, .int .i64 i), (32, .int .i64 i), (33, .bool (decide (100 ≤ i))), (34, .bool (decide (100 ≤ i))), (35, gv (!(decide (100 ≤ i))) (.pointer (some ⟨g92, 4, none⟩))), (36, gv (!(decide (100 ≤ i))) (.slice A80 ((script.getD i.toNat z45).f4.length) c81)), (37, gv (!(decide (100 ≤ i))) (.int .i64 (((script.getD i.toNat z45).f4.length) : Int))), (38, gv (!(decide (100 ≤ i))) (.bool (decide (1000 < (((script.getD i.toNat z45).f4.length) : Int))))), (39, .bool false), (40, .pointer (some ⟨gd15, 0, none⟩)), (41, .int .i64 (d.most - d.used)), (8, .int .i64 (d.most - d.used)), (9, .int .i64 0), (42, .pointer (some ⟨g92, 0, none⟩)), (43, .int .i64 ((script.getD i.toNat z45).f0)), (44, .bool (decide (1 ≤ ((script.getD i.toNat z45).f0)))), (45, .bool (decide (1 ≤ ((script.getD i.toNat z45).f0)))), (46, gv (decide (1 ≤ ((script.getD i.toNat z45).f0))) (.pointer (some ⟨g92, 0, none⟩))), (47, gv (decide (1 ≤ ((script.getD i.toNat z45).f0))) (.int .i64 ((script.getD i.toNat z45).f0))), (48, gv (decide (1 ≤ ((script.getD i.toNat z45).f0))) (.bool (decide (((script.getD i.toNat z45).f0) ≤ 6)))), (49, .bool false), (53, .pointer (some ⟨g92, 0, none⟩)), (54, .int .i64 ((script.getD i.toNat z45).f0)), (55, .bool true), (56, .pointer (some ⟨gd15, 0, none⟩)), (57, .pointer (some ⟨g92, 5, none⟩)), (58, .slice A84 ((script.getD i.toNat z45).f5.length) c85), (60, .pointer (some ⟨gd15, 0, none⟩)), (61, .slice A422 ((namesD (crashD ((script.getD i.toNat z45).f5) d)).length) c423), (62, .int .i64 (((namesD (crashD ((script.getD i.toNat z45).f5) d)).length) : Int))] ∧ Own w w_ [Chunk.view Kd.string S424 A422 ((namesD (crashD ((script.getD i.toNat z45).f5) d)).length) c423 (namesD (crashD ((script.getD i.toNat z45).f5) d)), Chunk.blk g92 (.cells #[.int .i64 ((script.getD i.toNat z45).f0), .string ((script.getD i.toNat z45).f1), .string ((script.getD i.toNat z45).f2), .int .i64 ((script.getD i.toNat z45).f3), .slice A80 ((script.getD i.toNat z45).f4.length) c81, .slice A84 ((script.getD i.toNat z45).f5.length) c85] 45 (0, 0)), Chunk.disk w.heap.size gd15 S404 (crashD ((script.getD i.toNat z45).f5) d)] ∧ (0 ≤ j ∧ j ≤ (namesD (crashD ((script.getD i.toNat z45).f5) d)).length) ∧ (tot = (totF ((crashD ((script.getD i.toNat z45).f5) d).fs.take j.toNat) : Nat)) ∧ m_ = ((namesD (crashD ((script.getD i.toNat z45).f5) d)).length - j.toNat)) (((namesD (crashD ((script.getD i.toNat z45).f5) d)).length - (0 : Int).toNat)) ?_ ?_
            · refine ⟨0, 0, (HF439.pick (t := 63) rfl (HF439.pick (t := 10) rfl (HF439.pick (t := 27) rfl (HF439.pick (t := 0) rfl (HF439.pick (t := 5) rfl (HF439.pick (t := 25) rfl (HF439.pick (t := 26) rfl (HF439.pick (t := 28) rfl (HF439.pick (t := 29) rfl (HF439.pick (t := 30) rfl (HF439.pick (t := 31) rfl (HF439.pick (t := 7) rfl (HF439.pick (t := 6) rfl (HF439.pick (t := 32) rfl (HF439.pick (t := 33) rfl (HF439.pick (t := 34) rfl (HF439.pick (t := 35) rfl (HF439.pick (t := 36) rfl (HF439.pick (t := 37) rfl (HF439.pick (t := 38) rfl (HF439.pick (t := 39) rfl (HF439.pick (t := 40) rfl (HF439.pick (t := 41) rfl (HF439.pick (t := 8) rfl (HF439.pick (t := 9) rfl (HF439.pick (t := 42) rfl (HF439.pick (t := 43) rfl (HF439.pick (t := 44) rfl (HF439.pick (t := 45) rfl (HF439.pick (t := 46) rfl (HF439.pick (t := 47) rfl (HF439.pick (t := 48) rfl (HF439.pick (t := 49) rfl (HF439.pick (t := 53) rfl (HF439.pick (t := 54) rfl (HF439.pick (t := 55) rfl (HF439.pick (t := 56) rfl (HF439.pick (t := 57) rfl (HF439.pick (t := 58) rfl (HF439.pick (t := 60) rfl (HF439.pick (t := 61) rfl (HF439.pick (t := 62) rfl HF439.nil)))))))))))))))))))))))))))))))))))))))))), HO435.sel [0, 1, 2] (by decide), ?_, ?_, rfl⟩
              · omega
              · rfl
            · rintro m441 a442 w443 ⟨j, tot, HF444, HO445, hj, htot, hm446⟩
              have hnl := names_len (crashD ((script.getD i.toNat z45).f5) d)
              have hjl := hJn.len
              refine gw_seq fun K447 hK447 => ?_
              refine wp_region_lit ?_
              refine gw_ev HF444 (want_none rfl) rfl (by decide) (op_lss rfl (HF444.ev rfl) (HF444.ev rfl)) ?_
              intro a448 HF449; clear HF444
              refine wpList_nil ?_
              refine gw_nx (hK447 _ _ ?_)
              refine gw_seq fun K450 hK450 => ?_
              refine gw_cond HF449 rfl (fun hb451 => ?_) (fun hb451 => ?_)
              · skip
                have HF452 := HF449.subst_ (d := 64) (b := true) rfl hb451
                clear HF449
                (try simp only [Bool.and_eq_true, Bool.or_eq_true, Bool.and_eq_false_iff, Bool.or_eq_false_iff, Bool.not_and, Bool.not_or, Bool.not_not, decide_eq_true_eq, decide_eq_false_iff_not, Bool.not_eq_true', Bool.not_eq_false', Bool.not_eq_true, Bool.not_eq_false, ne_eq, Decidable.not_not, Int.not_lt, Int.not_le, not_true_eq_false, not_false_eq_true, bne_iff_ne, beq_iff_eq, bne_eq_false_iff_eq, beq_eq_false_iff_ne] at hb451)
                refine wp_skip ?_
                refine gw_nx (hK450 _ _ ?_)
                refine gw_seq fun K453 hK453 => ?_
                refine wp_block ?_
                refine gw_seq fun K454 hK454 => ?_
                refine wp_region_lit ?_
                have HO461 := HO445.pin 0 rfl
                clear HO445
                have HO462 : Own w w443 [Chunk.viewAt w443 Kd.string S424 A422 ((namesD (crashD ((script.getD i.toNat z45).f5) d)).length) c423 (namesD (crashD ((script.getD i.toNat z45).f5) d)), Chunk.blk g92 (.cells #[.int .i64 ((script.getD i.toNat z45).f0), .string ((script.getD i.toNat z45).f1), .string ((script.getD i.toNat z45).f2), .int .i64 ((script.getD i.toNat z45).f3), .slice A80 ((script.getD i.toNat z45).f4.length) c81, .slice A84 ((script.getD i.toNat z45).f5.length) c85] 45 (0, 0)), Chunk.disk w.heap.size gd15 S404 (crashD ((script.getD i.toNat z45).f5) d)] := HO461
                clear HO461
                obtain ⟨ad455, cs458, hA456, hl459, hK460, hc457, _⟩ := Kd.F_get (viewAt_F (HO462.get 0 rfl)) (⟨#[]⟩ : ByteArray) j (by omega) (by omega)
                obtain rfl := str_openF hK460
                clear hl459
                refine gw_ev HF452 (want_none rfl) rfl (by decide) (op_index Try.underlying37 gwsiz9 rfl (HF452.ev rfl) (HF452.ev rfl) hA456 (⟨by omega, by omega⟩)) ?_
                intro a463 HF464; clear HF452
                refine gw_ev HF464 (want_none rfl) rfl (by decide) (op_load1 gwagg9 rfl (HF464.ev rfl) (((pin_cells (HO462.get 0 rfl) hA456 hc457) 0 _ rfl))) ?_
                intro a465 HF466; clear HF464
                refine gw_ev HF466 (want_none rfl) rfl (by decide) (op_assign rfl (HF466.ev rfl)) ?_
                intro a467 HF468; clear HF466
                refine wpList_nil ?_
                refine gw_nx (hK454 _ _ ?_)
                refine gw_seq fun K469 hK469 => ?_
                refine wp_region_lit ?_
                refine gw_ev HF468 (want_none rfl) rfl (by decide) (op_move rfl (HF468.ev rfl)) ?_
                intro a470 HF471; clear HF468
                refine gw_ev HF471 (want_none rfl) rfl (by decide) (op_move rfl (HF471.ev rfl)) ?_
                intro a472 HF473; clear HF471
                refine gw_call HF473 (want_none rfl) rfl (by decide) (op_callL Try.func18 (by kernel_rfl) rfl rfl (ar_cons (HF473.ev rfl) (ar_cons (HF473.ev rfl) ar_nil))) ((by have h_ := read_calls w.heap.size gd15 S404 (crashD ((script.getD i.toNat z45).f5) d) ((namesD (crashD ((script.getD i.toNat z45).f5) d)).getD j.toNat (⟨#[]⟩ : ByteArray)) _ (by exact HO462.get 2 rfl) (names_sz hJn.wf j.toNat) hJn.wf (by have h1_ := hJn.wf.most; have h2_ := hJn.most; omega); rw [show (readD ((namesD (crashD ((script.getD i.toNat z45).f5) d)).getD j.toNat (⟨#[]⟩ : ByteArray)) (crashD ((script.getD i.toNat z45).f5) d)) = (((crashD ((script.getD i.toNat z45).f5) d).fs.getD j.toNat ⟨⟨#[]⟩, [], 0⟩).b, 0) from (read_at hJn.wf hJn.up j.toNat (by have h_ := names_len (crashD ((script.getD i.toNat z45).f5) d); omega))] at h_; (try dsimp only at h_); exact h_)) ?_
                rintro e477 w478 ⟨A474, c475, S476, rfl, hb479⟩
                refine ⟨_, rfl, fun a480 HF481 => ?_⟩
                have HO482 := HO462.fresh hb479
                have hbel483 := HO462.below
                clear HF473 HO462 hb479
                have HO484 := HO482.lowrow 0 rfl (base' := w.heap.size) (Below.size hbel483)
                have HO485 : Own w w478 [Chunk.row (Kd.int .u8) 5 w.heap.size S476 (.slice A474 ((((crashD ((script.getD i.toNat z45).f5) d).fs.getD j.toNat ⟨⟨#[]⟩, [], 0⟩).b).length) c475) (((crashD ((script.getD i.toNat z45).f5) d).fs.getD j.toNat ⟨⟨#[]⟩, [], 0⟩).b), Chunk.viewAt w443 Kd.string S424 A422 ((namesD (crashD ((script.getD i.toNat z45).f5) d)).length) c423 (namesD (crashD ((script.getD i.toNat z45).f5) d)), Chunk.blk g92 (.cells #[.int .i64 ((script.getD i.toNat z45).f0), .string ((script.getD i.toNat z45).f1), .string ((script.getD i.toNat z45).f2), .int .i64 ((script.getD i.toNat z45).f3), .slice A80 ((script.getD i.toNat z45).f4.length) c81, .slice A84 ((script.getD i.toNat z45).f5.length) c85] 45 (0, 0)), Chunk.disk w.heap.size gd15 S404 (crashD ((script.getD i.toNat z45).f5) d)] := HO484
                clear HO484
                refine gw_ev HF481 (want_none rfl) rfl (by decide) (op_move rfl (HF481.ev rfl)) ?_
                intro a486 HF487; clear HF481
                refine gw_ev HF487 (want_none rfl) rfl (by decide) (op_extract rfl (HF487.ev rfl) rfl) ?_
                intro a488 HF489; clear HF487
                refine gw_ev HF489 (want_none rfl) rfl (by decide) (op_extract rfl (HF489.ev rfl) rfl) ?_
                intro a490 HF491; clear HF489
                refine gw_ev HF491 (want_none rfl) rfl (by decide) (op_assign rfl (HF491.ev rfl)) ?_
                intro a492 HF493; clear HF491
                refine gw_ev HF493 (want_none rfl) rfl (by decide) (op_assign rfl (HF493.ev rfl)) ?_
                intro a494 HF495; clear HF493
                refine wpList_nil ?_
                refine gw_nx (hK469 _ _ ?_)
                refine wp_region_lit ?_
                refine gw_ev HF495 (want_none rfl) rfl (by decide) (op_move rfl (HF495.ev rfl)) ?_
                intro a496 HF497; clear HF495
                refine gw_ev HF497 (want_none rfl) rfl (by decide) (op_move rfl (HF497.ev rfl)) ?_
                intro a498 HF499; clear HF497
                refine gw_ev HF499 (want_none rfl) rfl (by decide) (op_len Try.underlying28 rfl (HF499.ev rfl)) ?_
                intro a500 HF501; clear HF499
                refine gw_ev HF501 (want_none rfl) rfl (by decide) (op_add rfl (HF501.ev rfl) (HF501.ev rfl) (by have h1_ := tot_take (crashD ((script.getD i.toNat z45).f5) d).fs j.toNat (by omega); have h2_ := tot_le (crashD ((script.getD i.toNat z45).f5) d).fs (j.toNat + 1); have h3_ : (crashD ((script.getD i.toNat z45).f5) d).used = (totF (crashD ((script.getD i.toNat z45).f5) d).fs : Nat) := hJn.wf.used; have h4_ := hJn.wf.most; have h5_ := hJn.most; omega)) ?_
                intro a502 HF503; clear HF501
                refine gw_ev HF503 (want_none rfl) rfl (by decide) (op_assign rfl (HF503.ev rfl)) ?_
                intro a504 HF505; clear HF503
                refine wpList_nil ?_
                refine gw_blk ?_
                refine gw_nx (hK453 _ _ ?_)
                refine wp_region_lit ?_
                refine gw_ev HF505 (want_none rfl) rfl (by decide) (op_add rfl (HF505.ev rfl) (ev_c _ _) (by omega)) ?_
                intro a506 HF507; clear HF505
                refine gw_ev HF507 (want_none rfl) rfl (by decide) (op_move rfl (HF507.ev rfl)) ?_
                intro a508 HF509; clear HF507
                refine wpList_nil ?_
                have HO510 := HO485.unpin 1 rfl
                clear HO485
                have HO511 : Own w w478 [Chunk.row (Kd.int .u8) 5 w.heap.size S476 (.slice A474 ((((crashD ((script.getD i.toNat z45).f5) d).fs.getD j.toNat ⟨⟨#[]⟩, [], 0⟩).b).length) c475) (((crashD ((script.getD i.toNat z45).f5) d).fs.getD j.toNat ⟨⟨#[]⟩, [], 0⟩).b), Chunk.view Kd.string S424 A422 ((namesD (crashD ((script.getD i.toNat z45).f5) d)).length) c423 (namesD (crashD ((script.getD i.toNat z45).f5) d)), Chunk.blk g92 (.cells #[.int .i64 ((script.getD i.toNat z45).f0), .string ((script.getD i.toNat z45).f1), .string ((script.getD i.toNat z45).f2), .int .i64 ((script.getD i.toNat z45).f3), .slice A80 ((script.getD i.toNat z45).f4.length) c81, .slice A84 ((script.getD i.toNat z45).f5.length) c85] 45 (0, 0)), Chunk.disk w.heap.size gd15 S404 (crashD ((script.getD i.toNat z45).f5) d)] := HO510
                clear HO510
                refine gw_nx ⟨_, ?_, j + 1, (tot + (((((crashD ((script.getD i.toNat z45).f5) d).fs.getD j.toNat ⟨⟨#[]⟩, [], 0⟩).b).length) : Int)), (HF509.pick (t := 63) rfl (HF509.pick (t := 10) rfl (HF509.pick (t := 27) rfl (HF509.pick (t := 0) rfl (HF509.pick (t := 5) rfl (HF509.pick (t := 25) rfl (HF509.pick (t := 26) rfl (HF509.pick (t := 28) rfl (HF509.pick (t := 29) rfl (HF509.pick (t := 30) rfl (HF509.pick (t := 31) rfl (HF509.pick (t := 7) rfl (HF509.pick (t := 6) rfl (HF509.pick (t := 32) rfl (HF509.pick (t := 33) rfl (HF509.pick (t := 34) rfl (HF509.pick (t := 35) rfl (HF509.pick (t := 36) rfl (HF509.pick (t := 37) rfl (HF509.pick (t := 38) rfl (HF509.pick (t := 39) rfl (HF509.pick (t := 40) rfl (HF509.pick (t := 41) rfl (HF509.pick (t := 8) rfl (HF509.pick (t := 9) rfl (HF509.pick (t := 42) rfl (HF509.pick (t := 43) rfl (HF509.pick (t := 44) rfl (HF509.pick (t := 45) rfl (HF509.pick (t := 46) rfl (HF509.pick (t := 47) rfl (HF509.pick (t := 48) rfl (HF509.pick (t := 49) rfl (HF509.pick (t := 53) rfl (HF509.pick (t := 54) rfl (HF509.pick (t := 55) rfl (HF509.pick (t := 56) rfl (HF509.pick (t := 57) rfl (HF509.pick (t := 58) rfl (HF509.pick (t := 60) rfl (HF509.pick (t := 61) rfl (HF509.pick (t := 62) rfl HF509.nil)))))))))))))))))))))))))))))))))))))))))), HO511.sel [1, 2, 3] (by decide), ?_, ?_, rfl⟩
                · rw [hm446]; omega
                · omega
                · rw [show (j + 1).toNat = j.toNat + 1 by omega, tot_take _ _ (by have h_ := names_len (crashD ((script.getD i.toNat z45).f5) d); omega)]; omega
              · skip
                have HF512 := HF449.subst_ (d := 64) (b := false) rfl hb451
                clear HF449
                (try simp only [Bool.and_eq_true, Bool.or_eq_true, Bool.and_eq_false_iff, Bool.or_eq_false_iff, Bool.not_and, Bool.not_or, Bool.not_not, decide_eq_true_eq, decide_eq_false_iff_not, Bool.not_eq_true', Bool.not_eq_false', Bool.not_eq_true, Bool.not_eq_false, ne_eq, Decidable.not_not, Int.not_lt, Int.not_le, not_true_eq_false, not_false_eq_true, bne_iff_ne, beq_iff_eq, bne_eq_false_iff_eq, beq_eq_false_iff_ne] at hb451)
                have htot2 : tot = (crashD ((script.getD i.toNat z45).f5) d).used := by rw [htot, List.take_of_length_le (by omega)]; exact hJn.wf.used.symm
                have hDu := hJn.wf.used
                have hDm := hJn.wf.most
                have hDr := hJn.most
                refine wp_exit ?_
                refine gw_thx ?_
                refine gw_thx ?_
                refine gw_in ?_
                refine gw_nx (hK418 _ _ ?_)
                refine gw_seq fun K513 hK513 => ?_
                refine gw_drawB HO445 (by kernel_rfl) (by kernel_rfl) fun w514 HO515 => ?_
                clear HO445
                refine gq_ev HF512 (want_none rfl) rfl (by decide) (fun wq hq => have HO := HO515.after hq; (op_move rfl (HF512.ev rfl))) ?_
                intro a516 HF517; clear HF512
                refine gq_call HF517 (want_none rfl) rfl (by decide) (fun wq hq => have HO := HO515.after hq; (op_callL Try.func24 (by kernel_rfl) rfl rfl (ar_cons (HF517.ev rfl) ar_nil))) (fun wq hq => have HO := HO515.after hq; (room_calls w.heap.size gd15 S404 (crashD ((script.getD i.toNat z45).f5) d) _ (HO.get 2 rfl) hJn.wf).mono fun e w' h => ⟨h.1, below_then hq h.2⟩) ?_
                intro a518 HF519; clear HF517
                refine gq_ev HF519 (want_none rfl) rfl (by decide) (fun wq hq => have HO := HO515.after hq; (op_move rfl (HF519.ev rfl))) ?_
                intro a520 HF521; clear HF519
                refine gq_ev HF521 (want_none rfl) rfl (by decide) (fun wq hq => have HO := HO515.after hq; (op_move rfl (HF521.ev rfl))) ?_
                intro a522 HF523; clear HF521
                refine gq_ev HF523 (want_none rfl) rfl (by decide) (fun wq hq => have HO := HO515.after hq; (op_sub rfl (HF523.ev rfl) (HF523.ev rfl) (by omega))) ?_
                intro a524 HF525; clear HF523
                refine gq_ev HF525 (want_none rfl) rfl (by decide) (fun wq hq => have HO := HO515.after hq; (op_nei rfl (HF525.ev rfl) (HF525.ev rfl))) ?_
                intro a526 HF527; clear HF525
                have HF528 := HF527.lit (b := false) (by have h1_ := hJn.most; rw [decide_eq_false_iff_not]; omega)
                clear HF527
                refine gq_ev HF528 (want_none rfl) rfl (by decide) (fun wq hq => have HO := HO515.after hq; (op_move rfl (HF528.ev rfl))) ?_
                intro a529 HF530; clear HF528
                refine gq_ev HF530 (want_yes HF530 rfl rfl rfl rfl) rfl (by decide) (fun wq hq => have HO := HO515.after hq; (op_move rfl (HF530.ev rfl))) ?_
                intro a531 HF532; clear HF530
                refine gq_call HF532 (want_yes HF532 rfl rfl rfl rfl) rfl (by decide) (fun wq hq => have HO := HO515.after hq; (op_callL Try.func24 (by kernel_rfl) rfl rfl (ar_cons (HF532.ev rfl) ar_nil))) (fun wq hq => have HO := HO515.after hq; (room_calls w.heap.size gd15 S404 (crashD ((script.getD i.toNat z45).f5) d) _ (HO.get 2 rfl) hJn.wf).mono fun e w' h => ⟨h.1, below_then hq h.2⟩) ?_
                intro a533 HF534; clear HF532
                refine gq_ev HF534 (want_yes HF534 rfl rfl rfl rfl) rfl (by decide) (fun wq hq => have HO := HO515.after hq; (op_lss rfl (HF534.ev rfl) (ev_c _ _))) ?_
                intro a535 HF536; clear HF534
                have HF537 := HF536.lit (b := false) (by have h1_ := hJn.wf.most; rw [decide_eq_false_iff_not]; omega)
                clear HF536
                refine gq_ev HF537 (want_none rfl) rfl (by decide) (fun wq hq => have HO := HO515.after hq; (op_pick_f rfl (HF537.ev rfl) (HF537.ev rfl))) ?_
                intro a538 HF539; clear HF537
                refine gq_ev HF539 (want_none rfl) rfl (by decide) (fun wq hq => have HO := HO515.after hq; (op_move rfl (HF539.ev rfl))) ?_
                intro a540 HF541; clear HF539
                refine gq_ev HF541 (want_yes HF541 rfl rfl rfl rfl) rfl (by decide) (fun wq hq => have HO := HO515.after hq; (op_field (gwfld45_0 _ _) rfl (HF541.ev rfl))) ?_
                intro a542 HF543; clear HF541
                refine gq_ev HF543 (want_yes HF543 rfl rfl rfl rfl) rfl (by decide) (fun wq hq => have HO := HO515.after hq; (op_load1 gwagg3 rfl (HF543.ev rfl) (blk_at (HO.get 1 rfl) rfl))) ?_
                intro a544 HF545; clear HF543
                refine gq_ev HF545 (want_yes HF545 rfl rfl rfl rfl) rfl (by decide) (fun wq hq => have HO := HO515.after hq; (op_eqi rfl (HF545.ev rfl) (ev_c _ _))) ?_
                intro a546 HF547; clear HF545
                have HF548 := HF547.lit (b := false) (by rw [decide_eq_false_iff_not]; omega)
                clear HF547
                refine gq_ev HF548 (want_yes HF548 rfl rfl rfl rfl) rfl (by decide) (fun wq hq => have HO := HO515.after hq; (op_move rfl (HF548.ev rfl))) ?_
                intro a549 HF550; clear HF548
                refine gq_off HF550 (want_no HF550 rfl rfl rfl rfl (by decide)) rfl (by decide) ?_
                intro a551 HF552; clear HF550
                refine gq_off HF552 (want_no HF552 rfl rfl rfl rfl (by decide)) rfl (by decide) ?_
                intro a553 HF554; clear HF552
                refine gq_ev HF554 (want_yes HF554 rfl rfl rfl rfl) rfl (by decide) (fun wq hq => have HO := HO515.after hq; (op_pick_f rfl (HF554.ev rfl) (ev_c _ _))) ?_
                intro a555 HF556; clear HF554
                refine gq_ev HF556 (want_yes HF556 rfl rfl rfl rfl) rfl (by decide) (fun wq hq => have HO := HO515.after hq; (op_move rfl (HF556.ev rfl))) ?_
                intro a557 HF558; clear HF556
                refine gq_off HF558 (want_no HF558 rfl rfl rfl rfl (by decide)) rfl (by decide) ?_
                intro a559 HF560; clear HF558
                refine gq_off HF560 (want_no HF560 rfl rfl rfl rfl (by decide)) rfl (by decide) ?_
                intro a561 HF562; clear HF560
                refine gq_off HF562 (want_no HF562 rfl rfl rfl rfl (by decide)) rfl (by decide) ?_
                intro a563 HF564; clear HF562
                refine gq_off HF564 (want_no HF564 rfl rfl rfl rfl (by decide)) rfl (by decide) ?_
                intro a565 HF566; clear HF564
                refine gq_off HF566 (want_no HF566 rfl rfl rfl rfl (by decide)) rfl (by decide) ?_
                intro a567 HF568; clear HF566
                refine gq_off HF568 (want_no HF568 rfl rfl rfl rfl (by decide)) rfl (by decide) ?_
                intro a569 HF570; clear HF568
                refine gq_off HF570 (want_no HF570 rfl rfl rfl rfl (by decide)) rfl (by decide) ?_
                intro a571 HF572; clear HF570
                refine gq_off HF572 (want_no HF572 rfl rfl rfl rfl (by decide)) rfl (by decide) ?_
                intro a573 HF574; clear HF572
                refine gq_ev HF574 (want_yes HF574 rfl rfl rfl rfl) rfl (by decide) (fun wq hq => have HO := HO515.after hq; (op_pick_f rfl (HF574.ev rfl) (ev_c _ _))) ?_
                intro a575 HF576; clear HF574
                refine gq_ev HF576 (want_none rfl) rfl (by decide) (fun wq hq => have HO := HO515.after hq; (op_pick_f rfl (HF576.ev rfl) (HF576.ev rfl))) ?_
                intro a577 HF578; clear HF576
                refine gq_ev HF578 (want_none rfl) rfl (by decide) (fun wq hq => have HO := HO515.after hq; (op_move rfl (HF578.ev rfl))) ?_
                intro a579 HF580; clear HF578
                refine gq_ev HF580 (want_yes HF580 rfl rfl rfl rfl) rfl (by decide) (fun wq hq => have HO := HO515.after hq; (op_move rfl (HF580.ev rfl))) ?_
                intro a581 HF582; clear HF580
                refine gq_ev HF582 (want_yes HF582 rfl rfl rfl rfl) rfl (by decide) (fun wq hq => have HO := HO515.after hq; (op_eqi rfl (HF582.ev rfl) (ev_c _ _))) ?_
                intro a583 HF584; clear HF582
                have HF585 := HF584.lit (b := false) (by decide)
                clear HF584
                refine gq_ev HF585 (want_yes HF585 rfl rfl rfl rfl) rfl (by decide) (fun wq hq => have HO := HO515.after hq; (op_move rfl (HF585.ev rfl))) ?_
                intro a586 HF587; clear HF585
                refine gq_off HF587 (want_no HF587 rfl rfl rfl rfl (by decide)) rfl (by decide) ?_
                intro a588 HF589; clear HF587
                refine gq_off HF589 (want_no HF589 rfl rfl rfl rfl (by decide)) rfl (by decide) ?_
                intro a590 HF591; clear HF589
                refine gq_off HF591 (want_no HF591 rfl rfl rfl rfl (by decide)) rfl (by decide) ?_
                intro a592 HF593; clear HF591
                refine gq_off HF593 (want_no HF593 rfl rfl rfl rfl (by decide)) rfl (by decide) ?_
                intro a594 HF595; clear HF593
                refine gq_off HF595 (want_no HF595 rfl rfl rfl rfl (by decide)) rfl (by decide) ?_
                intro a596 HF597; clear HF595
                refine gq_off HF597 (want_undef HF597 rfl rfl rfl rfl) rfl (by decide) ?_
                intro a598 HF599; clear HF597
                refine gq_off HF599 (want_undef HF599 rfl rfl rfl rfl) rfl (by decide) ?_
                intro a600 HF601; clear HF599
                refine gq_off HF601 (want_undef HF601 rfl rfl rfl rfl) rfl (by decide) ?_
                intro a602 HF603; clear HF601
                refine gq_off HF603 (want_undef HF603 rfl rfl rfl rfl) rfl (by decide) ?_
                intro a604 HF605; clear HF603
                refine gq_off HF605 (want_undef HF605 rfl rfl rfl rfl) rfl (by decide) ?_
                intro a606 HF607; clear HF605
                refine gq_off HF607 (want_no HF607 rfl rfl rfl rfl (by decide)) rfl (by decide) ?_
                intro a608 HF609; clear HF607
                refine gq_ev HF609 (want_yes HF609 rfl rfl rfl rfl) rfl (by decide) (fun wq hq => have HO := HO515.after hq; (op_pick_f rfl (HF609.ev rfl) (ev_c _ _))) ?_
                intro a610 HF611; clear HF609
                refine gq_ev HF611 (want_none rfl) rfl (by decide) (fun wq hq => have HO := HO515.after hq; (op_pick_f rfl (HF611.ev rfl) (HF611.ev rfl))) ?_
                intro a612 HF613; clear HF611
                refine wpQuiet_nil ?_
                intro w614 hq
                have HO615 := HO515.after hq
                clear HO515 hq
                refine gw_nx (hK513 _ _ ?_)
                refine gw_cond HF613 rfl (fun hb616 => ?_) (fun hb616 => ?_)
                skip
                · cases hb616
                refine wp_skip ?_
                refine gw_blk ?_
                refine gw_nx (hK70 _ _ ?_)
                refine wp_region_lit ?_
                refine gw_ev HF613 (want_none rfl) rfl (by decide) (op_add rfl (HF613.ev rfl) (ev_c _ _) (by omega)) ?_
                intro a617 HF618; clear HF613
                refine gw_ev HF618 (want_none rfl) rfl (by decide) (op_move rfl (HF618.ev rfl)) ?_
                intro a619 HF620; clear HF618
                refine wpList_nil ?_
                refine gw_nx ⟨_, ?_, i + 1, (crashD ((script.getD i.toNat z45).f5) d), S404, (HF620.pick (t := 27) rfl (HF620.pick (t := 0) rfl (HF620.pick (t := 5) rfl (HF620.pick (t := 25) rfl (HF620.pick (t := 26) rfl HF620.nil))))), HO615.sel [2] (by decide), ?_, ?_, rfl⟩
                · rw [hm63]; omega
                · omega
                · exact hJn.more (by unfold mn; (repeat' split) <;> omega)
          · skip
            have HF621 := HF395.subst_ (d := 55) (b := false) rfl hb396
            clear HF395
            (try simp only [Bool.and_eq_true, Bool.or_eq_true, Bool.and_eq_false_iff, Bool.or_eq_false_iff, Bool.not_and, Bool.not_or, Bool.not_not, decide_eq_true_eq, decide_eq_false_iff_not, Bool.not_eq_true', Bool.not_eq_false', Bool.not_eq_true, Bool.not_eq_false, ne_eq, Decidable.not_not, Int.not_lt, Int.not_le, not_true_eq_false, not_false_eq_true, bne_iff_ne, beq_iff_eq, bne_eq_false_iff_eq, beq_eq_false_iff_ne] at hb396)
            refine wp_skip ?_
            refine gw_nx (hK145 _ _ ?_)
            refine gw_seq fun K622 hK622 => ?_
            refine wp_region_lit ?_
            refine gw_ev HF621 (want_none rfl) rfl (by decide) (op_assign rfl (ev_c _ _)) ?_
            intro a623 HF624; clear HF621
            refine wpList_nil ?_
            refine gw_nx (hK622 _ _ ?_)
            refine gw_seq fun K625 hK625 => ?_
            refine gw_seq fun K626 hK626 => ?_
            refine wp_region_lit ?_
            refine gw_ev HF624 (want_none rfl) rfl (by decide) (op_move rfl (HF624.ev rfl)) ?_
            intro a627 HF628; clear HF624
            refine gw_call HF628 (want_none rfl) rfl (by decide) (op_callL Try.func22 (by kernel_rfl) rfl rfl (ar_cons (HF628.ev rfl) ar_nil)) (names_calls w.heap.size gd15 Sd d _ (by exact HO138.get 1 rfl) (by have h_ := hJ.len; omega)) ?_
            rintro e632 w633 ⟨A629, c630, S631, rfl, hb634⟩
            refine ⟨_, rfl, fun a635 HF636 => ?_⟩
            have HO637 := HO138.fresh hb634
            have hbel638 := HO138.below
            clear HF628 HO138 hb634
            have HO639 := HO637.lowrow 0 rfl (base' := w.heap.size) (Below.size hbel638)
            have HO640 : Own w w633 [Chunk.row Kd.string 9 w.heap.size S631 (.slice A629 ((namesD d).length) c630) (namesD d), Chunk.blk g92 (.cells #[.int .i64 ((script.getD i.toNat z45).f0), .string ((script.getD i.toNat z45).f1), .string ((script.getD i.toNat z45).f2), .int .i64 ((script.getD i.toNat z45).f3), .slice A80 ((script.getD i.toNat z45).f4.length) c81, .slice A84 ((script.getD i.toNat z45).f5.length) c85] 45 (0, 0)), Chunk.disk w.heap.size gd15 Sd d] := HO639
            clear HO639
            have HO641 := HO640.row_view 0 rfl
            clear HO640
            have HO642 : Own w w633 [Chunk.view Kd.string S631 A629 ((namesD d).length) c630 (namesD d), Chunk.blk g92 (.cells #[.int .i64 ((script.getD i.toNat z45).f0), .string ((script.getD i.toNat z45).f1), .string ((script.getD i.toNat z45).f2), .int .i64 ((script.getD i.toNat z45).f3), .slice A80 ((script.getD i.toNat z45).f4.length) c81, .slice A84 ((script.getD i.toNat z45).f5.length) c85] 45 (0, 0)), Chunk.disk w.heap.size gd15 Sd d] := HO641
            clear HO641
            refine gw_ev HF636 (want_none rfl) rfl (by decide) (op_len Try.underlying37 rfl (HF636.ev rfl)) ?_
            intro a643 HF644; clear HF636
            refine gw_ev HF644 (want_none rfl) rfl (by decide) (op_move rfl (ev_c _ _)) ?_
            intro a645 HF646; clear HF644
            refine wpList_nil ?_
            refine gw_nx (hK626 _ _ ?_)
            refine wp_block ?_
            refine gw_loop (fun m_ a_ w_ => ∃ (j : Int) (tot : Int), Fr 126 a_ [(63, .int .i64 j), (10, .int .i64 tot), (27, .int .i64 i), (0, .int .i64 rm), (5, .pointer (some ⟨gd15, 0, none⟩)), (25, .slice A1 script.length c1), (26, .int .i64 (script.length : Int)), (28, .bool true), (29, .int .i64 i), (30, .pointer (some (ad74.add (i.toNat * 6)))), (31, .agg #[.int .i64 ((script.getD i.toNat z45).f0), .string ((script.getD i.toNat z45).f1), .string ((script.getD i.toNat z45).f2), .int .i64 ((script.getD i.toNat z45).f3), .slice A80 ((script.getD i.toNat z45).f4.length) c81, .slice A84 ((script.getD i.toNat z45).f5.length) c85]), (7, .pointer (some ⟨g92, 0, none⟩)), (6, .int .i64 i), (32, .int .i64 i), (33, .bool (decide (100 ≤ i))), (34, .bool (decide (100 ≤ i))), (35, gv (!(decide (100 ≤ i))) (.pointer (some ⟨g92, 4, none⟩))), (36, gv (!(decide (100 ≤ i))) (.slice A80 ((script.getD i.toNat z45).f4.length) c81)), (37, gv (!(decide (100 ≤ i))) (.int .i64 (((script.getD i.toNat z45).f4.length) : Int))), (38, gv (!(decide (100 ≤ i))) (.bool (decide (1000 < (((script.getD i.toNat z45).f4.length) : Int))))), (39, .bool false), (40, .pointer (some ⟨gd15, 0, none⟩)), (41, .int .i64 (d.most - d.used)), (8, .int .i64 (d.most - d.used)), (9, .int .i64 0), (42, .pointer (some ⟨g92, 0, none⟩)), (43, .int .i64 ((script.getD i.toNat z45).f0)), (44, .bool (decide (1 ≤ ((script.getD i.toNat z45).f0)))), (45, .bool (decide (1 ≤ ((script.getD i.toNat z45).f0)))), (46, gv (decide (1 ≤ ((script.getD i.toNat z45).f0))) (.pointer (some ⟨g92, 0, none⟩))), (47, gv (decide (1 ≤ ((script.getD i.toNat z45).f0))) (.int .i64 ((script.getD i.toNat z45).f0))), (48, gv (decide (1 ≤ ((script.getD i.toNat z45).f0))) (.bool (decide (((script.getD i.toNat z45).f0) ≤ 6)))), (49, .bool false), (53, .pointer (some ⟨g92, 0, none⟩)), (54, .int .i64 ((script.getD i.toNat z45).f0)), (55, .bool false), (60, .pointer (some ⟨gd15, 0, none⟩)), (61, .slice A629 ((namesD d).length) c630), (62, .int .i64 (((namesD d).length) : Int))] ∧ Own w w_ [Chunk.view Kd.string S631 A629 ((namesD d).length) c630 (namesD d), Chunk.blk g92 (.cells #[.int .i64 ((script.getD i.toNat z45).f0), .string ((script.getD i.toNat z45).f1), .string ((script.getD i.toNat z45).f2), .int .i64 ((script.getD i.toNat z45).f3), .slice A80 ((script.getD i.toNat z45).f4.length) c81, .slice A84 ((script.getD i.toNat z45).f5.length) c85] 45 (0, 0)), Chunk.disk w.heap.size gd15 Sd d] ∧ (0 ≤ j ∧ j ≤ (namesD d).length) ∧ (tot = (totF (d.fs.take j.toNat) : Nat)) ∧ m_ = ((namesD d).length - j.toNat)) (((namesD d).length - (0 : Int).toNat)) ?_ ?_
            · refine ⟨0, 0, (HF646.pick (t := 63) rfl (HF646.pick (t := 10) rfl (HF646.pick (t := 27) rfl (HF646.pick (t := 0) rfl (HF646.pick (t := 5) rfl (HF646.pick (t := 25) rfl (HF646.pick (t := 26) rfl (HF646.pick (t := 28) rfl (HF646.pick (t := 29) rfl (HF646.pick (t := 30) rfl (HF646.pick (t := 31) rfl (HF646.pick (t := 7) rfl (HF646.pick (t := 6) rfl (HF646.pick (t := 32) rfl (HF646.pick (t := 33) rfl (HF646.pick (t := 34) rfl (HF646.pick (t := 35) rfl (HF646.pick (t := 36) rfl (HF646.pick (t := 37) rfl (HF646.pick (t := 38) rfl (HF646.pick (t := 39) rfl (HF646.pick (t := 40) rfl (HF646.pick (t := 41) rfl (HF646.pick (t := 8) rfl (HF646.pick (t := 9) rfl (HF646.pick (t := 42) rfl (HF646.pick (t := 43) rfl (HF646.pick (t := 44) rfl (HF646.pick (t := 45) rfl (HF646.pick (t := 46) rfl (HF646.pick (t := 47) rfl (HF646.pick (t := 48) rfl (HF646.pick (t := 49) rfl (HF646.pick (t := 53) rfl (HF646.pick (t := 54) rfl (HF646.pick (t := 55) rfl (HF646.pick (t := 60) rfl (HF646.pick (t := 61) rfl (HF646.pick (t := 62) rfl HF646.nil))))))))))))))))))))))))))))))))))))))), HO642.sel [0, 1, 2] (by decide), ?_, ?_, rfl⟩
              · omega
              · rfl
            · rintro m648 a649 w650 ⟨j, tot, HF651, HO652, hj, htot, hm653⟩
              have hnl := names_len d
              have hjl := hJ.len
              refine gw_seq fun K654 hK654 => ?_
              refine wp_region_lit ?_
              refine gw_ev HF651 (want_none rfl) rfl (by decide) (op_lss rfl (HF651.ev rfl) (HF651.ev rfl)) ?_
              intro a655 HF656; clear HF651
              refine wpList_nil ?_
              refine gw_nx (hK654 _ _ ?_)
              refine gw_seq fun K657 hK657 => ?_
              refine gw_cond HF656 rfl (fun hb658 => ?_) (fun hb658 => ?_)
              · skip
                have HF659 := HF656.subst_ (d := 64) (b := true) rfl hb658
                clear HF656
                (try simp only [Bool.and_eq_true, Bool.or_eq_true, Bool.and_eq_false_iff, Bool.or_eq_false_iff, Bool.not_and, Bool.not_or, Bool.not_not, decide_eq_true_eq, decide_eq_false_iff_not, Bool.not_eq_true', Bool.not_eq_false', Bool.not_eq_true, Bool.not_eq_false, ne_eq, Decidable.not_not, Int.not_lt, Int.not_le, not_true_eq_false, not_false_eq_true, bne_iff_ne, beq_iff_eq, bne_eq_false_iff_eq, beq_eq_false_iff_ne] at hb658)
                refine wp_skip ?_
                refine gw_nx (hK657 _ _ ?_)
                refine gw_seq fun K660 hK660 => ?_
                refine wp_block ?_
                refine gw_seq fun K661 hK661 => ?_
                refine wp_region_lit ?_
                have HO668 := HO652.pin 0 rfl
                clear HO652
                have HO669 : Own w w650 [Chunk.viewAt w650 Kd.string S631 A629 ((namesD d).length) c630 (namesD d), Chunk.blk g92 (.cells #[.int .i64 ((script.getD i.toNat z45).f0), .string ((script.getD i.toNat z45).f1), .string ((script.getD i.toNat z45).f2), .int .i64 ((script.getD i.toNat z45).f3), .slice A80 ((script.getD i.toNat z45).f4.length) c81, .slice A84 ((script.getD i.toNat z45).f5.length) c85] 45 (0, 0)), Chunk.disk w.heap.size gd15 Sd d] := HO668
                clear HO668
                obtain ⟨ad662, cs665, hA663, hl666, hK667, hc664, _⟩ := Kd.F_get (viewAt_F (HO669.get 0 rfl)) (⟨#[]⟩ : ByteArray) j (by omega) (by omega)
                obtain rfl := str_openF hK667
                clear hl666
                refine gw_ev HF659 (want_none rfl) rfl (by decide) (op_index Try.underlying37 gwsiz9 rfl (HF659.ev rfl) (HF659.ev rfl) hA663 (⟨by omega, by omega⟩)) ?_
                intro a670 HF671; clear HF659
                refine gw_ev HF671 (want_none rfl) rfl (by decide) (op_load1 gwagg9 rfl (HF671.ev rfl) (((pin_cells (HO669.get 0 rfl) hA663 hc664) 0 _ rfl))) ?_
                intro a672 HF673; clear HF671
                refine gw_ev HF673 (want_none rfl) rfl (by decide) (op_assign rfl (HF673.ev rfl)) ?_
                intro a674 HF675; clear HF673
                refine wpList_nil ?_
                refine gw_nx (hK661 _ _ ?_)
                refine gw_seq fun K676 hK676 => ?_
                refine wp_region_lit ?_
                refine gw_ev HF675 (want_none rfl) rfl (by decide) (op_move rfl (HF675.ev rfl)) ?_
                intro a677 HF678; clear HF675
                refine gw_ev HF678 (want_none rfl) rfl (by decide) (op_move rfl (HF678.ev rfl)) ?_
                intro a679 HF680; clear HF678
                refine gw_call HF680 (want_none rfl) rfl (by decide) (op_callL Try.func18 (by kernel_rfl) rfl rfl (ar_cons (HF680.ev rfl) (ar_cons (HF680.ev rfl) ar_nil))) ((by have h_ := read_calls w.heap.size gd15 Sd d ((namesD d).getD j.toNat (⟨#[]⟩ : ByteArray)) _ (by exact HO669.get 2 rfl) (names_sz hJ.wf j.toNat) hJ.wf (by have h1_ := hJ.wf.most; have h2_ := hJ.most; omega); rw [show (readD ((namesD d).getD j.toNat (⟨#[]⟩ : ByteArray)) d) = ((d.fs.getD j.toNat ⟨⟨#[]⟩, [], 0⟩).b, 0) from (read_at hJ.wf hJ.up j.toNat (by have h_ := names_len d; omega))] at h_; (try dsimp only at h_); exact h_)) ?_
                rintro e684 w685 ⟨A681, c682, S683, rfl, hb686⟩
                refine ⟨_, rfl, fun a687 HF688 => ?_⟩
                have HO689 := HO669.fresh hb686
                have hbel690 := HO669.below
                clear HF680 HO669 hb686
                have HO691 := HO689.lowrow 0 rfl (base' := w.heap.size) (Below.size hbel690)
                have HO692 : Own w w685 [Chunk.row (Kd.int .u8) 5 w.heap.size S683 (.slice A681 (((d.fs.getD j.toNat ⟨⟨#[]⟩, [], 0⟩).b).length) c682) ((d.fs.getD j.toNat ⟨⟨#[]⟩, [], 0⟩).b), Chunk.viewAt w650 Kd.string S631 A629 ((namesD d).length) c630 (namesD d), Chunk.blk g92 (.cells #[.int .i64 ((script.getD i.toNat z45).f0), .string ((script.getD i.toNat z45).f1), .string ((script.getD i.toNat z45).f2), .int .i64 ((script.getD i.toNat z45).f3), .slice A80 ((script.getD i.toNat z45).f4.length) c81, .slice A84 ((script.getD i.toNat z45).f5.length) c85] 45 (0, 0)), Chunk.disk w.heap.size gd15 Sd d] := HO691
                clear HO691
                refine gw_ev HF688 (want_none rfl) rfl (by decide) (op_move rfl (HF688.ev rfl)) ?_
                intro a693 HF694; clear HF688
                refine gw_ev HF694 (want_none rfl) rfl (by decide) (op_extract rfl (HF694.ev rfl) rfl) ?_
                intro a695 HF696; clear HF694
                refine gw_ev HF696 (want_none rfl) rfl (by decide) (op_extract rfl (HF696.ev rfl) rfl) ?_
                intro a697 HF698; clear HF696
                refine gw_ev HF698 (want_none rfl) rfl (by decide) (op_assign rfl (HF698.ev rfl)) ?_
                intro a699 HF700; clear HF698
                refine gw_ev HF700 (want_none rfl) rfl (by decide) (op_assign rfl (HF700.ev rfl)) ?_
                intro a701 HF702; clear HF700
                refine wpList_nil ?_
                refine gw_nx (hK676 _ _ ?_)
                refine wp_region_lit ?_
                refine gw_ev HF702 (want_none rfl) rfl (by decide) (op_move rfl (HF702.ev rfl)) ?_
                intro a703 HF704; clear HF702
                refine gw_ev HF704 (want_none rfl) rfl (by decide) (op_move rfl (HF704.ev rfl)) ?_
                intro a705 HF706; clear HF704
                refine gw_ev HF706 (want_none rfl) rfl (by decide) (op_len Try.underlying28 rfl (HF706.ev rfl)) ?_
                intro a707 HF708; clear HF706
                refine gw_ev HF708 (want_none rfl) rfl (by decide) (op_add rfl (HF708.ev rfl) (HF708.ev rfl) (by have h1_ := tot_take d.fs j.toNat (by omega); have h2_ := tot_le d.fs (j.toNat + 1); have h3_ : d.used = (totF d.fs : Nat) := hJ.wf.used; have h4_ := hJ.wf.most; have h5_ := hJ.most; omega)) ?_
                intro a709 HF710; clear HF708
                refine gw_ev HF710 (want_none rfl) rfl (by decide) (op_assign rfl (HF710.ev rfl)) ?_
                intro a711 HF712; clear HF710
                refine wpList_nil ?_
                refine gw_blk ?_
                refine gw_nx (hK660 _ _ ?_)
                refine wp_region_lit ?_
                refine gw_ev HF712 (want_none rfl) rfl (by decide) (op_add rfl (HF712.ev rfl) (ev_c _ _) (by omega)) ?_
                intro a713 HF714; clear HF712
                refine gw_ev HF714 (want_none rfl) rfl (by decide) (op_move rfl (HF714.ev rfl)) ?_
                intro a715 HF716; clear HF714
                refine wpList_nil ?_
                have HO717 := HO692.unpin 1 rfl
                clear HO692
                have HO718 : Own w w685 [Chunk.row (Kd.int .u8) 5 w.heap.size S683 (.slice A681 (((d.fs.getD j.toNat ⟨⟨#[]⟩, [], 0⟩).b).length) c682) ((d.fs.getD j.toNat ⟨⟨#[]⟩, [], 0⟩).b), Chunk.view Kd.string S631 A629 ((namesD d).length) c630 (namesD d), Chunk.blk g92 (.cells #[.int .i64 ((script.getD i.toNat z45).f0), .string ((script.getD i.toNat z45).f1), .string ((script.getD i.toNat z45).f2), .int .i64 ((script.getD i.toNat z45).f3), .slice A80 ((script.getD i.toNat z45).f4.length) c81, .slice A84 ((script.getD i.toNat z45).f5.length) c85] 45 (0, 0)), Chunk.disk w.heap.size gd15 Sd d] := HO717
                clear HO717
                refine gw_nx ⟨_, ?_, j + 1, (tot + ((((d.fs.getD j.toNat ⟨⟨#[]⟩, [], 0⟩).b).length) : Int)), (HF716.pick (t := 63) rfl (HF716.pick (t := 10) rfl (HF716.pick (t := 27) rfl (HF716.pick (t := 0) rfl (HF716.pick (t := 5) rfl (HF716.pick (t := 25) rfl (HF716.pick (t := 26) rfl (HF716.pick (t := 28) rfl (HF716.pick (t := 29) rfl (HF716.pick (t := 30) rfl (HF716.pick (t := 31) rfl (HF716.pick (t := 7) rfl (HF716.pick (t := 6) rfl (HF716.pick (t := 32) rfl (HF716.pick (t := 33) rfl (HF716.pick (t := 34) rfl (HF716.pick (t := 35) rfl (HF716.pick (t := 36) rfl (HF716.pick (t := 37) rfl (HF716.pick (t := 38) rfl (HF716.pick (t := 39) rfl (HF716.pick (t := 40) rfl (HF716.pick (t := 41) rfl (HF716.pick (t := 8) rfl (HF716.pick (t := 9) rfl (HF716.pick (t := 42) rfl (HF716.pick (t := 43) rfl (HF716.pick (t := 44) rfl (HF716.pick (t := 45) rfl (HF716.pick (t := 46) rfl (HF716.pick (t := 47) rfl (HF716.pick (t := 48) rfl (HF716.pick (t := 49) rfl (HF716.pick (t := 53) rfl (HF716.pick (t := 54) rfl (HF716.pick (t := 55) rfl (HF716.pick (t := 60) rfl (HF716.pick (t := 61) rfl (HF716.pick (t := 62) rfl HF716.nil))))))))))))))))))))))))))))))))))))))), HO718.sel [1, 2, 3] (by decide), ?_, ?_, rfl⟩
                · rw [hm653]; omega
                · omega
                · rw [show (j + 1).toNat = j.toNat + 1 by omega, tot_take _ _ (by have h_ := names_len d; omega)]; omega
              · skip
                have HF719 := HF656.subst_ (d := 64) (b := false) rfl hb658
                clear HF656
                (try simp only [Bool.and_eq_true, Bool.or_eq_true, Bool.and_eq_false_iff, Bool.or_eq_false_iff, Bool.not_and, Bool.not_or, Bool.not_not, decide_eq_true_eq, decide_eq_false_iff_not, Bool.not_eq_true', Bool.not_eq_false', Bool.not_eq_true, Bool.not_eq_false, ne_eq, Decidable.not_not, Int.not_lt, Int.not_le, not_true_eq_false, not_false_eq_true, bne_iff_ne, beq_iff_eq, bne_eq_false_iff_eq, beq_eq_false_iff_ne] at hb658)
                have htot2 : tot = d.used := by rw [htot, List.take_of_length_le (by omega)]; exact hJ.wf.used.symm
                have hDu := hJ.wf.used
                have hDm := hJ.wf.most
                have hDr := hJ.most
                refine wp_exit ?_
                refine gw_thx ?_
                refine gw_thx ?_
                refine gw_in ?_
                refine gw_nx (hK625 _ _ ?_)
                refine gw_seq fun K720 hK720 => ?_
                refine gw_drawB HO652 (by kernel_rfl) (by kernel_rfl) fun w721 HO722 => ?_
                clear HO652
                refine gq_ev HF719 (want_none rfl) rfl (by decide) (fun wq hq => have HO := HO722.after hq; (op_move rfl (HF719.ev rfl))) ?_
                intro a723 HF724; clear HF719
                refine gq_call HF724 (want_none rfl) rfl (by decide) (fun wq hq => have HO := HO722.after hq; (op_callL Try.func24 (by kernel_rfl) rfl rfl (ar_cons (HF724.ev rfl) ar_nil))) (fun wq hq => have HO := HO722.after hq; (room_calls w.heap.size gd15 Sd d _ (HO.get 2 rfl) hJ.wf).mono fun e w' h => ⟨h.1, below_then hq h.2⟩) ?_
                intro a725 HF726; clear HF724
                refine gq_ev HF726 (want_none rfl) rfl (by decide) (fun wq hq => have HO := HO722.after hq; (op_move rfl (HF726.ev rfl))) ?_
                intro a727 HF728; clear HF726
                refine gq_ev HF728 (want_none rfl) rfl (by decide) (fun wq hq => have HO := HO722.after hq; (op_move rfl (HF728.ev rfl))) ?_
                intro a729 HF730; clear HF728
                refine gq_ev HF730 (want_none rfl) rfl (by decide) (fun wq hq => have HO := HO722.after hq; (op_sub rfl (HF730.ev rfl) (HF730.ev rfl) (by omega))) ?_
                intro a731 HF732; clear HF730
                refine gq_ev HF732 (want_none rfl) rfl (by decide) (fun wq hq => have HO := HO722.after hq; (op_nei rfl (HF732.ev rfl) (HF732.ev rfl))) ?_
                intro a733 HF734; clear HF732
                have HF735 := HF734.lit (b := false) (by have h1_ := hJ.most; rw [decide_eq_false_iff_not]; omega)
                clear HF734
                refine gq_ev HF735 (want_none rfl) rfl (by decide) (fun wq hq => have HO := HO722.after hq; (op_move rfl (HF735.ev rfl))) ?_
                intro a736 HF737; clear HF735
                refine gq_ev HF737 (want_yes HF737 rfl rfl rfl rfl) rfl (by decide) (fun wq hq => have HO := HO722.after hq; (op_move rfl (HF737.ev rfl))) ?_
                intro a738 HF739; clear HF737
                refine gq_call HF739 (want_yes HF739 rfl rfl rfl rfl) rfl (by decide) (fun wq hq => have HO := HO722.after hq; (op_callL Try.func24 (by kernel_rfl) rfl rfl (ar_cons (HF739.ev rfl) ar_nil))) (fun wq hq => have HO := HO722.after hq; (room_calls w.heap.size gd15 Sd d _ (HO.get 2 rfl) hJ.wf).mono fun e w' h => ⟨h.1, below_then hq h.2⟩) ?_
                intro a740 HF741; clear HF739
                refine gq_ev HF741 (want_yes HF741 rfl rfl rfl rfl) rfl (by decide) (fun wq hq => have HO := HO722.after hq; (op_lss rfl (HF741.ev rfl) (ev_c _ _))) ?_
                intro a742 HF743; clear HF741
                have HF744 := HF743.lit (b := false) (by have h1_ := hJ.wf.most; rw [decide_eq_false_iff_not]; omega)
                clear HF743
                refine gq_ev HF744 (want_none rfl) rfl (by decide) (fun wq hq => have HO := HO722.after hq; (op_pick_f rfl (HF744.ev rfl) (HF744.ev rfl))) ?_
                intro a745 HF746; clear HF744
                refine gq_ev HF746 (want_none rfl) rfl (by decide) (fun wq hq => have HO := HO722.after hq; (op_move rfl (HF746.ev rfl))) ?_
                intro a747 HF748; clear HF746
                refine gq_ev HF748 (want_yes HF748 rfl rfl rfl rfl) rfl (by decide) (fun wq hq => have HO := HO722.after hq; (op_field (gwfld45_0 _ _) rfl (HF748.ev rfl))) ?_
                intro a749 HF750; clear HF748
                refine gq_ev HF750 (want_yes HF750 rfl rfl rfl rfl) rfl (by decide) (fun wq hq => have HO := HO722.after hq; (op_load1 gwagg3 rfl (HF750.ev rfl) (blk_at (HO.get 1 rfl) rfl))) ?_
                intro a751 HF752; clear HF750
                refine gq_ev HF752 (want_yes HF752 rfl rfl rfl rfl) rfl (by decide) (fun wq hq => have HO := HO722.after hq; (op_eqi rfl (HF752.ev rfl) (ev_c _ _))) ?_
                intro a753 HF754; clear HF752
                have HF755 := HF754.lit (b := false) (by rw [decide_eq_false_iff_not]; omega)
                clear HF754
                refine gq_ev HF755 (want_yes HF755 rfl rfl rfl rfl) rfl (by decide) (fun wq hq => have HO := HO722.after hq; (op_move rfl (HF755.ev rfl))) ?_
                intro a756 HF757; clear HF755
                refine gq_off HF757 (want_no HF757 rfl rfl rfl rfl (by decide)) rfl (by decide) ?_
                intro a758 HF759; clear HF757
                refine gq_off HF759 (want_no HF759 rfl rfl rfl rfl (by decide)) rfl (by decide) ?_
                intro a760 HF761; clear HF759
                refine gq_ev HF761 (want_yes HF761 rfl rfl rfl rfl) rfl (by decide) (fun wq hq => have HO := HO722.after hq; (op_pick_f rfl (HF761.ev rfl) (ev_c _ _))) ?_
                intro a762 HF763; clear HF761
                refine gq_ev HF763 (want_yes HF763 rfl rfl rfl rfl) rfl (by decide) (fun wq hq => have HO := HO722.after hq; (op_move rfl (HF763.ev rfl))) ?_
                intro a764 HF765; clear HF763
                refine gq_off HF765 (want_no HF765 rfl rfl rfl rfl (by decide)) rfl (by decide) ?_
                intro a766 HF767; clear HF765
                refine gq_off HF767 (want_no HF767 rfl rfl rfl rfl (by decide)) rfl (by decide) ?_
                intro a768 HF769; clear HF767
                refine gq_off HF769 (want_no HF769 rfl rfl rfl rfl (by decide)) rfl (by decide) ?_
                intro a770 HF771; clear HF769
                refine gq_off HF771 (want_no HF771 rfl rfl rfl rfl (by decide)) rfl (by decide) ?_
                intro a772 HF773; clear HF771
                refine gq_off HF773 (want_no HF773 rfl rfl rfl rfl (by decide)) rfl (by decide) ?_
                intro a774 HF775; clear HF773
                refine gq_off HF775 (want_no HF775 rfl rfl rfl rfl (by decide)) rfl (by decide) ?_
                intro a776 HF777; clear HF775
                refine gq_off HF777 (want_no HF777 rfl rfl rfl rfl (by decide)) rfl (by decide) ?_
                intro a778 HF779; clear HF777
                refine gq_off HF779 (want_no HF779 rfl rfl rfl rfl (by decide)) rfl (by decide) ?_
                intro a780 HF781; clear HF779
                refine gq_ev HF781 (want_yes HF781 rfl rfl rfl rfl) rfl (by decide) (fun wq hq => have HO := HO722.after hq; (op_pick_f rfl (HF781.ev rfl) (ev_c _ _))) ?_
                intro a782 HF783; clear HF781
                refine gq_ev HF783 (want_none rfl) rfl (by decide) (fun wq hq => have HO := HO722.after hq; (op_pick_f rfl (HF783.ev rfl) (HF783.ev rfl))) ?_
                intro a784 HF785; clear HF783
                refine gq_ev HF785 (want_none rfl) rfl (by decide) (fun wq hq => have HO := HO722.after hq; (op_move rfl (HF785.ev rfl))) ?_
                intro a786 HF787; clear HF785
                refine gq_ev HF787 (want_yes HF787 rfl rfl rfl rfl) rfl (by decide) (fun wq hq => have HO := HO722.after hq; (op_move rfl (HF787.ev rfl))) ?_
                intro a788 HF789; clear HF787
                refine gq_ev HF789 (want_yes HF789 rfl rfl rfl rfl) rfl (by decide) (fun wq hq => have HO := HO722.after hq; (op_eqi rfl (HF789.ev rfl) (ev_c _ _))) ?_
                intro a790 HF791; clear HF789
                have HF792 := HF791.lit (b := false) (by decide)
                clear HF791
                refine gq_ev HF792 (want_yes HF792 rfl rfl rfl rfl) rfl (by decide) (fun wq hq => have HO := HO722.after hq; (op_move rfl (HF792.ev rfl))) ?_
                intro a793 HF794; clear HF792
                refine gq_off HF794 (want_no HF794 rfl rfl rfl rfl (by decide)) rfl (by decide) ?_
                intro a795 HF796; clear HF794
                refine gq_off HF796 (want_no HF796 rfl rfl rfl rfl (by decide)) rfl (by decide) ?_
                intro a797 HF798; clear HF796
                refine gq_off HF798 (want_no HF798 rfl rfl rfl rfl (by decide)) rfl (by decide) ?_
                intro a799 HF800; clear HF798
                refine gq_off HF800 (want_no HF800 rfl rfl rfl rfl (by decide)) rfl (by decide) ?_
                intro a801 HF802; clear HF800
                refine gq_off HF802 (want_no HF802 rfl rfl rfl rfl (by decide)) rfl (by decide) ?_
                intro a803 HF804; clear HF802
                refine gq_off HF804 (want_undef HF804 rfl rfl rfl rfl) rfl (by decide) ?_
                intro a805 HF806; clear HF804
                refine gq_off HF806 (want_undef HF806 rfl rfl rfl rfl) rfl (by decide) ?_
                intro a807 HF808; clear HF806
                refine gq_off HF808 (want_undef HF808 rfl rfl rfl rfl) rfl (by decide) ?_
                intro a809 HF810; clear HF808
                refine gq_off HF810 (want_undef HF810 rfl rfl rfl rfl) rfl (by decide) ?_
                intro a811 HF812; clear HF810
                refine gq_off HF812 (want_undef HF812 rfl rfl rfl rfl) rfl (by decide) ?_
                intro a813 HF814; clear HF812
                refine gq_off HF814 (want_no HF814 rfl rfl rfl rfl (by decide)) rfl (by decide) ?_
                intro a815 HF816; clear HF814
                refine gq_ev HF816 (want_yes HF816 rfl rfl rfl rfl) rfl (by decide) (fun wq hq => have HO := HO722.after hq; (op_pick_f rfl (HF816.ev rfl) (ev_c _ _))) ?_
                intro a817 HF818; clear HF816
                refine gq_ev HF818 (want_none rfl) rfl (by decide) (fun wq hq => have HO := HO722.after hq; (op_pick_f rfl (HF818.ev rfl) (HF818.ev rfl))) ?_
                intro a819 HF820; clear HF818
                refine wpQuiet_nil ?_
                intro w821 hq
                have HO822 := HO722.after hq
                clear HO722 hq
                refine gw_nx (hK720 _ _ ?_)
                refine gw_cond HF820 rfl (fun hb823 => ?_) (fun hb823 => ?_)
                skip
                · cases hb823
                refine wp_skip ?_
                refine gw_blk ?_
                refine gw_nx (hK70 _ _ ?_)
                refine wp_region_lit ?_
                refine gw_ev HF820 (want_none rfl) rfl (by decide) (op_add rfl (HF820.ev rfl) (ev_c _ _) (by omega)) ?_
                intro a824 HF825; clear HF820
                refine gw_ev HF825 (want_none rfl) rfl (by decide) (op_move rfl (HF825.ev rfl)) ?_
                intro a826 HF827; clear HF825
                refine wpList_nil ?_
                refine gw_nx ⟨_, ?_, i + 1, d, Sd, (HF827.pick (t := 27) rfl (HF827.pick (t := 0) rfl (HF827.pick (t := 5) rfl (HF827.pick (t := 25) rfl (HF827.pick (t := 26) rfl HF827.nil))))), HO822.sel [2] (by decide), ?_, ?_, rfl⟩
                · rw [hm63]; omega
                · omega
                · exact hJ.more (by unfold mn; (repeat' split) <;> omega)
    · skip
      have HF828 := HF66.subst_ (d := 28) (b := false) rfl hb68
      clear HF66
      (try simp only [Bool.and_eq_true, Bool.or_eq_true, Bool.and_eq_false_iff, Bool.or_eq_false_iff, Bool.not_and, Bool.not_or, Bool.not_not, decide_eq_true_eq, decide_eq_false_iff_not, Bool.not_eq_true', Bool.not_eq_false', Bool.not_eq_true, Bool.not_eq_false, ne_eq, Decidable.not_not, Int.not_lt, Int.not_le, not_true_eq_false, not_false_eq_true, bne_iff_ne, beq_iff_eq, bne_eq_false_iff_eq, beq_eq_false_iff_ne] at hb68)
      refine wp_exit ?_
      refine gw_thx ?_
      refine gw_thx ?_
      refine gw_in ?_
      refine gw_nx (hK49 _ _ ?_)
      refine gw_seq fun K829 hK829 => ?_
      refine wp_region_lit ?_
      refine gw_ev HF828 (want_none rfl) rfl (by decide) (op_assign rfl (ev_c _ _)) ?_
      intro a830 HF831; clear HF828
      refine wpList_nil ?_
      refine gw_nx (hK829 _ _ ?_)
      refine wp_ret ?_
      refine gw_ret1 HF831 rfl rfl ?_
      exact ⟨rfl, HO62.below⟩
end GVfsR_
export GVfsR_ (does_calls VfsRoom_walk)
open Classical in
noncomputable def colloquylaw07_VfsRoom.f (a0 : Int) (l1 : List S45) : Option Bool := if (l1.length ≤ 4000000000000) ∧ (∀ x ∈ l1, x.f1.size ≤ 9223372036854775807 ∧ x.f2.size ≤ 9223372036854775807) then some true else none
theorem colloquylaw07_VfsRoom.calls (a0 : Int) (A1 : Option Addr) (c1 : Nat) (l1 : List S45) (r : Bool) (w : World) (hr1 : Kd.C k45 w A1 l1.length l1) (hc1 : l1.length ≤ c1) (h : colloquylaw07_VfsRoom.f a0 l1 = some r) :
    Calls Try.prog 6 #[(.int .i64 a0), (.slice A1 l1.length c1)] w fun e w' => e = .returned (.bool r) ∧ Below w.heap.size w w' := by
  unfold colloquylaw07_VfsRoom.f at h
  split at h
  · cases h; rename_i hh; exact VfsRoom_walk a0 A1 c1 l1 w hr1 hc1 hh.1 hh.2
  · cases h
end Go.Proofs.Ytkdahjnmldeklaa.PA
