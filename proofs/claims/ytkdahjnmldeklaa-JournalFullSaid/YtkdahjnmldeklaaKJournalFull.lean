/- The row of the law JournalFull: for every input the call returns true and leaves its arguments as they were. Printed by a program of this session. -/
/- What this claim uses of this session's own texts, put together by a program: GJour3 HJLaw HJourL GJAlive HMake GJFull HOpen StmtJournalFull PureJournalFull LawJournalFull. -/
import Derived.Test.YtkdahjnmldeklaaKJournalFull2
import Derived.Test.YtkdahjnmldeklaaProg
import Derived.Test.YtkdahjnmldeklaaRows
section
namespace Go.Proofs.Ytkdahjnmldeklaa.PA
open Go.RowKit Go.Proofs.YtkdahjnmldeklaaW.PrintWords Go.Proofs.YtkdahjnmldeklaaW.PrintLast Go.Proofs.YtkdahjnmldeklaaW.PrintMore
set_option linter.unusedVariables false
set_option linter.unusedSimpArgs false
namespace GJour3_
theorem gwagg3 : ∀ w, (isAgg 3).run Try.prog w = .ok false w := fun _ => by kernel_rfl
theorem gwagg98 : ∀ w, (isAgg 98).run Try.prog w = .ok false w := fun _ => by kernel_rfl
theorem gwfld100_2 (g off : Nat) : ∀ w, (Instr.fieldAt 100 (.pointer (some ⟨g, off, none⟩)) 2).run Try.prog w = .ok (.pointer (some ⟨g, off + 2, none⟩)) w := fun _ => by kernel_rfl
theorem gwfld100_3 (g off : Nat) : ∀ w, (Instr.fieldAt 100 (.pointer (some ⟨g, off, none⟩)) 3).run Try.prog w = .ok (.pointer (some ⟨g, off + 3, none⟩)) w := fun _ => by kernel_rfl
theorem gwsiz3 : ∀ w, (sizeOf 3).run Try.prog w = .ok 1 w := fun _ => by kernel_rfl
theorem gwsiz5 : ∀ w, (sizeOf 5).run Try.prog w = .ok 1 w := fun _ => by kernel_rfl
set_option maxHeartbeats 4000000 in
set_option maxRecDepth 100000 in
theorem open_calls (w0 w : World) (R : Chunk) (gd : Nat) (S : Nat → Prop) (d : PD) (nm : ByteArray) (hw : wfD d) (hn : nm.size ≤ 9223372036854775807) (hlen : d.fs.length ≤ 1000000) (hus : d.used ≤ 1000000) (hbb : ByteL (readD nm d).1) (HO : Own w0 w [R, Chunk.disk w0.heap.size gd S d]) :
    Calls Try.prog 32 #[.pointer (some ⟨gd, 0, none⟩), .string nm] w fun e w' => (e = .returned (.tuple #[.pointer none, .int .i64 (openJ nm d).1.2]) ∧ (openJ nm d).1.2 ≠ 0 ∧ ∃ S', Own w0 w' [R, Chunk.disk w0.heap.size gd S' (openJ nm d).1.1]) ∨ ((openJ nm d).1.2 = 0 ∧ ∃ gj SJ S', e = .returned (.tuple #[.pointer (some ⟨gj, 0, none⟩), .int .i64 0]) ∧ Own w0 w' [R, Chunk.disk w0.heap.size gd S' (openJ nm d).1.1, Chunk.jour w0.heap.size gd gj nm SJ (openJ nm d).2.1 (openJ nm d).2.2]) := by
 have hbl : ((readD nm d).1.length : Int) ≤ 1000000 := Int.le_trans (read_len hw) hus
 refine gw_startO (N := 100) (vs := [.pointer (some ⟨gd, 0, none⟩), .string nm]) Try.func32 rfl rfl (by simp) fun a HF => ?_
 refine gw_seq fun K1 hK1 => ?_
 refine wp_region_lit ?_
 refine V HF (op_assign rfl (ev_c _ _)) ?_
 intro _ H3; clear HF
 refine V H3 (op_assign rfl (ev_c _ _)) ?_
 intro _ H5; clear H3
 refine wpList_nil ?_
 refine gw_nx (hK1 _ _ ?_)
 refine gw_seq fun K6 hK6 => ?_
 refine wp_region_lit ?_
 refine V H5 (op_move rfl (H5.ev rfl)) ?_
 intro _ H8; clear H5
 refine V H8 (op_move rfl (H8.ev rfl)) ?_
 intro _ H10; clear H8
 refine gw_mkmap (K := 2) H10 HO (want_none rfl) rfl (by decide) rfl ?_
 intro g11 _ w13 H14 O15; clear H10 HO
 have O16 : Own w0 w13 [Chunk.lmap Try.prog 2 g11 ([] : List (Lit × Value)), R, Chunk.disk w0.heap.size gd S d] := O15
 clear O15
 refine V H14 (op_build (cells := #[.pointer (some ⟨gd, 0, none⟩), .string nm, .map (some g11), J 0]) rfl (pt_cons (H14.ev rfl) (pt_cons (H14.ev rfl) (pt_cons (H14.ev rfl) pt_nil))) (by kernel_rfl)) ?_
 intro _ H18; clear H14
 refine gw_new H18 O16 (want_none rfl) rfl (by decide) (op_box rfl (H18.ev rfl)) ?_
 intro g19 _ w21 H22 O23; clear H18 O16
 have O24 : Own w0 w21 [Bk g19 [.pointer (some ⟨gd, 0, none⟩), .string nm, .map (some g11), J 0] 100, Chunk.lmap Try.prog 2 g11 ([] : List (Lit × Value)), R, Chunk.disk w0.heap.size gd S d] := O23
 clear O23
 refine V H22 (op_assign rfl (H22.ev rfl)) ?_
 intro _ H26; clear H22
 have O27 := Own.jrows_nil O24 w0.heap.size
 have O28 : Own w0 w21 [Chunk.jrows w0.heap.size ([]), Bk g19 [.pointer (some ⟨gd, 0, none⟩), .string nm, .map (some g11), J 0] 100, Chunk.lmap Try.prog 2 g11 ([] : List (Lit × Value)), R, Chunk.disk w0.heap.size gd S d] := O27
 clear O27
 refine wpList_nil ?_
 refine gw_nx (hK6 _ _ ?_)
 refine gw_seq fun K29 hK29 => ?_
 refine wp_region_lit ?_
 refine V H26 (op_move rfl (H26.ev rfl)) ?_
 intro _ H31; clear H26
 refine V H31 (op_move rfl (H31.ev rfl)) ?_
 intro _ H33; clear H31
 refine gw_call H33 (want_none rfl) rfl (by decide) (op_callL Try.func18 (by kernel_rfl) rfl rfl (ar_cons (H33.ev rfl) (ar_cons (H33.ev rfl) ar_nil))) (read_calls w0.heap.size gd S d nm _ (by exact O28.get 4 rfl) hn hw (by first | decide | omega)) ?_
 rintro e37 w38 ⟨A34, c35, S36, rfl, hb39⟩
 refine ⟨_, rfl, fun _ H41 => ?_⟩
 have O42 := O28.fresh hb39
 have hbel43 := O28.below
 clear H33 O28 hb39
 have O44 := O42.lowrow 0 rfl (base' := w0.heap.size) (Below.size hbel43)
 have O45 : Own w0 w38 [Chunk.row (Kd.int .u8) 5 w0.heap.size S36 (.slice A34 (((readD nm d).1).length) c35) ((readD nm d).1), Chunk.jrows w0.heap.size ([]), Bk g19 [.pointer (some ⟨gd, 0, none⟩), .string nm, .map (some g11), J 0] 100, Chunk.lmap Try.prog 2 g11 ([] : List (Lit × Value)), R, Chunk.disk w0.heap.size gd S d] := O44
 clear O44
 refine V H41 (op_move rfl (H41.ev rfl)) ?_
 intro _ H47; clear H41
 refine V H47 (op_extract rfl (H47.ev rfl) rfl) ?_
 intro _ H49; clear H47
 refine V H49 (op_extract rfl (H49.ev rfl) rfl) ?_
 intro _ H51; clear H49
 refine V H51 (op_assign rfl (H51.ev rfl)) ?_
 intro _ H53; clear H51
 have O54 := O45.row_view 0 rfl
 clear O45
 have O55 : Own w0 w38 [Chunk.view (Kd.int .u8) S36 A34 (((readD nm d).1).length) c35 ((readD nm d).1), Chunk.jrows w0.heap.size ([]), Bk g19 [.pointer (some ⟨gd, 0, none⟩), .string nm, .map (some g11), J 0] 100, Chunk.lmap Try.prog 2 g11 ([] : List (Lit × Value)), R, Chunk.disk w0.heap.size gd S d] := O54
 clear O54
 refine V H53 (op_assign rfl (H53.ev rfl)) ?_
 intro _ H57; clear H53
 refine wpList_nil ?_
 refine gw_nx (hK29 _ _ ?_)
 refine gw_joinS (fun a_ w_ => ∃ (d1 : PD) (S1 : Nat → Prop) (e8 : Int), Fr 100 a_ [(8, J e8), (0, .pointer (some ⟨gd, 0, none⟩)), (1, .string nm), (4, .pointer none), (5, J 0), (6, .pointer (some ⟨g19, 0, none⟩)), (7, .slice A34 (((readD nm d).1).length) c35)] ∧ Own w0 w_ [Chunk.view (Kd.int .u8) S36 A34 (((readD nm d).1).length) c35 ((readD nm d).1), Chunk.jrows w0.heap.size ([]), Bk g19 [.pointer (some ⟨gd, 0, none⟩), .string nm, .map (some g11), J 0] 100, Chunk.lmap Try.prog 2 g11 ([] : List (Lit × Value)), R, Chunk.disk w0.heap.size gd S1 d1] ∧ (wfD d1) ∧ (preJ nm d = (d1, e8))) ?_ ?_
 ·
  refine gw_seq fun K58 hK58 => ?_
  refine wp_region_lit ?_
  refine V H57 (op_move rfl (H57.ev rfl)) ?_
  intro _ H60; clear H57
  refine V H60 (op_eqi rfl (H60.ev rfl) (ev_c _ _)) ?_
  intro _ H62; clear H60
  refine wpList_nil ?_
  refine gw_nx (hK58 _ _ ?_)
  refine gw_cond H62 rfl (fun hb63 => ?_) (fun hb63 => ?_)
  ·
   have H64 := H62.subst_ (d := 28) (b := true) rfl hb63
   clear H62
   (try simp only [decide_eq_true_eq] at hb63)
   have h28 := hb63
   refine wp_region_lit ?_
   refine V H64 (op_move rfl (H64.ev rfl)) ?_
   intro _ H66; clear H64
   refine V H66 (op_move rfl (H66.ev rfl)) ?_
   intro _ H68; clear H66
   have O77 : Own w0 _ [(Chunk.all [Chunk.view (Kd.int .u8) S36 A34 (((readD nm d).1).length) c35 ((readD nm d).1), Chunk.jrows w0.heap.size ([]), Bk g19 [.pointer (some ⟨gd, 0, none⟩), .string nm, .map (some g11), J 0] 100, Chunk.lmap Try.prog 2 g11 ([] : List (Lit × Value)), R]), Chunk.disk w0.heap.size gd S d] := Own.bundle (A := [Chunk.view (Kd.int .u8) S36 A34 (((readD nm d).1).length) c35 ((readD nm d).1), Chunk.jrows w0.heap.size ([]), Bk g19 [.pointer (some ⟨gd, 0, none⟩), .string nm, .map (some g11), J 0] 100, Chunk.lmap Try.prog 2 g11 ([] : List (Lit × Value)), R]) (L := [Chunk.disk w0.heap.size gd S d]) (O55.sel [0, 1, 2, 3, 4, 5] (by decide))
   refine gw_call H68 (want_none rfl) rfl (by decide) (op_callL Try.func13 (by kernel_rfl) rfl rfl (ar_cons (H68.ev rfl) (ar_cons (H68.ev rfl) ar_nil))) (create_calls w0 _ (Chunk.all [Chunk.view (Kd.int .u8) S36 A34 (((readD nm d).1).length) c35 ((readD nm d).1), Chunk.jrows w0.heap.size ([]), Bk g19 [.pointer (some ⟨gd, 0, none⟩), .string nm, .map (some g11), J 0] 100, Chunk.lmap Try.prog 2 g11 ([] : List (Lit × Value)), R]) gd S d nm hw hn (by first | decide | omega) (by exact O77)) ?_
   rintro e71 w72 ⟨rfl, S69, hb73⟩
   refine ⟨_, rfl, fun _ H75 => ?_⟩
   have O76 : Own w0 w72 [Chunk.view (Kd.int .u8) S36 A34 (((readD nm d).1).length) c35 ((readD nm d).1), Chunk.jrows w0.heap.size ([]), Bk g19 [.pointer (some ⟨gd, 0, none⟩), .string nm, .map (some g11), J 0] 100, Chunk.lmap Try.prog 2 g11 ([] : List (Lit × Value)), R, Chunk.disk w0.heap.size gd S69 ((createD nm d).1)] := Own.unbundle (A := [Chunk.view (Kd.int .u8) S36 A34 (((readD nm d).1).length) c35 ((readD nm d).1), Chunk.jrows w0.heap.size ([]), Bk g19 [.pointer (some ⟨gd, 0, none⟩), .string nm, .map (some g11), J 0] 100, Chunk.lmap Try.prog 2 g11 ([] : List (Lit × Value)), R]) (L := [Chunk.disk w0.heap.size gd S69 ((createD nm d).1)]) (hb73.sel [0, 1] (by decide))
   clear O77
   clear H68 O55 hb73
   have O79 : Own w0 w72 [Chunk.view (Kd.int .u8) S36 A34 (((readD nm d).1).length) c35 ((readD nm d).1), Chunk.jrows w0.heap.size ([]), Bk g19 [.pointer (some ⟨gd, 0, none⟩), .string nm, .map (some g11), J 0] 100, Chunk.lmap Try.prog 2 g11 ([] : List (Lit × Value)), R, Chunk.disk w0.heap.size gd S69 ((createD nm d).1)] := O76
   clear O76
   have hwf70 : wfD ((createD nm d).1) := wf_create hw
   refine V H75 (op_assign rfl (H75.ev rfl)) ?_
   intro _ H81; clear H75
   refine wpList_nil ?_
   refine gw_nx ⟨((createD nm d).1), S69, ((createD nm d).2), (H81.pick (t := 8) rfl (H81.pick (t := 0) rfl (H81.pick (t := 1) rfl (H81.pick (t := 4) rfl (H81.pick (t := 5) rfl (H81.pick (t := 6) rfl (H81.pick (t := 7) rfl H81.nil))))))), O79.sel [0, 1, 2, 3, 4, 5] (by decide), ?_, ?_⟩
   ·
    exact hwf70
   ·
    unfold preJ; first | exact if_pos h28 | exact if_neg h28
  ·
   have H82 := H62.subst_ (d := 28) (b := false) rfl hb63
   clear H62
   (try simp only [decide_eq_false_iff_not] at hb63)
   have h28 := hb63
   refine wp_skip ?_
   refine gw_nx ⟨d, S, ((readD nm d).2), (H82.pick (t := 8) rfl (H82.pick (t := 0) rfl (H82.pick (t := 1) rfl (H82.pick (t := 4) rfl (H82.pick (t := 5) rfl (H82.pick (t := 6) rfl (H82.pick (t := 7) rfl H82.nil))))))), O55.sel [0, 1, 2, 3, 4, 5] (by decide), ?_, ?_⟩
   ·
    exact hw
   ·
    unfold preJ; first | exact if_pos h28 | exact if_neg h28
 ·
  rintro _ w84 ⟨d1, S1, e8, H85, O86, hw1, hpre⟩
  refine gw_seq fun K87 hK87 => ?_
  refine gw_seq fun K88 hK88 => ?_
  refine wp_region_lit ?_
  refine V H85 (op_move rfl (H85.ev rfl)) ?_
  intro _ H90; clear H85
  refine V H90 (op_nei rfl (H90.ev rfl) (ev_c _ _)) ?_
  intro _ H92; clear H90
  refine wpList_nil ?_
  refine gw_nx (hK88 _ _ ?_)
  refine gw_cond H92 rfl (fun hb93 => ?_) (fun hb93 => ?_)
  ·
   have H94 := H92.subst_ (d := 33) (b := true) rfl hb93
   clear H92
   (try simp only [decide_eq_true_eq, ne_eq] at hb93)
   have hne : e8 ≠ 0 := hb93
   refine gw_seq fun K95 hK95 => ?_
   refine wp_region_lit ?_
   refine V H94 (op_move rfl (H94.ev rfl)) ?_
   intro _ H97; clear H94
   refine V H97 (op_assign rfl (ev_c _ _)) ?_
   intro _ H99; clear H97
   refine V H99 (op_assign rfl (H99.ev rfl)) ?_
   intro _ H101; clear H99
   refine wpList_nil ?_
   refine gw_nx (hK95 _ _ ?_)
   refine wp_ret ?_
   refine gw_thr ?_
   refine gw_ret2 H101 rfl rfl rfl ?_
   rw [open1 hpre hne]
   exact .inl ⟨rfl, by first | exact hne | (show _ ≠ _; exact hne), _, O86.sel [4, 5] (by decide)⟩
  ·
   have H102 := H92.subst_ (d := 33) (b := false) rfl hb93
   clear H92
   (try simp only [decide_eq_false_iff_not, ne_eq, Decidable.not_not] at hb93)
   have he8 : e8 = 0 := by omega
   refine wp_skip ?_
   refine gw_nx (hK87 _ _ ?_)
   refine gw_joinS (fun a_ w_ => ∃ (is : List PI) (xs : List XJ) (sz : Int), Fr 100 a_ [(0, .pointer (some ⟨gd, 0, none⟩)), (1, .string nm), (4, .pointer none), (5, J 0), (6, .pointer (some ⟨g19, 0, none⟩)), (7, .slice A34 (((readD nm d).1).length) c35)] ∧ Own w0 w_ [R, Chunk.disk w0.heap.size gd S1 d1, Bk g19 [.pointer (some ⟨gd, 0, none⟩), .string nm, .map (some g11), J sz] 100, Chunk.lmap Try.prog 2 g11 (xs.map XJ.ent), Chunk.jrows w0.heap.size xs, Chunk.view (Kd.int .u8) S36 A34 (((readD nm d).1).length) c35 ((readD nm d).1)] ∧ ((xs.map XJ.p).Perm is) ∧ (scanJ (readD nm d).1 = (is, sz)) ∧ (0 ≤ sz ∧ sz ≤ (readD nm d).1.length)) ?_ ?_
   ·
    refine wp_block ?_
    refine gw_loop (fun m_ a_ w_ => ∃ (is : List PI) (xs : List XJ) (sz : Int) (f : Nat), Fr 100 a_ [(0, .pointer (some ⟨gd, 0, none⟩)), (1, .string nm), (4, .pointer none), (5, J 0), (6, .pointer (some ⟨g19, 0, none⟩)), (7, .slice A34 (((readD nm d).1).length) c35)] ∧ Own w0 w_ [R, Chunk.disk w0.heap.size gd S1 d1, Bk g19 [.pointer (some ⟨gd, 0, none⟩), .string nm, .map (some g11), J sz] 100, Chunk.lmap Try.prog 2 g11 (xs.map XJ.ent), Chunk.jrows w0.heap.size xs, Chunk.view (Kd.int .u8) S36 A34 (((readD nm d).1).length) c35 ((readD nm d).1)] ∧ ((xs.map XJ.p).Perm is) ∧ (scanS f ((readD nm d).1.drop sz.toNat) is sz = scanJ (readD nm d).1) ∧ (0 ≤ sz ∧ sz ≤ (readD nm d).1.length) ∧ (((readD nm d).1.length : Int) < f + sz) ∧ ((is.length : Int) ≤ sz) ∧ m_ = f) ((((readD nm d).1.length + 1) : Nat)) ?_ ?_
    ·
     refine ⟨[], [], 0, ((readD nm d).1.length + 1), (H102.pick (t := 0) rfl (H102.pick (t := 1) rfl (H102.pick (t := 4) rfl (H102.pick (t := 5) rfl (H102.pick (t := 6) rfl (H102.pick (t := 7) rfl H102.nil)))))), O86.sel [4, 5, 2, 3, 1, 0] (by decide), ?_, ?_, ?_, ?_, ?_, rfl⟩
     ·
      exact List.Perm.refl _
     ·
      rfl
     ·
      exact ⟨by omega, by omega⟩
     ·
      omega
     ·
      simp
    ·
     rintro m104 _ w106 ⟨is, xs, sz, f, H107, O108, hxs, hsc, hsz, hff, hil, hm109⟩
     have hxn := hxs.length_eq
     rw [List.length_map] at hxn
     refine wp_block ?_
     refine gw_seq fun K110 hK110 => ?_
     refine wp_region_lit ?_
     refine V H107 (op_move rfl (H107.ev rfl)) ?_
     intro _ H112; clear H107
     refine V H112 (op_move rfl (H112.ev rfl)) ?_
     intro _ H114; clear H112
     refine V H114 (op_nil rfl (H114.ev rfl)) ?_
     intro _ H116; clear H114
     refine V H116 (op_field (gwfld100_3 _ _) rfl (H116.ev rfl)) ?_
     intro _ H118; clear H116
     refine V H118 (op_load1 gwagg3 rfl (H118.ev rfl) (blk_at (O108.get 2 rfl) rfl)) ?_
     intro _ H120; clear H118
     obtain ⟨A121, c122, hr123, hc124, hC125, hA126⟩ := cut_lo (P := Try.prog) (d := (Kd.int .u8)) (t := 28) (e := 5) Try.underlying28 gwsiz5 A34 c35 ((readD nm d).1) (view_le (O108.get 5 rfl)) sz (by omega) (by omega)
     refine V H120 (op_cut Try.underlying28 hr123 rfl (H120.ev rfl) (some_ev (H120.ev rfl)) rfl) ?_
     intro _ H128; clear H120
     refine gw_call H128 (want_none rfl) rfl (by decide) (op_callL Try.func58 (by kernel_rfl) rfl rfl (ar_cons (H128.ev rfl) ar_nil)) (split_own A121 c122 (((readD nm d).1).drop sz.toNat) _ (hC125 _ (view_C (O108.get 5 rfl))) hc124 (hbb.drop _) (by rw [List.length_drop]; omega)) ?_
     rintro e132 w133 ⟨A129, c130, S131, rfl, hb134⟩
     refine ⟨_, rfl, fun _ H136 => ?_⟩
     have O137 := O108.fresh hb134
     have hbel138 := O108.below
     clear H128 O108 hb134
     have O139 := O137.lowrow 0 rfl (base' := w0.heap.size) (Below.size hbel138)
     have O140 : Own w0 w133 [Chunk.row (Kd.int .u8) 5 w0.heap.size S131 (.slice A129 (((Pure.splitOf (((readD nm d).1).drop sz.toNat)).1).length) c130) ((Pure.splitOf (((readD nm d).1).drop sz.toNat)).1), R, Chunk.disk w0.heap.size gd S1 d1, Bk g19 [.pointer (some ⟨gd, 0, none⟩), .string nm, .map (some g11), J sz] 100, Chunk.lmap Try.prog 2 g11 (xs.map XJ.ent), Chunk.jrows w0.heap.size xs, Chunk.view (Kd.int .u8) S36 A34 (((readD nm d).1).length) c35 ((readD nm d).1)] := O139
     clear O139
     refine V H136 (op_move rfl (H136.ev rfl)) ?_
     intro _ H142; clear H136
     refine V H142 (op_extract rfl (H142.ev rfl) rfl) ?_
     intro _ H144; clear H142
     refine V H144 (op_extract rfl (H144.ev rfl) rfl) ?_
     intro _ H146; clear H144
     refine V H146 (op_extract rfl (H146.ev rfl) rfl) ?_
     intro _ H148; clear H146
     refine V H148 (op_assign rfl (H148.ev rfl)) ?_
     intro _ H150; clear H148
     refine V H150 (op_assign rfl (H150.ev rfl)) ?_
     intro _ H152; clear H150
     refine V H152 (op_assign rfl (H152.ev rfl)) ?_
     intro _ H154; clear H152
     refine wpList_nil ?_
     refine gw_nx (hK110 _ _ ?_)
     refine gw_seq fun K155 hK155 => ?_
     refine gw_seq fun K156 hK156 => ?_
     refine wp_region_lit ?_
     refine V H154 (op_move rfl (H154.ev rfl)) ?_
     intro _ H158; clear H154
     refine V H158 (op_not rfl (H158.ev rfl)) ?_
     intro _ H160; clear H158
     refine wpList_nil ?_
     refine gw_nx (hK156 _ _ ?_)
     refine gw_cond H160 rfl (fun hb161 => ?_) (fun hb161 => ?_)
     ·
      have H162 := H160.subst_ (d := 47) (b := true) rfl hb161
      clear H160
      (try simp only [Bool.and_eq_true, Bool.or_eq_true, Bool.and_eq_false_iff, Bool.or_eq_false_iff, Bool.not_and, Bool.not_or, Bool.not_not, decide_eq_true_eq, decide_eq_false_iff_not, Bool.not_eq_true', Bool.not_eq_false', Bool.not_eq_true, Bool.not_eq_false, ne_eq, Decidable.not_not, Int.not_lt, Int.not_le, not_true_eq_false, not_false_eq_true, bne_iff_ne, beq_iff_eq, bne_eq_false_iff_eq, beq_eq_false_iff_ne] at hb161)
      have hok : (Pure.splitOf ((readD nm d).1.drop sz.toNat)).2.2 = false := by simpa using hb161
      refine wp_exit ?_
      refine gw_thx ?_
      refine gw_out (by decide) ?_
      refine gw_thx ?_
      refine gw_in ?_
      refine gw_nx ⟨is, xs, sz, (H162.pick (t := 0) rfl (H162.pick (t := 1) rfl (H162.pick (t := 4) rfl (H162.pick (t := 5) rfl (H162.pick (t := 6) rfl (H162.pick (t := 7) rfl H162.nil)))))), O140.sel [1, 2, 3, 4, 5, 6] (by decide), ?_, ?_, ?_⟩
      ·
       exact hxs
      ·
       exact hsc.symm.trans (by first | exact scan_stop1 hok | exact scan_stop2 hok hok | exact scan_stop3 hok hok hhas)
      ·
       exact hsz
     ·
      have H163 := H160.subst_ (d := 47) (b := false) rfl hb161
      clear H160
      (try simp only [Bool.and_eq_true, Bool.or_eq_true, Bool.and_eq_false_iff, Bool.or_eq_false_iff, Bool.not_and, Bool.not_or, Bool.not_not, decide_eq_true_eq, decide_eq_false_iff_not, Bool.not_eq_true', Bool.not_eq_false', Bool.not_eq_true, Bool.not_eq_false, ne_eq, Decidable.not_not, Int.not_lt, Int.not_le, not_true_eq_false, not_false_eq_true, bne_iff_ne, beq_iff_eq, bne_eq_false_iff_eq, beq_eq_false_iff_ne] at hb161)
      have hok : (Pure.splitOf ((readD nm d).1.drop sz.toNat)).2.2 = true := by simpa using hb161
      have hsi := split_in hok
      have hdl : ((readD nm d).1.drop sz.toNat).length = (readD nm d).1.length - sz.toNat := List.length_drop
      refine wp_skip ?_
      refine gw_nx (hK155 _ _ ?_)
      refine gw_seq fun K164 hK164 => ?_
      refine wp_region_lit ?_
      refine V H163 (op_move rfl (H163.ev rfl)) ?_
      intro _ H166; clear H163
      have O180 : Own w0 _ [(Chunk.all [Chunk.row (Kd.int .u8) 5 w0.heap.size S131 (.slice A129 (((Pure.splitOf (((readD nm d).1).drop sz.toNat)).1).length) c130) ((Pure.splitOf (((readD nm d).1).drop sz.toNat)).1), R, Chunk.disk w0.heap.size gd S1 d1, Bk g19 [.pointer (some ⟨gd, 0, none⟩), .string nm, .map (some g11), J sz] 100, Chunk.lmap Try.prog 2 g11 (xs.map XJ.ent), Chunk.jrows w0.heap.size xs, Chunk.view (Kd.int .u8) S36 A34 (((readD nm d).1).length) c35 ((readD nm d).1)])] := Own.bundle (A := [Chunk.row (Kd.int .u8) 5 w0.heap.size S131 (.slice A129 (((Pure.splitOf (((readD nm d).1).drop sz.toNat)).1).length) c130) ((Pure.splitOf (((readD nm d).1).drop sz.toNat)).1), R, Chunk.disk w0.heap.size gd S1 d1, Bk g19 [.pointer (some ⟨gd, 0, none⟩), .string nm, .map (some g11), J sz] 100, Chunk.lmap Try.prog 2 g11 (xs.map XJ.ent), Chunk.jrows w0.heap.size xs, Chunk.view (Kd.int .u8) S36 A34 (((readD nm d).1).length) c35 ((readD nm d).1)]) (L := []) (O140.sel [0, 1, 2, 3, 4, 5, 6] (by decide))
      refine gw_call H166 (want_none rfl) rfl (by decide) (op_callL Try.func59 (by kernel_rfl) rfl rfl (ar_cons (H166.ev rfl) ar_nil)) (entry_calls A129 c130 ((Pure.splitOf (((readD nm d).1).drop sz.toNat)).1) _ (Kd.R_reads' (O140.get 0 rfl)).2.2 (row_cap (O140.get 0 rfl)) (split_byte (hbb.drop _)) (by have h_ := split_len ((readD nm d).1.drop sz.toNat); rw [List.length_drop] at h_; omega)) ?_
      rintro e174 w175 (⟨hen171, rfl, hb176⟩ | ⟨kn167, kk168, A169, c170, hen171, rfl, hC172, hc173, hb176⟩)
      ·
       refine ⟨_, rfl, fun _ H178 => ?_⟩
       have O179 : Own w0 w175 [Chunk.row (Kd.int .u8) 5 w0.heap.size S131 (.slice A129 (((Pure.splitOf (((readD nm d).1).drop sz.toNat)).1).length) c130) ((Pure.splitOf (((readD nm d).1).drop sz.toNat)).1), R, Chunk.disk w0.heap.size gd S1 d1, Bk g19 [.pointer (some ⟨gd, 0, none⟩), .string nm, .map (some g11), J sz] 100, Chunk.lmap Try.prog 2 g11 (xs.map XJ.ent), Chunk.jrows w0.heap.size xs, Chunk.view (Kd.int .u8) S36 A34 (((readD nm d).1).length) c35 ((readD nm d).1)] := O140.after hb176
       clear O180 hb176
       clear H166 O140
       refine V H178 (op_move rfl (H178.ev rfl)) ?_
       intro _ H182; clear H178
       refine V H182 (op_extract rfl (H182.ev rfl) rfl) ?_
       intro _ H184; clear H182
       refine V H184 (op_extract rfl (H184.ev rfl) rfl) ?_
       intro _ H186; clear H184
       refine V H186 (op_extract rfl (H186.ev rfl) rfl) ?_
       intro _ H188; clear H186
       refine V H188 (op_assign rfl (H188.ev rfl)) ?_
       intro _ H190; clear H188
       refine V H190 (op_assign rfl (H190.ev rfl)) ?_
       intro _ H192; clear H190
       refine V H192 (op_assign rfl (H192.ev rfl)) ?_
       intro _ H194; clear H192
       refine wpList_nil ?_
       refine gw_nx (hK164 _ _ ?_)
       refine gw_seq fun K195 hK195 => ?_
       refine gw_seq fun K196 hK196 => ?_
       refine wp_region_lit ?_
       refine V H194 (op_move rfl (H194.ev rfl)) ?_
       intro _ H198; clear H194
       refine V H198 (op_not rfl (H198.ev rfl)) ?_
       intro _ H200; clear H198
       refine V H200 (op_move rfl (H200.ev rfl)) ?_
       intro _ H202; clear H200
       refine Vo H202 (wn H202 rfl rfl rfl rfl) ?_
       intro _ H204; clear H202
       refine Vo H204 (wn H204 rfl rfl rfl rfl) ?_
       intro _ H206; clear H204
       refine Vo H206 (wn H206 rfl rfl rfl rfl) ?_
       intro _ H208; clear H206
       refine V H208 (op_pick_t rfl (H208.ev rfl) (ev_c _ _)) ?_
       intro _ H210; clear H208
       refine wpList_nil ?_
       refine gw_nx (hK196 _ _ ?_)
       refine gw_cond H210 rfl (fun hb211 => ?_) (fun hb211 => ?_)
       rotate_left
       ·
        cases hb211
       refine wp_exit ?_
       refine gw_thx ?_
       refine gw_out (by decide) ?_
       refine gw_thx ?_
       refine gw_in ?_
       refine gw_nx ⟨is, xs, sz, (H210.pick (t := 0) rfl (H210.pick (t := 1) rfl (H210.pick (t := 4) rfl (H210.pick (t := 5) rfl (H210.pick (t := 6) rfl (H210.pick (t := 7) rfl H210.nil)))))), O179.sel [1, 2, 3, 4, 5, 6] (by decide), ?_, ?_, ?_⟩
       ·
        exact hxs
       ·
        exact hsc.symm.trans (by first | exact scan_stop1 hok | exact scan_stop2 hok hen171 | exact scan_stop3 hok hen171 hhas)
       ·
        exact hsz
      ·
       refine ⟨_, rfl, fun _ H178 => ?_⟩
       have O179 : Own w0 w175 [Chunk.row (Kd.int .u8) 5 w0.heap.size S131 (.slice A129 (((Pure.splitOf (((readD nm d).1).drop sz.toNat)).1).length) c130) ((Pure.splitOf (((readD nm d).1).drop sz.toNat)).1), R, Chunk.disk w0.heap.size gd S1 d1, Bk g19 [.pointer (some ⟨gd, 0, none⟩), .string nm, .map (some g11), J sz] 100, Chunk.lmap Try.prog 2 g11 (xs.map XJ.ent), Chunk.jrows w0.heap.size xs, Chunk.view (Kd.int .u8) S36 A34 (((readD nm d).1).length) c35 ((readD nm d).1)] := O140.after hb176
       clear O180 hb176
       clear H166 O140
       have hei := entry_in hen171
       refine V H178 (op_move rfl (H178.ev rfl)) ?_
       intro _ H213; clear H178
       refine V H213 (op_extract rfl (H213.ev rfl) rfl) ?_
       intro _ H215; clear H213
       refine V H215 (op_extract rfl (H215.ev rfl) rfl) ?_
       intro _ H217; clear H215
       refine V H217 (op_extract rfl (H217.ev rfl) rfl) ?_
       intro _ H219; clear H217
       refine V H219 (op_assign rfl (H219.ev rfl)) ?_
       intro _ H221; clear H219
       refine V H221 (op_assign rfl (H221.ev rfl)) ?_
       intro _ H223; clear H221
       refine V H223 (op_assign rfl (H223.ev rfl)) ?_
       intro _ H225; clear H223
       refine wpList_nil ?_
       refine gw_nx (hK164 _ _ ?_)
       refine gw_seq fun K226 hK226 => ?_
       refine gw_seq fun K227 hK227 => ?_
       refine wp_region_lit ?_
       refine V H225 (op_move rfl (H225.ev rfl)) ?_
       intro _ H229; clear H225
       refine V H229 (op_not rfl (H229.ev rfl)) ?_
       intro _ H231; clear H229
       refine V H231 (op_move rfl (H231.ev rfl)) ?_
       intro _ H233; clear H231
       refine V2 H233 (want_yes H233 rfl rfl rfl rfl) (op_move rfl (H233.ev rfl)) ?_
       intro _ H235; clear H233
       refine V2 H235 (want_yes H235 rfl rfl rfl rfl) (op_move rfl (H235.ev rfl)) ?_
       intro _ H237; clear H235
       obtain ⟨Sj238, HOj239⟩ := jour_close2 (R := R) (base := w0.heap.size) (xs := xs) hxs (by exact O179.sel [1, 2, 3, 4, 5] (by decide))
       refine gw_call H237 (want_yes H237 rfl rfl rfl rfl) rfl (by decide) (op_callL Try.func38 (by kernel_rfl) rfl rfl (ar_cons (H237.ev rfl) (ar_cons (H237.ev rfl) ar_nil))) (has_calls w0.heap.size gd g19 nm Sj238 is sz _ (HOj239.get 2 rfl) kn167 (wf_i64 (by omega))) ?_
       rintro e240 w241 ⟨rfl, hb242⟩
       refine ⟨_, rfl, fun _ H244 => ?_⟩
       have O245 := O179.after hb242
       clear H237 O179 hb242
       refine V H244 (op_pick_f rfl (H244.ev rfl) (H244.ev rfl)) ?_
       intro _ H248; clear H244
       refine wpList_nil ?_
       refine gw_nx (hK227 _ _ ?_)
       refine gw_cond H248 rfl (fun hb249 => ?_) (fun hb249 => ?_)
       ·
        have H250 := H248.subst_ (d := 60) (b := true) rfl hb249
        clear H248
        (try simp only [Bool.and_eq_true, Bool.or_eq_true, Bool.and_eq_false_iff, Bool.or_eq_false_iff, Bool.not_and, Bool.not_or, Bool.not_not, decide_eq_true_eq, decide_eq_false_iff_not, Bool.not_eq_true', Bool.not_eq_false', Bool.not_eq_true, Bool.not_eq_false, ne_eq, Decidable.not_not, Int.not_lt, Int.not_le, not_true_eq_false, not_false_eq_true, bne_iff_ne, beq_iff_eq, bne_eq_false_iff_eq, beq_eq_false_iff_ne] at hb249)
        have hhas := hb249
        refine wp_exit ?_
        refine gw_thx ?_
        refine gw_out (by decide) ?_
        refine gw_thx ?_
        refine gw_in ?_
        refine gw_nx ⟨is, xs, sz, (H250.pick (t := 0) rfl (H250.pick (t := 1) rfl (H250.pick (t := 4) rfl (H250.pick (t := 5) rfl (H250.pick (t := 6) rfl (H250.pick (t := 7) rfl H250.nil)))))), O245.sel [1, 2, 3, 4, 5, 6] (by decide), ?_, ?_, ?_⟩
        ·
         exact hxs
        ·
         exact hsc.symm.trans (by first | exact scan_stop1 hok | exact scan_stop2 hok hen171 | exact scan_stop3 hok hen171 hhas)
        ·
         exact hsz
       ·
        have H251 := H248.subst_ (d := 60) (b := false) rfl hb249
        clear H248
        (try simp only [Bool.and_eq_true, Bool.or_eq_true, Bool.and_eq_false_iff, Bool.or_eq_false_iff, Bool.not_and, Bool.not_or, Bool.not_not, decide_eq_true_eq, decide_eq_false_iff_not, Bool.not_eq_true', Bool.not_eq_false', Bool.not_eq_true, Bool.not_eq_false, ne_eq, Decidable.not_not, Int.not_lt, Int.not_le, not_true_eq_false, not_false_eq_true, bne_iff_ne, beq_iff_eq, bne_eq_false_iff_eq, beq_eq_false_iff_ne] at hb249)
        have hhas := hb249
        have hno := none_key hxs hhas
        refine wp_skip ?_
        refine gw_nx (hK226 _ _ ?_)
        refine gw_seq fun K252 hK252 => ?_
        have O253 := O245.pin 6 rfl
        clear O245
        have O254 : Own w0 w241 [Chunk.row (Kd.int .u8) 5 w0.heap.size S131 (.slice A129 (((Pure.splitOf (((readD nm d).1).drop sz.toNat)).1).length) c130) ((Pure.splitOf (((readD nm d).1).drop sz.toNat)).1), R, Chunk.disk w0.heap.size gd S1 d1, Bk g19 [.pointer (some ⟨gd, 0, none⟩), .string nm, .map (some g11), J sz] 100, Chunk.lmap Try.prog 2 g11 (xs.map XJ.ent), Chunk.jrows w0.heap.size xs, Chunk.viewAt w241 (Kd.int .u8) S36 A34 (((readD nm d).1).length) c35 ((readD nm d).1)] := O253
        clear O253
        refine gx_draw (M := [Chunk.row (Kd.int .u8) 5 w0.heap.size S131 (.slice A129 (((Pure.splitOf (((readD nm d).1).drop sz.toNat)).1).length) c130) ((Pure.splitOf (((readD nm d).1).drop sz.toNat)).1), R, Chunk.disk w0.heap.size gd S1 d1, Bk g19 [.pointer (some ⟨gd, 0, none⟩), .string nm, .map (some g11), J sz] 100, Chunk.lmap Try.prog 2 g11 (xs.map XJ.ent), Chunk.jrows w0.heap.size xs, Chunk.viewAt w241 (Kd.int .u8) S36 A34 (((readD nm d).1).length) c35 ((readD nm d).1)]) (fun j_ => j_ == 7) O254 (by kernel_rfl) fun w255 O256 => ?_
        clear O254
        refine gx_take 0 rfl (by kernel_rfl) H251 (by exact O256.sel [0, 1, 2, 3, 4, 5, 6] (by decide)) (want_none rfl) rfl (by decide) (fun wq HO => (op_move rfl (H251.ev rfl))) ?_
        intro _ H258; clear H251
        refine gx_take 1 rfl (by kernel_rfl) H258 (by exact O256.sel [0, 1, 2, 3, 4, 5, 6] (by decide)) (want_none rfl) rfl (by decide) (fun wq HO => (op_nil rfl (H258.ev rfl))) ?_
        intro _ H260; clear H258
        refine gx_take 2 rfl (by kernel_rfl) H260 (by exact O256.sel [0, 1, 2, 3, 4, 5, 6] (by decide)) (want_none rfl) rfl (by decide) (fun wq HO => (op_field (gwfld100_2 _ _) rfl (H260.ev rfl))) ?_
        intro _ H262; clear H260
        refine gx_take 3 rfl (by kernel_rfl) H262 (by exact O256.sel [0, 1, 2, 3, 4, 5, 6] (by decide)) (want_none rfl) rfl (by decide) (fun wq HO => (op_load1 gwagg98 rfl (H262.ev rfl) (blk_at (HO.get 3 rfl) rfl))) ?_
        intro _ H264; clear H262
        refine gx_take 4 rfl (by kernel_rfl) H264 (by exact O256.sel [0, 1, 2, 3, 4, 5, 6] (by decide)) (want_none rfl) rfl (by decide) (fun wq HO => (op_move rfl (H264.ev rfl))) ?_
        intro _ H266; clear H264
        refine gx_take 5 rfl (by kernel_rfl) H266 (by exact O256.sel [0, 1, 2, 3, 4, 5, 6] (by decide)) (want_none rfl) rfl (by decide) (fun wq HO => (op_move rfl (H266.ev rfl))) ?_
        intro _ H268; clear H266
        refine gx_step 6 rfl (by kernel_rfl) ?_
        refine gw_call H268 (want_none rfl) rfl (by decide) (op_callL Try.func45 (by kernel_rfl) rfl rfl (ar_cons (H268.ev rfl) ar_nil)) (clone0 A169 c170 (((Pure.splitOf (((readD nm d).1).drop sz.toNat)).1).drop kk168) _ (hC172 _ (Kd.R_reads' (O256.get 0 rfl)).2.2) hc173 (by have h_ := split_len ((readD nm d).1.drop sz.toNat); simp only [List.length_drop] at *; omega)) ?_
        rintro e272 w273 ⟨A269, c270, S271, rfl, hb274⟩
        refine ⟨_, rfl, fun _ H276 => ?_⟩
        have O277 := O256.fresh hb274
        have hbel278 := O256.below
        clear H268 O256 hb274
        have O279 := O277.lowrow 0 rfl (base' := w0.heap.size) (Below.size hbel278)
        have O280 : Own w0 w273 [Chunk.row (Kd.int .u8) 5 w0.heap.size S271 (.slice A269 ((((Pure.splitOf (((readD nm d).1).drop sz.toNat)).1).drop kk168).length) c270) (((Pure.splitOf (((readD nm d).1).drop sz.toNat)).1).drop kk168), Chunk.row (Kd.int .u8) 5 w0.heap.size S131 (.slice A129 (((Pure.splitOf (((readD nm d).1).drop sz.toNat)).1).length) c130) ((Pure.splitOf (((readD nm d).1).drop sz.toNat)).1), R, Chunk.disk w0.heap.size gd S1 d1, Bk g19 [.pointer (some ⟨gd, 0, none⟩), .string nm, .map (some g11), J sz] 100, Chunk.lmap Try.prog 2 g11 (xs.map XJ.ent), Chunk.jrows w0.heap.size xs, Chunk.viewAt w241 (Kd.int .u8) S36 A34 (((readD nm d).1).length) c35 ((readD nm d).1)] := O279
        clear O279
        refine gx_on (i := 6) (B := (fun j_ => j_ == 7)) (M := [Chunk.row (Kd.int .u8) 5 w0.heap.size S131 (.slice A129 (((Pure.splitOf (((readD nm d).1).drop sz.toNat)).1).length) c130) ((Pure.splitOf (((readD nm d).1).drop sz.toNat)).1), R, Chunk.disk w0.heap.size gd S1 d1, Bk g19 [.pointer (some ⟨gd, 0, none⟩), .string nm, .map (some g11), J sz] 100, Chunk.lmap Try.prog 2 g11 (xs.map XJ.ent), Chunk.jrows w0.heap.size xs, Chunk.viewAt w241 (Kd.int .u8) S36 A34 (((readD nm d).1).length) c35 ((readD nm d).1)]) (fun _ => (by exact O280.sel [1, 2, 3, 4, 5, 6, 7] (by decide))) ?_
        refine gx_step 7 rfl (by kernel_rfl) ?_
        refine gw_mput 5 (Go.Maps.int_keyed Try.underlying2) Try.underlying98 H276 O280 rfl (want_none rfl) rfl rfl (H276.ev rfl) (H276.ev rfl) (H276.ev rfl) (Go.Maps.keyOf_int_mk Try.underlying2 (wf_i64 (by omega))) (by rw [List.length_map]; omega) ?_
        intro _ w282 H283 O284; clear H276 O280
        have O285 : Own w0 w282 [Chunk.row (Kd.int .u8) 5 w0.heap.size S271 (.slice A269 ((((Pure.splitOf (((readD nm d).1).drop sz.toNat)).1).drop kk168).length) c270) (((Pure.splitOf (((readD nm d).1).drop sz.toNat)).1).drop kk168), Chunk.row (Kd.int .u8) 5 w0.heap.size S131 (.slice A129 (((Pure.splitOf (((readD nm d).1).drop sz.toNat)).1).length) c130) ((Pure.splitOf (((readD nm d).1).drop sz.toNat)).1), R, Chunk.disk w0.heap.size gd S1 d1, Bk g19 [.pointer (some ⟨gd, 0, none⟩), .string nm, .map (some g11), J sz] 100, Chunk.lmap Try.prog 2 g11 (lput (Lit.int .i64 kn167) (.slice A269 ((((Pure.splitOf (((readD nm d).1).drop sz.toNat)).1).drop kk168).length) c270) (xs.map XJ.ent)), Chunk.jrows w0.heap.size xs, Chunk.viewAt w241 (Kd.int .u8) S36 A34 (((readD nm d).1).length) c35 ((readD nm d).1)] := O284
        clear O284
        have elp_ := lput_new (x := (⟨kn167, (Pure.splitOf ((readD nm d).1.drop sz.toNat)).1.drop kk168, A269, c270, S271⟩ : XJ)) (xs := xs) hno
        have O286 : Own w0 w282 [Chunk.row (Kd.int .u8) 5 w0.heap.size S271 (.slice A269 ((((Pure.splitOf (((readD nm d).1).drop sz.toNat)).1).drop kk168).length) c270) (((Pure.splitOf (((readD nm d).1).drop sz.toNat)).1).drop kk168), Chunk.row (Kd.int .u8) 5 w0.heap.size S131 (.slice A129 (((Pure.splitOf (((readD nm d).1).drop sz.toNat)).1).length) c130) ((Pure.splitOf (((readD nm d).1).drop sz.toNat)).1), R, Chunk.disk w0.heap.size gd S1 d1, Bk g19 [.pointer (some ⟨gd, 0, none⟩), .string nm, .map (some g11), J sz] 100, Chunk.lmap Try.prog 2 g11 ((insJ (⟨kn167, (Pure.splitOf ((readD nm d).1.drop sz.toNat)).1.drop kk168, A269, c270, S271⟩ : XJ) xs).map XJ.ent), Chunk.jrows w0.heap.size xs, Chunk.viewAt w241 (Kd.int .u8) S36 A34 (((readD nm d).1).length) c35 ((readD nm d).1)] := by have h_ := O285; rw [show lput (Lit.int .i64 kn167) (.slice A269 ((((Pure.splitOf (((readD nm d).1).drop sz.toNat)).1).drop kk168).length) c270) (xs.map XJ.ent) = (insJ (⟨kn167, (Pure.splitOf ((readD nm d).1.drop sz.toNat)).1.drop kk168, A269, c270, S271⟩ : XJ) xs).map XJ.ent from elp_] at h_; exact h_
        refine gx_on (i := 7) (B := (fun j_ => j_ == 7)) (M := [Chunk.row (Kd.int .u8) 5 w0.heap.size S131 (.slice A129 (((Pure.splitOf (((readD nm d).1).drop sz.toNat)).1).length) c130) ((Pure.splitOf (((readD nm d).1).drop sz.toNat)).1), R, Chunk.disk w0.heap.size gd S1 d1, Bk g19 [.pointer (some ⟨gd, 0, none⟩), .string nm, .map (some g11), J sz] 100, Chunk.lmap Try.prog 2 g11 (xs.map XJ.ent), Chunk.jrows w0.heap.size xs, Chunk.viewAt w241 (Kd.int .u8) S36 A34 (((readD nm d).1).length) c35 ((readD nm d).1)]) (fun h_ => by cases h_) ?_
        refine gx_done (by kernel_rfl) ?_
        refine gw_nx (hK252 _ _ ?_)
        refine wp_region_lit ?_
        refine V H283 (op_move rfl (H283.ev rfl)) ?_
        intro _ H288; clear H283
        refine V H288 (op_nil rfl (H288.ev rfl)) ?_
        intro _ H290; clear H288
        refine V H290 (op_field (gwfld100_3 _ _) rfl (H290.ev rfl)) ?_
        intro _ H292; clear H290
        refine V H292 (op_load1 gwagg3 rfl (H292.ev rfl) (blk_at (O286.get 4 rfl) rfl)) ?_
        intro _ H294; clear H292
        refine V H294 (op_move rfl (H294.ev rfl)) ?_
        intro _ H296; clear H294
        refine V H296 (op_add rfl (H296.ev rfl) (H296.ev rfl) (by omega)) ?_
        intro _ H298; clear H296
        refine V H298 (op_nil rfl (H298.ev rfl)) ?_
        intro _ H300; clear H298
        refine V H300 (op_field (gwfld100_3 _ _) rfl (H300.ev rfl)) ?_
        intro _ H302; clear H300
        refine gw_set 4 H302 O286 rfl (want_none rfl) rfl (op_store1 gwsiz3 rfl (H302.ev rfl) (H302.ev rfl) rfl (blk_at (O286.get 4 rfl) rfl) (blkf (O286.get 4 rfl))) ?_
        intro _ w305 H304 O306; clear H302 O286
        have O307 : Own w0 w305 [Chunk.row (Kd.int .u8) 5 w0.heap.size S271 (.slice A269 ((((Pure.splitOf (((readD nm d).1).drop sz.toNat)).1).drop kk168).length) c270) (((Pure.splitOf (((readD nm d).1).drop sz.toNat)).1).drop kk168), Chunk.row (Kd.int .u8) 5 w0.heap.size S131 (.slice A129 (((Pure.splitOf (((readD nm d).1).drop sz.toNat)).1).length) c130) ((Pure.splitOf (((readD nm d).1).drop sz.toNat)).1), R, Chunk.disk w0.heap.size gd S1 d1, Bk g19 [.pointer (some ⟨gd, 0, none⟩), .string nm, .map (some g11), J (sz + ((Pure.splitOf (((readD nm d).1).drop sz.toNat)).2.1))] 100, Chunk.lmap Try.prog 2 g11 ((insJ (⟨kn167, (Pure.splitOf ((readD nm d).1.drop sz.toNat)).1.drop kk168, A269, c270, S271⟩ : XJ) xs).map XJ.ent), Chunk.jrows w0.heap.size xs, Chunk.viewAt w241 (Kd.int .u8) S36 A34 (((readD nm d).1).length) c35 ((readD nm d).1)] := O306
        clear O306
        refine wpList_nil ?_
        refine gw_blk ?_
        have O308 := O307.unpin 7 rfl
        clear O307
        have O309 : Own w0 w305 [Chunk.row (Kd.int .u8) 5 w0.heap.size S271 (.slice A269 ((((Pure.splitOf (((readD nm d).1).drop sz.toNat)).1).drop kk168).length) c270) (((Pure.splitOf (((readD nm d).1).drop sz.toNat)).1).drop kk168), Chunk.row (Kd.int .u8) 5 w0.heap.size S131 (.slice A129 (((Pure.splitOf (((readD nm d).1).drop sz.toNat)).1).length) c130) ((Pure.splitOf (((readD nm d).1).drop sz.toNat)).1), R, Chunk.disk w0.heap.size gd S1 d1, Bk g19 [.pointer (some ⟨gd, 0, none⟩), .string nm, .map (some g11), J (sz + ((Pure.splitOf (((readD nm d).1).drop sz.toNat)).2.1))] 100, Chunk.lmap Try.prog 2 g11 ((insJ (⟨kn167, (Pure.splitOf ((readD nm d).1.drop sz.toNat)).1.drop kk168, A269, c270, S271⟩ : XJ) xs).map XJ.ent), Chunk.jrows w0.heap.size xs, Chunk.view (Kd.int .u8) S36 A34 (((readD nm d).1).length) c35 ((readD nm d).1)] := O308
        clear O308
        have O310 := Own.jrow_in (x := (⟨kn167, (Pure.splitOf ((readD nm d).1.drop sz.toNat)).1.drop kk168, A269, c270, S271⟩ : XJ)) (xs := xs) (by exact O309.sel [0, 6, 1, 2, 3, 4, 5, 7] (by decide))
        refine gw_nx ⟨_, ?_, (is ++ [(kn167, (Pure.splitOf ((readD nm d).1.drop sz.toNat)).1.drop kk168)]), (insJ (⟨kn167, (Pure.splitOf ((readD nm d).1.drop sz.toNat)).1.drop kk168, A269, c270, S271⟩ : XJ) xs), (sz + (Pure.splitOf ((readD nm d).1.drop sz.toNat)).2.1), (f - 1), (H304.pick (t := 0) rfl (H304.pick (t := 1) rfl (H304.pick (t := 4) rfl (H304.pick (t := 5) rfl (H304.pick (t := 6) rfl (H304.pick (t := 7) rfl H304.nil)))))), O310.sel [2, 3, 4, 5, 0, 6] (by decide), ?_, ?_, ?_, ?_, ?_, rfl⟩
        ·
         rw [hm109]; omega
        ·
         exact ins_items hxs
        ·
         rw [← hsc, scan_go (by omega) hok hen171 hhas, List.drop_drop]; congr 2; omega
        ·
         omega
        ·
         omega
        ·
         rw [List.length_append, List.length_singleton]; omega
   ·
    rintro _ w312 ⟨is, xs, sz, H313, O314, hxs, hsc, hsz⟩
    refine gw_seq fun K315 hK315 => ?_
    refine gw_seq fun K316 hK316 => ?_
    refine wp_region_lit ?_
    refine V H313 (op_move rfl (H313.ev rfl)) ?_
    intro _ H318; clear H313
    refine V H318 (op_nil rfl (H318.ev rfl)) ?_
    intro _ H320; clear H318
    refine V H320 (op_field (gwfld100_3 _ _) rfl (H320.ev rfl)) ?_
    intro _ H322; clear H320
    refine V H322 (op_load1 gwagg3 rfl (H322.ev rfl) (blk_at (O314.get 2 rfl) rfl)) ?_
    intro _ H324; clear H322
    refine V H324 (op_move rfl (H324.ev rfl)) ?_
    intro _ H326; clear H324
    refine V H326 (op_len Try.underlying28 rfl (H326.ev rfl)) ?_
    intro _ H328; clear H326
    refine V H328 (op_lss rfl (H328.ev rfl) (H328.ev rfl)) ?_
    intro _ H330; clear H328
    refine wpList_nil ?_
    refine gw_nx (hK316 _ _ ?_)
    refine gw_cond H330 rfl (fun hb331 => ?_) (fun hb331 => ?_)
    ·
     have H332 := H330.subst_ (d := 82) (b := true) rfl hb331
     clear H330
     (try simp only [decide_eq_true_eq] at hb331)
     have hlt := hb331
     refine gw_seq fun K333 hK333 => ?_
     refine wp_region_lit ?_
     refine V H332 (op_move rfl (H332.ev rfl)) ?_
     intro _ H335; clear H332
     refine V H335 (op_move rfl (H335.ev rfl)) ?_
     intro _ H337; clear H335
     refine V H337 (op_move rfl (H337.ev rfl)) ?_
     intro _ H339; clear H337
     refine V H339 (op_nil rfl (H339.ev rfl)) ?_
     intro _ H341; clear H339
     refine V H341 (op_field (gwfld100_3 _ _) rfl (H341.ev rfl)) ?_
     intro _ H343; clear H341
     refine V H343 (op_load1 gwagg3 rfl (H343.ev rfl) (blk_at (O314.get 2 rfl) rfl)) ?_
     intro _ H345; clear H343
     have O354 : Own w0 _ [(Chunk.all [R, Bk g19 [.pointer (some ⟨gd, 0, none⟩), .string nm, .map (some g11), J sz] 100, Chunk.lmap Try.prog 2 g11 (xs.map XJ.ent), Chunk.jrows w0.heap.size xs, Chunk.view (Kd.int .u8) S36 A34 (((readD nm d).1).length) c35 ((readD nm d).1)]), Chunk.disk w0.heap.size gd S1 d1] := Own.bundle (A := [R, Bk g19 [.pointer (some ⟨gd, 0, none⟩), .string nm, .map (some g11), J sz] 100, Chunk.lmap Try.prog 2 g11 (xs.map XJ.ent), Chunk.jrows w0.heap.size xs, Chunk.view (Kd.int .u8) S36 A34 (((readD nm d).1).length) c35 ((readD nm d).1)]) (L := [Chunk.disk w0.heap.size gd S1 d1]) (O314.sel [0, 2, 3, 4, 5, 1] (by decide))
     refine gw_call H345 (want_none rfl) rfl (by decide) (op_callL Try.func51 (by kernel_rfl) rfl rfl (ar_cons (H345.ev rfl) (ar_cons (H345.ev rfl) (ar_cons (H345.ev rfl) ar_nil)))) (cut_calls w0 _ (Chunk.all [R, Bk g19 [.pointer (some ⟨gd, 0, none⟩), .string nm, .map (some g11), J sz] 100, Chunk.lmap Try.prog 2 g11 (xs.map XJ.ent), Chunk.jrows w0.heap.size xs, Chunk.view (Kd.int .u8) S36 A34 (((readD nm d).1).length) c35 ((readD nm d).1)]) gd S1 d1 nm sz hw1 hn (by exact O354)) ?_
     rintro e348 w349 ⟨rfl, S346, hb350⟩
     refine ⟨_, rfl, fun _ H352 => ?_⟩
     have O353 : Own w0 w349 [R, Bk g19 [.pointer (some ⟨gd, 0, none⟩), .string nm, .map (some g11), J sz] 100, Chunk.lmap Try.prog 2 g11 (xs.map XJ.ent), Chunk.jrows w0.heap.size xs, Chunk.view (Kd.int .u8) S36 A34 (((readD nm d).1).length) c35 ((readD nm d).1), Chunk.disk w0.heap.size gd S346 ((cutD nm sz d1).1)] := Own.unbundle (A := [R, Bk g19 [.pointer (some ⟨gd, 0, none⟩), .string nm, .map (some g11), J sz] 100, Chunk.lmap Try.prog 2 g11 (xs.map XJ.ent), Chunk.jrows w0.heap.size xs, Chunk.view (Kd.int .u8) S36 A34 (((readD nm d).1).length) c35 ((readD nm d).1)]) (L := [Chunk.disk w0.heap.size gd S346 ((cutD nm sz d1).1)]) (hb350.sel [0, 1] (by decide))
     clear O354
     clear H345 O314 hb350
     have O356 : Own w0 w349 [R, Bk g19 [.pointer (some ⟨gd, 0, none⟩), .string nm, .map (some g11), J sz] 100, Chunk.lmap Try.prog 2 g11 (xs.map XJ.ent), Chunk.jrows w0.heap.size xs, Chunk.view (Kd.int .u8) S36 A34 (((readD nm d).1).length) c35 ((readD nm d).1), Chunk.disk w0.heap.size gd S346 ((cutD nm sz d1).1)] := O353
     clear O353
     have hwf347 : wfD ((cutD nm sz d1).1) := wf_cut hw1
     refine V H352 (op_assign rfl (H352.ev rfl)) ?_
     intro _ H358; clear H352
     refine wpList_nil ?_
     refine gw_nx (hK333 _ _ ?_)
     refine gw_seq fun K359 hK359 => ?_
     refine wp_region_lit ?_
     refine V H358 (op_move rfl (H358.ev rfl)) ?_
     intro _ H361; clear H358
     refine V H361 (op_nei rfl (H361.ev rfl) (ev_c _ _)) ?_
     intro _ H363; clear H361
     refine wpList_nil ?_
     refine gw_nx (hK359 _ _ ?_)
     refine gw_cond H363 rfl (fun hb364 => ?_) (fun hb364 => ?_)
     ·
      have H365 := H363.subst_ (d := 91) (b := true) rfl hb364
      clear H363
      (try simp only [decide_eq_true_eq, ne_eq] at hb364)
      have hne := hb364
      refine gw_seq fun K366 hK366 => ?_
      refine wp_region_lit ?_
      refine V H365 (op_move rfl (H365.ev rfl)) ?_
      intro _ H368; clear H365
      refine V H368 (op_assign rfl (ev_c _ _)) ?_
      intro _ H370; clear H368
      refine V H370 (op_assign rfl (H370.ev rfl)) ?_
      intro _ H372; clear H370
      refine wpList_nil ?_
      refine gw_nx (hK366 _ _ ?_)
      refine wp_ret ?_
      refine gw_thr ?_
      refine gw_ret2 H372 rfl rfl rfl ?_
      rw [open2 hpre he8 hsc hlt hne]
      exact .inl ⟨rfl, by first | exact hne | (show _ ≠ _; exact hne), _, O356.sel [0, 5] (by decide)⟩
     ·
      have H373 := H363.subst_ (d := 91) (b := false) rfl hb364
      clear H363
      (try simp only [decide_eq_false_iff_not, ne_eq, Decidable.not_not] at hb364)
      have hcu := hb364
      refine wp_skip ?_
      refine gw_nx (hK315 _ _ ?_)
      refine gw_seq fun K374 hK374 => ?_
      refine gw_seq fun K375 hK375 => ?_
      refine wp_region_lit ?_
      refine V H373 (op_move rfl (H373.ev rfl)) ?_
      intro _ H377; clear H373
      refine V H377 (op_move rfl (H377.ev rfl)) ?_
      intro _ H379; clear H377
      have O388 : Own w0 _ [(Chunk.all [R, Bk g19 [.pointer (some ⟨gd, 0, none⟩), .string nm, .map (some g11), J sz] 100, Chunk.lmap Try.prog 2 g11 (xs.map XJ.ent), Chunk.jrows w0.heap.size xs, Chunk.view (Kd.int .u8) S36 A34 (((readD nm d).1).length) c35 ((readD nm d).1)]), Chunk.disk w0.heap.size gd S346 ((cutD nm sz d1).1)] := Own.bundle (A := [R, Bk g19 [.pointer (some ⟨gd, 0, none⟩), .string nm, .map (some g11), J sz] 100, Chunk.lmap Try.prog 2 g11 (xs.map XJ.ent), Chunk.jrows w0.heap.size xs, Chunk.view (Kd.int .u8) S36 A34 (((readD nm d).1).length) c35 ((readD nm d).1)]) (L := [Chunk.disk w0.heap.size gd S346 ((cutD nm sz d1).1)]) (O356.sel [0, 1, 2, 3, 4, 5] (by decide))
      refine gw_call H379 (want_none rfl) rfl (by decide) (op_callL Try.func16 (by kernel_rfl) rfl rfl (ar_cons (H379.ev rfl) (ar_cons (H379.ev rfl) ar_nil))) (sync_calls w0 _ (Chunk.all [R, Bk g19 [.pointer (some ⟨gd, 0, none⟩), .string nm, .map (some g11), J sz] 100, Chunk.lmap Try.prog 2 g11 (xs.map XJ.ent), Chunk.jrows w0.heap.size xs, Chunk.view (Kd.int .u8) S36 A34 (((readD nm d).1).length) c35 ((readD nm d).1)]) gd S346 ((cutD nm sz d1).1) nm hwf347 hn (by exact O388)) ?_
      rintro e382 w383 ⟨rfl, S380, hb384⟩
      refine ⟨_, rfl, fun _ H386 => ?_⟩
      have O387 : Own w0 w383 [R, Bk g19 [.pointer (some ⟨gd, 0, none⟩), .string nm, .map (some g11), J sz] 100, Chunk.lmap Try.prog 2 g11 (xs.map XJ.ent), Chunk.jrows w0.heap.size xs, Chunk.view (Kd.int .u8) S36 A34 (((readD nm d).1).length) c35 ((readD nm d).1), Chunk.disk w0.heap.size gd S380 ((syncD nm ((cutD nm sz d1).1)).1)] := Own.unbundle (A := [R, Bk g19 [.pointer (some ⟨gd, 0, none⟩), .string nm, .map (some g11), J sz] 100, Chunk.lmap Try.prog 2 g11 (xs.map XJ.ent), Chunk.jrows w0.heap.size xs, Chunk.view (Kd.int .u8) S36 A34 (((readD nm d).1).length) c35 ((readD nm d).1)]) (L := [Chunk.disk w0.heap.size gd S380 ((syncD nm ((cutD nm sz d1).1)).1)]) (hb384.sel [0, 1] (by decide))
      clear O388
      clear H379 O356 hb384
      have O390 : Own w0 w383 [R, Bk g19 [.pointer (some ⟨gd, 0, none⟩), .string nm, .map (some g11), J sz] 100, Chunk.lmap Try.prog 2 g11 (xs.map XJ.ent), Chunk.jrows w0.heap.size xs, Chunk.view (Kd.int .u8) S36 A34 (((readD nm d).1).length) c35 ((readD nm d).1), Chunk.disk w0.heap.size gd S380 ((syncD nm ((cutD nm sz d1).1)).1)] := O387
      clear O387
      have hwf381 : wfD ((syncD nm ((cutD nm sz d1).1)).1) := wf_sync hwf347
      refine V H386 (op_assign rfl (H386.ev rfl)) ?_
      intro _ H392; clear H386
      refine wpList_nil ?_
      refine gw_nx (hK375 _ _ ?_)
      refine gw_seq fun K393 hK393 => ?_
      refine wp_region_lit ?_
      refine V H392 (op_move rfl (H392.ev rfl)) ?_
      intro _ H395; clear H392
      refine V H395 (op_nei rfl (H395.ev rfl) (ev_c _ _)) ?_
      intro _ H397; clear H395
      refine wpList_nil ?_
      refine gw_nx (hK393 _ _ ?_)
      refine gw_cond H397 rfl (fun hb398 => ?_) (fun hb398 => ?_)
      ·
       have H399 := H397.subst_ (d := 97) (b := true) rfl hb398
       clear H397
       (try simp only [decide_eq_true_eq, ne_eq] at hb398)
       have hne := hb398
       refine gw_seq fun K400 hK400 => ?_
       refine wp_region_lit ?_
       refine V H399 (op_move rfl (H399.ev rfl)) ?_
       intro _ H402; clear H399
       refine V H402 (op_assign rfl (ev_c _ _)) ?_
       intro _ H404; clear H402
       refine V H404 (op_assign rfl (H404.ev rfl)) ?_
       intro _ H406; clear H404
       refine wpList_nil ?_
       refine gw_nx (hK400 _ _ ?_)
       refine wp_ret ?_
       refine gw_thr ?_
       refine gw_ret2 H406 rfl rfl rfl ?_
       rw [open3 hpre he8 hsc hlt hcu]
       exact .inl ⟨rfl, by first | exact hne | (show _ ≠ _; exact hne), _, O390.sel [0, 5] (by decide)⟩
      ·
       have H407 := H397.subst_ (d := 97) (b := false) rfl hb398
       clear H397
       (try simp only [decide_eq_false_iff_not, ne_eq, Decidable.not_not] at hb398)
       have hsy := hb398
       refine wp_skip ?_
       refine gw_nx (hK374 _ _ ?_)
       refine gw_seq fun K408 hK408 => ?_
       refine wp_region_lit ?_
       refine V H407 (op_move rfl (H407.ev rfl)) ?_
       intro _ H410; clear H407
       refine V H410 (op_assign rfl (H410.ev rfl)) ?_
       intro _ H412; clear H410
       refine V H412 (op_assign rfl (ev_c _ _)) ?_
       intro _ H414; clear H412
       refine wpList_nil ?_
       refine gw_nx (hK408 _ _ ?_)
       refine wp_ret ?_
       refine gw_ret2 H414 rfl rfl rfl ?_
       obtain ⟨SJ', HOj⟩ := jour_close2 (xs := xs) hxs (by exact O390.sel [0, 5, 1, 2, 3] (by decide))
       rw [open3 hpre he8 hsc hlt hcu]
       exact .inr ⟨hsy, _, SJ', _, rfl, HOj⟩
    ·
     have H415 := H330.subst_ (d := 82) (b := false) rfl hb331
     clear H330
     (try simp only [decide_eq_false_iff_not, Int.not_lt] at hb331)
     have hlt : ¬ sz < ((readD nm d).1.length : Int) := by omega
     refine wp_skip ?_
     refine gw_nx (hK315 _ _ ?_)
     refine gw_seq fun K416 hK416 => ?_
     refine gw_seq fun K417 hK417 => ?_
     refine wp_region_lit ?_
     refine V H415 (op_move rfl (H415.ev rfl)) ?_
     intro _ H419; clear H415
     refine V H419 (op_move rfl (H419.ev rfl)) ?_
     intro _ H421; clear H419
     have O430 : Own w0 _ [(Chunk.all [R, Bk g19 [.pointer (some ⟨gd, 0, none⟩), .string nm, .map (some g11), J sz] 100, Chunk.lmap Try.prog 2 g11 (xs.map XJ.ent), Chunk.jrows w0.heap.size xs, Chunk.view (Kd.int .u8) S36 A34 (((readD nm d).1).length) c35 ((readD nm d).1)]), Chunk.disk w0.heap.size gd S1 d1] := Own.bundle (A := [R, Bk g19 [.pointer (some ⟨gd, 0, none⟩), .string nm, .map (some g11), J sz] 100, Chunk.lmap Try.prog 2 g11 (xs.map XJ.ent), Chunk.jrows w0.heap.size xs, Chunk.view (Kd.int .u8) S36 A34 (((readD nm d).1).length) c35 ((readD nm d).1)]) (L := [Chunk.disk w0.heap.size gd S1 d1]) (O314.sel [0, 2, 3, 4, 5, 1] (by decide))
     refine gw_call H421 (want_none rfl) rfl (by decide) (op_callL Try.func16 (by kernel_rfl) rfl rfl (ar_cons (H421.ev rfl) (ar_cons (H421.ev rfl) ar_nil))) (sync_calls w0 _ (Chunk.all [R, Bk g19 [.pointer (some ⟨gd, 0, none⟩), .string nm, .map (some g11), J sz] 100, Chunk.lmap Try.prog 2 g11 (xs.map XJ.ent), Chunk.jrows w0.heap.size xs, Chunk.view (Kd.int .u8) S36 A34 (((readD nm d).1).length) c35 ((readD nm d).1)]) gd S1 d1 nm hw1 hn (by exact O430)) ?_
     rintro e424 w425 ⟨rfl, S422, hb426⟩
     refine ⟨_, rfl, fun _ H428 => ?_⟩
     have O429 : Own w0 w425 [R, Bk g19 [.pointer (some ⟨gd, 0, none⟩), .string nm, .map (some g11), J sz] 100, Chunk.lmap Try.prog 2 g11 (xs.map XJ.ent), Chunk.jrows w0.heap.size xs, Chunk.view (Kd.int .u8) S36 A34 (((readD nm d).1).length) c35 ((readD nm d).1), Chunk.disk w0.heap.size gd S422 ((syncD nm d1).1)] := Own.unbundle (A := [R, Bk g19 [.pointer (some ⟨gd, 0, none⟩), .string nm, .map (some g11), J sz] 100, Chunk.lmap Try.prog 2 g11 (xs.map XJ.ent), Chunk.jrows w0.heap.size xs, Chunk.view (Kd.int .u8) S36 A34 (((readD nm d).1).length) c35 ((readD nm d).1)]) (L := [Chunk.disk w0.heap.size gd S422 ((syncD nm d1).1)]) (hb426.sel [0, 1] (by decide))
     clear O430
     clear H421 O314 hb426
     have O432 : Own w0 w425 [R, Bk g19 [.pointer (some ⟨gd, 0, none⟩), .string nm, .map (some g11), J sz] 100, Chunk.lmap Try.prog 2 g11 (xs.map XJ.ent), Chunk.jrows w0.heap.size xs, Chunk.view (Kd.int .u8) S36 A34 (((readD nm d).1).length) c35 ((readD nm d).1), Chunk.disk w0.heap.size gd S422 ((syncD nm d1).1)] := O429
     clear O429
     have hwf423 : wfD ((syncD nm d1).1) := wf_sync hw1
     refine V H428 (op_assign rfl (H428.ev rfl)) ?_
     intro _ H434; clear H428
     refine wpList_nil ?_
     refine gw_nx (hK417 _ _ ?_)
     refine gw_seq fun K435 hK435 => ?_
     refine wp_region_lit ?_
     refine V H434 (op_move rfl (H434.ev rfl)) ?_
     intro _ H437; clear H434
     refine V H437 (op_nei rfl (H437.ev rfl) (ev_c _ _)) ?_
     intro _ H439; clear H437
     refine wpList_nil ?_
     refine gw_nx (hK435 _ _ ?_)
     refine gw_cond H439 rfl (fun hb440 => ?_) (fun hb440 => ?_)
     ·
      have H441 := H439.subst_ (d := 97) (b := true) rfl hb440
      clear H439
      (try simp only [decide_eq_true_eq, ne_eq] at hb440)
      have hne := hb440
      refine gw_seq fun K442 hK442 => ?_
      refine wp_region_lit ?_
      refine V H441 (op_move rfl (H441.ev rfl)) ?_
      intro _ H444; clear H441
      refine V H444 (op_assign rfl (ev_c _ _)) ?_
      intro _ H446; clear H444
      refine V H446 (op_assign rfl (H446.ev rfl)) ?_
      intro _ H448; clear H446
      refine wpList_nil ?_
      refine gw_nx (hK442 _ _ ?_)
      refine wp_ret ?_
      refine gw_thr ?_
      refine gw_ret2 H448 rfl rfl rfl ?_
      rw [open4 hpre he8 hsc hlt]
      exact .inl ⟨rfl, by first | exact hne | (show _ ≠ _; exact hne), _, O432.sel [0, 5] (by decide)⟩
     ·
      have H449 := H439.subst_ (d := 97) (b := false) rfl hb440
      clear H439
      (try simp only [decide_eq_false_iff_not, ne_eq, Decidable.not_not] at hb440)
      have hsy := hb440
      refine wp_skip ?_
      refine gw_nx (hK416 _ _ ?_)
      refine gw_seq fun K450 hK450 => ?_
      refine wp_region_lit ?_
      refine V H449 (op_move rfl (H449.ev rfl)) ?_
      intro _ H452; clear H449
      refine V H452 (op_assign rfl (H452.ev rfl)) ?_
      intro _ H454; clear H452
      refine V H454 (op_assign rfl (ev_c _ _)) ?_
      intro _ H456; clear H454
      refine wpList_nil ?_
      refine gw_nx (hK450 _ _ ?_)
      refine wp_ret ?_
      refine gw_ret2 H456 rfl rfl rfl ?_
      obtain ⟨SJ', HOj⟩ := jour_close2 (xs := xs) hxs (by exact O432.sel [0, 5, 1, 2, 3] (by decide))
      rw [open4 hpre he8 hsc hlt]
      exact .inr ⟨hsy, _, SJ', _, rfl, HOj⟩
end GJour3_
export GJour3_ (open_calls)
end Go.Proofs.Ytkdahjnmldeklaa.PA
end
section
namespace Go.Proofs.Ytkdahjnmldeklaa.PA
open Go.RowKit Go.Maps Go.Sort Go.Proofs.YtkdahjnmldeklaaW.PrintWords Go.Proofs.YtkdahjnmldeklaaW.PrintLast Go.Proofs.YtkdahjnmldeklaaW.PrintMore
set_option linter.unusedVariables false
set_option linter.unusedSimpArgs false
section
variable {w0 w : World} {R : Chunk} {gd gj : Nat} {S SJ : Nat → Prop} {d d2 : PD} {nm : ByteArray} {is is2 : List PI} {size sz2 c key : Int} {b : List Int}
theorem open_ok (h : openJ nm d = ((d2, 0), (is2, sz2))) (hw : wfD d) (hn : nm.size ≤ 9223372036854775807) (hlen : d.fs.length ≤ 1000000) (hus : d.used ≤ 1000000) (hbb : ByteL (readD nm d).1) (HO : Own w0 w [R, Chunk.disk w0.heap.size gd S d]) :
    Calls Try.prog 32 #[.pointer (some ⟨gd, 0, none⟩), .string nm] w fun e w' => ∃ gj SJ S', e = .returned (.tuple #[.pointer (some ⟨gj, 0, none⟩), .int .i64 0]) ∧ Own w0 w' [R, Chunk.disk w0.heap.size gd S' d2, Chunk.jour w0.heap.size gd gj nm SJ is2 sz2] := by
  refine (open_calls w0 w R gd S d nm hw hn hlen hus hbb HO).mono ?_
  rw [h]
  rintro e w' (⟨_, h2, _⟩ | ⟨_, h2⟩)
  · exact absurd rfl h2
  · exact h2
theorem jsync_is (h : syncD nm d = (d2, c)) (hw : wfD d) (hn : nm.size ≤ 9223372036854775807) (HO : Own w0 w [R, Chunk.disk w0.heap.size gd S d, Chunk.jour w0.heap.size gd gj nm SJ is size]) :
    Calls Try.prog 34 #[.pointer (some ⟨gj, 0, none⟩)] w fun e w' => e = .returned (.int .i64 c) ∧ ∃ S' SJ', Own w0 w' [R, Chunk.disk w0.heap.size gd S' d2, Chunk.jour w0.heap.size gd gj nm SJ' is size] := by
  have := jsync_calls w0 w R gd gj S SJ d nm is size hw hn HO
  rw [h] at this
  exact this
theorem put_is {Ab : Option Addr} {cb : Nat} (h : putJ nm key b is size d = ((d2, c), (is2, sz2))) (hw : wfD d) (hn : nm.size ≤ 9223372036854775807) (hkw : (Lit.int .i64 key).wf = true) (hy : ∀ w1, Own w0 w1 [R] → Kd.C (Kd.int .u8) w1 Ab b.length b) (hcy : b.length ≤ cb) (hbb : ByteL b) (hbl : b.length ≤ 900000) (hroom : d.used ≤ 1000000) (his : is.length ≤ 1000000) (hsz : 0 ≤ size ∧ size ≤ 140737488355327) (HO : Own w0 w [R, Chunk.disk w0.heap.size gd S d, Chunk.jour w0.heap.size gd gj nm SJ is size]) :
    Calls Try.prog 33 #[.pointer (some ⟨gj, 0, none⟩), .int .i64 key, .slice Ab b.length cb] w fun e w' => e = .returned (.int .i64 c) ∧ ∃ S' SJ', Own w0 w' [R, Chunk.disk w0.heap.size gd S' d2, Chunk.jour w0.heap.size gd gj nm SJ' is2 sz2] := by
  have := put_calls w0 w R gd gj S SJ d nm is size hw hn key hkw Ab cb b hy hcy hbb hbl (by have h1 := recI_len (key, b); have h2 := encN_len key; simp only at h1; omega) his hsz HO
  rw [h] at this
  exact this
theorem put_two {fit : Prop} {Ab : Option Addr} {cb : Nat} (h1 : fit → putJ nm key b is size d = ((d2, 0), (is2, sz2))) (h2 : ¬ fit → putJ nm key b is size d = ((d, 71), (is, size))) (hw : wfD d) (hn : nm.size ≤ 9223372036854775807) (hkw : (Lit.int .i64 key).wf = true) (hy : ∀ w1, Own w0 w1 [R] → Kd.C (Kd.int .u8) w1 Ab b.length b) (hcy : b.length ≤ cb) (hbb : ByteL b) (hbl : b.length ≤ 900000) (hroom : d.used ≤ 1000000) (his : is.length ≤ 1000000) (hsz : 0 ≤ size ∧ size ≤ 140737488355327) (HO : Own w0 w [R, Chunk.disk w0.heap.size gd S d, Chunk.jour w0.heap.size gd gj nm SJ is size]) :
    Calls Try.prog 33 #[.pointer (some ⟨gj, 0, none⟩), .int .i64 key, .slice Ab b.length cb] w fun e w' => (e = .returned (.int .i64 0) ∧ fit ∧ ∃ S' SJ', Own w0 w' [R, Chunk.disk w0.heap.size gd S' d2, Chunk.jour w0.heap.size gd gj nm SJ' is2 sz2]) ∨ (e = .returned (.int .i64 71) ∧ ¬ fit ∧ ∃ S' SJ', Own w0 w' [R, Chunk.disk w0.heap.size gd S' d, Chunk.jour w0.heap.size gd gj nm SJ' is size]) := by
  by_cases hf : fit
  · exact (put_is (h1 hf) hw hn hkw hy hcy hbb hbl hroom his hsz HO).mono fun e w' ⟨a, b⟩ => .inl ⟨a, hf, b⟩
  · exact (put_is (h2 hf) hw hn hkw hy hcy hbb hbl hroom his hsz HO).mono fun e w' ⟨a, b⟩ => .inr ⟨a, hf, b⟩
theorem put_nil (h : putJ nm key [] is size d = ((d2, c), (is2, sz2))) (hw : wfD d) (hn : nm.size ≤ 9223372036854775807) (hkw : (Lit.int .i64 key).wf = true) (hroom : d.used ≤ 1000000) (his : is.length ≤ 1000000) (hsz : 0 ≤ size ∧ size ≤ 140737488355327) (HO : Own w0 w [R, Chunk.disk w0.heap.size gd S d, Chunk.jour w0.heap.size gd gj nm SJ is size]) :
    Calls Try.prog 33 #[.pointer (some ⟨gj, 0, none⟩), .int .i64 key, .slice none 0 0] w fun e w' => e = .returned (.int .i64 c) ∧ ∃ S' SJ', Own w0 w' [R, Chunk.disk w0.heap.size gd S' d2, Chunk.jour w0.heap.size gd gj nm SJ' is2 sz2] :=
  put_is (Ab := none) (cb := 0) (b := []) h hw hn hkw (fun w1 _ => Kd.C_nil _ _) (Nat.le_refl _) (fun x hx => by simp at hx) (Nat.zero_le _) hroom his hsz HO
theorem wf_pre (hw : wfD d) : wfD (preJ nm d).1 := by
  unfold preJ
  split
  · exact wf_create hw
  · exact hw
theorem wf_open (hw : wfD d) : wfD (openJ nm d).1.1 := by
  unfold openJ
  split
  · exact wf_pre hw
  · simp only
    have hc : wfD (if (scanJ (readD nm d).1).2 < ((readD nm d).1.length : Int) then cutD nm (scanJ (readD nm d).1).2 (preJ nm d).1 else ((preJ nm d).1, 0)).1 := by
      split
      · exact wf_cut (wf_pre hw)
      · exact wf_pre hw
    generalize (if (scanJ (readD nm d).1).2 < ((readD nm d).1.length : Int) then cutD nm (scanJ (readD nm d).1).2 (preJ nm d).1 else ((preJ nm d).1, 0)) = cc at hc ⊢
    split
    · exact hc
    · exact wf_sync hc
theorem wf_put (hw : wfD d) : wfD (putJ nm key b is size d).1.1 := by
  unfold putJ
  split
  · exact hw
  · split
    · exact hw
    · split
      · exact hw
      · exact wf_append hw
theorem wf_open' (h : openJ nm d = ((d2, c), (is2, sz2))) (hw : wfD d) : wfD d2 := by have := wf_open (nm := nm) hw; rw [h] at this; exact this
theorem wf_put' (h : putJ nm key b is size d = ((d2, c), (is2, sz2))) (hw : wfD d) : wfD d2 := by have := wf_put (nm := nm) (key := key) (b := b) (is := is) (size := size) hw; rw [h] at this; exact this
theorem wf_sync' (h : syncD nm d = (d2, c)) (hw : wfD d) : wfD d2 := by have := wf_sync (nm := nm) hw; rw [h] at this; exact this
end
end Go.Proofs.Ytkdahjnmldeklaa.PA
end
section
namespace Go.Proofs.Ytkdahjnmldeklaa.PA
open Go.RowKit Go.Maps Go.Sort Go.Proofs.YtkdahjnmldeklaaW.PrintWords Go.Proofs.YtkdahjnmldeklaaW.PrintLast Go.Proofs.YtkdahjnmldeklaaW.PrintMore
set_option linter.unusedVariables false
set_option linter.unusedSimpArgs false
theorem valN_app (pre l : List Int) : ∀ k, k ≤ pre.length → valN (pre ++ l) k = valN pre k
  | 0, _ => rfl
  | k + 1, h => by
    unfold valN
    rw [valN_app pre l k (by omega)]
    have : (pre ++ l).getD k 0 = pre.getD k 0 := by
      simp [List.getD_eq_getElem?_getD, List.getElem?_append_left (show k < pre.length by omega)]
    rw [this]
theorem getD_pre (pre l : List Int) (x : Int) : (pre ++ x :: l).getD pre.length 0 = x := by
  simp [List.getD_eq_getElem?_getD]
theorem gnumFrom_put (rest : List Int) : ∀ (f u : Nat) (pre : List Int) (G : Nat), u < 128 ^ f → (0 < f ∨ 0 < u) → (0 < u ∨ pre.length = 0) → pre.length + f ≤ 9 → f ≤ G → valN pre pre.length + (u : Int) * 128 ^ pre.length ≤ 4611686018427387904 →
    gnumFrom (pre ++ (putN f u ++ rest)) G pre.length = some (valN pre pre.length + (u : Int) * 128 ^ pre.length, pre.length + (putN f u).length)
  | 0, u, pre, G, hu, hf, h0, hl, hG, hv => by
    exfalso
    rw [Nat.pow_zero] at hu
    omega
  | f + 1, u, pre, G, hu, hf, h0, hl, hG, hv => by
    obtain ⟨G', rfl⟩ : ∃ G', G = G' + 1 := ⟨G - 1, by omega⟩
    unfold putN
    split
    · rename_i h127
      have hx : (pre ++ (((u % 128 + 128 : Nat) : Int) :: putN f (u / 128) ++ rest)).getD pre.length 0 = ((u % 128 + 128 : Nat) : Int) := getD_pre _ _ _
      unfold gnumFrom
      rw [hx, if_pos (by simp; omega), if_neg (by omega)]
      have e : pre ++ (((u % 128 + 128 : Nat) : Int) :: putN f (u / 128) ++ rest) = (pre ++ [((u % 128 + 128 : Nat) : Int)]) ++ (putN f (u / 128) ++ rest) := by simp
      have hl1 : (pre ++ [((u % 128 + 128 : Nat) : Int)]).length = pre.length + 1 := by simp
      have hval : valN (pre ++ [((u % 128 + 128 : Nat) : Int)]) (pre.length + 1) + ((u / 128 : Nat) : Int) * 128 ^ (pre.length + 1) = valN pre pre.length + (u : Int) * 128 ^ pre.length := by
        have h1 : valN (pre ++ [((u % 128 + 128 : Nat) : Int)]) (pre.length + 1) = valN pre pre.length + ((u % 128 : Nat) : Int) * 128 ^ pre.length := by
          show valN (pre ++ [((u % 128 + 128 : Nat) : Int)]) pre.length + _ = _
          rw [valN_app _ _ _ (Nat.le_refl _), getD_pre]
          have : (((u % 128 + 128 : Nat) : Int)) % 128 = ((u % 128 : Nat) : Int) := by omega
          rw [this]
        rw [h1, Int.pow_succ]
        have h2 : (u : Int) = ((u % 128 : Nat) : Int) + ((u / 128 : Nat) : Int) * 128 := by omega
        conv => rhs; rw [h2]
        rw [Int.add_mul, Int.add_assoc, Int.mul_assoc, Int.mul_comm 128 (128 ^ pre.length)]
      have ih := gnumFrom_put rest f (u / 128) (pre ++ [((u % 128 + 128 : Nat) : Int)]) G' (by rw [Nat.pow_succ] at hu; omega) (.inr (by omega)) (.inl (by omega)) (by omega) (by omega) (by rw [hl1, hval]; exact hv)
      rw [hl1] at ih
      rw [e, ih, hval]
      simp
      omega
    · rename_i h127
      have hx : (pre ++ ([(u : Int)] ++ rest)).getD pre.length 0 = (u : Int) := getD_pre _ _ _
      have hval : valN (pre ++ ([(u : Int)] ++ rest)) (pre.length + 1) = valN pre pre.length + (u : Int) * 128 ^ pre.length := by
        show valN (pre ++ ([(u : Int)] ++ rest)) pre.length + _ = _
        rw [valN_app _ _ _ (Nat.le_refl _), hx]
        have : (u : Int) % 128 = u := by omega
        rw [this]
      unfold gnumFrom
      rw [hx, if_pos (by simp; omega), if_pos (by omega), hval, if_pos ⟨hv, by omega⟩]
      rfl
theorem numOf_top (n : Int) : numOf n ≤ 4611686018427387904 := by
  unfold numOf mn mx
  split <;> split <;> omega
theorem gnum_enc (n : Int) (rest : List Int) : gnum (encN n ++ rest) = some ((numOf n : Int), (encN n).length) := by
  have h := numOf_top n
  have h9 : numOf n < 128 ^ 9 := Nat.lt_of_le_of_lt h (by decide)
  have := gnumFrom_put rest 9 (numOf n) [] 10 h9 (.inl (by decide)) (.inr rfl) (Nat.le_refl 9) (by decide) (by show (0 : Int) + (numOf n : Int) * 1 ≤ _; omega)
  have e : valN [] 0 + (numOf n : Int) * 128 ^ 0 = numOf n := by show (0 : Int) + (numOf n : Int) * 1 = _; omega
  rw [show ([] : List Int).length = 0 from rfl, e, Nat.zero_add] at this
  exact this
theorem numOf_key {n : Int} (h : 0 ≤ n ∧ n ≤ 1099511627776) : (numOf n : Int) = n := by
  unfold numOf mn mx
  split <;> split <;> omega
def okI (x : PI) : Prop := (0 ≤ x.1 ∧ x.1 ≤ 1099511627776) ∧ x.2.length ≤ 900000 ∧ ByteL x.2
theorem entry_rec {x : PI} (h : okI x) : entryP (encN x.1 ++ x.2) = some (x.1, (encN x.1).length) := by
  have h1 := gnum_enc x.1 x.2
  rw [numOf_key h.1] at h1
  have h2 := h.2.1
  exact entry_some h1 (by rw [List.length_append]; omega) h.1.2
theorem split_item {x : PI} (h : okI x) (b : List Int) : Pure.splitOf (recI x ++ b) = (encN x.1 ++ x.2, (((encN x.1 ++ x.2).length + 8 : Nat) : Int), true) :=
  Pure.split_rec _ _ (byteL_byte (byteL_app (encN_byte _) h.2.2)) (by have h1 := encN_len x.1; have h2 := h.2.1; rw [List.length_append]; omega)
theorem begin_item {x : PI} (h : okI x) {i : Nat} (hi : i < (recI x).length) : (Pure.splitOf ((recI x).take i)).2.2 = false :=
  Pure.begin_none _ (by have h1 := encN_len x.1; have h2 := h.2.1; rw [List.length_append]; omega) i (by rw [recI_len] at hi; rw [List.length_append]; omega)
def recsJ (is : List PI) : List Int := is.flatMap recI
theorem recs_nil : recsJ [] = [] := rfl
theorem recs_cons (x : PI) (r : List PI) : recsJ (x :: r) = recI x ++ recsJ r := List.flatMap_cons
theorem recs_app (a b : List PI) : recsJ (a ++ b) = recsJ a ++ recsJ b := List.flatMap_append
theorem recs_snoc (a : List PI) (x : PI) : recsJ (a ++ [x]) = recsJ a ++ recI x := by rw [recs_app, recs_cons, recs_nil, List.append_nil]
theorem recs_take (is : List PI) (q : Nat) : (recsJ is).take (recsJ (is.take q)).length = recsJ (is.take q) := by
  conv => lhs; arg 2; rw [← List.take_append_drop q is, recs_app]
  exact List.take_left
theorem recs_take_le (is : List PI) (q : Nat) : (recsJ (is.take q)).length ≤ (recsJ is).length := by
  have := congrArg List.length (recs_take is q)
  rw [List.length_take] at this
  omega
theorem split_nil : (Pure.splitOf []).2.2 = false := by decide +kernel
theorem scan_recs : ∀ (rest pre : List PI) (m f : Nat) (sz : Int), (∀ x ∈ rest, okI x) → onceJ (pre ++ rest) → m < f →
    ∃ q, q ≤ rest.length ∧ scanS f ((recsJ rest).take m) pre sz = (pre ++ rest.take q, sz + ((recsJ (rest.take q)).length : Int)) ∧ (recsJ (rest.take q)).length ≤ m ∧ (q < rest.length → m < (recsJ (rest.take (q + 1))).length)
  | [], pre, m, f, sz, ho, hn, hf => by
    refine ⟨0, Nat.le_refl _, ?_, Nat.zero_le _, fun h => by simp at h⟩
    rw [recs_nil, List.take_nil, scan_stop1 split_nil]
    simp [recs_nil]
  | x :: r, pre, m, f, sz, ho, hn, hf => by
    have hx := ho x (by simp)
    by_cases hm : m < (recI x).length
    · refine ⟨0, Nat.zero_le _, ?_, Nat.zero_le _, fun _ => ?_⟩
      · rw [recs_cons, List.take_append_of_le_length (by omega), scan_stop1 (begin_item hx hm)]
        simp [recs_nil]
      · simpa [recs_cons, recs_nil] using hm
    · have e : (recsJ (x :: r)).take m = recI x ++ (recsJ r).take (m - (recI x).length) := by
        rw [recs_cons, List.take_append, List.take_of_length_le (by omega)]
      have hs := split_item hx ((recsJ r).take (m - (recI x).length))
      have hl : (encN x.1 ++ x.2).length + 8 = (recI x).length := by rw [recI_len, List.length_append]
      have hno : hasJ x.1 pre = false := hasJ_false.2 fun y hy e2 => by
        obtain ⟨_, _, h3⟩ := List.pairwise_append.1 hn
        exact h3 y hy x (by simp) e2
      have h8 := recI_len x
      obtain ⟨q, h1, h2, h3, h4⟩ := scan_recs r (pre ++ [x]) (m - (recI x).length) (f - 1) (sz + ((recI x).length : Int)) (fun y hy => ho y (List.mem_cons_of_mem _ hy)) (by rw [List.append_assoc]; exact hn) (by omega)
      refine ⟨q + 1, by simpa using h1, ?_, ?_, fun h => ?_⟩
      · rw [e, scan_go (n := x.1) (k := (encN x.1).length) (by omega) (by rw [hs]) (by rw [hs]; exact entry_rec hx) hno, hs]
        have e1 : (recI x ++ (recsJ r).take (m - (recI x).length)).drop (((encN x.1 ++ x.2).length + 8 : Nat) : Int).toNat = (recsJ r).take (m - (recI x).length) := by
          rw [Int.toNat_natCast, hl]
          exact List.drop_left
        have e2 : (encN x.1 ++ x.2).drop (encN x.1).length = x.2 := List.drop_left
        show scanS (f - 1) (List.drop (((encN x.1 ++ x.2).length + 8 : Nat) : Int).toNat _) (pre ++ [(x.1, (encN x.1 ++ x.2).drop (encN x.1).length)]) (sz + (((encN x.1 ++ x.2).length + 8 : Nat) : Int)) = _
        rw [e1, e2, hl]
        show scanS (f - 1) _ (pre ++ [x]) _ = _
        rw [h2, List.append_assoc, List.take_succ_cons, recs_cons, List.length_append]
        refine Prod.ext rfl ?_
        show sz + ((recI x).length : Int) + ((recsJ (r.take q)).length : Int) = sz + (((recI x).length + (recsJ (r.take q)).length : Nat) : Int)
        omega
      · rw [List.take_succ_cons, recs_cons, List.length_append]; omega
      · rw [List.take_succ_cons, recs_cons, List.length_append]
        have := h4 (by simpa using h)
        omega
theorem scan_cut {is : List PI} (ho : ∀ x ∈ is, okI x) (hn : onceJ is) (m : Nat) (hm : m ≤ (recsJ is).length) :
    ∃ q, q ≤ is.length ∧ scanJ ((recsJ is).take m) = (is.take q, ((recsJ (is.take q)).length : Int)) ∧ (recsJ (is.take q)).length ≤ m ∧ (q < is.length → m < (recsJ (is.take (q + 1))).length) := by
  obtain ⟨q, h1, h2, h3, h4⟩ := scan_recs is [] m (((recsJ is).take m).length + 1) 0 ho hn (by rw [List.length_take]; omega)
  refine ⟨q, h1, ?_, h3, h4⟩
  unfold scanJ
  rw [h2, List.nil_append, Int.zero_add]
theorem scan_all {is : List PI} (ho : ∀ x ∈ is, okI x) (hn : onceJ is) : scanJ (recsJ is) = (is, ((recsJ is).length : Int)) := by
  obtain ⟨q, h1, h2, h3, h4⟩ := scan_cut ho hn (recsJ is).length (Nat.le_refl _)
  rw [List.take_length] at h2
  have : ¬ q < is.length := fun h => by
    have := h4 h
    have h5 := recs_take_le is (q + 1)
    omega
  rw [List.take_of_length_le (by omega)] at h2
  exact h2
def jdk (nm : ByteArray) (all : List Int) (sf : Int) (ext : List PF) (mst : Int) : PD := ⟨⟨nm, all, sf⟩ :: ext, mst, (all.length : Int) + (totF ext : Int), 0, false⟩
section
variable {nm : ByteArray} {all y : List Int} {sf mst key sz : Int} {ext : List PF} {is : List PI} {b : List Int}
theorem jd_get : getF nm (jdk nm all sf ext mst).fs = some ⟨nm, all, sf⟩ := by unfold getF jdk; simp
theorem jd_upd {h : PF → PF} (he : ∀ g ∈ ext, g.nm ≠ nm) : updF nm h (⟨nm, all, sf⟩ :: ext) = h ⟨nm, all, sf⟩ :: ext := upd_split (pre := []) rfl he
theorem jd_append (he : ∀ g ∈ ext, g.nm ≠ nm) (hr : (all.length : Int) + (totF ext : Int) + y.length ≤ mst) : appendD nm y (jdk nm all sf ext mst) = (jdk nm (all ++ y) sf ext mst, 0) := by
  rw [append_go rfl jd_get (by show ¬ (mst - ((all.length : Int) + (totF ext : Int)) < _); omega), step_on (by show (0 : Int) ≠ 1; decide) (Int.le_refl _)]
  show (PD.mk (updF nm _ (⟨nm, all, sf⟩ :: ext)) mst ((all.length : Int) + (totF ext : Int) + (y.length : Int)) (decF 0) false, (0 : Int)) = _
  rw [jd_upd he]
  unfold jdk
  rw [List.length_append]
  refine Prod.ext ?_ rfl
  show PD.mk _ mst _ 0 false = PD.mk _ mst _ 0 false
  congr 1
  omega
theorem jd_full (hr : mst < (all.length : Int) + (totF ext : Int) + y.length) : appendD nm y (jdk nm all sf ext mst) = (jdk nm all sf ext mst, 71) :=
  append_full rfl jd_get (by show (mst - ((all.length : Int) + (totF ext : Int)) < _); omega)
theorem jd_sync (he : ∀ g ∈ ext, g.nm ≠ nm) : syncD nm (jdk nm all sf ext mst) = (jdk nm all all.length ext mst, 0) := by
  rw [sync_go rfl jd_get, step_on (by show (0 : Int) ≠ 1; decide) (Int.le_refl _)]
  show (PD.mk (updF nm _ (⟨nm, all, sf⟩ :: ext)) mst _ (decF 0) false, (0 : Int)) = _
  rw [jd_upd he]
  rfl
theorem jd_put (he : ∀ g ∈ ext, g.nm ≠ nm) (hk : 0 ≤ key ∧ key ≤ 1099511627776) (hb : b.length ≤ 900000) (hn : hasJ key is = false) (hr : ((recsJ is).length : Int) + (totF ext : Int) + (recI (key, b)).length ≤ mst) :
    putJ nm key b is sz (jdk nm (recsJ is) sf ext mst) = ((jdk nm (recsJ (is ++ [(key, b)])) sf ext mst, 0), (is ++ [(key, b)], sz + ((recI (key, b)).length : Int))) := by
  have e := jd_append (nm := nm) (all := recsJ is) (y := recI (key, b)) (sf := sf) he hr
  rw [put_ok hk (by omega) hn (by rw [e]), e, recs_snoc]
theorem jd_put_full (hk : 0 ≤ key ∧ key ≤ 1099511627776) (hb : b.length ≤ 900000) (hn : hasJ key is = false) (hr : mst < ((recsJ is).length : Int) + (totF ext : Int) + (recI (key, b)).length) :
    putJ nm key b is sz (jdk nm (recsJ is) sf ext mst) = ((jdk nm (recsJ is) sf ext mst, 71), (is, sz)) := by
  have e := jd_full (nm := nm) (all := recsJ is) (y := recI (key, b)) (sf := sf) hr
  rw [put_fail hk (by omega) hn (by rw [e]; show (71 : Int) ≠ 0; decide), e]
theorem jd_crash (hs : 0 ≤ sf ∧ sf ≤ all.length) (k : Int) : ∃ m : Nat, (m : Int) = sf + mn (mx k 0) ((all.length : Int) - sf) ∧ m ≤ all.length ∧ sf ≤ (m : Int) ∧ crashD [k] (jdk nm all sf [] mst) = jdk nm (all.take m) m [] mst := by
  by_cases hl : (all.length : Int) - sf = 0
  · refine ⟨all.length, ?_, Nat.le_refl _, hs.2, ?_⟩
    · have : mn (mx k 0) ((all.length : Int) - sf) = 0 := by rw [hl]; unfold mn mx; (repeat' split) <;> omega
      rw [this]; omega
    · have e : sf = all.length := by omega
      subst e
      unfold crashD jdk
      rw [crash_keep (f := ⟨nm, all, all.length⟩) (by show (all.length : Int) - all.length = 0; omega), crash_nil, List.take_length]
      show PD.mk _ mst ((all.length : Int) + (totF [] : Int) - 0) 0 false = _
      rw [Int.sub_zero]
  · have hk := keepN_in [k] (loose := (all.length : Int) - sf) (by omega)
    have hk2 : keepN [k] ((all.length : Int) - sf) = mn (mx k 0) ((all.length : Int) - sf) := rfl
    refine ⟨(sf + keepN [k] ((all.length : Int) - sf)).toNat, by rw [← hk2]; omega, by omega, by omega, ?_⟩
    unfold crashD jdk
    rw [crash_cut (f := ⟨nm, all, sf⟩) hl, List.drop_one, List.tail_cons, crash_nil]
    show PD.mk [⟨nm, all.take (sf + keepN [k] ((all.length : Int) - sf)).toNat, sf + keepN [k] ((all.length : Int) - sf)⟩] mst ((all.length : Int) + (totF [] : Int) - ((all.length : Int) - sf - keepN [k] ((all.length : Int) - sf) + 0)) 0 false = PD.mk [⟨nm, all.take (sf + keepN [k] ((all.length : Int) - sf)).toNat, (((sf + keepN [k] ((all.length : Int) - sf)).toNat : Nat) : Int)⟩] mst (((all.take (sf + keepN [k] ((all.length : Int) - sf)).toNat).length : Int) + (totF [] : Int)) 0 false
    have e0 : (totF [] : Int) = 0 := rfl
    rw [show (((sf + keepN [k] ((all.length : Int) - sf)).toNat : Nat) : Int) = sf + keepN [k] ((all.length : Int) - sf) by omega]
    congr 1
    rw [List.length_take, e0]
    omega
theorem jd_open (he : ∀ g ∈ ext, g.nm ≠ nm) (hs : 0 ≤ sf ∧ sf ≤ all.length) {s : Nat} (hsc : scanJ all = (is, (s : Int))) (hsl : s ≤ all.length) :
    openJ nm (jdk nm all sf ext mst) = ((jdk nm (all.take s) s ext mst, 0), (is, (s : Int))) := by
  have hr : readD nm (jdk nm all sf ext mst) = (all, 0) := read_some (f := ⟨nm, all, sf⟩) rfl jd_get
  have hp : preJ nm (jdk nm all sf ext mst) = (jdk nm all sf ext mst, 0) := by
    unfold preJ
    rw [hr]
    exact if_neg (by show ¬ ((0 : Int) = 4); decide)
  by_cases hlt : (s : Int) < (all.length : Int)
  · have hc : cutD nm (s : Int) (jdk nm all sf ext mst) = (jdk nm (all.take s) (mn sf s) ext mst, 0) := by
      rw [cut_go (f := ⟨nm, all, sf⟩) rfl jd_get (by show ¬ ((s : Int) < 0 ∨ (all.length : Int) < (s : Int)); omega), step_on (by show (0 : Int) ≠ 1; decide) (Int.le_refl _)]
      show (PD.mk (updF nm _ (⟨nm, all, sf⟩ :: ext)) mst ((all.length : Int) + (totF ext : Int) - ((all.length : Int) - (s : Int))) (decF 0) false, (0 : Int)) = _
      rw [jd_upd he]
      refine Prod.ext ?_ rfl
      show PD.mk (⟨nm, all.take (s : Int).toNat, mn sf s⟩ :: ext) mst _ 0 false = PD.mk (⟨nm, all.take s, mn sf s⟩ :: ext) mst (((all.take s).length : Int) + (totF ext : Int)) 0 false
      rw [Int.toNat_natCast, List.length_take]
      congr 1
      omega
    rw [open3 (is := is) (sz := (s : Int)) hp rfl (by rw [hr]; exact hsc) (by rw [hr]; exact hlt) (by rw [hc]), hc, jd_sync he, List.length_take, Nat.min_eq_left hsl]
  · have e : s = all.length := by omega
    subst e
    rw [open4 (is := is) (sz := ((all.length : Nat) : Int)) hp rfl (by rw [hr]; exact hsc) (by rw [hr]; exact hlt), jd_sync he, List.take_length]
theorem jd_open0 (hb : namedB nm = true) (he : ∀ g ∈ ext, g.nm ≠ nm) (hi : insF ⟨nm, [], 0⟩ ext = ⟨nm, [], 0⟩ :: ext) :
    openJ nm ⟨ext, mst, (totF ext : Int), 0, false⟩ = ((jdk nm [] 0 ext mst, 0), ([], 0)) := by
  have hg : getF nm ext = none := List.find?_eq_none.2 fun g hg => by simpa using he g hg
  have hr : readD nm ⟨ext, mst, (totF ext : Int), 0, false⟩ = ([], 4) := read_none rfl hg
  have hp : preJ nm ⟨ext, mst, (totF ext : Int), 0, false⟩ = (jdk nm [] 0 ext mst, 0) := by
    unfold preJ
    rw [hr]
    rw [if_pos (by rfl), create_go rfl hb hg, step_on (by show (0 : Int) ≠ 1; decide) (Int.le_refl _)]
    show (PD.mk (insF ⟨nm, [], 0⟩ (delF nm ext)) mst (totF ext : Int) (decF 0) false, (0 : Int)) = _
    rw [del_none he, hi]
    refine Prod.ext ?_ rfl
    show PD.mk _ mst _ 0 false = PD.mk _ mst _ 0 false
    congr 1
    show (totF ext : Int) = ((0 : Nat) : Int) + _
    omega
  have hsc : scanJ ([] : List Int) = ([], 0) := by
    unfold scanJ
    exact scan_stop1 split_nil
  rw [open4 (is := []) (sz := 0) hp rfl (by rw [hr]; exact hsc) (by rw [hr]; decide), jd_sync he]
  rfl
end
theorem used_le {nm : ByteArray} {all : List Int} {sf mst : Int} (h : all.length ≤ 1000000) : (jdk nm all sf [] mst).used ≤ 1000000 := by
  show (all.length : Int) + ((totF [] : Nat) : Int) ≤ 1000000
  have : ((totF [] : Nat) : Int) = 0 := rfl
  omega
theorem jd_byte {nm : ByteArray} {all : List Int} {sf mst : Int} {ext : List PF} (h : ByteL all) : ByteL (readD nm (jdk nm all sf ext mst)).1 := by
  rw [read_some (f := ⟨nm, all, sf⟩) rfl jd_get]
  exact h
theorem recs_byte {is : List PI} (h : ∀ x ∈ is, okI x) : ByteL (recsJ is) := fun z hz => by
  obtain ⟨x, hx, hz⟩ := List.mem_flatMap.1 hz
  have := Pure.recOf_bytes _ (byteL_byte (byteL_app (encN_byte x.1) (h x hx).2.2)) z hz
  unfold Pure.Byte at this
  omega
theorem take_byte {l : List Int} (h : ByteL l) (m : Nat) : ByteL (l.take m) := fun x hx => h x (List.mem_of_mem_take hx)
section
variable {nm : ByteArray} {sf mst : Int} {is : List PI} {ext : List PF} {ds : List (List Int)} {m n q safe : Nat} {i : Int} {x y : PI}
theorem newD_lit (h : 0 ≤ mst) : newD mst = ⟨[], mst, ((totF [] : Nat) : Int), 0, false⟩ := by
  unfold newD mx
  split
  · have : mst = 0 := by omega
    rw [this]; rfl
  · rfl
theorem open_new (h : 0 ≤ mst) (hb : namedB nm = true) : openJ nm (newD mst) = ((jdk nm (recsJ []) 0 [] mst, 0), ([], 0)) := by
  rw [newD_lit h]
  exact jd_open0 hb (fun g hg => by simp at hg) rfl
theorem jd_reopen (he : ∀ g ∈ ext, g.nm ≠ nm) (ho : ∀ x ∈ is, okI x) (hn : onceJ is) (hm : m ≤ (recsJ is).length) :
    ∃ q, q ≤ is.length ∧ openJ nm (jdk nm ((recsJ is).take m) m ext mst) = ((jdk nm (recsJ (is.take q)) (recsJ (is.take q)).length ext mst, 0), (is.take q, ((recsJ (is.take q)).length : Int))) ∧ (recsJ (is.take q)).length ≤ m ∧ (q < is.length → m < (recsJ (is.take (q + 1))).length) := by
  obtain ⟨q, h1, h2, h3, h4⟩ := scan_cut ho hn m hm
  refine ⟨q, h1, ?_, h3, h4⟩
  have hl : ((recsJ is).take m).length = m := by rw [List.length_take]; omega
  rw [jd_open he ⟨by omega, by omega⟩ h2 (by omega), List.take_take, Nat.min_eq_left h3, recs_take]
theorem jd_reopen_all (he : ∀ g ∈ ext, g.nm ≠ nm) (ho : ∀ x ∈ is, okI x) (hn : onceJ is) (hs : 0 ≤ sf ∧ sf ≤ (recsJ is).length) :
    openJ nm (jdk nm (recsJ is) sf ext mst) = ((jdk nm (recsJ is) (recsJ is).length ext mst, 0), (is, ((recsJ is).length : Int))) := by
  rw [jd_open he hs (scan_all ho hn) (Nat.le_refl _), List.take_length]
theorem recs_one : (recsJ [x]).length = (recI x).length := by rw [recs_cons, recs_nil, List.append_nil]
theorem recs_two : (recsJ [x, y]).length = (recI x).length + (recI y).length := by rw [recs_cons, List.length_append, recs_one]
theorem two_cut (h1 : q ≤ [x, y].length) (h3 : (recsJ ([x, y].take q)).length ≤ m) (h4 : q < [x, y].length → m < (recsJ ([x, y].take (q + 1))).length) (hm : (recI x).length ≤ m) (hm2 : m ≤ (recsJ [x, y]).length) :
    (q = 1 ∧ m < (recI x).length + (recI y).length) ∨ (q = 2 ∧ m = (recI x).length + (recI y).length) := by
  rw [recs_two] at hm2
  match q, h1 with
  | 0, _ =>
    have := h4 (by show 0 < 2; decide)
    rw [show ([x, y] : List PI).take (0 + 1) = [x] from rfl, recs_one] at this
    omega
  | 1, _ =>
    have := h4 (by show 1 < 2; decide)
    rw [show ([x, y] : List PI).take (1 + 1) = [x, y] from rfl, recs_two] at this
    exact .inl ⟨rfl, this⟩
  | 2, _ =>
    rw [show ([x, y] : List PI).take 2 = [x, y] from rfl, recs_two] at h3
    exact .inr ⟨rfl, by omega⟩
  | q + 3, h => exact absurd h (by simp)
theorem enc_small {k : Int} (h : 0 ≤ k ∧ k ≤ 127) : (encN k).length = 1 := by
  have : numOf k ≤ 127 := by
    unfold numOf mn mx
    split <;> split <;> omega
  unfold encN putN
  rw [if_neg (by omega)]
  rfl
theorem byte_getDL (h : ∀ x ∈ ds, ByteL x) (j : Nat) : ByteL (ds.getD j []) := by
  rw [List.getD_eq_getElem?_getD]
  cases e : ds[j]? with
  | none => intro z hz; simp at hz
  | some b => exact h b (List.mem_of_getElem? e)
end
def nJ : ByteArray := ⟨#[106]⟩
def nOther : ByteArray := ⟨#[111, 116, 104, 101, 114]⟩
section
variable {rm sf key : Int} {y b all : List Int} {is : List PI} {nm : ByteArray} {ext : List PF} {mst : Int}
theorem no_other : ∀ g ∈ ([⟨nOther, y, 0⟩] : List PF), g.nm ≠ nJ := fun g hg => by
  obtain rfl := List.mem_singleton.1 hg
  show nOther ≠ nJ
  decide
theorem fu1 (h : 0 ≤ rm) : createD nOther (newD rm) = (⟨[⟨nOther, [], 0⟩], rm, 0, 0, false⟩, 0) := by
  rw [newD_lit h, create_go rfl (by decide) rfl, step_on (show (0 : Int) ≠ 1 by decide) (Int.le_refl _)]
  rfl
theorem fu2 (h : (y.length : Int) ≤ rm) : appendD nOther y ⟨[⟨nOther, [], 0⟩], rm, 0, 0, false⟩ = (⟨[⟨nOther, y, 0⟩], rm, ((totF [⟨nOther, y, 0⟩] : Nat) : Int), 0, false⟩, 0) := by
  rw [append_go (f := ⟨nOther, [], 0⟩) rfl (by unfold getF; simp) (by show ¬ (rm - 0 < _); omega), step_on (show (0 : Int) ≠ 1 by decide) (Int.le_refl _)]
  show (PD.mk (updF nOther _ [⟨nOther, [], 0⟩]) rm (0 + (y.length : Int)) (decF 0) false, (0 : Int)) = _
  refine Prod.ext ?_ rfl
  have e1 : updF nOther (fun f : PF => { f with b := f.b ++ y }) [⟨nOther, [], 0⟩] = [⟨nOther, y, 0⟩] := by unfold updF; simp
  have e2 : ((totF [⟨nOther, y, 0⟩] : Nat) : Int) = 0 + (y.length : Int) := by unfold totF; simp
  show PD.mk _ rm _ 0 false = _
  rw [e1, e2]
theorem fu3 : openJ nJ ⟨[⟨nOther, y, 0⟩], rm, ((totF [⟨nOther, y, 0⟩] : Nat) : Int), 0, false⟩ = ((jdk nJ (recsJ []) 0 [⟨nOther, y, 0⟩] rm, 0), ([], ((recsJ []).length : Int))) :=
  jd_open0 (by decide) no_other (by unfold insF; exact if_pos (show (litS nJ).before (litS nOther) = true by decide))
theorem fu4 : removeD nOther (jdk nJ all sf [⟨nOther, y, 0⟩] rm) = (jdk nJ all sf [] rm, 0) := by
  have hg : getF nOther (jdk nJ all sf [⟨nOther, y, 0⟩] rm).fs = some ⟨nOther, y, 0⟩ := by unfold getF jdk; simp [show ¬ nJ = nOther from by decide]
  rw [remove_go rfl hg, step_on (show (0 : Int) ≠ 1 by decide) (Int.le_refl _)]
  show (dropD nOther (jdk nJ all sf [⟨nOther, y, 0⟩] rm), (0 : Int)) = _
  rw [drop_some hg]
  refine Prod.ext ?_ rfl
  show PD.mk (delF nOther [⟨nJ, all, sf⟩, ⟨nOther, y, 0⟩]) rm ((all.length : Int) + ((totF [⟨nOther, y, 0⟩] : Nat) : Int) - (y.length : Int)) 0 false = PD.mk [⟨nJ, all, sf⟩] rm ((all.length : Int) + ((totF [] : Nat) : Int)) 0 false
  have e1 : delF nOther [⟨nJ, all, sf⟩, ⟨nOther, y, 0⟩] = [⟨nJ, all, sf⟩] := by unfold delF; simp [show ¬ nJ = nOther from by decide]
  have e2 : ((totF [⟨nOther, y, 0⟩] : Nat) : Int) = (y.length : Int) := by unfold totF; simp
  have e3 : ((totF [] : Nat) : Int) = 0 := rfl
  rw [e1, e2, e3]
  congr 1
  omega
theorem fu_byte : ByteL (readD nJ ⟨[⟨nOther, y, 0⟩], rm, key, 0, false⟩).1 := by
  rw [read_none rfl (by unfold getF; simp [show ¬ nOther = nJ from by decide])]
  intro x hx; simp at hx
theorem tot_other : ((totF [⟨nOther, y, 0⟩] : Nat) : Int) = (y.length : Int) := by unfold totF; simp
theorem full_put (he : ∀ g ∈ ext, g.nm ≠ nm) (hk : 0 ≤ key ∧ key ≤ 1099511627776) (hb : b.length ≤ 900000) (hn : hasJ key is = false) (hr : ((recsJ is).length : Int) + (totF ext : Int) + (recI (key, b)).length ≤ mst) :
    putJ nm key b is ((recsJ is).length : Int) (jdk nm (recsJ is) sf ext mst) = ((jdk nm (recsJ (is ++ [(key, b)])) sf ext mst, 0), (is ++ [(key, b)], ((recsJ (is ++ [(key, b)])).length : Int))) := by
  rw [jd_put he hk hb hn hr, recs_snoc, List.length_append]
  rfl
structure JL (is : List PI) : Prop where
  ok : ∀ x ∈ is, okI x
  once : onceJ is
  lt : ∀ x ∈ is, x.1 < (is.length : Int)
theorem JL.nil : JL [] := ⟨fun x hx => by simp at hx, List.Pairwise.nil, fun x hx => by simp at hx⟩
theorem JL.has (h : JL is) : hasJ (is.length : Int) is = false := hasJ_false.2 fun x hx e => by
  have := h.lt x hx
  omega
theorem JL.snoc (h : JL is) (hl : is.length ≤ 1000) (hb : b.length ≤ 900000) (hy : ByteL b) : JL (is ++ [((is.length : Int), b)]) := by
  refine ⟨fun x hx => ?_, ?_, fun x hx => ?_⟩
  · rcases List.mem_append.1 hx with hx | hx
    · exact h.ok x hx
    · obtain rfl := List.mem_singleton.1 hx
      exact ⟨⟨by show (0 : Int) ≤ (is.length : Int); omega, by show (is.length : Int) ≤ _; omega⟩, hb, hy⟩
  · refine List.pairwise_append.2 ⟨h.once, List.pairwise_singleton _ _, fun x hx z hz => ?_⟩
    obtain rfl := List.mem_singleton.1 hz
    have := h.lt x hx
    show x.1 ≠ (is.length : Int)
    omega
  · rw [List.length_append, List.length_singleton]
    rcases List.mem_append.1 hx with hx | hx
    · have := h.lt x hx
      omega
    · obtain rfl := List.mem_singleton.1 hx
      show (is.length : Int) < _
      omega
theorem rec_small {n : Nat} (h : n ≤ 100) : (recI ((n : Int), b)).length = b.length + 9 := by
  rw [recI_len, show (encN (((n : Int), b) : PI).1).length = 1 from enc_small (k := (n : Int)) (by omega)]
  show 1 + b.length + 8 = _
  omega
end
end Go.Proofs.Ytkdahjnmldeklaa.PA
end
section
namespace Go.Proofs.Ytkdahjnmldeklaa.PA
open Go.RowKit Go.Proofs.YtkdahjnmldeklaaW.PrintWords Go.Proofs.YtkdahjnmldeklaaW.PrintLast Go.Proofs.YtkdahjnmldeklaaW.PrintMore
set_option linter.unusedVariables false
set_option linter.unusedSimpArgs false
namespace GJAlive_
attribute [local irreducible] recI
set_option maxHeartbeats 4000000 in
set_option maxRecDepth 100000 in
theorem alive_calls (w : World) :
    Calls Try.prog 31 #[] w fun e w' => e = .returned (.bool true) ∧ Below w.heap.size w w' := by
 have hrx := recI_len (3, [120])
 have hry := recI_len (1, [])
 rw [show (encN (3, [120]).1).length = 1 from enc_small (k := 3) (by decide)] at hrx
 rw [show (encN (1, []).1).length = 1 from enc_small (k := 1) (by decide)] at hry
 simp only [List.length_cons, List.length_nil] at hrx hry
 have hok2 : ∀ x_ ∈ ([(3, [120]), (1, [])] : List PI), okI x_ := by intro x_ hx_; rcases List.mem_cons.1 hx_ with rfl | hx_; (· exact ⟨show (0 : Int) ≤ 3 ∧ (3 : Int) ≤ 1099511627776 by decide, by (try simp only [List.length_cons, List.length_nil]); omega, (by unfold ByteL; decide)⟩); (· obtain rfl := List.mem_singleton.1 hx_; exact ⟨show (0 : Int) ≤ 1 ∧ (1 : Int) ≤ 1099511627776 by decide, by (try simp only [List.length_cons, List.length_nil]); omega, (by unfold ByteL; decide)⟩)
 have hok1 : ∀ x_ ∈ ([(3, [120])] : List PI), okI x_ := fun x_ hx_ => hok2 x_ (by obtain rfl := List.mem_singleton.1 hx_; simp)
 have hon2 : onceJ ([(3, [120]), (1, [])] : List PI) := by simp [onceJ]
 have h00 : ((totF [] : Nat) : Int) = 0 := rfl
 refine gw_start (N := 89) (vs := []) Try.func31 rfl rfl (by simp) fun a HF HO => ?_
 replace HO : Own w w [] := HO
 refine gw_seq fun K1 hK1 => ?_
 refine wp_region_lit ?_
 refine V HF (op_assign rfl (ev_c _ _)) ?_
 intro _ H3; clear HF
 refine wpList_nil ?_
 refine gw_nx (hK1 _ _ ?_)
 refine gw_seq fun K4 hK4 => ?_
 refine wp_region_lit ?_
 have O14 : Own w _ [(Chunk.all [])] := Own.bundle (A := []) (L := []) (HO.sel [] (by decide))
 refine gw_call H3 (want_none rfl) rfl (by decide) (op_callL Try.func11 (by kernel_rfl) rfl rfl (ar_cons (ev_c _ _) ar_nil)) (new_own w _ (Chunk.all []) 1000 (by exact O14)) ?_
 rintro e8 w9 ⟨gd5, S6, rfl, hb10⟩
 refine ⟨_, rfl, fun _ H12 => ?_⟩
 have O13 : Own w w9 [Chunk.disk w.heap.size gd5 S6 (newD 1000)] := Own.unbundle (A := []) (L := [Chunk.disk w.heap.size gd5 S6 (newD 1000)]) (hb10.sel [0, 1] (by decide))
 clear O14
 clear H3 HO hb10
 have O16 : Own w w9 [Chunk.disk w.heap.size gd5 S6 (newD 1000)] := O13
 clear O13
 have hwf7 : wfD (newD 1000) := wf_new (by decide)
 refine V H12 (op_assign rfl (H12.ev rfl)) ?_
 intro _ H18; clear H12
 refine wpList_nil ?_
 refine gw_nx (hK4 _ _ ?_)
 refine gw_seq fun K19 hK19 => ?_
 refine gw_seq fun K20 hK20 => ?_
 refine wp_region_lit ?_
 refine V H18 (op_move rfl (H18.ev rfl)) ?_
 intro _ H22; clear H18
 refine V H22 (op_eqp_nil Try.underlying23 rfl (H22.ev rfl)) ?_
 intro _ H24; clear H22
 refine wpList_nil ?_
 refine gw_nx (hK20 _ _ ?_)
 refine gw_cond H24 rfl (fun hb25 => ?_) (fun hb25 => ?_)
 skip
 ·
  cases hb25
 refine wp_skip ?_
 refine gw_nx (hK19 _ _ ?_)
 refine gw_seq fun K26 hK26 => ?_
 refine wp_region_lit ?_
 refine V H24 (op_move rfl (H24.ev rfl)) ?_
 intro _ H28; clear H24
 have heq33 : openJ (⟨#[106]⟩ : ByteArray) (newD 1000) = (((jdk (⟨#[106]⟩ : ByteArray) (recsJ []) 0 [] 1000), 0), (([] : List PI), 0)) := open_new (by decide) (by decide)
 have O40 : Own w _ [(Chunk.all []), Chunk.disk w.heap.size gd5 S6 (newD 1000)] := Own.bundle (A := []) (L := [Chunk.disk w.heap.size gd5 S6 (newD 1000)]) (O16.sel [0] (by decide))
 refine gw_call H28 (want_none rfl) rfl (by decide) (op_callL Try.func32 (by kernel_rfl) rfl rfl (ar_cons (H28.ev rfl) (ar_cons (ev_c _ _) ar_nil))) (open_ok heq33 hwf7 (by decide) (by decide) (by decide) (by unfold ByteL; decide +kernel) (by exact O40)) ?_
 rintro e34 w35 ⟨gj29, SJ30, S31, rfl, hb36⟩
 refine ⟨_, rfl, fun _ H38 => ?_⟩
 have O39 : Own w w35 [Chunk.disk w.heap.size gd5 S31 (jdk (⟨#[106]⟩ : ByteArray) (recsJ []) 0 [] 1000), Chunk.jour w.heap.size gd5 gj29 (⟨#[106]⟩ : ByteArray) SJ30 ([] : List PI) 0] := Own.unbundle (A := []) (L := [Chunk.disk w.heap.size gd5 S31 (jdk (⟨#[106]⟩ : ByteArray) (recsJ []) 0 [] 1000), Chunk.jour w.heap.size gd5 gj29 (⟨#[106]⟩ : ByteArray) SJ30 ([] : List PI) 0]) (hb36.sel [0, 1, 2] (by decide))
 clear O40
 clear H28 O16 hb36
 have O42 : Own w w35 [Chunk.disk w.heap.size gd5 S31 (jdk (⟨#[106]⟩ : ByteArray) (recsJ []) 0 [] 1000), Chunk.jour w.heap.size gd5 gj29 (⟨#[106]⟩ : ByteArray) SJ30 ([] : List PI) 0] := O39
 clear O39
 have hwf32 : wfD (jdk (⟨#[106]⟩ : ByteArray) (recsJ []) 0 [] 1000) := wf_open' heq33 hwf7
 refine V H38 (op_move rfl (H38.ev rfl)) ?_
 intro _ H44; clear H38
 refine V H44 (op_extract rfl (H44.ev rfl) rfl) ?_
 intro _ H46; clear H44
 refine V H46 (op_extract rfl (H46.ev rfl) rfl) ?_
 intro _ H48; clear H46
 refine V H48 (op_assign rfl (H48.ev rfl)) ?_
 intro _ H50; clear H48
 refine V H50 (op_assign rfl (H50.ev rfl)) ?_
 intro _ H52; clear H50
 refine wpList_nil ?_
 refine gw_nx (hK26 _ _ ?_)
 refine gw_seq fun K53 hK53 => ?_
 refine gw_seq fun K54 hK54 => ?_
 refine wp_region_lit ?_
 refine V H52 (op_move rfl (H52.ev rfl)) ?_
 intro _ H56; clear H52
 refine V H56 (op_nei rfl (H56.ev rfl) (ev_c _ _)) ?_
 intro _ H58; clear H56
 have H59 := H58.lit (b := false) (by decide)
 clear H58
 refine V H59 (op_move rfl (H59.ev rfl)) ?_
 intro _ H61; clear H59
 refine V2 H61 (want_yes H61 rfl rfl rfl rfl) (op_move rfl (H61.ev rfl)) ?_
 intro _ H63; clear H61
 refine V2 H63 (want_yes H63 rfl rfl rfl rfl) (op_eqp_nil Try.underlying61 rfl (H63.ev rfl)) ?_
 intro _ H65; clear H63
 refine V H65 (op_pick_f rfl (H65.ev rfl) (H65.ev rfl)) ?_
 intro _ H67; clear H65
 refine V H67 (op_move rfl (H67.ev rfl)) ?_
 intro _ H69; clear H67
 refine V2 H69 (want_yes H69 rfl rfl rfl rfl) (op_move rfl (H69.ev rfl)) ?_
 intro _ H71; clear H69
 refine gw_bytes (xs := [120]) Try.underlying28 Try.underlying5 H71 O42 (want_yes H71 rfl rfl rfl rfl) rfl (by decide) (op_bslice (by kernel_rfl) rfl (pt_cons (ev_c _ _) pt_nil)) (fun a_ HF_ => (want_yes HF_ rfl rfl rfl rfl)) rfl (by decide) rfl ?_
 intro g72 _ w74 H75 O76; clear H71 O42
 have O77 : Own w w74 [Chunk.blk g72 (.cells (nums .u8 [120]).toArray 5 (([120]).length, ([120]).length + 1)), Chunk.disk w.heap.size gd5 S31 (jdk (⟨#[106]⟩ : ByteArray) (recsJ []) 0 [] 1000), Chunk.jour w.heap.size gd5 gj29 (⟨#[106]⟩ : ByteArray) SJ30 ([] : List PI) 0] := O76
 clear O76
 have heq81 : putJ (⟨#[106]⟩ : ByteArray) 3 ([120]) ([] : List PI) 0 (jdk (⟨#[106]⟩ : ByteArray) (recsJ []) 0 [] 1000) = (((jdk (⟨#[106]⟩ : ByteArray) (recsJ ([(3, [120])] : List PI)) 0 [] 1000), 0), (([(3, [120])] : List PI), (0 + ((recI (3, [120])).length : Int)))) := jd_put (is := []) (fun g_ hg_ => by simp at hg_) (by decide) (by (try simp only [List.length_cons, List.length_nil]); omega) rfl (by rw [show (recsJ []).length = 0 from rfl, h00]; omega)
 have O88 : Own w _ [(Chunk.all [Chunk.blk g72 (.cells (nums .u8 [120]).toArray 5 (([120]).length, ([120]).length + 1))]), Chunk.disk w.heap.size gd5 S31 (jdk (⟨#[106]⟩ : ByteArray) (recsJ []) 0 [] 1000), Chunk.jour w.heap.size gd5 gj29 (⟨#[106]⟩ : ByteArray) SJ30 ([] : List PI) 0] := Own.bundle (A := [Chunk.blk g72 (.cells (nums .u8 [120]).toArray 5 (([120]).length, ([120]).length + 1))]) (L := [Chunk.disk w.heap.size gd5 S31 (jdk (⟨#[106]⟩ : ByteArray) (recsJ []) 0 [] 1000), Chunk.jour w.heap.size gd5 gj29 (⟨#[106]⟩ : ByteArray) SJ30 ([] : List PI) 0]) (O77.sel [0, 1, 2] (by decide))
 refine gw_call H75 (want_yes H75 rfl rfl rfl rfl) rfl (by decide) (op_callL Try.func33 (by kernel_rfl) rfl rfl (ar_cons (H75.ev rfl) (ar_cons (ev_c _ _) (ar_cons (H75.ev rfl) ar_nil)))) (put_is heq81 hwf32 (by decide) (by decide) (fun w_ h_ => (blkC ((Own.unbundle (A := [Chunk.blk g72 (.cells (nums .u8 [120]).toArray 5 (([120]).length, ([120]).length + 1))]) (L := []) h_).get 0 rfl) (by simp))) (Nat.le_refl _) (by unfold ByteL; decide) (by (try simp only [List.length_cons, List.length_nil]); omega) (used_le (by decide)) (by show 0 ≤ 1000000; decide) (by omega) (by exact O88)) ?_
 rintro e82 w83 ⟨rfl, S79, SJ78, hb84⟩
 refine ⟨_, rfl, fun _ H86 => ?_⟩
 have O87 : Own w w83 [Chunk.blk g72 (.cells (nums .u8 [120]).toArray 5 (([120]).length, ([120]).length + 1)), Chunk.disk w.heap.size gd5 S79 (jdk (⟨#[106]⟩ : ByteArray) (recsJ ([(3, [120])] : List PI)) 0 [] 1000), Chunk.jour w.heap.size gd5 gj29 (⟨#[106]⟩ : ByteArray) SJ78 ([(3, [120])] : List PI) (0 + ((recI (3, [120])).length : Int))] := Own.unbundle (A := [Chunk.blk g72 (.cells (nums .u8 [120]).toArray 5 (([120]).length, ([120]).length + 1))]) (L := [Chunk.disk w.heap.size gd5 S79 (jdk (⟨#[106]⟩ : ByteArray) (recsJ ([(3, [120])] : List PI)) 0 [] 1000), Chunk.jour w.heap.size gd5 gj29 (⟨#[106]⟩ : ByteArray) SJ78 ([(3, [120])] : List PI) (0 + ((recI (3, [120])).length : Int))]) (hb84.sel [0, 1, 2] (by decide))
 clear O88
 clear H75 O77 hb84
 have O90 : Own w w83 [Chunk.blk g72 (.cells (nums .u8 [120]).toArray 5 (([120]).length, ([120]).length + 1)), Chunk.disk w.heap.size gd5 S79 (jdk (⟨#[106]⟩ : ByteArray) (recsJ ([(3, [120])] : List PI)) 0 [] 1000), Chunk.jour w.heap.size gd5 gj29 (⟨#[106]⟩ : ByteArray) SJ78 ([(3, [120])] : List PI) (0 + ((recI (3, [120])).length : Int))] := O87
 clear O87
 have hwf80 : wfD (jdk (⟨#[106]⟩ : ByteArray) (recsJ ([(3, [120])] : List PI)) 0 [] 1000) := wf_put' heq81 hwf32
 refine V2 H86 (want_yes H86 rfl rfl rfl rfl) (op_nei rfl (H86.ev rfl) (ev_c _ _)) ?_
 intro _ H92; clear H86
 have H93 := H92.lit (b := false) (by decide)
 clear H92
 refine V H93 (op_pick_f rfl (H93.ev rfl) (H93.ev rfl)) ?_
 intro _ H95; clear H93
 refine V H95 (op_move rfl (H95.ev rfl)) ?_
 intro _ H97; clear H95
 refine V2 H97 (want_yes H97 rfl rfl rfl rfl) (op_move rfl (H97.ev rfl)) ?_
 intro _ H99; clear H97
 have heq103 : syncD (⟨#[106]⟩ : ByteArray) (jdk (⟨#[106]⟩ : ByteArray) (recsJ ([(3, [120])] : List PI)) 0 [] 1000) = ((jdk (⟨#[106]⟩ : ByteArray) (recsJ ([(3, [120])] : List PI)) ((recsJ ([(3, [120])] : List PI)).length : Int) [] 1000), 0) := jd_sync (fun g_ hg_ => by simp at hg_)
 have O110 : Own w _ [(Chunk.all [Chunk.blk g72 (.cells (nums .u8 [120]).toArray 5 (([120]).length, ([120]).length + 1))]), Chunk.disk w.heap.size gd5 S79 (jdk (⟨#[106]⟩ : ByteArray) (recsJ ([(3, [120])] : List PI)) 0 [] 1000), Chunk.jour w.heap.size gd5 gj29 (⟨#[106]⟩ : ByteArray) SJ78 ([(3, [120])] : List PI) (0 + ((recI (3, [120])).length : Int))] := Own.bundle (A := [Chunk.blk g72 (.cells (nums .u8 [120]).toArray 5 (([120]).length, ([120]).length + 1))]) (L := [Chunk.disk w.heap.size gd5 S79 (jdk (⟨#[106]⟩ : ByteArray) (recsJ ([(3, [120])] : List PI)) 0 [] 1000), Chunk.jour w.heap.size gd5 gj29 (⟨#[106]⟩ : ByteArray) SJ78 ([(3, [120])] : List PI) (0 + ((recI (3, [120])).length : Int))]) (O90.sel [0, 1, 2] (by decide))
 refine gw_call H99 (want_yes H99 rfl rfl rfl rfl) rfl (by decide) (op_callL Try.func34 (by kernel_rfl) rfl rfl (ar_cons (H99.ev rfl) ar_nil)) (jsync_is heq103 hwf80 (by decide) (by exact O110)) ?_
 rintro e104 w105 ⟨rfl, S101, SJ100, hb106⟩
 refine ⟨_, rfl, fun _ H108 => ?_⟩
 have O109 : Own w w105 [Chunk.blk g72 (.cells (nums .u8 [120]).toArray 5 (([120]).length, ([120]).length + 1)), Chunk.disk w.heap.size gd5 S101 (jdk (⟨#[106]⟩ : ByteArray) (recsJ ([(3, [120])] : List PI)) ((recsJ ([(3, [120])] : List PI)).length : Int) [] 1000), Chunk.jour w.heap.size gd5 gj29 (⟨#[106]⟩ : ByteArray) SJ100 ([(3, [120])] : List PI) (0 + ((recI (3, [120])).length : Int))] := Own.unbundle (A := [Chunk.blk g72 (.cells (nums .u8 [120]).toArray 5 (([120]).length, ([120]).length + 1))]) (L := [Chunk.disk w.heap.size gd5 S101 (jdk (⟨#[106]⟩ : ByteArray) (recsJ ([(3, [120])] : List PI)) ((recsJ ([(3, [120])] : List PI)).length : Int) [] 1000), Chunk.jour w.heap.size gd5 gj29 (⟨#[106]⟩ : ByteArray) SJ100 ([(3, [120])] : List PI) (0 + ((recI (3, [120])).length : Int))]) (hb106.sel [0, 1, 2] (by decide))
 clear O110
 clear H99 O90 hb106
 have O112 : Own w w105 [Chunk.blk g72 (.cells (nums .u8 [120]).toArray 5 (([120]).length, ([120]).length + 1)), Chunk.disk w.heap.size gd5 S101 (jdk (⟨#[106]⟩ : ByteArray) (recsJ ([(3, [120])] : List PI)) ((recsJ ([(3, [120])] : List PI)).length : Int) [] 1000), Chunk.jour w.heap.size gd5 gj29 (⟨#[106]⟩ : ByteArray) SJ100 ([(3, [120])] : List PI) (0 + ((recI (3, [120])).length : Int))] := O109
 clear O109
 have hwf102 : wfD (jdk (⟨#[106]⟩ : ByteArray) (recsJ ([(3, [120])] : List PI)) ((recsJ ([(3, [120])] : List PI)).length : Int) [] 1000) := wf_sync' heq103 hwf80
 refine V2 H108 (want_yes H108 rfl rfl rfl rfl) (op_nei rfl (H108.ev rfl) (ev_c _ _)) ?_
 intro _ H114; clear H108
 have H115 := H114.lit (b := false) (by decide)
 clear H114
 refine V H115 (op_pick_f rfl (H115.ev rfl) (H115.ev rfl)) ?_
 intro _ H117; clear H115
 refine V H117 (op_move rfl (H117.ev rfl)) ?_
 intro _ H119; clear H117
 refine V2 H119 (want_yes H119 rfl rfl rfl rfl) (op_move rfl (H119.ev rfl)) ?_
 intro _ H121; clear H119
 have heq125 : putJ (⟨#[106]⟩ : ByteArray) 1 ([] : List Int) ([(3, [120])] : List PI) (0 + ((recI (3, [120])).length : Int)) (jdk (⟨#[106]⟩ : ByteArray) (recsJ ([(3, [120])] : List PI)) ((recsJ ([(3, [120])] : List PI)).length : Int) [] 1000) = (((jdk (⟨#[106]⟩ : ByteArray) (recsJ ([(3, [120]), (1, [])] : List PI)) ((recsJ ([(3, [120])] : List PI)).length : Int) [] 1000), 0), (([(3, [120]), (1, [])] : List PI), (0 + ((recI (3, [120])).length : Int) + ((recI (1, [])).length : Int)))) := jd_put (is := ([(3, [120])] : List PI)) (fun g_ hg_ => by simp at hg_) (by decide) (by (try simp only [List.length_cons, List.length_nil]); omega) rfl (by rw [recs_one, h00]; omega)
 have O132 : Own w _ [(Chunk.all [Chunk.blk g72 (.cells (nums .u8 [120]).toArray 5 (([120]).length, ([120]).length + 1))]), Chunk.disk w.heap.size gd5 S101 (jdk (⟨#[106]⟩ : ByteArray) (recsJ ([(3, [120])] : List PI)) ((recsJ ([(3, [120])] : List PI)).length : Int) [] 1000), Chunk.jour w.heap.size gd5 gj29 (⟨#[106]⟩ : ByteArray) SJ100 ([(3, [120])] : List PI) (0 + ((recI (3, [120])).length : Int))] := Own.bundle (A := [Chunk.blk g72 (.cells (nums .u8 [120]).toArray 5 (([120]).length, ([120]).length + 1))]) (L := [Chunk.disk w.heap.size gd5 S101 (jdk (⟨#[106]⟩ : ByteArray) (recsJ ([(3, [120])] : List PI)) ((recsJ ([(3, [120])] : List PI)).length : Int) [] 1000), Chunk.jour w.heap.size gd5 gj29 (⟨#[106]⟩ : ByteArray) SJ100 ([(3, [120])] : List PI) (0 + ((recI (3, [120])).length : Int))]) (O112.sel [0, 1, 2] (by decide))
 refine gw_call H121 (want_yes H121 rfl rfl rfl rfl) rfl (by decide) (op_callL Try.func33 (by kernel_rfl) rfl rfl (ar_cons (H121.ev rfl) (ar_cons (ev_c _ _) (ar_cons (ev_c _ _) ar_nil)))) (put_nil heq125 hwf102 (by decide) (by decide) (used_le (by rw [recs_one]; omega)) (by show 1 ≤ 1000000; decide) (by omega) (by exact O132)) ?_
 rintro e126 w127 ⟨rfl, S123, SJ122, hb128⟩
 refine ⟨_, rfl, fun _ H130 => ?_⟩
 have O131 : Own w w127 [Chunk.blk g72 (.cells (nums .u8 [120]).toArray 5 (([120]).length, ([120]).length + 1)), Chunk.disk w.heap.size gd5 S123 (jdk (⟨#[106]⟩ : ByteArray) (recsJ ([(3, [120]), (1, [])] : List PI)) ((recsJ ([(3, [120])] : List PI)).length : Int) [] 1000), Chunk.jour w.heap.size gd5 gj29 (⟨#[106]⟩ : ByteArray) SJ122 ([(3, [120]), (1, [])] : List PI) (0 + ((recI (3, [120])).length : Int) + ((recI (1, [])).length : Int))] := Own.unbundle (A := [Chunk.blk g72 (.cells (nums .u8 [120]).toArray 5 (([120]).length, ([120]).length + 1))]) (L := [Chunk.disk w.heap.size gd5 S123 (jdk (⟨#[106]⟩ : ByteArray) (recsJ ([(3, [120]), (1, [])] : List PI)) ((recsJ ([(3, [120])] : List PI)).length : Int) [] 1000), Chunk.jour w.heap.size gd5 gj29 (⟨#[106]⟩ : ByteArray) SJ122 ([(3, [120]), (1, [])] : List PI) (0 + ((recI (3, [120])).length : Int) + ((recI (1, [])).length : Int))]) (hb128.sel [0, 1, 2] (by decide))
 clear O132
 clear H121 O112 hb128
 have O134 : Own w w127 [Chunk.blk g72 (.cells (nums .u8 [120]).toArray 5 (([120]).length, ([120]).length + 1)), Chunk.disk w.heap.size gd5 S123 (jdk (⟨#[106]⟩ : ByteArray) (recsJ ([(3, [120]), (1, [])] : List PI)) ((recsJ ([(3, [120])] : List PI)).length : Int) [] 1000), Chunk.jour w.heap.size gd5 gj29 (⟨#[106]⟩ : ByteArray) SJ122 ([(3, [120]), (1, [])] : List PI) (0 + ((recI (3, [120])).length : Int) + ((recI (1, [])).length : Int))] := O131
 clear O131
 have hwf124 : wfD (jdk (⟨#[106]⟩ : ByteArray) (recsJ ([(3, [120]), (1, [])] : List PI)) ((recsJ ([(3, [120])] : List PI)).length : Int) [] 1000) := wf_put' heq125 hwf102
 refine V2 H130 (want_yes H130 rfl rfl rfl rfl) (op_nei rfl (H130.ev rfl) (ev_c _ _)) ?_
 intro _ H136; clear H130
 have H137 := H136.lit (b := false) (by decide)
 clear H136
 refine V H137 (op_pick_f rfl (H137.ev rfl) (H137.ev rfl)) ?_
 intro _ H139; clear H137
 refine V H139 (op_move rfl (H139.ev rfl)) ?_
 intro _ H141; clear H139
 refine V2 H141 (want_yes H141 rfl rfl rfl rfl) (op_move rfl (H141.ev rfl)) ?_
 intro _ H143; clear H141
 have heq147 : putJ (⟨#[106]⟩ : ByteArray) 3 ([] : List Int) ([(3, [120]), (1, [])] : List PI) (0 + ((recI (3, [120])).length : Int) + ((recI (1, [])).length : Int)) (jdk (⟨#[106]⟩ : ByteArray) (recsJ ([(3, [120]), (1, [])] : List PI)) ((recsJ ([(3, [120])] : List PI)).length : Int) [] 1000) = (((jdk (⟨#[106]⟩ : ByteArray) (recsJ ([(3, [120]), (1, [])] : List PI)) ((recsJ ([(3, [120])] : List PI)).length : Int) [] 1000), 5), (([(3, [120]), (1, [])] : List PI), (0 + ((recI (3, [120])).length : Int) + ((recI (1, [])).length : Int)))) := put_twice (by decide) (by decide) rfl
 have O154 : Own w _ [(Chunk.all [Chunk.blk g72 (.cells (nums .u8 [120]).toArray 5 (([120]).length, ([120]).length + 1))]), Chunk.disk w.heap.size gd5 S123 (jdk (⟨#[106]⟩ : ByteArray) (recsJ ([(3, [120]), (1, [])] : List PI)) ((recsJ ([(3, [120])] : List PI)).length : Int) [] 1000), Chunk.jour w.heap.size gd5 gj29 (⟨#[106]⟩ : ByteArray) SJ122 ([(3, [120]), (1, [])] : List PI) (0 + ((recI (3, [120])).length : Int) + ((recI (1, [])).length : Int))] := Own.bundle (A := [Chunk.blk g72 (.cells (nums .u8 [120]).toArray 5 (([120]).length, ([120]).length + 1))]) (L := [Chunk.disk w.heap.size gd5 S123 (jdk (⟨#[106]⟩ : ByteArray) (recsJ ([(3, [120]), (1, [])] : List PI)) ((recsJ ([(3, [120])] : List PI)).length : Int) [] 1000), Chunk.jour w.heap.size gd5 gj29 (⟨#[106]⟩ : ByteArray) SJ122 ([(3, [120]), (1, [])] : List PI) (0 + ((recI (3, [120])).length : Int) + ((recI (1, [])).length : Int))]) (O134.sel [0, 1, 2] (by decide))
 refine gw_call H143 (want_yes H143 rfl rfl rfl rfl) rfl (by decide) (op_callL Try.func33 (by kernel_rfl) rfl rfl (ar_cons (H143.ev rfl) (ar_cons (ev_c _ _) (ar_cons (ev_c _ _) ar_nil)))) (put_nil heq147 hwf124 (by decide) (by decide) (used_le (by rw [recs_two]; omega)) (by show 2 ≤ 1000000; decide) (by omega) (by exact O154)) ?_
 rintro e148 w149 ⟨rfl, S145, SJ144, hb150⟩
 refine ⟨_, rfl, fun _ H152 => ?_⟩
 have O153 : Own w w149 [Chunk.blk g72 (.cells (nums .u8 [120]).toArray 5 (([120]).length, ([120]).length + 1)), Chunk.disk w.heap.size gd5 S145 (jdk (⟨#[106]⟩ : ByteArray) (recsJ ([(3, [120]), (1, [])] : List PI)) ((recsJ ([(3, [120])] : List PI)).length : Int) [] 1000), Chunk.jour w.heap.size gd5 gj29 (⟨#[106]⟩ : ByteArray) SJ144 ([(3, [120]), (1, [])] : List PI) (0 + ((recI (3, [120])).length : Int) + ((recI (1, [])).length : Int))] := Own.unbundle (A := [Chunk.blk g72 (.cells (nums .u8 [120]).toArray 5 (([120]).length, ([120]).length + 1))]) (L := [Chunk.disk w.heap.size gd5 S145 (jdk (⟨#[106]⟩ : ByteArray) (recsJ ([(3, [120]), (1, [])] : List PI)) ((recsJ ([(3, [120])] : List PI)).length : Int) [] 1000), Chunk.jour w.heap.size gd5 gj29 (⟨#[106]⟩ : ByteArray) SJ144 ([(3, [120]), (1, [])] : List PI) (0 + ((recI (3, [120])).length : Int) + ((recI (1, [])).length : Int))]) (hb150.sel [0, 1, 2] (by decide))
 clear O154
 clear H143 O134 hb150
 have O156 : Own w w149 [Chunk.blk g72 (.cells (nums .u8 [120]).toArray 5 (([120]).length, ([120]).length + 1)), Chunk.disk w.heap.size gd5 S145 (jdk (⟨#[106]⟩ : ByteArray) (recsJ ([(3, [120]), (1, [])] : List PI)) ((recsJ ([(3, [120])] : List PI)).length : Int) [] 1000), Chunk.jour w.heap.size gd5 gj29 (⟨#[106]⟩ : ByteArray) SJ144 ([(3, [120]), (1, [])] : List PI) (0 + ((recI (3, [120])).length : Int) + ((recI (1, [])).length : Int))] := O153
 clear O153
 have hwf146 : wfD (jdk (⟨#[106]⟩ : ByteArray) (recsJ ([(3, [120]), (1, [])] : List PI)) ((recsJ ([(3, [120])] : List PI)).length : Int) [] 1000) := wf_put' heq147 hwf124
 refine V2 H152 (want_yes H152 rfl rfl rfl rfl) (op_nei rfl (H152.ev rfl) (ev_c _ _)) ?_
 intro _ H158; clear H152
 have H159 := H158.lit (b := false) (by decide)
 clear H158
 refine V H159 (op_pick_f rfl (H159.ev rfl) (H159.ev rfl)) ?_
 intro _ H161; clear H159
 refine wpList_nil ?_
 refine gw_nx (hK54 _ _ ?_)
 refine gw_cond H161 rfl (fun hb162 => ?_) (fun hb162 => ?_)
 skip
 ·
  cases hb162
 refine wp_skip ?_
 refine gw_nx (hK53 _ _ ?_)
 refine gw_seq fun K163 hK163 => ?_
 refine wp_region_lit ?_
 refine V H161 (op_move rfl (H161.ev rfl)) ?_
 intro _ H165; clear H161
 refine gw_lit (enc := Value.int .i64) (fun _ => rfl) (xs := [5]) (e := 3) H165 O156 (want_none rfl) rfl (by decide) (op_bslice (by kernel_rfl) rfl (pt_cons (ev_c _ _) pt_nil)) (by simp) ?_
 intro A166 S167 _ w169 H170 O171; clear H165 O156
 have O172 : Own w w169 [Chunk.row (Kd.int .i64) 3 w.heap.size S167 (.slice A166 (([5]).length) (([5]).length)) ([5]), Chunk.blk g72 (.cells (nums .u8 [120]).toArray 5 (([120]).length, ([120]).length + 1)), Chunk.disk w.heap.size gd5 S145 (jdk (⟨#[106]⟩ : ByteArray) (recsJ ([(3, [120]), (1, [])] : List PI)) ((recsJ ([(3, [120])] : List PI)).length : Int) [] 1000), Chunk.jour w.heap.size gd5 gj29 (⟨#[106]⟩ : ByteArray) SJ144 ([(3, [120]), (1, [])] : List PI) (0 + ((recI (3, [120])).length : Int) + ((recI (1, [])).length : Int))] := O171
 clear O171
 obtain ⟨m, hm1, hm2, hm4, hmc⟩ := jd_crash (nm := (⟨#[106]⟩ : ByteArray)) (mst := 1000) (all := recsJ ([(3, [120]), (1, [])] : List PI)) (sf := ((recsJ ([(3, [120])] : List PI)).length : Int)) (by rw [recs_one, recs_two]; omega) 5
 have hm3 : (recI (3, [120])).length ≤ m := by rw [recs_one] at hm4; omega
 have hml : ((recsJ ([(3, [120]), (1, [])] : List PI)).take m).length = m := by rw [List.length_take]; omega
 rw [recs_two, recs_one] at hm1
 have O181 : Own w _ [(Chunk.all [Chunk.row (Kd.int .i64) 3 w.heap.size S167 (.slice A166 (([5]).length) (([5]).length)) ([5]), Chunk.blk g72 (.cells (nums .u8 [120]).toArray 5 (([120]).length, ([120]).length + 1)), Chunk.jour w.heap.size gd5 gj29 (⟨#[106]⟩ : ByteArray) SJ144 ([(3, [120]), (1, [])] : List PI) (0 + ((recI (3, [120])).length : Int) + ((recI (1, [])).length : Int))]), Chunk.disk w.heap.size gd5 S145 (jdk (⟨#[106]⟩ : ByteArray) (recsJ ([(3, [120]), (1, [])] : List PI)) ((recsJ ([(3, [120])] : List PI)).length : Int) [] 1000)] := Own.bundle (A := [Chunk.row (Kd.int .i64) 3 w.heap.size S167 (.slice A166 (([5]).length) (([5]).length)) ([5]), Chunk.blk g72 (.cells (nums .u8 [120]).toArray 5 (([120]).length, ([120]).length + 1)), Chunk.jour w.heap.size gd5 gj29 (⟨#[106]⟩ : ByteArray) SJ144 ([(3, [120]), (1, [])] : List PI) (0 + ((recI (3, [120])).length : Int) + ((recI (1, [])).length : Int))]) (L := [Chunk.disk w.heap.size gd5 S145 (jdk (⟨#[106]⟩ : ByteArray) (recsJ ([(3, [120]), (1, [])] : List PI)) ((recsJ ([(3, [120])] : List PI)).length : Int) [] 1000)]) (O172.sel [0, 1, 3, 2] (by decide))
 refine gw_call H170 (want_none rfl) rfl (by decide) (op_callL Try.func17 (by kernel_rfl) rfl rfl (ar_cons (H170.ev rfl) (ar_cons (H170.ev rfl) ar_nil))) ((by have h_ := crash_calls w _ (Chunk.all [Chunk.row (Kd.int .i64) 3 w.heap.size S167 (.slice A166 (([5]).length) (([5]).length)) ([5]), Chunk.blk g72 (.cells (nums .u8 [120]).toArray 5 (([120]).length, ([120]).length + 1)), Chunk.jour w.heap.size gd5 gj29 (⟨#[106]⟩ : ByteArray) SJ144 ([(3, [120]), (1, [])] : List PI) (0 + ((recI (3, [120])).length : Int) + ((recI (1, [])).length : Int))]) gd5 S145 (jdk (⟨#[106]⟩ : ByteArray) (recsJ ([(3, [120]), (1, [])] : List PI)) ((recsJ ([(3, [120])] : List PI)).length : Int) [] 1000) A166 (([5]).length) ([5]) (fun w_ h_ => (Kd.R_reads' ((Own.unbundle (A := [Chunk.row (Kd.int .i64) 3 w.heap.size S167 (.slice A166 (([5]).length) (([5]).length)) ([5]), Chunk.blk g72 (.cells (nums .u8 [120]).toArray 5 (([120]).length, ([120]).length + 1)), Chunk.jour w.heap.size gd5 gj29 (⟨#[106]⟩ : ByteArray) SJ144 ([(3, [120]), (1, [])] : List PI) (0 + ((recI (3, [120])).length : Int) + ((recI (1, [])).length : Int))]) (L := []) h_).get 0 rfl)).2.2) (row_cap (O172.get 0 rfl)) hwf146 (by show 1 ≤ 1000000; decide) (by exact O181); rw [show (crashD ([5]) (jdk (⟨#[106]⟩ : ByteArray) (recsJ ([(3, [120]), (1, [])] : List PI)) ((recsJ ([(3, [120])] : List PI)).length : Int) [] 1000)) = (jdk (⟨#[106]⟩ : ByteArray) ((recsJ ([(3, [120]), (1, [])] : List PI)).take m) (m : Int) [] 1000) from hmc] at h_; (try dsimp only at h_); exact h_)) ?_
 rintro e175 w176 ⟨rfl, S173, hb177⟩
 refine ⟨_, rfl, fun _ H179 => ?_⟩
 have O180 : Own w w176 [Chunk.row (Kd.int .i64) 3 w.heap.size S167 (.slice A166 (([5]).length) (([5]).length)) ([5]), Chunk.blk g72 (.cells (nums .u8 [120]).toArray 5 (([120]).length, ([120]).length + 1)), Chunk.jour w.heap.size gd5 gj29 (⟨#[106]⟩ : ByteArray) SJ144 ([(3, [120]), (1, [])] : List PI) (0 + ((recI (3, [120])).length : Int) + ((recI (1, [])).length : Int)), Chunk.disk w.heap.size gd5 S173 (jdk (⟨#[106]⟩ : ByteArray) ((recsJ ([(3, [120]), (1, [])] : List PI)).take m) (m : Int) [] 1000)] := Own.unbundle (A := [Chunk.row (Kd.int .i64) 3 w.heap.size S167 (.slice A166 (([5]).length) (([5]).length)) ([5]), Chunk.blk g72 (.cells (nums .u8 [120]).toArray 5 (([120]).length, ([120]).length + 1)), Chunk.jour w.heap.size gd5 gj29 (⟨#[106]⟩ : ByteArray) SJ144 ([(3, [120]), (1, [])] : List PI) (0 + ((recI (3, [120])).length : Int) + ((recI (1, [])).length : Int))]) (L := [Chunk.disk w.heap.size gd5 S173 (jdk (⟨#[106]⟩ : ByteArray) ((recsJ ([(3, [120]), (1, [])] : List PI)).take m) (m : Int) [] 1000)]) (hb177.sel [0, 1] (by decide))
 clear O181
 clear H170 O172 hb177
 have O183 : Own w w176 [Chunk.row (Kd.int .i64) 3 w.heap.size S167 (.slice A166 (([5]).length) (([5]).length)) ([5]), Chunk.blk g72 (.cells (nums .u8 [120]).toArray 5 (([120]).length, ([120]).length + 1)), Chunk.jour w.heap.size gd5 gj29 (⟨#[106]⟩ : ByteArray) SJ144 ([(3, [120]), (1, [])] : List PI) (0 + ((recI (3, [120])).length : Int) + ((recI (1, [])).length : Int)), Chunk.disk w.heap.size gd5 S173 (jdk (⟨#[106]⟩ : ByteArray) ((recsJ ([(3, [120]), (1, [])] : List PI)).take m) (m : Int) [] 1000)] := O180
 clear O180
 have hwf174 : wfD (jdk (⟨#[106]⟩ : ByteArray) ((recsJ ([(3, [120]), (1, [])] : List PI)).take m) (m : Int) [] 1000) := by have h_ := wf_crash (keep := ([5])) hwf146; rw [show (crashD ([5]) (jdk (⟨#[106]⟩ : ByteArray) (recsJ ([(3, [120]), (1, [])] : List PI)) ((recsJ ([(3, [120])] : List PI)).length : Int) [] 1000)) = (jdk (⟨#[106]⟩ : ByteArray) ((recsJ ([(3, [120]), (1, [])] : List PI)).take m) (m : Int) [] 1000) from hmc] at h_; exact h_
 refine wpList_nil ?_
 refine gw_nx (hK163 _ _ ?_)
 refine gw_seq fun K184 hK184 => ?_
 refine wp_region_lit ?_
 refine V H179 (op_move rfl (H179.ev rfl)) ?_
 intro _ H186; clear H179
 obtain ⟨q, hq1, hqo, hq3, hq4⟩ := jd_reopen (nm := (⟨#[106]⟩ : ByteArray)) (ext := []) (mst := 1000) (fun g_ hg_ => by simp at hg_) hok2 hon2 hm2
 have hTW := two_cut hq1 hq3 hq4 hm3 hm2
 have hq : q = 1 := by rcases hTW with ⟨h_, _⟩ | ⟨_, h_⟩; (· exact h_); (· exfalso; unfold mn mx at hm1; (repeat' split at hm1) <;> omega)
 have hokT : ∀ x_ ∈ (([(3, [120]), (1, [])] : List PI).take q), okI x_ := fun x_ hx_ => hok2 x_ (List.mem_of_mem_take hx_)
 have heq191 : openJ (⟨#[106]⟩ : ByteArray) (jdk (⟨#[106]⟩ : ByteArray) ((recsJ ([(3, [120]), (1, [])] : List PI)).take m) (m : Int) [] 1000) = (((jdk (⟨#[106]⟩ : ByteArray) (recsJ (([(3, [120]), (1, [])] : List PI).take q)) ((recsJ (([(3, [120]), (1, [])] : List PI).take q)).length : Int) [] 1000), 0), ((([(3, [120]), (1, [])] : List PI).take q), ((recsJ (([(3, [120]), (1, [])] : List PI).take q)).length : Int))) := hqo
 have O198 : Own w _ [(Chunk.all [Chunk.row (Kd.int .i64) 3 w.heap.size S167 (.slice A166 (([5]).length) (([5]).length)) ([5]), Chunk.blk g72 (.cells (nums .u8 [120]).toArray 5 (([120]).length, ([120]).length + 1)), Chunk.jour w.heap.size gd5 gj29 (⟨#[106]⟩ : ByteArray) SJ144 ([(3, [120]), (1, [])] : List PI) (0 + ((recI (3, [120])).length : Int) + ((recI (1, [])).length : Int))]), Chunk.disk w.heap.size gd5 S173 (jdk (⟨#[106]⟩ : ByteArray) ((recsJ ([(3, [120]), (1, [])] : List PI)).take m) (m : Int) [] 1000)] := Own.bundle (A := [Chunk.row (Kd.int .i64) 3 w.heap.size S167 (.slice A166 (([5]).length) (([5]).length)) ([5]), Chunk.blk g72 (.cells (nums .u8 [120]).toArray 5 (([120]).length, ([120]).length + 1)), Chunk.jour w.heap.size gd5 gj29 (⟨#[106]⟩ : ByteArray) SJ144 ([(3, [120]), (1, [])] : List PI) (0 + ((recI (3, [120])).length : Int) + ((recI (1, [])).length : Int))]) (L := [Chunk.disk w.heap.size gd5 S173 (jdk (⟨#[106]⟩ : ByteArray) ((recsJ ([(3, [120]), (1, [])] : List PI)).take m) (m : Int) [] 1000)]) (O183.sel [0, 1, 2, 3] (by decide))
 refine gw_call H186 (want_none rfl) rfl (by decide) (op_callL Try.func32 (by kernel_rfl) rfl rfl (ar_cons (H186.ev rfl) (ar_cons (ev_c _ _) ar_nil))) (open_ok heq191 hwf174 (by decide) (by show 1 ≤ 1000000; decide) (used_le (by rw [hml]; rw [recs_two] at hm2; omega)) (jd_byte (take_byte (recs_byte hok2) m)) (by exact O198)) ?_
 rintro e192 w193 ⟨gj187, SJ188, S189, rfl, hb194⟩
 refine ⟨_, rfl, fun _ H196 => ?_⟩
 have O197 : Own w w193 [Chunk.row (Kd.int .i64) 3 w.heap.size S167 (.slice A166 (([5]).length) (([5]).length)) ([5]), Chunk.blk g72 (.cells (nums .u8 [120]).toArray 5 (([120]).length, ([120]).length + 1)), Chunk.jour w.heap.size gd5 gj29 (⟨#[106]⟩ : ByteArray) SJ144 ([(3, [120]), (1, [])] : List PI) (0 + ((recI (3, [120])).length : Int) + ((recI (1, [])).length : Int)), Chunk.disk w.heap.size gd5 S189 (jdk (⟨#[106]⟩ : ByteArray) (recsJ (([(3, [120]), (1, [])] : List PI).take q)) ((recsJ (([(3, [120]), (1, [])] : List PI).take q)).length : Int) [] 1000), Chunk.jour w.heap.size gd5 gj187 (⟨#[106]⟩ : ByteArray) SJ188 (([(3, [120]), (1, [])] : List PI).take q) ((recsJ (([(3, [120]), (1, [])] : List PI).take q)).length : Int)] := Own.unbundle (A := [Chunk.row (Kd.int .i64) 3 w.heap.size S167 (.slice A166 (([5]).length) (([5]).length)) ([5]), Chunk.blk g72 (.cells (nums .u8 [120]).toArray 5 (([120]).length, ([120]).length + 1)), Chunk.jour w.heap.size gd5 gj29 (⟨#[106]⟩ : ByteArray) SJ144 ([(3, [120]), (1, [])] : List PI) (0 + ((recI (3, [120])).length : Int) + ((recI (1, [])).length : Int))]) (L := [Chunk.disk w.heap.size gd5 S189 (jdk (⟨#[106]⟩ : ByteArray) (recsJ (([(3, [120]), (1, [])] : List PI).take q)) ((recsJ (([(3, [120]), (1, [])] : List PI).take q)).length : Int) [] 1000), Chunk.jour w.heap.size gd5 gj187 (⟨#[106]⟩ : ByteArray) SJ188 (([(3, [120]), (1, [])] : List PI).take q) ((recsJ (([(3, [120]), (1, [])] : List PI).take q)).length : Int)]) (hb194.sel [0, 1, 2] (by decide))
 clear O198
 clear H186 O183 hb194
 have O200 : Own w w193 [Chunk.row (Kd.int .i64) 3 w.heap.size S167 (.slice A166 (([5]).length) (([5]).length)) ([5]), Chunk.blk g72 (.cells (nums .u8 [120]).toArray 5 (([120]).length, ([120]).length + 1)), Chunk.jour w.heap.size gd5 gj29 (⟨#[106]⟩ : ByteArray) SJ144 ([(3, [120]), (1, [])] : List PI) (0 + ((recI (3, [120])).length : Int) + ((recI (1, [])).length : Int)), Chunk.disk w.heap.size gd5 S189 (jdk (⟨#[106]⟩ : ByteArray) (recsJ (([(3, [120]), (1, [])] : List PI).take q)) ((recsJ (([(3, [120]), (1, [])] : List PI).take q)).length : Int) [] 1000), Chunk.jour w.heap.size gd5 gj187 (⟨#[106]⟩ : ByteArray) SJ188 (([(3, [120]), (1, [])] : List PI).take q) ((recsJ (([(3, [120]), (1, [])] : List PI).take q)).length : Int)] := O197
 clear O197
 have hwf190 : wfD (jdk (⟨#[106]⟩ : ByteArray) (recsJ (([(3, [120]), (1, [])] : List PI).take q)) ((recsJ (([(3, [120]), (1, [])] : List PI).take q)).length : Int) [] 1000) := wf_open' heq191 hwf174
 refine V H196 (op_move rfl (H196.ev rfl)) ?_
 intro _ H202; clear H196
 refine V H202 (op_extract rfl (H202.ev rfl) rfl) ?_
 intro _ H204; clear H202
 refine V H204 (op_extract rfl (H204.ev rfl) rfl) ?_
 intro _ H206; clear H204
 refine V H206 (op_assign rfl (H206.ev rfl)) ?_
 intro _ H208; clear H206
 refine V H208 (op_assign rfl (H208.ev rfl)) ?_
 intro _ H210; clear H208
 refine wpList_nil ?_
 refine gw_nx (hK184 _ _ ?_)
 refine gw_seq fun K211 hK211 => ?_
 refine gw_seq fun K212 hK212 => ?_
 refine wp_region_lit ?_
 refine V H210 (op_move rfl (H210.ev rfl)) ?_
 intro _ H214; clear H210
 refine V H214 (op_nei rfl (H214.ev rfl) (ev_c _ _)) ?_
 intro _ H216; clear H214
 have H217 := H216.lit (b := false) (by decide)
 clear H216
 refine V H217 (op_move rfl (H217.ev rfl)) ?_
 intro _ H219; clear H217
 refine V2 H219 (want_yes H219 rfl rfl rfl rfl) (op_move rfl (H219.ev rfl)) ?_
 intro _ H221; clear H219
 refine V2 H221 (want_yes H221 rfl rfl rfl rfl) (op_eqp_nil Try.underlying61 rfl (H221.ev rfl)) ?_
 intro _ H223; clear H221
 refine V H223 (op_pick_f rfl (H223.ev rfl) (H223.ev rfl)) ?_
 intro _ H225; clear H223
 refine V H225 (op_move rfl (H225.ev rfl)) ?_
 intro _ H227; clear H225
 refine V2 H227 (want_yes H227 rfl rfl rfl rfl) (op_move rfl (H227.ev rfl)) ?_
 intro _ H229; clear H227
 refine gw_call H229 (want_yes H229 rfl rfl rfl rfl) rfl (by decide) (op_callL Try.func38 (by kernel_rfl) rfl rfl (ar_cons (H229.ev rfl) (ar_cons (ev_c _ _) ar_nil))) ((by have h_ := has_calls w.heap.size gd5 gj187 (⟨#[106]⟩ : ByteArray) SJ188 (([(3, [120]), (1, [])] : List PI).take q) ((recsJ (([(3, [120]), (1, [])] : List PI).take q)).length : Int) _ (O200.get 4 rfl) 3 (by decide); rw [show hasJ 3 (([(3, [120]), (1, [])] : List PI).take q) = true from (by rcases hTW with ⟨h_, _⟩ | ⟨h_, _⟩ <;> rw [h_] <;> rfl)] at h_; exact h_)) ?_
 rintro e230 w231 ⟨rfl, hb232⟩
 refine ⟨_, rfl, fun _ H234 => ?_⟩
 have O235 := O200.after hb232
 clear H229 O200 hb232
 refine V2 H234 (want_yes H234 rfl rfl rfl rfl) (op_not rfl (H234.ev rfl)) ?_
 intro _ H238; clear H234
 refine V H238 (op_pick_f rfl (H238.ev rfl) (H238.ev rfl)) ?_
 intro _ H240; clear H238
 refine V H240 (op_move rfl (H240.ev rfl)) ?_
 intro _ H242; clear H240
 refine V2 H242 (want_yes H242 rfl rfl rfl rfl) (op_move rfl (H242.ev rfl)) ?_
 intro _ H244; clear H242
 refine gw_call H244 (want_yes H244 rfl rfl rfl rfl) rfl (by decide) (op_callL Try.func38 (by kernel_rfl) rfl rfl (ar_cons (H244.ev rfl) (ar_cons (ev_c _ _) ar_nil))) ((by have h_ := has_calls w.heap.size gd5 gj187 (⟨#[106]⟩ : ByteArray) SJ188 (([(3, [120]), (1, [])] : List PI).take q) ((recsJ (([(3, [120]), (1, [])] : List PI).take q)).length : Int) _ (O235.get 4 rfl) 1 (by decide); rw [show hasJ 1 (([(3, [120]), (1, [])] : List PI).take q) = false from (by rw [hq]; rfl)] at h_; exact h_)) ?_
 rintro e245 w246 ⟨rfl, hb247⟩
 refine ⟨_, rfl, fun _ H249 => ?_⟩
 have O250 := O235.after hb247
 clear H244 O235 hb247
 refine V H249 (op_pick_f rfl (H249.ev rfl) (H249.ev rfl)) ?_
 intro _ H253; clear H249
 refine wpList_nil ?_
 refine gw_nx (hK212 _ _ ?_)
 refine gw_cond H253 rfl (fun hb254 => ?_) (fun hb254 => ?_)
 skip
 ·
  cases hb254
 refine wp_skip ?_
 refine gw_nx (hK211 _ _ ?_)
 refine gw_seq fun K255 hK255 => ?_
 refine wp_region_lit ?_
 refine V H253 (op_move rfl (H253.ev rfl)) ?_
 intro _ H257; clear H253
 refine gw_call H257 (want_none rfl) rfl (by decide) (op_callL Try.func36 (by kernel_rfl) rfl rfl (ar_cons (H257.ev rfl) (ar_cons (ev_c _ _) ar_nil))) ((by have h_ := get_calls w.heap.size gd5 gj187 (⟨#[106]⟩ : ByteArray) SJ188 (([(3, [120]), (1, [])] : List PI).take q) ((recsJ (([(3, [120]), (1, [])] : List PI).take q)).length : Int) _ (O250.get 4 rfl) 3 (by decide) (fun x_ hx_ => by have h_ := (hokT x_ hx_).2.1; omega); rw [show hasJ 3 (([(3, [120]), (1, [])] : List PI).take q) = true from (by rcases hTW with ⟨h_, _⟩ | ⟨h_, _⟩ <;> rw [h_] <;> rfl), show (getJ 3 (([(3, [120]), (1, [])] : List PI).take q)).getD [] = [120] from (by rcases hTW with ⟨h_, _⟩ | ⟨h_, _⟩ <;> rw [h_] <;> rfl)] at h_; exact h_)) ?_
 rintro e261 w262 ⟨A258, c259, S260, rfl, hb263⟩
 refine ⟨_, rfl, fun _ H265 => ?_⟩
 have O266 := O250.fresh hb263
 have hbel267 := O250.below
 clear H257 O250 hb263
 have O268 := O266.lowrow 0 rfl (base' := w.heap.size) (Below.size hbel267)
 have O269 : Own w w262 [Chunk.row (Kd.int .u8) 5 w.heap.size S260 (.slice A258 (([120]).length) c259) ([120]), Chunk.row (Kd.int .i64) 3 w.heap.size S167 (.slice A166 (([5]).length) (([5]).length)) ([5]), Chunk.blk g72 (.cells (nums .u8 [120]).toArray 5 (([120]).length, ([120]).length + 1)), Chunk.jour w.heap.size gd5 gj29 (⟨#[106]⟩ : ByteArray) SJ144 ([(3, [120]), (1, [])] : List PI) (0 + ((recI (3, [120])).length : Int) + ((recI (1, [])).length : Int)), Chunk.disk w.heap.size gd5 S189 (jdk (⟨#[106]⟩ : ByteArray) (recsJ (([(3, [120]), (1, [])] : List PI).take q)) ((recsJ (([(3, [120]), (1, [])] : List PI).take q)).length : Int) [] 1000), Chunk.jour w.heap.size gd5 gj187 (⟨#[106]⟩ : ByteArray) SJ188 (([(3, [120]), (1, [])] : List PI).take q) ((recsJ (([(3, [120]), (1, [])] : List PI).take q)).length : Int)] := O268
 clear O268
 refine V H265 (op_move rfl (H265.ev rfl)) ?_
 intro _ H271; clear H265
 refine V H271 (op_extract rfl (H271.ev rfl) rfl) ?_
 intro _ H273; clear H271
 refine V H273 (op_extract rfl (H273.ev rfl) rfl) ?_
 intro _ H275; clear H273
 refine V H275 (op_assign rfl (H275.ev rfl)) ?_
 intro _ H277; clear H275
 refine V H277 (op_assign rfl (H277.ev rfl)) ?_
 intro _ H279; clear H277
 refine wpList_nil ?_
 refine gw_nx (hK255 _ _ ?_)
 refine gw_seq fun K280 hK280 => ?_
 refine wp_region_lit ?_
 refine V H279 (op_move rfl (H279.ev rfl)) ?_
 intro _ H282; clear H279
 refine V H282 (op_move rfl (H282.ev rfl)) ?_
 intro _ H284; clear H282
 refine V2 H284 (want_yes H284 rfl rfl rfl rfl) (op_move rfl (H284.ev rfl)) ?_
 intro _ H286; clear H284
 refine V2 H286 (want_yes H286 rfl rfl rfl rfl) (op_conv_str Try.underlying28 Try.underlying5 Try.underlying9 (Kd.R_reads' (O269.get 0 rfl)).2.2 rfl (H286.ev rfl)) ?_
 intro _ H288; clear H286
 refine V2 H288 (want_yes H288 rfl rfl rfl rfl) (op_eqs rfl (H288.ev rfl) (ev_c _ _)) ?_
 intro _ H290; clear H288
 have H291 := H290.lit (b := true) (by decide +kernel)
 clear H290
 refine V H291 (op_pick_t rfl (H291.ev rfl) (H291.ev rfl)) ?_
 intro _ H293; clear H291
 refine V H293 (op_move rfl (H293.ev rfl)) ?_
 intro _ H295; clear H293
 refine V2 H295 (want_yes H295 rfl rfl rfl rfl) (op_move rfl (H295.ev rfl)) ?_
 intro _ H297; clear H295
 refine gw_call H297 (want_yes H297 rfl rfl rfl rfl) rfl (by decide) (op_callL Try.func35 (by kernel_rfl) rfl rfl (ar_cons (H297.ev rfl) ar_nil)) (keys_calls w.heap.size gd5 gj187 (⟨#[106]⟩ : ByteArray) SJ188 (([(3, [120]), (1, [])] : List PI).take q) ((recsJ (([(3, [120]), (1, [])] : List PI).take q)).length : Int) _ (by exact O269.get 5 rfl) (by rw [List.length_take]; show min q 2 ≤ 1000000; omega)) ?_
 rintro e304 w305 ⟨A298, c299, S300, ks301, hkr302, hkp303, rfl, hb306⟩
 refine ⟨_, rfl, fun _ H308 => ?_⟩
 have O309 := O269.fresh hb306
 have hbel310 := O269.below
 clear H297 O269 hb306
 have O311 := O309.lowrow 0 rfl (base' := w.heap.size) (Below.size hbel310)
 have O312 : Own w w305 [Chunk.row (Kd.int .i64) 2 w.heap.size S300 (.slice A298 ks301.length c299) ks301, Chunk.row (Kd.int .u8) 5 w.heap.size S260 (.slice A258 (([120]).length) c259) ([120]), Chunk.row (Kd.int .i64) 3 w.heap.size S167 (.slice A166 (([5]).length) (([5]).length)) ([5]), Chunk.blk g72 (.cells (nums .u8 [120]).toArray 5 (([120]).length, ([120]).length + 1)), Chunk.jour w.heap.size gd5 gj29 (⟨#[106]⟩ : ByteArray) SJ144 ([(3, [120]), (1, [])] : List PI) (0 + ((recI (3, [120])).length : Int) + ((recI (1, [])).length : Int)), Chunk.disk w.heap.size gd5 S189 (jdk (⟨#[106]⟩ : ByteArray) (recsJ (([(3, [120]), (1, [])] : List PI).take q)) ((recsJ (([(3, [120]), (1, [])] : List PI).take q)).length : Int) [] 1000), Chunk.jour w.heap.size gd5 gj187 (⟨#[106]⟩ : ByteArray) SJ188 (([(3, [120]), (1, [])] : List PI).take q) ((recsJ (([(3, [120]), (1, [])] : List PI).take q)).length : Int)] := O311
 clear O311
 have hkl_ks301 := hkp303.length_eq
 rw [List.length_map] at hkl_ks301
 have KS := hkl_ks301
 refine V2 H308 (want_yes H308 rfl rfl rfl rfl) (op_len Try.underlying66 rfl (H308.ev rfl)) ?_
 intro _ H314; clear H308
 refine V2 H314 (want_yes H314 rfl rfl rfl rfl) (op_eqi rfl (H314.ev rfl) (ev_c _ _)) ?_
 intro _ H316; clear H314
 have H317 := H316.lit (b := true) (by rw [decide_eq_true_eq, KS, hq]; rfl)
 clear H316
 refine V H317 (op_pick_t rfl (H317.ev rfl) (H317.ev rfl)) ?_
 intro _ H319; clear H317
 refine V H319 (op_move rfl (H319.ev rfl)) ?_
 intro _ H321; clear H319
 refine V2 H321 (want_yes H321 rfl rfl rfl rfl) (op_move rfl (H321.ev rfl)) ?_
 intro _ H323; clear H321
 refine gw_call H323 (want_yes H323 rfl rfl rfl rfl) rfl (by decide) (op_callL Try.func37 (by kernel_rfl) rfl rfl (ar_cons (H323.ev rfl) ar_nil)) (size_calls w.heap.size gd5 gj187 (⟨#[106]⟩ : ByteArray) SJ188 (([(3, [120]), (1, [])] : List PI).take q) ((recsJ (([(3, [120]), (1, [])] : List PI).take q)).length : Int) _ (O312.get 6 rfl)) ?_
 rintro e324 w325 ⟨rfl, hb326⟩
 refine ⟨_, rfl, fun _ H328 => ?_⟩
 have O329 := O312.after hb326
 clear H323 O312 hb326
 refine V2 H328 (want_yes H328 rfl rfl rfl rfl) (op_eqi rfl (H328.ev rfl) (ev_c _ _)) ?_
 intro _ H332; clear H328
 have H333 := H332.lit (b := true) (by rw [decide_eq_true_eq, hq, show (([(3, [120]), (1, [])] : List PI) : List PI).take 1 = [(3, [120])] from rfl, recs_one]; omega)
 clear H332
 refine V H333 (op_pick_t rfl (H333.ev rfl) (H333.ev rfl)) ?_
 intro _ H335; clear H333
 refine V H335 (op_assign rfl (H335.ev rfl)) ?_
 intro _ H337; clear H335
 refine wpList_nil ?_
 refine gw_nx (hK280 _ _ ?_)
 refine wp_ret ?_
 refine gw_ret1 H337 rfl rfl ?_
 exact ⟨rfl, O329.below⟩
end GJAlive_
export GJAlive_ (alive_calls)
end Go.Proofs.Ytkdahjnmldeklaa.PA
end
section
namespace Go.Proofs.Ytkdahjnmldeklaa.PA
open Go.RowKit Go.Proofs.YtkdahjnmldeklaaW.PrintWords Go.Proofs.YtkdahjnmldeklaaW.PrintLast Go.Proofs.YtkdahjnmldeklaaW.PrintMore
set_option linter.unusedVariables false
set_option linter.unusedSimpArgs false
section
variable {P : Program} {o : Oper} {a : Act} {w : World} {t e nb : Nat} {l c : Operand} {α : Type} {enc : α → Value} {x0 : α} {n : Int}
theorem op_make (ht : P.underlying t = some (.slice e)) (hi : (P.info? e).map (fun i => (i.zero, i.size, i.bytes)) = some (some (enc x0), 1, nb)) (hz : (enc x0).cells = #[enc x0]) (ho : o.op = .makeSlice t l c) (hl : a.eval l = .int .i64 n) (hc : a.eval c = .int .i64 n) (h0 : 0 ≤ n) (hn : (nb : Int) * n ≤ 281474976710656 ∧ n ≤ 9223372036854775807) :
    Runs P o a w (.slice (some ⟨w.heap.size, 0, none⟩) (List.replicate n.toNat x0).length (List.replicate n.toNat x0).length) (w.alloc (.cells (encs enc (List.replicate n.toNat x0)).toArray e (0, 0))) := by
  obtain ⟨i, hi1, hi2⟩ := Option.map_eq_some_iff.1 hi
  simp only [Prod.mk.injEq] at hi2
  obtain ⟨hi3, hi4, hi5⟩ := hi2
  have hr := run_make (P := P) w t e i (enc x0) ht hi1 hi3 .i64 .i64 n n h0 (Int.le_refl _) (by rw [hi5]; exact hn.1) hn.2
  have hcells : madeCells (enc x0).cells (n.toNat * i.size) = (encs enc (List.replicate n.toNat x0)).toArray := by
    rw [hi4, hz, Nat.mul_one]
    apply Array.ext'
    simp [madeCells, encs, Array.toList_map, List.map_const', Nat.mod_one]
  rw [hcells] at hr
  unfold Runs execOp
  simp only [ho, hl, hc, Sem.run_bind, hr, Result.andThen_ok, Sem.run_pure, List.length_replicate]
end
end Go.Proofs.Ytkdahjnmldeklaa.PA
end
section
namespace Go.Proofs.Ytkdahjnmldeklaa.PA
open Go.RowKit Go.Proofs.YtkdahjnmldeklaaW.PrintWords Go.Proofs.YtkdahjnmldeklaaW.PrintLast Go.Proofs.YtkdahjnmldeklaaW.PrintMore
set_option linter.unusedVariables false
set_option linter.unusedSimpArgs false
namespace GJFull_
theorem gwagg28 : ∀ w, (isAgg 28).run Try.prog w = .ok false w := fun _ => by kernel_rfl
theorem gwinfo5 : (Try.prog.info? 5).map (fun i => (i.zero, i.size, i.bytes)) = some (some (.int .u8 0), 1, 1) := by kernel_rfl
theorem gwsiz28 : ∀ w, (sizeOf 28).run Try.prog w = .ok 1 w := fun _ => by kernel_rfl
attribute [local irreducible] recI
set_option maxHeartbeats 4000000 in
set_option maxRecDepth 100000 in
theorem JournalFull_walk (room : Int) (A1 : Option Addr) (c1 : Nat) (datas : List (List Int)) (w : World) (hr1 : Kd.C (Kd.slice 5 (Kd.int .u8)) w A1 datas.length datas) (hc1 : datas.length ≤ c1) (hB : ∀ x ∈ datas, ByteL x) :
    Calls Try.prog 10 #[.int .i64 room, .slice A1 datas.length c1] w fun e w' => e = .returned (.bool true) ∧ Below w.heap.size w w' := by
 refine gw_start (N := 160) (vs := [J room, .slice A1 datas.length c1]) Try.func10 rfl rfl (by simp) fun a HF HO => ?_
 replace HO : Own w w [] := HO
 refine gw_seq fun K1 hK1 => ?_
 refine wp_region_lit ?_
 refine V HF (op_assign rfl (ev_c _ _)) ?_
 intro _ H3; clear HF
 refine wpList_nil ?_
 refine gw_nx (hK1 _ _ ?_)
 refine gw_seq fun K4 hK4 => ?_
 refine wp_region_lit ?_
 refine V H3 (op_move rfl (H3.ev rfl)) ?_
 intro _ H6; clear H3
 refine V H6 (op_and rfl (H6.ev rfl) (ev_c _ _)) ?_
 intro _ H8; clear H6
 obtain ⟨rm, hrm, hrm0, hrm1⟩ : ∃ rm : Int, bits .and .i64 room 255 = rm ∧ 0 ≤ rm ∧ rm ≤ 255 := ⟨_, rfl, and_low room 255 (by decide)⟩
 have H9 := H8.conv (v' := J rm) (congrArg (Value.int .i64) hrm)
 clear H8
 refine V H9 (op_assign rfl (H9.ev rfl)) ?_
 intro _ H11; clear H9
 refine wpList_nil ?_
 refine gw_nx (hK4 _ _ ?_)
 refine gw_seq fun K12 hK12 => ?_
 refine wp_region_lit ?_
 refine V H11 (op_move rfl (H11.ev rfl)) ?_
 intro _ H14; clear H11
 have O24 : Own w _ [(Chunk.all [])] := Own.bundle (A := []) (L := []) (HO.sel [] (by decide))
 refine gw_call H14 (want_none rfl) rfl (by decide) (op_callL Try.func11 (by kernel_rfl) rfl rfl (ar_cons (H14.ev rfl) ar_nil)) (new_own w _ (Chunk.all []) rm (by exact O24)) ?_
 rintro e18 w19 ⟨gd15, S16, rfl, hb20⟩
 refine ⟨_, rfl, fun _ H22 => ?_⟩
 have O23 : Own w w19 [Chunk.disk w.heap.size gd15 S16 (newD rm)] := Own.unbundle (A := []) (L := [Chunk.disk w.heap.size gd15 S16 (newD rm)]) (hb20.sel [0, 1] (by decide))
 clear O24
 clear H14 HO hb20
 have O26 : Own w w19 [Chunk.disk w.heap.size gd15 S16 (newD rm)] := O23
 clear O23
 have hwf17 : wfD (newD rm) := wf_new (by omega)
 refine V H22 (op_assign rfl (H22.ev rfl)) ?_
 intro _ H28; clear H22
 refine wpList_nil ?_
 refine gw_nx (hK12 _ _ ?_)
 refine gw_seq fun K29 hK29 => ?_
 refine gw_seq fun K30 hK30 => ?_
 refine wp_region_lit ?_
 refine V H28 (op_move rfl (H28.ev rfl)) ?_
 intro _ H32; clear H28
 refine V H32 (op_eqp_nil Try.underlying23 rfl (H32.ev rfl)) ?_
 intro _ H34; clear H32
 refine V H34 (op_move rfl (H34.ev rfl)) ?_
 intro _ H36; clear H34
 refine gw_call H36 (want_yes H36 rfl rfl rfl rfl) rfl (by decide) (op_callL Try.func31 (by kernel_rfl) rfl rfl ar_nil) (alive_calls _) ?_
 rintro e37 w38 ⟨rfl, hb39⟩
 refine ⟨_, rfl, fun _ H41 => ?_⟩
 have O42 := O26.after hb39
 clear H36 O26 hb39
 refine V2 H41 (want_yes H41 rfl rfl rfl rfl) (op_not rfl (H41.ev rfl)) ?_
 intro _ H45; clear H41
 refine V H45 (op_pick_f rfl (H45.ev rfl) (H45.ev rfl)) ?_
 intro _ H47; clear H45
 refine V H47 (op_move rfl (H47.ev rfl)) ?_
 intro _ H49; clear H47
 refine V2 H49 (want_yes H49 rfl rfl rfl rfl) (op_move rfl (H49.ev rfl)) ?_
 intro _ H51; clear H49
 have O60 : Own w _ [(Chunk.all []), Chunk.disk w.heap.size gd15 S16 (newD rm)] := Own.bundle (A := []) (L := [Chunk.disk w.heap.size gd15 S16 (newD rm)]) (O42.sel [0] (by decide))
 refine gw_call H51 (want_yes H51 rfl rfl rfl rfl) rfl (by decide) (op_callL Try.func13 (by kernel_rfl) rfl rfl (ar_cons (H51.ev rfl) (ar_cons (ev_c _ _) ar_nil))) ((by have h_ := create_calls w _ (Chunk.all []) gd15 S16 (newD rm) (⟨#[111, 116, 104, 101, 114]⟩ : ByteArray) hwf17 (by decide) (by show 0 ≤ 1000000; decide) (by exact O60); rw [show (createD (⟨#[111, 116, 104, 101, 114]⟩ : ByteArray) (newD rm)) = ((⟨[⟨(⟨#[111, 116, 104, 101, 114]⟩ : ByteArray), [], 0⟩], rm, 0, 0, false⟩ : PD), 0) from (fu1 (by omega))] at h_; (try dsimp only at h_); exact h_)) ?_
 rintro e54 w55 ⟨rfl, S52, hb56⟩
 refine ⟨_, rfl, fun _ H58 => ?_⟩
 have O59 : Own w w55 [Chunk.disk w.heap.size gd15 S52 (⟨[⟨(⟨#[111, 116, 104, 101, 114]⟩ : ByteArray), [], 0⟩], rm, 0, 0, false⟩ : PD)] := Own.unbundle (A := []) (L := [Chunk.disk w.heap.size gd15 S52 (⟨[⟨(⟨#[111, 116, 104, 101, 114]⟩ : ByteArray), [], 0⟩], rm, 0, 0, false⟩ : PD)]) (hb56.sel [0, 1] (by decide))
 clear O60
 clear H51 O42 hb56
 have O62 : Own w w55 [Chunk.disk w.heap.size gd15 S52 (⟨[⟨(⟨#[111, 116, 104, 101, 114]⟩ : ByteArray), [], 0⟩], rm, 0, 0, false⟩ : PD)] := O59
 clear O59
 have hwf53 : wfD (⟨[⟨(⟨#[111, 116, 104, 101, 114]⟩ : ByteArray), [], 0⟩], rm, 0, 0, false⟩ : PD) := by have h_ : wfD (createD (⟨#[111, 116, 104, 101, 114]⟩ : ByteArray) (newD rm)).1 := wf_create hwf17; rw [show (createD (⟨#[111, 116, 104, 101, 114]⟩ : ByteArray) (newD rm)) = ((⟨[⟨(⟨#[111, 116, 104, 101, 114]⟩ : ByteArray), [], 0⟩], rm, 0, 0, false⟩ : PD), 0) from (fu1 (by omega))] at h_; exact h_
 refine V2 H58 (want_yes H58 rfl rfl rfl rfl) (op_nei rfl (H58.ev rfl) (ev_c _ _)) ?_
 intro _ H64; clear H58
 have H65 := H64.lit (b := false) (by decide)
 clear H64
 refine V H65 (op_pick_f rfl (H65.ev rfl) (H65.ev rfl)) ?_
 intro _ H67; clear H65
 refine V H67 (op_move rfl (H67.ev rfl)) ?_
 intro _ H69; clear H67
 refine V2 H69 (want_yes H69 rfl rfl rfl rfl) (op_move rfl (H69.ev rfl)) ?_
 intro _ H71; clear H69
 refine V2 H71 (want_yes H71 rfl rfl rfl rfl) (op_move rfl (H71.ev rfl)) ?_
 intro _ H73; clear H71
 refine V2 H73 (want_yes H73 rfl rfl rfl rfl) (op_quo rfl (H73.ev rfl) (ev_c _ _) (by omega)) ?_
 intro _ H75; clear H73
 obtain ⟨h2, hh2, hh0, hh1⟩ : ∃ h2 : Int, IntKind.i64.wrap (Int.tdiv rm 2) = h2 ∧ 0 ≤ h2 ∧ 2 * h2 ≤ rm := ⟨rm / 2, by rw [Int.tdiv_eq_ediv_of_nonneg hrm0]; exact IntWalk.i64_in _ (by omega), by omega, by omega⟩
 have htz : ((totF ([⟨(⟨#[111, 116, 104, 101, 114]⟩ : ByteArray), (List.replicate h2.toNat (0 : Int)), 0⟩] : List PF) : Nat) : Int) = h2 := by rw [show ((totF ([⟨(⟨#[111, 116, 104, 101, 114]⟩ : ByteArray), (List.replicate h2.toNat (0 : Int)), 0⟩] : List PF) : Nat) : Int) = ((List.replicate h2.toNat (0 : Int)).length : Int) from tot_other, List.length_replicate]; omega
 have h0t : ((totF [] : Nat) : Int) = 0 := rfl
 have H76 := H75.conv (v' := J h2) (congrArg (Value.int .i64) hh2)
 clear H75
 refine gw_lit (enc := Value.int .u8) (fun _ => rfl) (xs := (List.replicate h2.toNat (0 : Int))) (e := 5) H76 O62 (want_yes H76 rfl rfl rfl rfl) rfl (by decide) (op_make Try.underlying28 gwinfo5 rfl rfl (H76.ev rfl) (H76.ev rfl) (by omega) (by omega)) (by rw [List.length_replicate]; omega) ?_
 intro A77 S78 _ w80 H81 O82; clear H76 O62
 have O83 : Own w w80 [Chunk.row (Kd.int .u8) 5 w.heap.size S78 (.slice A77 ((List.replicate h2.toNat (0 : Int)).length) ((List.replicate h2.toNat (0 : Int)).length)) (List.replicate h2.toNat (0 : Int)), Chunk.disk w.heap.size gd15 S52 (⟨[⟨(⟨#[111, 116, 104, 101, 114]⟩ : ByteArray), [], 0⟩], rm, 0, 0, false⟩ : PD)] := O82
 clear O82
 have O92 : Own w _ [(Chunk.all [Chunk.row (Kd.int .u8) 5 w.heap.size S78 (.slice A77 ((List.replicate h2.toNat (0 : Int)).length) ((List.replicate h2.toNat (0 : Int)).length)) (List.replicate h2.toNat (0 : Int))]), Chunk.disk w.heap.size gd15 S52 (⟨[⟨(⟨#[111, 116, 104, 101, 114]⟩ : ByteArray), [], 0⟩], rm, 0, 0, false⟩ : PD)] := Own.bundle (A := [Chunk.row (Kd.int .u8) 5 w.heap.size S78 (.slice A77 ((List.replicate h2.toNat (0 : Int)).length) ((List.replicate h2.toNat (0 : Int)).length)) (List.replicate h2.toNat (0 : Int))]) (L := [Chunk.disk w.heap.size gd15 S52 (⟨[⟨(⟨#[111, 116, 104, 101, 114]⟩ : ByteArray), [], 0⟩], rm, 0, 0, false⟩ : PD)]) (O83.sel [0, 1] (by decide))
 refine gw_call H81 (want_yes H81 rfl rfl rfl rfl) rfl (by decide) (op_callL Try.func15 (by kernel_rfl) rfl rfl (ar_cons (H81.ev rfl) (ar_cons (ev_c _ _) (ar_cons (H81.ev rfl) ar_nil)))) ((by have h_ := append_calls w _ (Chunk.all [Chunk.row (Kd.int .u8) 5 w.heap.size S78 (.slice A77 ((List.replicate h2.toNat (0 : Int)).length) ((List.replicate h2.toNat (0 : Int)).length)) (List.replicate h2.toNat (0 : Int))]) gd15 S52 (⟨[⟨(⟨#[111, 116, 104, 101, 114]⟩ : ByteArray), [], 0⟩], rm, 0, 0, false⟩ : PD) (⟨#[111, 116, 104, 101, 114]⟩ : ByteArray) A77 ((List.replicate h2.toNat (0 : Int)).length) (List.replicate h2.toNat (0 : Int)) (fun w_ h_ => (Kd.R_reads' ((Own.unbundle (A := [Chunk.row (Kd.int .u8) 5 w.heap.size S78 (.slice A77 ((List.replicate h2.toNat (0 : Int)).length) ((List.replicate h2.toNat (0 : Int)).length)) (List.replicate h2.toNat (0 : Int))]) (L := []) h_).get 0 rfl)).2.2) (row_cap (O83.get 0 rfl)) hwf53 (by decide) (by first | (simp only [List.length_replicate]; show (0 : Int) + _ ≤ _; omega) | omega) (by exact O92); rw [show (appendD (⟨#[111, 116, 104, 101, 114]⟩ : ByteArray) (List.replicate h2.toNat (0 : Int)) (⟨[⟨(⟨#[111, 116, 104, 101, 114]⟩ : ByteArray), [], 0⟩], rm, 0, 0, false⟩ : PD)) = ((⟨([⟨(⟨#[111, 116, 104, 101, 114]⟩ : ByteArray), (List.replicate h2.toNat (0 : Int)), 0⟩] : List PF), rm, ((totF ([⟨(⟨#[111, 116, 104, 101, 114]⟩ : ByteArray), (List.replicate h2.toNat (0 : Int)), 0⟩] : List PF) : Nat) : Int), 0, false⟩ : PD), 0) from (fu2 (by rw [List.length_replicate]; omega))] at h_; (try dsimp only at h_); exact h_)) ?_
 rintro e86 w87 ⟨rfl, S84, hb88⟩
 refine ⟨_, rfl, fun _ H90 => ?_⟩
 have O91 : Own w w87 [Chunk.row (Kd.int .u8) 5 w.heap.size S78 (.slice A77 ((List.replicate h2.toNat (0 : Int)).length) ((List.replicate h2.toNat (0 : Int)).length)) (List.replicate h2.toNat (0 : Int)), Chunk.disk w.heap.size gd15 S84 (⟨([⟨(⟨#[111, 116, 104, 101, 114]⟩ : ByteArray), (List.replicate h2.toNat (0 : Int)), 0⟩] : List PF), rm, ((totF ([⟨(⟨#[111, 116, 104, 101, 114]⟩ : ByteArray), (List.replicate h2.toNat (0 : Int)), 0⟩] : List PF) : Nat) : Int), 0, false⟩ : PD)] := Own.unbundle (A := [Chunk.row (Kd.int .u8) 5 w.heap.size S78 (.slice A77 ((List.replicate h2.toNat (0 : Int)).length) ((List.replicate h2.toNat (0 : Int)).length)) (List.replicate h2.toNat (0 : Int))]) (L := [Chunk.disk w.heap.size gd15 S84 (⟨([⟨(⟨#[111, 116, 104, 101, 114]⟩ : ByteArray), (List.replicate h2.toNat (0 : Int)), 0⟩] : List PF), rm, ((totF ([⟨(⟨#[111, 116, 104, 101, 114]⟩ : ByteArray), (List.replicate h2.toNat (0 : Int)), 0⟩] : List PF) : Nat) : Int), 0, false⟩ : PD)]) (hb88.sel [0, 1] (by decide))
 clear O92
 clear H81 O83 hb88
 have O94 : Own w w87 [Chunk.row (Kd.int .u8) 5 w.heap.size S78 (.slice A77 ((List.replicate h2.toNat (0 : Int)).length) ((List.replicate h2.toNat (0 : Int)).length)) (List.replicate h2.toNat (0 : Int)), Chunk.disk w.heap.size gd15 S84 (⟨([⟨(⟨#[111, 116, 104, 101, 114]⟩ : ByteArray), (List.replicate h2.toNat (0 : Int)), 0⟩] : List PF), rm, ((totF ([⟨(⟨#[111, 116, 104, 101, 114]⟩ : ByteArray), (List.replicate h2.toNat (0 : Int)), 0⟩] : List PF) : Nat) : Int), 0, false⟩ : PD)] := O91
 clear O91
 have hwf85 : wfD (⟨([⟨(⟨#[111, 116, 104, 101, 114]⟩ : ByteArray), (List.replicate h2.toNat (0 : Int)), 0⟩] : List PF), rm, ((totF ([⟨(⟨#[111, 116, 104, 101, 114]⟩ : ByteArray), (List.replicate h2.toNat (0 : Int)), 0⟩] : List PF) : Nat) : Int), 0, false⟩ : PD) := by have h_ : wfD (appendD (⟨#[111, 116, 104, 101, 114]⟩ : ByteArray) (List.replicate h2.toNat (0 : Int)) (⟨[⟨(⟨#[111, 116, 104, 101, 114]⟩ : ByteArray), [], 0⟩], rm, 0, 0, false⟩ : PD)).1 := wf_append hwf53; rw [show (appendD (⟨#[111, 116, 104, 101, 114]⟩ : ByteArray) (List.replicate h2.toNat (0 : Int)) (⟨[⟨(⟨#[111, 116, 104, 101, 114]⟩ : ByteArray), [], 0⟩], rm, 0, 0, false⟩ : PD)) = ((⟨([⟨(⟨#[111, 116, 104, 101, 114]⟩ : ByteArray), (List.replicate h2.toNat (0 : Int)), 0⟩] : List PF), rm, ((totF ([⟨(⟨#[111, 116, 104, 101, 114]⟩ : ByteArray), (List.replicate h2.toNat (0 : Int)), 0⟩] : List PF) : Nat) : Int), 0, false⟩ : PD), 0) from (fu2 (by rw [List.length_replicate]; omega))] at h_; exact h_
 refine V2 H90 (want_yes H90 rfl rfl rfl rfl) (op_nei rfl (H90.ev rfl) (ev_c _ _)) ?_
 intro _ H96; clear H90
 have H97 := H96.lit (b := false) (by decide)
 clear H96
 refine V H97 (op_pick_f rfl (H97.ev rfl) (H97.ev rfl)) ?_
 intro _ H99; clear H97
 refine wpList_nil ?_
 refine gw_nx (hK30 _ _ ?_)
 refine gw_cond H99 rfl (fun hb100 => ?_) (fun hb100 => ?_)
 skip
 ·
  cases hb100
 refine wp_skip ?_
 refine gw_nx (hK29 _ _ ?_)
 refine gw_seq fun K101 hK101 => ?_
 refine wp_region_lit ?_
 refine V H99 (op_move rfl (H99.ev rfl)) ?_
 intro _ H103; clear H99
 have heq108 : openJ (⟨#[106]⟩ : ByteArray) (⟨([⟨(⟨#[111, 116, 104, 101, 114]⟩ : ByteArray), (List.replicate h2.toNat (0 : Int)), 0⟩] : List PF), rm, ((totF ([⟨(⟨#[111, 116, 104, 101, 114]⟩ : ByteArray), (List.replicate h2.toNat (0 : Int)), 0⟩] : List PF) : Nat) : Int), 0, false⟩ : PD) = (((jdk (⟨#[106]⟩ : ByteArray) (recsJ []) 0 ([⟨(⟨#[111, 116, 104, 101, 114]⟩ : ByteArray), (List.replicate h2.toNat (0 : Int)), 0⟩] : List PF) rm), 0), (([] : List PI), ((recsJ []).length : Int))) := fu3
 have O115 : Own w _ [(Chunk.all [Chunk.row (Kd.int .u8) 5 w.heap.size S78 (.slice A77 ((List.replicate h2.toNat (0 : Int)).length) ((List.replicate h2.toNat (0 : Int)).length)) (List.replicate h2.toNat (0 : Int))]), Chunk.disk w.heap.size gd15 S84 (⟨([⟨(⟨#[111, 116, 104, 101, 114]⟩ : ByteArray), (List.replicate h2.toNat (0 : Int)), 0⟩] : List PF), rm, ((totF ([⟨(⟨#[111, 116, 104, 101, 114]⟩ : ByteArray), (List.replicate h2.toNat (0 : Int)), 0⟩] : List PF) : Nat) : Int), 0, false⟩ : PD)] := Own.bundle (A := [Chunk.row (Kd.int .u8) 5 w.heap.size S78 (.slice A77 ((List.replicate h2.toNat (0 : Int)).length) ((List.replicate h2.toNat (0 : Int)).length)) (List.replicate h2.toNat (0 : Int))]) (L := [Chunk.disk w.heap.size gd15 S84 (⟨([⟨(⟨#[111, 116, 104, 101, 114]⟩ : ByteArray), (List.replicate h2.toNat (0 : Int)), 0⟩] : List PF), rm, ((totF ([⟨(⟨#[111, 116, 104, 101, 114]⟩ : ByteArray), (List.replicate h2.toNat (0 : Int)), 0⟩] : List PF) : Nat) : Int), 0, false⟩ : PD)]) (O94.sel [0, 1] (by decide))
 refine gw_call H103 (want_none rfl) rfl (by decide) (op_callL Try.func32 (by kernel_rfl) rfl rfl (ar_cons (H103.ev rfl) (ar_cons (ev_c _ _) ar_nil))) (open_ok heq108 hwf85 (by decide) (by show 1 ≤ 1000000; decide) (show ((totF ([⟨(⟨#[111, 116, 104, 101, 114]⟩ : ByteArray), (List.replicate h2.toNat (0 : Int)), 0⟩] : List PF) : Nat) : Int) ≤ 1000000 by omega) fu_byte (by exact O115)) ?_
 rintro e109 w110 ⟨gj104, SJ105, S106, rfl, hb111⟩
 refine ⟨_, rfl, fun _ H113 => ?_⟩
 have O114 : Own w w110 [Chunk.row (Kd.int .u8) 5 w.heap.size S78 (.slice A77 ((List.replicate h2.toNat (0 : Int)).length) ((List.replicate h2.toNat (0 : Int)).length)) (List.replicate h2.toNat (0 : Int)), Chunk.disk w.heap.size gd15 S106 (jdk (⟨#[106]⟩ : ByteArray) (recsJ []) 0 ([⟨(⟨#[111, 116, 104, 101, 114]⟩ : ByteArray), (List.replicate h2.toNat (0 : Int)), 0⟩] : List PF) rm), Chunk.jour w.heap.size gd15 gj104 (⟨#[106]⟩ : ByteArray) SJ105 ([] : List PI) ((recsJ []).length : Int)] := Own.unbundle (A := [Chunk.row (Kd.int .u8) 5 w.heap.size S78 (.slice A77 ((List.replicate h2.toNat (0 : Int)).length) ((List.replicate h2.toNat (0 : Int)).length)) (List.replicate h2.toNat (0 : Int))]) (L := [Chunk.disk w.heap.size gd15 S106 (jdk (⟨#[106]⟩ : ByteArray) (recsJ []) 0 ([⟨(⟨#[111, 116, 104, 101, 114]⟩ : ByteArray), (List.replicate h2.toNat (0 : Int)), 0⟩] : List PF) rm), Chunk.jour w.heap.size gd15 gj104 (⟨#[106]⟩ : ByteArray) SJ105 ([] : List PI) ((recsJ []).length : Int)]) (hb111.sel [0, 1, 2] (by decide))
 clear O115
 clear H103 O94 hb111
 have O117 : Own w w110 [Chunk.row (Kd.int .u8) 5 w.heap.size S78 (.slice A77 ((List.replicate h2.toNat (0 : Int)).length) ((List.replicate h2.toNat (0 : Int)).length)) (List.replicate h2.toNat (0 : Int)), Chunk.disk w.heap.size gd15 S106 (jdk (⟨#[106]⟩ : ByteArray) (recsJ []) 0 ([⟨(⟨#[111, 116, 104, 101, 114]⟩ : ByteArray), (List.replicate h2.toNat (0 : Int)), 0⟩] : List PF) rm), Chunk.jour w.heap.size gd15 gj104 (⟨#[106]⟩ : ByteArray) SJ105 ([] : List PI) ((recsJ []).length : Int)] := O114
 clear O114
 have hwf107 : wfD (jdk (⟨#[106]⟩ : ByteArray) (recsJ []) 0 ([⟨(⟨#[111, 116, 104, 101, 114]⟩ : ByteArray), (List.replicate h2.toNat (0 : Int)), 0⟩] : List PF) rm) := wf_open' heq108 hwf85
 refine V H113 (op_move rfl (H113.ev rfl)) ?_
 intro _ H119; clear H113
 refine V H119 (op_extract rfl (H119.ev rfl) rfl) ?_
 intro _ H121; clear H119
 refine V H121 (op_extract rfl (H121.ev rfl) rfl) ?_
 intro _ H123; clear H121
 refine V H123 (op_assign rfl (H123.ev rfl)) ?_
 intro _ H125; clear H123
 refine V H125 (op_assign rfl (H125.ev rfl)) ?_
 intro _ H127; clear H125
 refine wpList_nil ?_
 refine gw_nx (hK101 _ _ ?_)
 refine gw_seq fun K128 hK128 => ?_
 refine gw_seq fun K129 hK129 => ?_
 refine wp_region_lit ?_
 refine V H127 (op_move rfl (H127.ev rfl)) ?_
 intro _ H131; clear H127
 refine V H131 (op_nei rfl (H131.ev rfl) (ev_c _ _)) ?_
 intro _ H133; clear H131
 have H134 := H133.lit (b := false) (by decide)
 clear H133
 refine V H134 (op_move rfl (H134.ev rfl)) ?_
 intro _ H136; clear H134
 refine V2 H136 (want_yes H136 rfl rfl rfl rfl) (op_move rfl (H136.ev rfl)) ?_
 intro _ H138; clear H136
 refine V2 H138 (want_yes H138 rfl rfl rfl rfl) (op_eqp_nil Try.underlying61 rfl (H138.ev rfl)) ?_
 intro _ H140; clear H138
 refine V H140 (op_pick_f rfl (H140.ev rfl) (H140.ev rfl)) ?_
 intro _ H142; clear H140
 refine wpList_nil ?_
 refine gw_nx (hK129 _ _ ?_)
 refine gw_cond H142 rfl (fun hb143 => ?_) (fun hb143 => ?_)
 skip
 ·
  cases hb143
 refine wp_skip ?_
 refine gw_nx (hK128 _ _ ?_)
 refine gw_seq fun K144 hK144 => ?_
 refine wp_region_lit ?_
 refine V H142 (op_assign rfl (ev_c _ _)) ?_
 intro _ H146; clear H142
 refine wpList_nil ?_
 refine gw_nx (hK144 _ _ ?_)
 refine gw_seq fun K147 hK147 => ?_
 refine wp_region_lit ?_
 refine V H146 (op_assign rfl (ev_c _ _)) ?_
 intro _ H149; clear H146
 refine wpList_nil ?_
 refine gw_nx (hK147 _ _ ?_)
 refine gw_seq fun K150 hK150 => ?_
 refine gw_seq fun K151 hK151 => ?_
 refine wp_region_lit ?_
 refine V H149 (op_move rfl (H149.ev rfl)) ?_
 intro _ H153; clear H149
 refine V H153 (op_len Try.underlying22 rfl (H153.ev rfl)) ?_
 intro _ H155; clear H153
 refine V H155 (op_move rfl (ev_c _ _)) ?_
 intro _ H157; clear H155
 refine wpList_nil ?_
 refine gw_nx (hK151 _ _ ?_)
 refine wp_block ?_
 refine gw_loop (fun m_ a_ w_ => ∃ (i : Int) (is : List PI) (rf : Int) (Sd : Nat → Prop) (Sj : Nat → Prop), Fr 160 a_ [(52, J i), (9, J (is.length : Int)), (8, J rf), (1, .slice A1 datas.length c1), (5, .pointer (some ⟨gd15, 0, none⟩)), (6, .pointer (some ⟨gj104, 0, none⟩)), (50, .slice A1 datas.length c1), (51, J (datas.length : Int))] ∧ Own w w_ [Chunk.disk w.heap.size gd15 Sd (jdk (⟨#[106]⟩ : ByteArray) (recsJ is) 0 ([⟨(⟨#[111, 116, 104, 101, 114]⟩ : ByteArray), (List.replicate h2.toNat (0 : Int)), 0⟩] : List PF) rm), Chunk.jour w.heap.size gd15 gj104 (⟨#[106]⟩ : ByteArray) Sj is ((recsJ is).length : Int)] ∧ (0 ≤ i ∧ i ≤ datas.length ∧ i ≤ 30) ∧ ((is.length : Int) ≤ i) ∧ (rf = -1 ∨ (0 ≤ rf ∧ rf < datas.length ∧ (datas.getD rf.toNat ([] : List Int)).length ≤ 1000)) ∧ (JL is) ∧ (wfD (jdk (⟨#[106]⟩ : ByteArray) (recsJ is) 0 ([⟨(⟨#[111, 116, 104, 101, 114]⟩ : ByteArray), (List.replicate h2.toNat (0 : Int)), 0⟩] : List PF) rm)) ∧ (((recsJ is).length : Int) + ((totF ([⟨(⟨#[111, 116, 104, 101, 114]⟩ : ByteArray), (List.replicate h2.toNat (0 : Int)), 0⟩] : List PF) : Nat) : Int) ≤ rm) ∧ m_ = (datas.length - i.toNat)) ((datas.length - (0 : Int).toNat)) ?_ ?_
 ·
  refine ⟨0, [], (-1), S106, SJ105, (H157.pick (t := 52) rfl (H157.pick (t := 9) rfl (H157.pick (t := 8) rfl (H157.pick (t := 1) rfl (H157.pick (t := 5) rfl (H157.pick (t := 6) rfl (H157.pick (t := 50) rfl (H157.pick (t := 51) rfl H157.nil)))))))), O117.sel [1, 2] (by decide), ?_, ?_, ?_, ?_, ?_, ?_, rfl⟩
  ·
   omega
  ·
   exact Int.le_refl _
  ·
   exact .inl rfl
  ·
   exact JL.nil
  ·
   exact hwf107
  ·
   rw [show (recsJ []).length = 0 from rfl, htz]; omega
 ·
  rintro m159 _ w161 ⟨i, is, rf, Sd, Sj, H162, O163, hi, hil, hrf, hj, hw, hul, hm164⟩
  refine gw_seq fun K165 hK165 => ?_
  refine wp_region_lit ?_
  refine V H162 (op_lss rfl (H162.ev rfl) (H162.ev rfl)) ?_
  intro _ H167; clear H162
  refine wpList_nil ?_
  refine gw_nx (hK165 _ _ ?_)
  refine gw_seq fun K168 hK168 => ?_
  refine gw_cond H167 rfl (fun hb169 => ?_) (fun hb169 => ?_)
  ·
   have H170 := H167.subst_ (d := 53) (b := true) rfl hb169
   clear H167
   (try simp only [decide_eq_true_eq] at hb169)
   refine wp_skip ?_
   refine gw_nx (hK168 _ _ ?_)
   refine gw_seq fun K171 hK171 => ?_
   refine wp_block ?_
   refine gw_seq fun K172 hK172 => ?_
   refine wp_region_lit ?_
   refine V H170 (op_move rfl (H170.ev rfl)) ?_
   intro _ H174; clear H170
   obtain ⟨ad175, cs178, hA176, hl179, hK180, hc177⟩ := Kd.C_get hr1 ([] : List Int) i (by omega) (by omega)
   obtain ⟨A181, c182, rfl, hl183, hC184⟩ := id hK180
   clear hl179
   refine V H174 (op_index Try.underlying22 gwsiz28 rfl (H174.ev rfl) (H174.ev rfl) hA176 (⟨by omega, by omega⟩)) ?_
   intro _ H186; clear H174
   refine V H186 (op_load1 gwagg28 rfl (H186.ev rfl) (O163.cell0 (at0 hc177))) ?_
   intro _ H188; clear H186
   refine V H188 (op_assign rfl (H188.ev rfl)) ?_
   intro _ H190; clear H188
   refine V H190 (op_assign rfl (H190.ev rfl)) ?_
   intro _ H192; clear H190
   refine wpList_nil ?_
   refine gw_nx (hK172 _ _ ?_)
   refine gw_seq fun K193 hK193 => ?_
   refine gw_seq fun K194 hK194 => ?_
   refine wp_region_lit ?_
   refine V H192 (op_move rfl (H192.ev rfl)) ?_
   intro _ H196; clear H192
   refine V H196 (op_geq rfl (H196.ev rfl) (ev_c _ _)) ?_
   intro _ H198; clear H196
   refine V H198 (op_move rfl (H198.ev rfl)) ?_
   intro _ H200; clear H198
   refine gw_evG H200 rfl rfl rfl rfl (on_f _) rfl (by decide) (fun h_ => (op_move rfl (H200.ev rfl))) ?_
   intro _ H202; clear H200
   refine gw_evG H202 rfl rfl rfl rfl (on_f _) rfl (by decide) (fun h_ => (op_len Try.underlying28 rfl (ev_gv (H202.ev rfl) h_))) ?_
   intro _ H204; clear H202
   refine gw_evG H204 rfl rfl rfl rfl (on_f _) rfl (by decide) (fun h_ => (op_gtr rfl (ev_gv (H204.ev rfl) h_) (ev_c _ _))) ?_
   intro _ H206; clear H204
   refine V H206 (op_pick_or rfl (H206.ev rfl) (ev_c _ _) (fun hp_ => (ev_gv (H206.ev rfl) (not_t hp_)))) ?_
   intro _ H208; clear H206
   refine wpList_nil ?_
   refine gw_nx (hK194 _ _ ?_)
   refine gw_cond H208 rfl (fun hb209 => ?_) (fun hb209 => ?_)
   ·
    have H210 := H208.subst_ (d := 63) (b := true) rfl hb209
    clear H208
    (try simp only [Bool.and_eq_true, Bool.or_eq_true, Bool.and_eq_false_iff, Bool.or_eq_false_iff, Bool.not_and, Bool.not_or, Bool.not_not, decide_eq_true_eq, decide_eq_false_iff_not, Bool.not_eq_true', Bool.not_eq_false', Bool.not_eq_true, Bool.not_eq_false, ne_eq, Decidable.not_not, Int.not_lt, Int.not_le, not_true_eq_false, not_false_eq_true, bne_iff_ne, beq_iff_eq, bne_eq_false_iff_eq, beq_eq_false_iff_ne] at hb209)
    refine wp_exit ?_
    refine gw_thx ?_
    refine gw_out (by decide) ?_
    refine gw_thx ?_
    refine gw_thx ?_
    refine gw_in ?_
    refine gw_nx (hK150 _ _ ?_)
    refine gw_seq fun K211 hK211 => ?_
    refine gw_seq fun K212 hK212 => ?_
    refine wp_region_lit ?_
    refine V H210 (op_move rfl (H210.ev rfl)) ?_
    intro _ H214; clear H210
    refine V H214 (op_lss rfl (H214.ev rfl) (ev_c _ _)) ?_
    intro _ H216; clear H214
    refine wpList_nil ?_
    refine gw_nx (hK212 _ _ ?_)
    refine gw_cond H216 rfl (fun hb217 => ?_) (fun hb217 => ?_)
    ·
     have H218 := H216.subst_ (d := 98) (b := true) rfl hb217
     clear H216
     (try simp only [decide_eq_true_eq] at hb217)
     refine gw_seq fun K219 hK219 => ?_
     refine wp_region_lit ?_
     refine V H218 (op_move rfl (H218.ev rfl)) ?_
     intro _ H221; clear H218
     refine gw_call H221 (want_none rfl) rfl (by decide) (op_callL Try.func35 (by kernel_rfl) rfl rfl (ar_cons (H221.ev rfl) ar_nil)) (keys_calls w.heap.size gd15 gj104 (⟨#[106]⟩ : ByteArray) Sj is ((recsJ is).length : Int) _ (by exact O163.get 1 rfl) (by omega)) ?_
     rintro e229 w230 ⟨A222, c223, S224, ks225, hkr226, hkp227, rfl, hb231⟩
     refine ⟨_, rfl, fun _ H233 => ?_⟩
     have O234 := O163.fresh hb231
     have hbel235 := O163.below
     clear H221 O163 hb231
     have O236 := O234.lowrow 0 rfl (base' := w.heap.size) (Below.size hbel235)
     have O237 : Own w w230 [Chunk.row (Kd.int .i64) 2 w.heap.size S224 (.slice A222 ks225.length c223) ks225, Chunk.disk w.heap.size gd15 Sd (jdk (⟨#[106]⟩ : ByteArray) (recsJ is) 0 ([⟨(⟨#[111, 116, 104, 101, 114]⟩ : ByteArray), (List.replicate h2.toNat (0 : Int)), 0⟩] : List PF) rm), Chunk.jour w.heap.size gd15 gj104 (⟨#[106]⟩ : ByteArray) Sj is ((recsJ is).length : Int)] := O236
     clear O236
     have hkl_ks225 := hkp227.length_eq
     rw [List.length_map] at hkl_ks225
     have hkn228 : ks225.length = is.length := hkl_ks225
     refine V H233 (op_len Try.underlying66 rfl (H233.ev rfl)) ?_
     intro _ H239; clear H233
     refine V H239 (op_move rfl (H239.ev rfl)) ?_
     intro _ H241; clear H239
     refine V H241 (op_eqi rfl (H241.ev rfl) (H241.ev rfl)) ?_
     intro _ H243; clear H241
     have H244 := H243.lit (b := true) (by simp [hkn228])
     clear H243
     refine V H244 (op_assign rfl (H244.ev rfl)) ?_
     intro _ H246; clear H244
     refine wpList_nil ?_
     refine gw_nx (hK219 _ _ ?_)
     refine wp_ret ?_
     refine gw_thr ?_
     refine gw_ret1 H246 rfl rfl ?_
     exact ⟨rfl, O237.below⟩
    ·
     have H247 := H216.subst_ (d := 98) (b := false) rfl hb217
     clear H216
     (try simp only [decide_eq_false_iff_not, Int.not_lt] at hb217)
     have hrf2 : 0 ≤ rf ∧ rf < datas.length ∧ (datas.getD rf.toNat ([] : List Int)).length ≤ 1000 := by omega
     refine wp_skip ?_
     refine gw_nx (hK211 _ _ ?_)
     refine gw_seq fun K248 hK248 => ?_
     refine gw_seq fun K249 hK249 => ?_
     refine wp_region_lit ?_
     refine V H247 (op_move rfl (H247.ev rfl)) ?_
     intro _ H251; clear H247
     have O260 : Own w _ [(Chunk.all [Chunk.jour w.heap.size gd15 gj104 (⟨#[106]⟩ : ByteArray) Sj is ((recsJ is).length : Int)]), Chunk.disk w.heap.size gd15 Sd (jdk (⟨#[106]⟩ : ByteArray) (recsJ is) 0 ([⟨(⟨#[111, 116, 104, 101, 114]⟩ : ByteArray), (List.replicate h2.toNat (0 : Int)), 0⟩] : List PF) rm)] := Own.bundle (A := [Chunk.jour w.heap.size gd15 gj104 (⟨#[106]⟩ : ByteArray) Sj is ((recsJ is).length : Int)]) (L := [Chunk.disk w.heap.size gd15 Sd (jdk (⟨#[106]⟩ : ByteArray) (recsJ is) 0 ([⟨(⟨#[111, 116, 104, 101, 114]⟩ : ByteArray), (List.replicate h2.toNat (0 : Int)), 0⟩] : List PF) rm)]) (O163.sel [1, 0] (by decide))
     refine gw_call H251 (want_none rfl) rfl (by decide) (op_callL Try.func20 (by kernel_rfl) rfl rfl (ar_cons (H251.ev rfl) (ar_cons (ev_c _ _) ar_nil))) ((by have h_ := remove_calls w _ (Chunk.all [Chunk.jour w.heap.size gd15 gj104 (⟨#[106]⟩ : ByteArray) Sj is ((recsJ is).length : Int)]) gd15 Sd (jdk (⟨#[106]⟩ : ByteArray) (recsJ is) 0 ([⟨(⟨#[111, 116, 104, 101, 114]⟩ : ByteArray), (List.replicate h2.toNat (0 : Int)), 0⟩] : List PF) rm) (⟨#[111, 116, 104, 101, 114]⟩ : ByteArray) hw (by decide) (by exact O260); rw [show (removeD (⟨#[111, 116, 104, 101, 114]⟩ : ByteArray) (jdk (⟨#[106]⟩ : ByteArray) (recsJ is) 0 ([⟨(⟨#[111, 116, 104, 101, 114]⟩ : ByteArray), (List.replicate h2.toNat (0 : Int)), 0⟩] : List PF) rm)) = ((jdk (⟨#[106]⟩ : ByteArray) (recsJ is) 0 [] rm), 0) from fu4] at h_; (try dsimp only at h_); exact h_)) ?_
     rintro e254 w255 ⟨rfl, S252, hb256⟩
     refine ⟨_, rfl, fun _ H258 => ?_⟩
     have O259 : Own w w255 [Chunk.jour w.heap.size gd15 gj104 (⟨#[106]⟩ : ByteArray) Sj is ((recsJ is).length : Int), Chunk.disk w.heap.size gd15 S252 (jdk (⟨#[106]⟩ : ByteArray) (recsJ is) 0 [] rm)] := Own.unbundle (A := [Chunk.jour w.heap.size gd15 gj104 (⟨#[106]⟩ : ByteArray) Sj is ((recsJ is).length : Int)]) (L := [Chunk.disk w.heap.size gd15 S252 (jdk (⟨#[106]⟩ : ByteArray) (recsJ is) 0 [] rm)]) (hb256.sel [0, 1] (by decide))
     clear O260
     clear H251 O163 hb256
     have O262 : Own w w255 [Chunk.jour w.heap.size gd15 gj104 (⟨#[106]⟩ : ByteArray) Sj is ((recsJ is).length : Int), Chunk.disk w.heap.size gd15 S252 (jdk (⟨#[106]⟩ : ByteArray) (recsJ is) 0 [] rm)] := O259
     clear O259
     have hwf253 : wfD (jdk (⟨#[106]⟩ : ByteArray) (recsJ is) 0 [] rm) := by have h_ : wfD (removeD (⟨#[111, 116, 104, 101, 114]⟩ : ByteArray) (jdk (⟨#[106]⟩ : ByteArray) (recsJ is) 0 ([⟨(⟨#[111, 116, 104, 101, 114]⟩ : ByteArray), (List.replicate h2.toNat (0 : Int)), 0⟩] : List PF) rm)).1 := wf_remove hw; rw [show (removeD (⟨#[111, 116, 104, 101, 114]⟩ : ByteArray) (jdk (⟨#[106]⟩ : ByteArray) (recsJ is) 0 ([⟨(⟨#[111, 116, 104, 101, 114]⟩ : ByteArray), (List.replicate h2.toNat (0 : Int)), 0⟩] : List PF) rm)) = ((jdk (⟨#[106]⟩ : ByteArray) (recsJ is) 0 [] rm), 0) from fu4] at h_; exact h_
     refine V H258 (op_nei rfl (H258.ev rfl) (ev_c _ _)) ?_
     intro _ H264; clear H258
     have H265 := H264.lit (b := false) (by decide)
     clear H264
     refine V H265 (op_move rfl (H265.ev rfl)) ?_
     intro _ H267; clear H265
     refine V2 H267 (want_yes H267 rfl rfl rfl rfl) (op_move rfl (H267.ev rfl)) ?_
     intro _ H269; clear H267
     refine gw_call H269 (want_yes H269 rfl rfl rfl rfl) rfl (by decide) (op_callL Try.func35 (by kernel_rfl) rfl rfl (ar_cons (H269.ev rfl) ar_nil)) (keys_calls w.heap.size gd15 gj104 (⟨#[106]⟩ : ByteArray) Sj is ((recsJ is).length : Int) _ (by exact O262.get 0 rfl) (by omega)) ?_
     rintro e277 w278 ⟨A270, c271, S272, ks273, hkr274, hkp275, rfl, hb279⟩
     refine ⟨_, rfl, fun _ H281 => ?_⟩
     have O282 := O262.fresh hb279
     have hbel283 := O262.below
     clear H269 O262 hb279
     have O284 := O282.lowrow 0 rfl (base' := w.heap.size) (Below.size hbel283)
     have O285 : Own w w278 [Chunk.row (Kd.int .i64) 2 w.heap.size S272 (.slice A270 ks273.length c271) ks273, Chunk.jour w.heap.size gd15 gj104 (⟨#[106]⟩ : ByteArray) Sj is ((recsJ is).length : Int), Chunk.disk w.heap.size gd15 S252 (jdk (⟨#[106]⟩ : ByteArray) (recsJ is) 0 [] rm)] := O284
     clear O284
     have hkl_ks273 := hkp275.length_eq
     rw [List.length_map] at hkl_ks273
     have hkn276 : ks273.length = is.length := hkl_ks273
     refine V2 H281 (want_yes H281 rfl rfl rfl rfl) (op_len Try.underlying66 rfl (H281.ev rfl)) ?_
     intro _ H287; clear H281
     refine V2 H287 (want_yes H287 rfl rfl rfl rfl) (op_move rfl (H287.ev rfl)) ?_
     intro _ H289; clear H287
     refine V2 H289 (want_yes H289 rfl rfl rfl rfl) (op_nei rfl (H289.ev rfl) (H289.ev rfl)) ?_
     intro _ H291; clear H289
     have H292 := H291.lit (b := false) (by simp [hkn276])
     clear H291
     refine V H292 (op_pick_f rfl (H292.ev rfl) (H292.ev rfl)) ?_
     intro _ H294; clear H292
     refine wpList_nil ?_
     refine gw_nx (hK249 _ _ ?_)
     refine gw_cond H294 rfl (fun hb295 => ?_) (fun hb295 => ?_)
     skip
     ·
      cases hb295
     refine wp_skip ?_
     refine gw_nx (hK248 _ _ ?_)
     refine gw_seq fun K296 hK296 => ?_
     refine gw_seq fun K297 hK297 => ?_
     refine gx_draw (M := []) (fun j_ => false) O285 (by kernel_rfl) fun w298 O299 => ?_
     clear O285
     refine gx_take 0 rfl (by kernel_rfl) H294 (by exact O299.sel [] (by decide)) (want_none rfl) rfl (by decide) (fun wq HO => (op_move rfl (H294.ev rfl))) ?_
     intro _ H301; clear H294
     refine gx_take 1 rfl (by kernel_rfl) H301 (by exact O299.sel [] (by decide)) (want_none rfl) rfl (by decide) (fun wq HO => (op_move rfl (H301.ev rfl))) ?_
     intro _ H303; clear H301
     obtain ⟨ad304, cs307, hA305, hl308, hK309, hc306⟩ := Kd.C_get hr1 ([] : List Int) rf (by omega) (by omega)
     obtain ⟨A310, c311, rfl, hl312, hC313⟩ := id hK309
     clear hl308
     refine gx_take 2 rfl (by kernel_rfl) H303 (by exact O299.sel [] (by decide)) (want_none rfl) rfl (by decide) (fun wq HO => (op_index Try.underlying22 gwsiz28 rfl (H303.ev rfl) (H303.ev rfl) hA305 (⟨by omega, by omega⟩))) ?_
     intro _ H315; clear H303
     refine gx_take 3 rfl (by kernel_rfl) H315 (by exact O299.sel [] (by decide)) (want_none rfl) rfl (by decide) (fun wq HO => (op_load1 gwagg28 rfl (H315.ev rfl) (HO.cell0 (at0 hc306)))) ?_
     intro _ H317; clear H315
     refine gx_take 4 rfl (by kernel_rfl) H317 (by exact O299.sel [] (by decide)) (want_none rfl) rfl (by decide) (fun wq HO => (op_len Try.underlying28 rfl (H317.ev rfl))) ?_
     intro _ H319; clear H317
     refine gx_take 5 rfl (by kernel_rfl) H319 (by exact O299.sel [] (by decide)) (want_none rfl) rfl (by decide) (fun wq HO => (op_add rfl (H319.ev rfl) (ev_c _ _) (by omega))) ?_
     intro _ H321; clear H319
     refine gx_take 6 rfl (by kernel_rfl) H321 (by exact O299.sel [] (by decide)) (want_none rfl) rfl (by decide) (fun wq HO => (op_move rfl (H321.ev rfl))) ?_
     intro _ H323; clear H321
     refine gx_step 7 rfl (by kernel_rfl) ?_
     refine gw_call H323 (want_none rfl) rfl (by decide) (op_callL Try.func24 (by kernel_rfl) rfl rfl (ar_cons (H323.ev rfl) ar_nil)) (room_calls w.heap.size gd15 S252 (jdk (⟨#[106]⟩ : ByteArray) (recsJ is) 0 [] rm) _ (O299.get 2 rfl) hwf253) ?_
     rintro e324 w325 ⟨rfl, hb326⟩
     refine ⟨_, rfl, fun _ H328 => ?_⟩
     have O329 := O299.after hb326
     clear H323 O299 hb326
     have H331 := H328.conv (v' := J (rm - (((recsJ is).length : Int) + ((totF [] : Nat) : Int)))) (rfl)
     clear H328
     refine gx_on (i := 7) (B := (fun j_ => false)) (M := []) (fun _ => (by exact O329.sel [] (by decide))) ?_
     refine gx_take 8 rfl (by kernel_rfl) H331 (by exact O329.sel [] (by decide)) (want_none rfl) rfl (by decide) (fun wq HO => (op_leq rfl (H331.ev rfl) (H331.ev rfl))) ?_
     intro _ H333; clear H331
     refine gx_take 9 rfl (by kernel_rfl) H333 (by exact O329.sel [] (by decide)) (want_none rfl) rfl (by decide) (fun wq HO => (op_move rfl (H333.ev rfl))) ?_
     intro _ H335; clear H333
     rcases Bool.eq_false_or_eq_true (decide (((((datas.getD rf.toNat ([] : List Int)).length) : Int) + 10) ≤ (rm - (((recsJ is).length : Int) + ((totF [] : Nat) : Int))))) with hb336 | hb336
     ·
      have H337 := H335.subst_ (d := 123) (b := true) rfl hb336
      clear H335
      (try simp only [decide_eq_true_eq] at hb336)
      refine gx_take 10 rfl (by kernel_rfl) H337 (by exact O329.sel [] (by decide)) (want_yes H337 rfl rfl rfl rfl) rfl (by decide) (fun wq HO => (op_move rfl (H337.ev rfl))) ?_
      intro _ H339; clear H337
      refine gx_take 11 rfl (by kernel_rfl) H339 (by exact O329.sel [] (by decide)) (want_yes H339 rfl rfl rfl rfl) rfl (by decide) (fun wq HO => (op_move rfl (H339.ev rfl))) ?_
      intro _ H341; clear H339
      refine gx_take 12 rfl (by kernel_rfl) H341 (by exact O329.sel [] (by decide)) (want_yes H341 rfl rfl rfl rfl) rfl (by decide) (fun wq HO => (op_move rfl (H341.ev rfl))) ?_
      intro _ H343; clear H341
      refine gx_take 13 rfl (by kernel_rfl) H343 (by exact O329.sel [] (by decide)) (want_yes H343 rfl rfl rfl rfl) rfl (by decide) (fun wq HO => (op_move rfl (H343.ev rfl))) ?_
      intro _ H345; clear H343
      obtain ⟨ad346, cs349, hA347, hl350, hK351, hc348⟩ := Kd.C_get hr1 ([] : List Int) rf (by omega) (by omega)
      obtain ⟨A352, c353, rfl, hl354, hC355⟩ := id hK351
      clear hl350
      refine gx_take 14 rfl (by kernel_rfl) H345 (by exact O329.sel [] (by decide)) (want_yes H345 rfl rfl rfl rfl) rfl (by decide) (fun wq HO => (op_index Try.underlying22 gwsiz28 rfl (H345.ev rfl) (H345.ev rfl) hA347 (⟨by omega, by omega⟩))) ?_
      intro _ H357; clear H345
      refine gx_take 15 rfl (by kernel_rfl) H357 (by exact O329.sel [] (by decide)) (want_yes H357 rfl rfl rfl rfl) rfl (by decide) (fun wq HO => (op_load1 gwagg28 rfl (H357.ev rfl) (HO.cell0 (at0 hc348)))) ?_
      intro _ H359; clear H357
      refine gx_step 16 rfl (by kernel_rfl) ?_
      have hjn : JL (is ++ [((is.length : Int), (datas.getD rf.toNat ([] : List Int)))]) := hj.snoc (by omega) (by omega) (byte_getDL hB _)
      have hrs := rec_small (b := (datas.getD rf.toNat ([] : List Int))) (show is.length ≤ 100 by omega)
      have hrn : (recsJ (is ++ [((is.length : Int), (datas.getD rf.toNat ([] : List Int)))])).length = (recsJ is).length + (recI ((is.length : Int), (datas.getD rf.toNat ([] : List Int)))).length := by rw [recs_snoc, List.length_append]
      have heq363 : putJ (⟨#[106]⟩ : ByteArray) (is.length : Int) (datas.getD rf.toNat ([] : List Int)) is ((recsJ is).length : Int) (jdk (⟨#[106]⟩ : ByteArray) (recsJ is) 0 [] rm) = (((jdk (⟨#[106]⟩ : ByteArray) (recsJ (is ++ [((is.length : Int), (datas.getD rf.toNat ([] : List Int)))])) 0 [] rm), 0), ((is ++ [((is.length : Int), (datas.getD rf.toNat ([] : List Int)))]), ((recsJ (is ++ [((is.length : Int), (datas.getD rf.toNat ([] : List Int)))])).length : Int))) := full_put (fun g_ hg_ => by simp at hg_) ⟨by omega, by omega⟩ (by omega) hj.has (by rw [hrs, h0t]; omega)
      have O370 : Own w _ [(Chunk.all [Chunk.row (Kd.int .i64) 2 w.heap.size S272 (.slice A270 ks273.length c271) ks273]), Chunk.disk w.heap.size gd15 S252 (jdk (⟨#[106]⟩ : ByteArray) (recsJ is) 0 [] rm), Chunk.jour w.heap.size gd15 gj104 (⟨#[106]⟩ : ByteArray) Sj is ((recsJ is).length : Int)] := Own.bundle (A := [Chunk.row (Kd.int .i64) 2 w.heap.size S272 (.slice A270 ks273.length c271) ks273]) (L := [Chunk.disk w.heap.size gd15 S252 (jdk (⟨#[106]⟩ : ByteArray) (recsJ is) 0 [] rm), Chunk.jour w.heap.size gd15 gj104 (⟨#[106]⟩ : ByteArray) Sj is ((recsJ is).length : Int)]) (O329.sel [0, 2, 1] (by decide))
      refine gw_call H359 (want_yes H359 rfl rfl rfl rfl) rfl (by decide) (op_callL Try.func33 (by kernel_rfl) rfl rfl (ar_cons (H359.ev rfl) (ar_cons (H359.ev rfl) (ar_cons (H359.ev rfl) ar_nil)))) (put_is heq363 hwf253 (by decide) (wf_i64 (by omega)) (fun w_ h_ => Kd.C_below hC355 h_.below) hl354 (byte_getDL hB _) (by omega) (used_le (by omega)) (by omega) ⟨by omega, by omega⟩ (by exact O370)) ?_
      rintro e364 w365 ⟨rfl, S361, SJ360, hb366⟩
      refine ⟨_, rfl, fun _ H368 => ?_⟩
      have O369 : Own w w365 [Chunk.row (Kd.int .i64) 2 w.heap.size S272 (.slice A270 ks273.length c271) ks273, Chunk.disk w.heap.size gd15 S361 (jdk (⟨#[106]⟩ : ByteArray) (recsJ (is ++ [((is.length : Int), (datas.getD rf.toNat ([] : List Int)))])) 0 [] rm), Chunk.jour w.heap.size gd15 gj104 (⟨#[106]⟩ : ByteArray) SJ360 (is ++ [((is.length : Int), (datas.getD rf.toNat ([] : List Int)))]) ((recsJ (is ++ [((is.length : Int), (datas.getD rf.toNat ([] : List Int)))])).length : Int)] := Own.unbundle (A := [Chunk.row (Kd.int .i64) 2 w.heap.size S272 (.slice A270 ks273.length c271) ks273]) (L := [Chunk.disk w.heap.size gd15 S361 (jdk (⟨#[106]⟩ : ByteArray) (recsJ (is ++ [((is.length : Int), (datas.getD rf.toNat ([] : List Int)))])) 0 [] rm), Chunk.jour w.heap.size gd15 gj104 (⟨#[106]⟩ : ByteArray) SJ360 (is ++ [((is.length : Int), (datas.getD rf.toNat ([] : List Int)))]) ((recsJ (is ++ [((is.length : Int), (datas.getD rf.toNat ([] : List Int)))])).length : Int)]) (hb366.sel [0, 1, 2] (by decide))
      clear O370
      clear H359 O329 hb366
      have O372 : Own w w365 [Chunk.row (Kd.int .i64) 2 w.heap.size S272 (.slice A270 ks273.length c271) ks273, Chunk.disk w.heap.size gd15 S361 (jdk (⟨#[106]⟩ : ByteArray) (recsJ (is ++ [((is.length : Int), (datas.getD rf.toNat ([] : List Int)))])) 0 [] rm), Chunk.jour w.heap.size gd15 gj104 (⟨#[106]⟩ : ByteArray) SJ360 (is ++ [((is.length : Int), (datas.getD rf.toNat ([] : List Int)))]) ((recsJ (is ++ [((is.length : Int), (datas.getD rf.toNat ([] : List Int)))])).length : Int)] := O369
      clear O369
      have hwf362 : wfD (jdk (⟨#[106]⟩ : ByteArray) (recsJ (is ++ [((is.length : Int), (datas.getD rf.toNat ([] : List Int)))])) 0 [] rm) := wf_put' heq363 hwf253
      refine gx_on (i := 16) (B := (fun j_ => false)) (M := []) (fun _ => (by exact O372.sel [] (by decide))) ?_
      refine gx_take 17 rfl (by kernel_rfl) H368 (by exact O372.sel [] (by decide)) (want_yes H368 rfl rfl rfl rfl) rfl (by decide) (fun wq HO => (op_nei rfl (H368.ev rfl) (ev_c _ _))) ?_
      intro _ H374; clear H368
      have H375 := H374.lit (b := false) (by decide)
      clear H374
      refine gx_take 18 rfl (by kernel_rfl) H375 (by exact O372.sel [] (by decide)) (want_none rfl) rfl (by decide) (fun wq HO => (op_pick_t rfl (H375.ev rfl) (H375.ev rfl))) ?_
      intro _ H377; clear H375
      refine gx_done (by kernel_rfl) ?_
      refine gw_nx (hK297 _ _ ?_)
      refine gw_cond H377 rfl (fun hb378 => ?_) (fun hb378 => ?_)
      skip
      ·
       cases hb378
      refine wp_skip ?_
      refine gw_nx (hK296 _ _ ?_)
      refine gw_seq fun K379 hK379 => ?_
      refine wp_region_lit ?_
      refine V H377 (op_move rfl (H377.ev rfl)) ?_
      intro _ H381; clear H377
      have heq386 : openJ (⟨#[106]⟩ : ByteArray) (jdk (⟨#[106]⟩ : ByteArray) (recsJ (is ++ [((is.length : Int), (datas.getD rf.toNat ([] : List Int)))])) 0 [] rm) = (((jdk (⟨#[106]⟩ : ByteArray) (recsJ (is ++ [((is.length : Int), (datas.getD rf.toNat ([] : List Int)))])) ((recsJ (is ++ [((is.length : Int), (datas.getD rf.toNat ([] : List Int)))])).length : Int) [] rm), 0), ((is ++ [((is.length : Int), (datas.getD rf.toNat ([] : List Int)))]), ((recsJ (is ++ [((is.length : Int), (datas.getD rf.toNat ([] : List Int)))])).length : Int))) := jd_reopen_all (fun g_ hg_ => by simp at hg_) hjn.ok hjn.once ⟨by omega, by omega⟩
      have O393 : Own w _ [(Chunk.all [Chunk.row (Kd.int .i64) 2 w.heap.size S272 (.slice A270 ks273.length c271) ks273, Chunk.jour w.heap.size gd15 gj104 (⟨#[106]⟩ : ByteArray) SJ360 (is ++ [((is.length : Int), (datas.getD rf.toNat ([] : List Int)))]) ((recsJ (is ++ [((is.length : Int), (datas.getD rf.toNat ([] : List Int)))])).length : Int)]), Chunk.disk w.heap.size gd15 S361 (jdk (⟨#[106]⟩ : ByteArray) (recsJ (is ++ [((is.length : Int), (datas.getD rf.toNat ([] : List Int)))])) 0 [] rm)] := Own.bundle (A := [Chunk.row (Kd.int .i64) 2 w.heap.size S272 (.slice A270 ks273.length c271) ks273, Chunk.jour w.heap.size gd15 gj104 (⟨#[106]⟩ : ByteArray) SJ360 (is ++ [((is.length : Int), (datas.getD rf.toNat ([] : List Int)))]) ((recsJ (is ++ [((is.length : Int), (datas.getD rf.toNat ([] : List Int)))])).length : Int)]) (L := [Chunk.disk w.heap.size gd15 S361 (jdk (⟨#[106]⟩ : ByteArray) (recsJ (is ++ [((is.length : Int), (datas.getD rf.toNat ([] : List Int)))])) 0 [] rm)]) (O372.sel [0, 2, 1] (by decide))
      refine gw_call H381 (want_none rfl) rfl (by decide) (op_callL Try.func32 (by kernel_rfl) rfl rfl (ar_cons (H381.ev rfl) (ar_cons (ev_c _ _) ar_nil))) (open_ok heq386 hwf362 (by decide) (by show 1 ≤ 1000000; decide) (used_le (by omega)) (jd_byte (recs_byte hjn.ok)) (by exact O393)) ?_
      rintro e387 w388 ⟨gj382, SJ383, S384, rfl, hb389⟩
      refine ⟨_, rfl, fun _ H391 => ?_⟩
      have O392 : Own w w388 [Chunk.row (Kd.int .i64) 2 w.heap.size S272 (.slice A270 ks273.length c271) ks273, Chunk.jour w.heap.size gd15 gj104 (⟨#[106]⟩ : ByteArray) SJ360 (is ++ [((is.length : Int), (datas.getD rf.toNat ([] : List Int)))]) ((recsJ (is ++ [((is.length : Int), (datas.getD rf.toNat ([] : List Int)))])).length : Int), Chunk.disk w.heap.size gd15 S384 (jdk (⟨#[106]⟩ : ByteArray) (recsJ (is ++ [((is.length : Int), (datas.getD rf.toNat ([] : List Int)))])) ((recsJ (is ++ [((is.length : Int), (datas.getD rf.toNat ([] : List Int)))])).length : Int) [] rm), Chunk.jour w.heap.size gd15 gj382 (⟨#[106]⟩ : ByteArray) SJ383 (is ++ [((is.length : Int), (datas.getD rf.toNat ([] : List Int)))]) ((recsJ (is ++ [((is.length : Int), (datas.getD rf.toNat ([] : List Int)))])).length : Int)] := Own.unbundle (A := [Chunk.row (Kd.int .i64) 2 w.heap.size S272 (.slice A270 ks273.length c271) ks273, Chunk.jour w.heap.size gd15 gj104 (⟨#[106]⟩ : ByteArray) SJ360 (is ++ [((is.length : Int), (datas.getD rf.toNat ([] : List Int)))]) ((recsJ (is ++ [((is.length : Int), (datas.getD rf.toNat ([] : List Int)))])).length : Int)]) (L := [Chunk.disk w.heap.size gd15 S384 (jdk (⟨#[106]⟩ : ByteArray) (recsJ (is ++ [((is.length : Int), (datas.getD rf.toNat ([] : List Int)))])) ((recsJ (is ++ [((is.length : Int), (datas.getD rf.toNat ([] : List Int)))])).length : Int) [] rm), Chunk.jour w.heap.size gd15 gj382 (⟨#[106]⟩ : ByteArray) SJ383 (is ++ [((is.length : Int), (datas.getD rf.toNat ([] : List Int)))]) ((recsJ (is ++ [((is.length : Int), (datas.getD rf.toNat ([] : List Int)))])).length : Int)]) (hb389.sel [0, 1, 2] (by decide))
      clear O393
      clear H381 O372 hb389
      have O395 : Own w w388 [Chunk.row (Kd.int .i64) 2 w.heap.size S272 (.slice A270 ks273.length c271) ks273, Chunk.jour w.heap.size gd15 gj104 (⟨#[106]⟩ : ByteArray) SJ360 (is ++ [((is.length : Int), (datas.getD rf.toNat ([] : List Int)))]) ((recsJ (is ++ [((is.length : Int), (datas.getD rf.toNat ([] : List Int)))])).length : Int), Chunk.disk w.heap.size gd15 S384 (jdk (⟨#[106]⟩ : ByteArray) (recsJ (is ++ [((is.length : Int), (datas.getD rf.toNat ([] : List Int)))])) ((recsJ (is ++ [((is.length : Int), (datas.getD rf.toNat ([] : List Int)))])).length : Int) [] rm), Chunk.jour w.heap.size gd15 gj382 (⟨#[106]⟩ : ByteArray) SJ383 (is ++ [((is.length : Int), (datas.getD rf.toNat ([] : List Int)))]) ((recsJ (is ++ [((is.length : Int), (datas.getD rf.toNat ([] : List Int)))])).length : Int)] := O392
      clear O392
      have hwf385 : wfD (jdk (⟨#[106]⟩ : ByteArray) (recsJ (is ++ [((is.length : Int), (datas.getD rf.toNat ([] : List Int)))])) ((recsJ (is ++ [((is.length : Int), (datas.getD rf.toNat ([] : List Int)))])).length : Int) [] rm) := wf_open' heq386 hwf362
      refine V H391 (op_move rfl (H391.ev rfl)) ?_
      intro _ H397; clear H391
      refine V H397 (op_extract rfl (H397.ev rfl) rfl) ?_
      intro _ H399; clear H397
      refine V H399 (op_extract rfl (H399.ev rfl) rfl) ?_
      intro _ H401; clear H399
      refine V H401 (op_assign rfl (H401.ev rfl)) ?_
      intro _ H403; clear H401
      refine V H403 (op_assign rfl (H403.ev rfl)) ?_
      intro _ H405; clear H403
      refine wpList_nil ?_
      refine gw_nx (hK379 _ _ ?_)
      refine gw_seq fun K406 hK406 => ?_
      refine wp_region_lit ?_
      refine V H405 (op_move rfl (H405.ev rfl)) ?_
      intro _ H408; clear H405
      refine V H408 (op_eqi rfl (H408.ev rfl) (ev_c _ _)) ?_
      intro _ H410; clear H408
      have H411 := H410.lit (b := true) (by decide)
      clear H410
      refine V H411 (op_move rfl (H411.ev rfl)) ?_
      intro _ H413; clear H411
      refine V2 H413 (want_yes H413 rfl rfl rfl rfl) (op_move rfl (H413.ev rfl)) ?_
      intro _ H415; clear H413
      refine V2 H415 (want_yes H415 rfl rfl rfl rfl) (op_nep_nil Try.underlying61 rfl (H415.ev rfl)) ?_
      intro _ H417; clear H415
      refine V H417 (op_pick_t rfl (H417.ev rfl) (H417.ev rfl)) ?_
      intro _ H419; clear H417
      refine V H419 (op_move rfl (H419.ev rfl)) ?_
      intro _ H421; clear H419
      refine V2 H421 (want_yes H421 rfl rfl rfl rfl) (op_move rfl (H421.ev rfl)) ?_
      intro _ H423; clear H421
      refine gw_call H423 (want_yes H423 rfl rfl rfl rfl) rfl (by decide) (op_callL Try.func35 (by kernel_rfl) rfl rfl (ar_cons (H423.ev rfl) ar_nil)) (keys_calls w.heap.size gd15 gj382 (⟨#[106]⟩ : ByteArray) SJ383 (is ++ [((is.length : Int), (datas.getD rf.toNat ([] : List Int)))]) ((recsJ (is ++ [((is.length : Int), (datas.getD rf.toNat ([] : List Int)))])).length : Int) _ (by exact O395.get 3 rfl) (by rw [List.length_append, List.length_singleton]; omega)) ?_
      rintro e431 w432 ⟨A424, c425, S426, ks427, hkr428, hkp429, rfl, hb433⟩
      refine ⟨_, rfl, fun _ H435 => ?_⟩
      have O436 := O395.fresh hb433
      have hbel437 := O395.below
      clear H423 O395 hb433
      have O438 := O436.lowrow 0 rfl (base' := w.heap.size) (Below.size hbel437)
      have O439 : Own w w432 [Chunk.row (Kd.int .i64) 2 w.heap.size S426 (.slice A424 ks427.length c425) ks427, Chunk.row (Kd.int .i64) 2 w.heap.size S272 (.slice A270 ks273.length c271) ks273, Chunk.jour w.heap.size gd15 gj104 (⟨#[106]⟩ : ByteArray) SJ360 (is ++ [((is.length : Int), (datas.getD rf.toNat ([] : List Int)))]) ((recsJ (is ++ [((is.length : Int), (datas.getD rf.toNat ([] : List Int)))])).length : Int), Chunk.disk w.heap.size gd15 S384 (jdk (⟨#[106]⟩ : ByteArray) (recsJ (is ++ [((is.length : Int), (datas.getD rf.toNat ([] : List Int)))])) ((recsJ (is ++ [((is.length : Int), (datas.getD rf.toNat ([] : List Int)))])).length : Int) [] rm), Chunk.jour w.heap.size gd15 gj382 (⟨#[106]⟩ : ByteArray) SJ383 (is ++ [((is.length : Int), (datas.getD rf.toNat ([] : List Int)))]) ((recsJ (is ++ [((is.length : Int), (datas.getD rf.toNat ([] : List Int)))])).length : Int)] := O438
      clear O438
      have hkl_ks427 := hkp429.length_eq
      rw [List.length_map] at hkl_ks427
      have hkn430 : ks427.length = (is ++ [((is.length : Int), (datas.getD rf.toNat ([] : List Int)))]).length := hkl_ks427
      refine V2 H435 (want_yes H435 rfl rfl rfl rfl) (op_len Try.underlying66 rfl (H435.ev rfl)) ?_
      intro _ H441; clear H435
      refine V2 H441 (want_yes H441 rfl rfl rfl rfl) (op_move rfl (H441.ev rfl)) ?_
      intro _ H443; clear H441
      refine gw_call H443 (want_yes H443 rfl rfl rfl rfl) rfl (by decide) (op_callL Try.func35 (by kernel_rfl) rfl rfl (ar_cons (H443.ev rfl) ar_nil)) (keys_calls w.heap.size gd15 gj104 (⟨#[106]⟩ : ByteArray) SJ360 (is ++ [((is.length : Int), (datas.getD rf.toNat ([] : List Int)))]) ((recsJ (is ++ [((is.length : Int), (datas.getD rf.toNat ([] : List Int)))])).length : Int) _ (by exact O439.get 2 rfl) (by rw [List.length_append, List.length_singleton]; omega)) ?_
      rintro e451 w452 ⟨A444, c445, S446, ks447, hkr448, hkp449, rfl, hb453⟩
      refine ⟨_, rfl, fun _ H455 => ?_⟩
      have O456 := O439.fresh hb453
      have hbel457 := O439.below
      clear H443 O439 hb453
      have O458 := O456.lowrow 0 rfl (base' := w.heap.size) (Below.size hbel457)
      have O459 : Own w w452 [Chunk.row (Kd.int .i64) 2 w.heap.size S446 (.slice A444 ks447.length c445) ks447, Chunk.row (Kd.int .i64) 2 w.heap.size S426 (.slice A424 ks427.length c425) ks427, Chunk.row (Kd.int .i64) 2 w.heap.size S272 (.slice A270 ks273.length c271) ks273, Chunk.jour w.heap.size gd15 gj104 (⟨#[106]⟩ : ByteArray) SJ360 (is ++ [((is.length : Int), (datas.getD rf.toNat ([] : List Int)))]) ((recsJ (is ++ [((is.length : Int), (datas.getD rf.toNat ([] : List Int)))])).length : Int), Chunk.disk w.heap.size gd15 S384 (jdk (⟨#[106]⟩ : ByteArray) (recsJ (is ++ [((is.length : Int), (datas.getD rf.toNat ([] : List Int)))])) ((recsJ (is ++ [((is.length : Int), (datas.getD rf.toNat ([] : List Int)))])).length : Int) [] rm), Chunk.jour w.heap.size gd15 gj382 (⟨#[106]⟩ : ByteArray) SJ383 (is ++ [((is.length : Int), (datas.getD rf.toNat ([] : List Int)))]) ((recsJ (is ++ [((is.length : Int), (datas.getD rf.toNat ([] : List Int)))])).length : Int)] := O458
      clear O458
      have hkl_ks447 := hkp449.length_eq
      rw [List.length_map] at hkl_ks447
      have hkn450 : ks447.length = (is ++ [((is.length : Int), (datas.getD rf.toNat ([] : List Int)))]).length := hkl_ks447
      refine V2 H455 (want_yes H455 rfl rfl rfl rfl) (op_len Try.underlying66 rfl (H455.ev rfl)) ?_
      intro _ H461; clear H455
      refine V2 H461 (want_yes H461 rfl rfl rfl rfl) (op_eqi rfl (H461.ev rfl) (H461.ev rfl)) ?_
      intro _ H463; clear H461
      have H464 := H463.lit (b := true) (by simp [hkn276, hkn430, hkn450])
      clear H463
      refine V H464 (op_pick_t rfl (H464.ev rfl) (H464.ev rfl)) ?_
      intro _ H466; clear H464
      refine V H466 (op_move rfl (H466.ev rfl)) ?_
      intro _ H468; clear H466
      refine V2 H468 (want_yes H468 rfl rfl rfl rfl) (op_move rfl (H468.ev rfl)) ?_
      intro _ H470; clear H468
      refine gw_call H470 (want_yes H470 rfl rfl rfl rfl) rfl (by decide) (op_callL Try.func37 (by kernel_rfl) rfl rfl (ar_cons (H470.ev rfl) ar_nil)) (size_calls w.heap.size gd15 gj382 (⟨#[106]⟩ : ByteArray) SJ383 (is ++ [((is.length : Int), (datas.getD rf.toNat ([] : List Int)))]) ((recsJ (is ++ [((is.length : Int), (datas.getD rf.toNat ([] : List Int)))])).length : Int) _ (O459.get 5 rfl)) ?_
      rintro e471 w472 ⟨rfl, hb473⟩
      refine ⟨_, rfl, fun _ H475 => ?_⟩
      have O476 := O459.after hb473
      clear H470 O459 hb473
      refine V2 H475 (want_yes H475 rfl rfl rfl rfl) (op_move rfl (H475.ev rfl)) ?_
      intro _ H479; clear H475
      refine gw_call H479 (want_yes H479 rfl rfl rfl rfl) rfl (by decide) (op_callL Try.func37 (by kernel_rfl) rfl rfl (ar_cons (H479.ev rfl) ar_nil)) (size_calls w.heap.size gd15 gj104 (⟨#[106]⟩ : ByteArray) SJ360 (is ++ [((is.length : Int), (datas.getD rf.toNat ([] : List Int)))]) ((recsJ (is ++ [((is.length : Int), (datas.getD rf.toNat ([] : List Int)))])).length : Int) _ (O476.get 3 rfl)) ?_
      rintro e480 w481 ⟨rfl, hb482⟩
      refine ⟨_, rfl, fun _ H484 => ?_⟩
      have O485 := O476.after hb482
      clear H479 O476 hb482
      refine V2 H484 (want_yes H484 rfl rfl rfl rfl) (op_eqi rfl (H484.ev rfl) (H484.ev rfl)) ?_
      intro _ H488; clear H484
      have H489 := H488.lit (b := true) (by simp)
      clear H488
      refine V H489 (op_pick_t rfl (H489.ev rfl) (H489.ev rfl)) ?_
      intro _ H491; clear H489
      refine V H491 (op_assign rfl (H491.ev rfl)) ?_
      intro _ H493; clear H491
      refine wpList_nil ?_
      refine gw_nx (hK406 _ _ ?_)
      refine wp_ret ?_
      refine gw_ret1 H493 rfl rfl ?_
      exact ⟨rfl, O485.below⟩
     ·
      have H494 := H335.subst_ (d := 123) (b := false) rfl hb336
      clear H335
      (try simp only [decide_eq_false_iff_not, Int.not_le] at hb336)
      refine gx_take_off 10 rfl (by kernel_rfl) H494 (by exact O329.sel [] (by decide)) (wn H494 rfl rfl rfl rfl) rfl (by decide) ?_
      intro _ H496; clear H494
      refine gx_take_off 11 rfl (by kernel_rfl) H496 (by exact O329.sel [] (by decide)) (wn H496 rfl rfl rfl rfl) rfl (by decide) ?_
      intro _ H498; clear H496
      refine gx_take_off 12 rfl (by kernel_rfl) H498 (by exact O329.sel [] (by decide)) (wn H498 rfl rfl rfl rfl) rfl (by decide) ?_
      intro _ H500; clear H498
      refine gx_take_off 13 rfl (by kernel_rfl) H500 (by exact O329.sel [] (by decide)) (wn H500 rfl rfl rfl rfl) rfl (by decide) ?_
      intro _ H502; clear H500
      refine gx_take_off 14 rfl (by kernel_rfl) H502 (by exact O329.sel [] (by decide)) (wn H502 rfl rfl rfl rfl) rfl (by decide) ?_
      intro _ H504; clear H502
      refine gx_take_off 15 rfl (by kernel_rfl) H504 (by exact O329.sel [] (by decide)) (wn H504 rfl rfl rfl rfl) rfl (by decide) ?_
      intro _ H506; clear H504
      refine gx_step 16 rfl (by kernel_rfl) ?_
      refine Vo H506 (wn H506 rfl rfl rfl rfl) ?_
      intro _ H508; clear H506
      refine gx_on (i := 16) (B := (fun j_ => false)) (M := []) (fun _ => (by exact O329.sel [] (by decide))) ?_
      refine gx_take_off 17 rfl (by kernel_rfl) H508 (by exact O329.sel [] (by decide)) (wn H508 rfl rfl rfl rfl) rfl (by decide) ?_
      intro _ H510; clear H508
      refine gx_take 18 rfl (by kernel_rfl) H510 (by exact O329.sel [] (by decide)) (want_none rfl) rfl (by decide) (fun wq HO => (op_pick_f rfl (H510.ev rfl) (ev_c _ _))) ?_
      intro _ H512; clear H510
      refine gx_done (by kernel_rfl) ?_
      refine gw_nx (hK297 _ _ ?_)
      refine gw_cond H512 rfl (fun hb513 => ?_) (fun hb513 => ?_)
      skip
      ·
       cases hb513
      refine wp_skip ?_
      refine gw_nx (hK296 _ _ ?_)
      refine gw_seq fun K514 hK514 => ?_
      refine wp_region_lit ?_
      refine V H512 (op_move rfl (H512.ev rfl)) ?_
      intro _ H516; clear H512
      have heq521 : openJ (⟨#[106]⟩ : ByteArray) (jdk (⟨#[106]⟩ : ByteArray) (recsJ is) 0 [] rm) = (((jdk (⟨#[106]⟩ : ByteArray) (recsJ is) ((recsJ is).length : Int) [] rm), 0), (is, ((recsJ is).length : Int))) := jd_reopen_all (fun g_ hg_ => by simp at hg_) hj.ok hj.once ⟨by omega, by omega⟩
      have O528 : Own w _ [(Chunk.all [Chunk.row (Kd.int .i64) 2 w.heap.size S272 (.slice A270 ks273.length c271) ks273, Chunk.jour w.heap.size gd15 gj104 (⟨#[106]⟩ : ByteArray) Sj is ((recsJ is).length : Int)]), Chunk.disk w.heap.size gd15 S252 (jdk (⟨#[106]⟩ : ByteArray) (recsJ is) 0 [] rm)] := Own.bundle (A := [Chunk.row (Kd.int .i64) 2 w.heap.size S272 (.slice A270 ks273.length c271) ks273, Chunk.jour w.heap.size gd15 gj104 (⟨#[106]⟩ : ByteArray) Sj is ((recsJ is).length : Int)]) (L := [Chunk.disk w.heap.size gd15 S252 (jdk (⟨#[106]⟩ : ByteArray) (recsJ is) 0 [] rm)]) (O329.sel [0, 1, 2] (by decide))
      refine gw_call H516 (want_none rfl) rfl (by decide) (op_callL Try.func32 (by kernel_rfl) rfl rfl (ar_cons (H516.ev rfl) (ar_cons (ev_c _ _) ar_nil))) (open_ok heq521 hwf253 (by decide) (by show 1 ≤ 1000000; decide) (used_le (by omega)) (jd_byte (recs_byte hj.ok)) (by exact O528)) ?_
      rintro e522 w523 ⟨gj517, SJ518, S519, rfl, hb524⟩
      refine ⟨_, rfl, fun _ H526 => ?_⟩
      have O527 : Own w w523 [Chunk.row (Kd.int .i64) 2 w.heap.size S272 (.slice A270 ks273.length c271) ks273, Chunk.jour w.heap.size gd15 gj104 (⟨#[106]⟩ : ByteArray) Sj is ((recsJ is).length : Int), Chunk.disk w.heap.size gd15 S519 (jdk (⟨#[106]⟩ : ByteArray) (recsJ is) ((recsJ is).length : Int) [] rm), Chunk.jour w.heap.size gd15 gj517 (⟨#[106]⟩ : ByteArray) SJ518 is ((recsJ is).length : Int)] := Own.unbundle (A := [Chunk.row (Kd.int .i64) 2 w.heap.size S272 (.slice A270 ks273.length c271) ks273, Chunk.jour w.heap.size gd15 gj104 (⟨#[106]⟩ : ByteArray) Sj is ((recsJ is).length : Int)]) (L := [Chunk.disk w.heap.size gd15 S519 (jdk (⟨#[106]⟩ : ByteArray) (recsJ is) ((recsJ is).length : Int) [] rm), Chunk.jour w.heap.size gd15 gj517 (⟨#[106]⟩ : ByteArray) SJ518 is ((recsJ is).length : Int)]) (hb524.sel [0, 1, 2] (by decide))
      clear O528
      clear H516 O329 hb524
      have O530 : Own w w523 [Chunk.row (Kd.int .i64) 2 w.heap.size S272 (.slice A270 ks273.length c271) ks273, Chunk.jour w.heap.size gd15 gj104 (⟨#[106]⟩ : ByteArray) Sj is ((recsJ is).length : Int), Chunk.disk w.heap.size gd15 S519 (jdk (⟨#[106]⟩ : ByteArray) (recsJ is) ((recsJ is).length : Int) [] rm), Chunk.jour w.heap.size gd15 gj517 (⟨#[106]⟩ : ByteArray) SJ518 is ((recsJ is).length : Int)] := O527
      clear O527
      have hwf520 : wfD (jdk (⟨#[106]⟩ : ByteArray) (recsJ is) ((recsJ is).length : Int) [] rm) := wf_open' heq521 hwf253
      refine V H526 (op_move rfl (H526.ev rfl)) ?_
      intro _ H532; clear H526
      refine V H532 (op_extract rfl (H532.ev rfl) rfl) ?_
      intro _ H534; clear H532
      refine V H534 (op_extract rfl (H534.ev rfl) rfl) ?_
      intro _ H536; clear H534
      refine V H536 (op_assign rfl (H536.ev rfl)) ?_
      intro _ H538; clear H536
      refine V H538 (op_assign rfl (H538.ev rfl)) ?_
      intro _ H540; clear H538
      refine wpList_nil ?_
      refine gw_nx (hK514 _ _ ?_)
      refine gw_seq fun K541 hK541 => ?_
      refine wp_region_lit ?_
      refine V H540 (op_move rfl (H540.ev rfl)) ?_
      intro _ H543; clear H540
      refine V H543 (op_eqi rfl (H543.ev rfl) (ev_c _ _)) ?_
      intro _ H545; clear H543
      have H546 := H545.lit (b := true) (by decide)
      clear H545
      refine V H546 (op_move rfl (H546.ev rfl)) ?_
      intro _ H548; clear H546
      refine V2 H548 (want_yes H548 rfl rfl rfl rfl) (op_move rfl (H548.ev rfl)) ?_
      intro _ H550; clear H548
      refine V2 H550 (want_yes H550 rfl rfl rfl rfl) (op_nep_nil Try.underlying61 rfl (H550.ev rfl)) ?_
      intro _ H552; clear H550
      refine V H552 (op_pick_t rfl (H552.ev rfl) (H552.ev rfl)) ?_
      intro _ H554; clear H552
      refine V H554 (op_move rfl (H554.ev rfl)) ?_
      intro _ H556; clear H554
      refine V2 H556 (want_yes H556 rfl rfl rfl rfl) (op_move rfl (H556.ev rfl)) ?_
      intro _ H558; clear H556
      refine gw_call H558 (want_yes H558 rfl rfl rfl rfl) rfl (by decide) (op_callL Try.func35 (by kernel_rfl) rfl rfl (ar_cons (H558.ev rfl) ar_nil)) (keys_calls w.heap.size gd15 gj517 (⟨#[106]⟩ : ByteArray) SJ518 is ((recsJ is).length : Int) _ (by exact O530.get 3 rfl) (by omega)) ?_
      rintro e566 w567 ⟨A559, c560, S561, ks562, hkr563, hkp564, rfl, hb568⟩
      refine ⟨_, rfl, fun _ H570 => ?_⟩
      have O571 := O530.fresh hb568
      have hbel572 := O530.below
      clear H558 O530 hb568
      have O573 := O571.lowrow 0 rfl (base' := w.heap.size) (Below.size hbel572)
      have O574 : Own w w567 [Chunk.row (Kd.int .i64) 2 w.heap.size S561 (.slice A559 ks562.length c560) ks562, Chunk.row (Kd.int .i64) 2 w.heap.size S272 (.slice A270 ks273.length c271) ks273, Chunk.jour w.heap.size gd15 gj104 (⟨#[106]⟩ : ByteArray) Sj is ((recsJ is).length : Int), Chunk.disk w.heap.size gd15 S519 (jdk (⟨#[106]⟩ : ByteArray) (recsJ is) ((recsJ is).length : Int) [] rm), Chunk.jour w.heap.size gd15 gj517 (⟨#[106]⟩ : ByteArray) SJ518 is ((recsJ is).length : Int)] := O573
      clear O573
      have hkl_ks562 := hkp564.length_eq
      rw [List.length_map] at hkl_ks562
      have hkn565 : ks562.length = is.length := hkl_ks562
      refine V2 H570 (want_yes H570 rfl rfl rfl rfl) (op_len Try.underlying66 rfl (H570.ev rfl)) ?_
      intro _ H576; clear H570
      refine V2 H576 (want_yes H576 rfl rfl rfl rfl) (op_move rfl (H576.ev rfl)) ?_
      intro _ H578; clear H576
      refine gw_call H578 (want_yes H578 rfl rfl rfl rfl) rfl (by decide) (op_callL Try.func35 (by kernel_rfl) rfl rfl (ar_cons (H578.ev rfl) ar_nil)) (keys_calls w.heap.size gd15 gj104 (⟨#[106]⟩ : ByteArray) Sj is ((recsJ is).length : Int) _ (by exact O574.get 2 rfl) (by omega)) ?_
      rintro e586 w587 ⟨A579, c580, S581, ks582, hkr583, hkp584, rfl, hb588⟩
      refine ⟨_, rfl, fun _ H590 => ?_⟩
      have O591 := O574.fresh hb588
      have hbel592 := O574.below
      clear H578 O574 hb588
      have O593 := O591.lowrow 0 rfl (base' := w.heap.size) (Below.size hbel592)
      have O594 : Own w w587 [Chunk.row (Kd.int .i64) 2 w.heap.size S581 (.slice A579 ks582.length c580) ks582, Chunk.row (Kd.int .i64) 2 w.heap.size S561 (.slice A559 ks562.length c560) ks562, Chunk.row (Kd.int .i64) 2 w.heap.size S272 (.slice A270 ks273.length c271) ks273, Chunk.jour w.heap.size gd15 gj104 (⟨#[106]⟩ : ByteArray) Sj is ((recsJ is).length : Int), Chunk.disk w.heap.size gd15 S519 (jdk (⟨#[106]⟩ : ByteArray) (recsJ is) ((recsJ is).length : Int) [] rm), Chunk.jour w.heap.size gd15 gj517 (⟨#[106]⟩ : ByteArray) SJ518 is ((recsJ is).length : Int)] := O593
      clear O593
      have hkl_ks582 := hkp584.length_eq
      rw [List.length_map] at hkl_ks582
      have hkn585 : ks582.length = is.length := hkl_ks582
      refine V2 H590 (want_yes H590 rfl rfl rfl rfl) (op_len Try.underlying66 rfl (H590.ev rfl)) ?_
      intro _ H596; clear H590
      refine V2 H596 (want_yes H596 rfl rfl rfl rfl) (op_eqi rfl (H596.ev rfl) (H596.ev rfl)) ?_
      intro _ H598; clear H596
      have H599 := H598.lit (b := true) (by simp [hkn276, hkn565, hkn585])
      clear H598
      refine V H599 (op_pick_t rfl (H599.ev rfl) (H599.ev rfl)) ?_
      intro _ H601; clear H599
      refine V H601 (op_move rfl (H601.ev rfl)) ?_
      intro _ H603; clear H601
      refine V2 H603 (want_yes H603 rfl rfl rfl rfl) (op_move rfl (H603.ev rfl)) ?_
      intro _ H605; clear H603
      refine gw_call H605 (want_yes H605 rfl rfl rfl rfl) rfl (by decide) (op_callL Try.func37 (by kernel_rfl) rfl rfl (ar_cons (H605.ev rfl) ar_nil)) (size_calls w.heap.size gd15 gj517 (⟨#[106]⟩ : ByteArray) SJ518 is ((recsJ is).length : Int) _ (O594.get 5 rfl)) ?_
      rintro e606 w607 ⟨rfl, hb608⟩
      refine ⟨_, rfl, fun _ H610 => ?_⟩
      have O611 := O594.after hb608
      clear H605 O594 hb608
      refine V2 H610 (want_yes H610 rfl rfl rfl rfl) (op_move rfl (H610.ev rfl)) ?_
      intro _ H614; clear H610
      refine gw_call H614 (want_yes H614 rfl rfl rfl rfl) rfl (by decide) (op_callL Try.func37 (by kernel_rfl) rfl rfl (ar_cons (H614.ev rfl) ar_nil)) (size_calls w.heap.size gd15 gj104 (⟨#[106]⟩ : ByteArray) Sj is ((recsJ is).length : Int) _ (O611.get 3 rfl)) ?_
      rintro e615 w616 ⟨rfl, hb617⟩
      refine ⟨_, rfl, fun _ H619 => ?_⟩
      have O620 := O611.after hb617
      clear H614 O611 hb617
      refine V2 H619 (want_yes H619 rfl rfl rfl rfl) (op_eqi rfl (H619.ev rfl) (H619.ev rfl)) ?_
      intro _ H623; clear H619
      have H624 := H623.lit (b := true) (by simp)
      clear H623
      refine V H624 (op_pick_t rfl (H624.ev rfl) (H624.ev rfl)) ?_
      intro _ H626; clear H624
      refine V H626 (op_assign rfl (H626.ev rfl)) ?_
      intro _ H628; clear H626
      refine wpList_nil ?_
      refine gw_nx (hK541 _ _ ?_)
      refine wp_ret ?_
      refine gw_ret1 H628 rfl rfl ?_
      exact ⟨rfl, O620.below⟩
   ·
    have H629 := H208.subst_ (d := 63) (b := false) rfl hb209
    clear H208
    (try simp only [Bool.and_eq_true, Bool.or_eq_true, Bool.and_eq_false_iff, Bool.or_eq_false_iff, Bool.not_and, Bool.not_or, Bool.not_not, decide_eq_true_eq, decide_eq_false_iff_not, Bool.not_eq_true', Bool.not_eq_false', Bool.not_eq_true, Bool.not_eq_false, ne_eq, Decidable.not_not, Int.not_lt, Int.not_le, not_true_eq_false, not_false_eq_true, bne_iff_ne, beq_iff_eq, bne_eq_false_iff_eq, beq_eq_false_iff_ne] at hb209)
    refine wp_skip ?_
    refine gw_nx (hK193 _ _ ?_)
    refine gw_seq fun K630 hK630 => ?_
    refine wp_region_lit ?_
    refine V H629 (op_move rfl (H629.ev rfl)) ?_
    intro _ H632; clear H629
    refine gw_call H632 (want_none rfl) rfl (by decide) (op_callL Try.func37 (by kernel_rfl) rfl rfl (ar_cons (H632.ev rfl) ar_nil)) (size_calls w.heap.size gd15 gj104 (⟨#[106]⟩ : ByteArray) Sj is ((recsJ is).length : Int) _ (O163.get 1 rfl)) ?_
    rintro e633 w634 ⟨rfl, hb635⟩
    refine ⟨_, rfl, fun _ H637 => ?_⟩
    have O638 := O163.after hb635
    clear H632 O163 hb635
    refine V H637 (op_assign rfl (H637.ev rfl)) ?_
    intro _ H641; clear H637
    refine wpList_nil ?_
    refine gw_nx (hK630 _ _ ?_)
    refine gw_seq fun K642 hK642 => ?_
    refine wp_region_lit ?_
    refine V H641 (op_move rfl (H641.ev rfl)) ?_
    intro _ H644; clear H641
    refine V H644 (op_move rfl (H644.ev rfl)) ?_
    intro _ H646; clear H644
    refine V H646 (op_move rfl (H646.ev rfl)) ?_
    intro _ H648; clear H646
    have hrs := rec_small (b := (datas.getD i.toNat ([] : List Int))) (show is.length ≤ 100 by omega)
    have hjn : JL (is ++ [((is.length : Int), (datas.getD i.toNat ([] : List Int)))]) := hj.snoc (by omega) (by omega) (byte_getDL hB _)
    have hpf : ((recsJ is).length : Int) + ((totF ([⟨(⟨#[111, 116, 104, 101, 114]⟩ : ByteArray), (List.replicate h2.toNat (0 : Int)), 0⟩] : List PF) : Nat) : Int) + ((recI ((is.length : Int), (datas.getD i.toNat ([] : List Int)))).length : Int) ≤ rm → putJ (⟨#[106]⟩ : ByteArray) (is.length : Int) (datas.getD i.toNat ([] : List Int)) is ((recsJ is).length : Int) (jdk (⟨#[106]⟩ : ByteArray) (recsJ is) 0 ([⟨(⟨#[111, 116, 104, 101, 114]⟩ : ByteArray), (List.replicate h2.toNat (0 : Int)), 0⟩] : List PF) rm) = (((jdk (⟨#[106]⟩ : ByteArray) (recsJ (is ++ [((is.length : Int), (datas.getD i.toNat ([] : List Int)))])) 0 ([⟨(⟨#[111, 116, 104, 101, 114]⟩ : ByteArray), (List.replicate h2.toNat (0 : Int)), 0⟩] : List PF) rm), 0), ((is ++ [((is.length : Int), (datas.getD i.toNat ([] : List Int)))]), ((recsJ (is ++ [((is.length : Int), (datas.getD i.toNat ([] : List Int)))])).length : Int))) := fun hf_ => full_put no_other ⟨by omega, by omega⟩ (by omega) hj.has hf_
    have hpn : ¬ (((recsJ is).length : Int) + ((totF ([⟨(⟨#[111, 116, 104, 101, 114]⟩ : ByteArray), (List.replicate h2.toNat (0 : Int)), 0⟩] : List PF) : Nat) : Int) + ((recI ((is.length : Int), (datas.getD i.toNat ([] : List Int)))).length : Int) ≤ rm) → putJ (⟨#[106]⟩ : ByteArray) (is.length : Int) (datas.getD i.toNat ([] : List Int)) is ((recsJ is).length : Int) (jdk (⟨#[106]⟩ : ByteArray) (recsJ is) 0 ([⟨(⟨#[111, 116, 104, 101, 114]⟩ : ByteArray), (List.replicate h2.toNat (0 : Int)), 0⟩] : List PF) rm) = (((jdk (⟨#[106]⟩ : ByteArray) (recsJ is) 0 ([⟨(⟨#[111, 116, 104, 101, 114]⟩ : ByteArray), (List.replicate h2.toNat (0 : Int)), 0⟩] : List PF) rm), 71), (is, ((recsJ is).length : Int))) := fun hf_ => jd_put_full ⟨by omega, by omega⟩ (by omega) hj.has (by omega)
    have O657 : Own w _ [(Chunk.all []), Chunk.disk w.heap.size gd15 Sd (jdk (⟨#[106]⟩ : ByteArray) (recsJ is) 0 ([⟨(⟨#[111, 116, 104, 101, 114]⟩ : ByteArray), (List.replicate h2.toNat (0 : Int)), 0⟩] : List PF) rm), Chunk.jour w.heap.size gd15 gj104 (⟨#[106]⟩ : ByteArray) Sj is ((recsJ is).length : Int)] := Own.bundle (A := []) (L := [Chunk.disk w.heap.size gd15 Sd (jdk (⟨#[106]⟩ : ByteArray) (recsJ is) 0 ([⟨(⟨#[111, 116, 104, 101, 114]⟩ : ByteArray), (List.replicate h2.toNat (0 : Int)), 0⟩] : List PF) rm), Chunk.jour w.heap.size gd15 gj104 (⟨#[106]⟩ : ByteArray) Sj is ((recsJ is).length : Int)]) (O638.sel [0, 1] (by decide))
    refine gw_call H648 (want_none rfl) rfl (by decide) (op_callL Try.func33 (by kernel_rfl) rfl rfl (ar_cons (H648.ev rfl) (ar_cons (H648.ev rfl) (ar_cons (H648.ev rfl) ar_nil)))) (put_two hpf hpn hw (by decide) (wf_i64 (by omega)) (fun w_ h_ => Kd.C_below hC184 h_.below) hl183 (byte_getDL hB _) (by omega) (show ((recsJ is).length : Int) + ((totF ([⟨(⟨#[111, 116, 104, 101, 114]⟩ : ByteArray), (List.replicate h2.toNat (0 : Int)), 0⟩] : List PF) : Nat) : Int) ≤ 1000000 by omega) (by omega) ⟨by omega, by omega⟩ (by exact O657)) ?_
    rintro e651 w652 (⟨rfl, hfit, S650, SJ649, hb653⟩ | ⟨rfl, hfit, S650, SJ649, hb653⟩)
    ·
     refine ⟨_, rfl, fun _ H655 => ?_⟩
     have O656 : Own w w652 [Chunk.disk w.heap.size gd15 S650 (jdk (⟨#[106]⟩ : ByteArray) (recsJ (is ++ [((is.length : Int), (datas.getD i.toNat ([] : List Int)))])) 0 ([⟨(⟨#[111, 116, 104, 101, 114]⟩ : ByteArray), (List.replicate h2.toNat (0 : Int)), 0⟩] : List PF) rm), Chunk.jour w.heap.size gd15 gj104 (⟨#[106]⟩ : ByteArray) SJ649 (is ++ [((is.length : Int), (datas.getD i.toNat ([] : List Int)))]) ((recsJ (is ++ [((is.length : Int), (datas.getD i.toNat ([] : List Int)))])).length : Int)] := Own.unbundle (A := []) (L := [Chunk.disk w.heap.size gd15 S650 (jdk (⟨#[106]⟩ : ByteArray) (recsJ (is ++ [((is.length : Int), (datas.getD i.toNat ([] : List Int)))])) 0 ([⟨(⟨#[111, 116, 104, 101, 114]⟩ : ByteArray), (List.replicate h2.toNat (0 : Int)), 0⟩] : List PF) rm), Chunk.jour w.heap.size gd15 gj104 (⟨#[106]⟩ : ByteArray) SJ649 (is ++ [((is.length : Int), (datas.getD i.toNat ([] : List Int)))]) ((recsJ (is ++ [((is.length : Int), (datas.getD i.toNat ([] : List Int)))])).length : Int)]) hb653
     clear O657 hb653
     clear H648 O638
     have hwn := wf_put' (hpf hfit) hw
     refine V H655 (op_assign rfl (H655.ev rfl)) ?_
     intro _ H659; clear H655
     refine wpList_nil ?_
     refine gw_nx (hK642 _ _ ?_)
     refine gw_seq fun K660 hK660 => ?_
     refine gw_seq fun K661 hK661 => ?_
     refine wp_region_lit ?_
     refine V H659 (op_move rfl (H659.ev rfl)) ?_
     intro _ H663; clear H659
     refine V H663 (op_eqi rfl (H663.ev rfl) (ev_c _ _)) ?_
     intro _ H665; clear H663
     have H666 := H665.lit (b := true) (by decide)
     clear H665
     refine wpList_nil ?_
     refine gw_nx (hK661 _ _ ?_)
     refine gw_cond H666 rfl (fun hb667 => ?_) (fun hb667 => ?_)
     rotate_left
     ·
      cases hb667
     refine gw_seq fun K668 hK668 => ?_
     refine wp_region_lit ?_
     refine V H666 (op_move rfl (H666.ev rfl)) ?_
     intro _ H670; clear H666
     refine V H670 (op_add rfl (H670.ev rfl) (ev_c _ _) (by omega)) ?_
     intro _ H672; clear H670
     have H673 := H672.conv (v' := J ((is ++ [((is.length : Int), (datas.getD i.toNat ([] : List Int)))]).length : Int)) (congrArg (Value.int .i64) (by rw [List.length_append]; rfl))
     clear H672
     refine V H673 (op_assign rfl (H673.ev rfl)) ?_
     intro _ H675; clear H673
     refine wpList_nil ?_
     refine gw_nx (hK668 _ _ ?_)
     refine wp_exit ?_
     refine gw_thx ?_
     refine gw_in ?_
     refine gw_nx (hK171 _ _ ?_)
     refine wp_region_lit ?_
     refine V H675 (op_add rfl (H675.ev rfl) (ev_c _ _) (by omega)) ?_
     intro _ H677; clear H675
     refine V H677 (op_move rfl (H677.ev rfl)) ?_
     intro _ H679; clear H677
     refine wpList_nil ?_
     refine gw_nx ⟨_, ?_, i + 1, (is ++ [((is.length : Int), (datas.getD i.toNat ([] : List Int)))]), rf, S650, SJ649, (H679.pick (t := 52) rfl (H679.pick (t := 9) rfl (H679.pick (t := 8) rfl (H679.pick (t := 1) rfl (H679.pick (t := 5) rfl (H679.pick (t := 6) rfl (H679.pick (t := 50) rfl (H679.pick (t := 51) rfl H679.nil)))))))), O656.sel [0, 1] (by decide), ?_, ?_, ?_, ?_, ?_, ?_, rfl⟩
     ·
      rw [hm164]; omega
     ·
      omega
     ·
      first | omega | (rw [List.length_append, List.length_singleton]; omega)
     ·
      first | exact hrf | exact .inr ⟨by omega, by omega, by omega⟩
     ·
      exact hjn
     ·
      exact hwn
     ·
      first | exact hul | (rw [recs_snoc, List.length_append]; omega)
    ·
     refine ⟨_, rfl, fun _ H655 => ?_⟩
     have O656 : Own w w652 [Chunk.disk w.heap.size gd15 S650 (jdk (⟨#[106]⟩ : ByteArray) (recsJ is) 0 ([⟨(⟨#[111, 116, 104, 101, 114]⟩ : ByteArray), (List.replicate h2.toNat (0 : Int)), 0⟩] : List PF) rm), Chunk.jour w.heap.size gd15 gj104 (⟨#[106]⟩ : ByteArray) SJ649 is ((recsJ is).length : Int)] := Own.unbundle (A := []) (L := [Chunk.disk w.heap.size gd15 S650 (jdk (⟨#[106]⟩ : ByteArray) (recsJ is) 0 ([⟨(⟨#[111, 116, 104, 101, 114]⟩ : ByteArray), (List.replicate h2.toNat (0 : Int)), 0⟩] : List PF) rm), Chunk.jour w.heap.size gd15 gj104 (⟨#[106]⟩ : ByteArray) SJ649 is ((recsJ is).length : Int)]) hb653
     clear O657 hb653
     clear H648 O638
     have hwn := hw
     refine V H655 (op_assign rfl (H655.ev rfl)) ?_
     intro _ H681; clear H655
     refine wpList_nil ?_
     refine gw_nx (hK642 _ _ ?_)
     refine gw_seq fun K682 hK682 => ?_
     refine gw_seq fun K683 hK683 => ?_
     refine wp_region_lit ?_
     refine V H681 (op_move rfl (H681.ev rfl)) ?_
     intro _ H685; clear H681
     refine V H685 (op_eqi rfl (H685.ev rfl) (ev_c _ _)) ?_
     intro _ H687; clear H685
     have H688 := H687.lit (b := false) (by decide)
     clear H687
     refine wpList_nil ?_
     refine gw_nx (hK683 _ _ ?_)
     refine gw_cond H688 rfl (fun hb689 => ?_) (fun hb689 => ?_)
     skip
     ·
      cases hb689
     refine wp_skip ?_
     refine gw_nx (hK682 _ _ ?_)
     refine gw_seq fun K690 hK690 => ?_
     refine gw_seq fun K691 hK691 => ?_
     refine wp_region_lit ?_
     refine V H688 (op_move rfl (H688.ev rfl)) ?_
     intro _ H693; clear H688
     refine V H693 (op_nei rfl (H693.ev rfl) (ev_c _ _)) ?_
     intro _ H695; clear H693
     have H696 := H695.lit (b := false) (by decide)
     clear H695
     refine V H696 (op_move rfl (H696.ev rfl)) ?_
     intro _ H698; clear H696
     refine V2 H698 (want_yes H698 rfl rfl rfl rfl) (op_move rfl (H698.ev rfl)) ?_
     intro _ H700; clear H698
     refine gw_call H700 (want_yes H700 rfl rfl rfl rfl) rfl (by decide) (op_callL Try.func37 (by kernel_rfl) rfl rfl (ar_cons (H700.ev rfl) ar_nil)) (size_calls w.heap.size gd15 gj104 (⟨#[106]⟩ : ByteArray) SJ649 is ((recsJ is).length : Int) _ (O656.get 1 rfl)) ?_
     rintro e701 w702 ⟨rfl, hb703⟩
     refine ⟨_, rfl, fun _ H705 => ?_⟩
     have O706 := O656.after hb703
     clear H700 O656 hb703
     refine V2 H705 (want_yes H705 rfl rfl rfl rfl) (op_move rfl (H705.ev rfl)) ?_
     intro _ H709; clear H705
     refine V2 H709 (want_yes H709 rfl rfl rfl rfl) (op_nei rfl (H709.ev rfl) (H709.ev rfl)) ?_
     intro _ H711; clear H709
     have H712 := H711.lit (b := false) (by simp)
     clear H711
     refine V H712 (op_pick_f rfl (H712.ev rfl) (H712.ev rfl)) ?_
     intro _ H714; clear H712
     refine V H714 (op_move rfl (H714.ev rfl)) ?_
     intro _ H716; clear H714
     refine V2 H716 (want_yes H716 rfl rfl rfl rfl) (op_move rfl (H716.ev rfl)) ?_
     intro _ H718; clear H716
     refine V2 H718 (want_yes H718 rfl rfl rfl rfl) (op_move rfl (H718.ev rfl)) ?_
     intro _ H720; clear H718
     refine gw_call H720 (want_yes H720 rfl rfl rfl rfl) rfl (by decide) (op_callL Try.func38 (by kernel_rfl) rfl rfl (ar_cons (H720.ev rfl) (ar_cons (H720.ev rfl) ar_nil))) ((by have h_ := has_calls w.heap.size gd15 gj104 (⟨#[106]⟩ : ByteArray) SJ649 is ((recsJ is).length : Int) _ (O706.get 1 rfl) (is.length : Int) (wf_i64 (by omega)); rw [show hasJ (is.length : Int) is = false from hj.has] at h_; exact h_)) ?_
     rintro e721 w722 ⟨rfl, hb723⟩
     refine ⟨_, rfl, fun _ H725 => ?_⟩
     have O726 := O706.after hb723
     clear H720 O706 hb723
     refine V H725 (op_pick_f rfl (H725.ev rfl) (H725.ev rfl)) ?_
     intro _ H729; clear H725
     refine V H729 (op_move rfl (H729.ev rfl)) ?_
     intro _ H731; clear H729
     refine V2 H731 (want_yes H731 rfl rfl rfl rfl) (op_move rfl (H731.ev rfl)) ?_
     intro _ H733; clear H731
     refine V2 H733 (want_yes H733 rfl rfl rfl rfl) (op_len Try.underlying28 rfl (H733.ev rfl)) ?_
     intro _ H735; clear H733
     refine V2 H735 (want_yes H735 rfl rfl rfl rfl) (op_add rfl (H735.ev rfl) (ev_c _ _) (by omega)) ?_
     intro _ H737; clear H735
     refine V2 H737 (want_yes H737 rfl rfl rfl rfl) (op_move rfl (H737.ev rfl)) ?_
     intro _ H739; clear H737
     refine gw_call H739 (want_yes H739 rfl rfl rfl rfl) rfl (by decide) (op_callL Try.func24 (by kernel_rfl) rfl rfl (ar_cons (H739.ev rfl) ar_nil)) (room_calls w.heap.size gd15 S650 (jdk (⟨#[106]⟩ : ByteArray) (recsJ is) 0 ([⟨(⟨#[111, 116, 104, 101, 114]⟩ : ByteArray), (List.replicate h2.toNat (0 : Int)), 0⟩] : List PF) rm) _ (O726.get 0 rfl) hwn) ?_
     rintro e740 w741 ⟨rfl, hb742⟩
     refine ⟨_, rfl, fun _ H744 => ?_⟩
     have O745 := O726.after hb742
     clear H739 O726 hb742
     have H747 := H744.conv (v' := J (rm - (((recsJ is).length : Int) + ((totF ([⟨(⟨#[111, 116, 104, 101, 114]⟩ : ByteArray), (List.replicate h2.toNat (0 : Int)), 0⟩] : List PF) : Nat) : Int)))) (rfl)
     clear H744
     refine V2 H747 (want_yes H747 rfl rfl rfl rfl) (op_leq rfl (H747.ev rfl) (H747.ev rfl)) ?_
     intro _ H749; clear H747
     have H750 := H749.lit (b := false) (by rw [decide_eq_false_iff_not]; omega)
     clear H749
     refine V H750 (op_pick_f rfl (H750.ev rfl) (H750.ev rfl)) ?_
     intro _ H752; clear H750
     refine wpList_nil ?_
     refine gw_nx (hK691 _ _ ?_)
     refine gw_cond H752 rfl (fun hb753 => ?_) (fun hb753 => ?_)
     skip
     ·
      cases hb753
     refine wp_skip ?_
     refine gw_nx (hK690 _ _ ?_)
     refine wp_region_lit ?_
     refine V H752 (op_move rfl (H752.ev rfl)) ?_
     intro _ H755; clear H752
     refine V H755 (op_assign rfl (H755.ev rfl)) ?_
     intro _ H757; clear H755
     refine wpList_nil ?_
     refine gw_blk ?_
     refine gw_nx (hK171 _ _ ?_)
     refine wp_region_lit ?_
     refine V H757 (op_add rfl (H757.ev rfl) (ev_c _ _) (by omega)) ?_
     intro _ H759; clear H757
     refine V H759 (op_move rfl (H759.ev rfl)) ?_
     intro _ H761; clear H759
     refine wpList_nil ?_
     refine gw_nx ⟨_, ?_, i + 1, is, i, S650, SJ649, (H761.pick (t := 52) rfl (H761.pick (t := 9) rfl (H761.pick (t := 8) rfl (H761.pick (t := 1) rfl (H761.pick (t := 5) rfl (H761.pick (t := 6) rfl (H761.pick (t := 50) rfl (H761.pick (t := 51) rfl H761.nil)))))))), O745.sel [0, 1] (by decide), ?_, ?_, ?_, ?_, ?_, ?_, rfl⟩
     ·
      rw [hm164]; omega
     ·
      omega
     ·
      first | omega | (rw [List.length_append, List.length_singleton]; omega)
     ·
      first | exact hrf | exact .inr ⟨by omega, by omega, by omega⟩
     ·
      exact hj
     ·
      exact hwn
     ·
      first | exact hul | (rw [recs_snoc, List.length_append]; omega)
  ·
   have H762 := H167.subst_ (d := 53) (b := false) rfl hb169
   clear H167
   (try simp only [decide_eq_false_iff_not, Int.not_lt] at hb169)
   refine wp_exit ?_
   refine gw_thx ?_
   refine gw_thx ?_
   refine gw_in ?_
   refine gw_nx (hK150 _ _ ?_)
   refine gw_seq fun K763 hK763 => ?_
   refine gw_seq fun K764 hK764 => ?_
   refine wp_region_lit ?_
   refine V H762 (op_move rfl (H762.ev rfl)) ?_
   intro _ H766; clear H762
   refine V H766 (op_lss rfl (H766.ev rfl) (ev_c _ _)) ?_
   intro _ H768; clear H766
   refine wpList_nil ?_
   refine gw_nx (hK764 _ _ ?_)
   refine gw_cond H768 rfl (fun hb769 => ?_) (fun hb769 => ?_)
   ·
    have H770 := H768.subst_ (d := 98) (b := true) rfl hb769
    clear H768
    (try simp only [decide_eq_true_eq] at hb769)
    refine gw_seq fun K771 hK771 => ?_
    refine wp_region_lit ?_
    refine V H770 (op_move rfl (H770.ev rfl)) ?_
    intro _ H773; clear H770
    refine gw_call H773 (want_none rfl) rfl (by decide) (op_callL Try.func35 (by kernel_rfl) rfl rfl (ar_cons (H773.ev rfl) ar_nil)) (keys_calls w.heap.size gd15 gj104 (⟨#[106]⟩ : ByteArray) Sj is ((recsJ is).length : Int) _ (by exact O163.get 1 rfl) (by omega)) ?_
    rintro e781 w782 ⟨A774, c775, S776, ks777, hkr778, hkp779, rfl, hb783⟩
    refine ⟨_, rfl, fun _ H785 => ?_⟩
    have O786 := O163.fresh hb783
    have hbel787 := O163.below
    clear H773 O163 hb783
    have O788 := O786.lowrow 0 rfl (base' := w.heap.size) (Below.size hbel787)
    have O789 : Own w w782 [Chunk.row (Kd.int .i64) 2 w.heap.size S776 (.slice A774 ks777.length c775) ks777, Chunk.disk w.heap.size gd15 Sd (jdk (⟨#[106]⟩ : ByteArray) (recsJ is) 0 ([⟨(⟨#[111, 116, 104, 101, 114]⟩ : ByteArray), (List.replicate h2.toNat (0 : Int)), 0⟩] : List PF) rm), Chunk.jour w.heap.size gd15 gj104 (⟨#[106]⟩ : ByteArray) Sj is ((recsJ is).length : Int)] := O788
    clear O788
    have hkl_ks777 := hkp779.length_eq
    rw [List.length_map] at hkl_ks777
    have hkn780 : ks777.length = is.length := hkl_ks777
    refine V H785 (op_len Try.underlying66 rfl (H785.ev rfl)) ?_
    intro _ H791; clear H785
    refine V H791 (op_move rfl (H791.ev rfl)) ?_
    intro _ H793; clear H791
    refine V H793 (op_eqi rfl (H793.ev rfl) (H793.ev rfl)) ?_
    intro _ H795; clear H793
    have H796 := H795.lit (b := true) (by simp [hkn780])
    clear H795
    refine V H796 (op_assign rfl (H796.ev rfl)) ?_
    intro _ H798; clear H796
    refine wpList_nil ?_
    refine gw_nx (hK771 _ _ ?_)
    refine wp_ret ?_
    refine gw_thr ?_
    refine gw_ret1 H798 rfl rfl ?_
    exact ⟨rfl, O789.below⟩
   ·
    have H799 := H768.subst_ (d := 98) (b := false) rfl hb769
    clear H768
    (try simp only [decide_eq_false_iff_not, Int.not_lt] at hb769)
    have hrf2 : 0 ≤ rf ∧ rf < datas.length ∧ (datas.getD rf.toNat ([] : List Int)).length ≤ 1000 := by omega
    refine wp_skip ?_
    refine gw_nx (hK763 _ _ ?_)
    refine gw_seq fun K800 hK800 => ?_
    refine gw_seq fun K801 hK801 => ?_
    refine wp_region_lit ?_
    refine V H799 (op_move rfl (H799.ev rfl)) ?_
    intro _ H803; clear H799
    have O812 : Own w _ [(Chunk.all [Chunk.jour w.heap.size gd15 gj104 (⟨#[106]⟩ : ByteArray) Sj is ((recsJ is).length : Int)]), Chunk.disk w.heap.size gd15 Sd (jdk (⟨#[106]⟩ : ByteArray) (recsJ is) 0 ([⟨(⟨#[111, 116, 104, 101, 114]⟩ : ByteArray), (List.replicate h2.toNat (0 : Int)), 0⟩] : List PF) rm)] := Own.bundle (A := [Chunk.jour w.heap.size gd15 gj104 (⟨#[106]⟩ : ByteArray) Sj is ((recsJ is).length : Int)]) (L := [Chunk.disk w.heap.size gd15 Sd (jdk (⟨#[106]⟩ : ByteArray) (recsJ is) 0 ([⟨(⟨#[111, 116, 104, 101, 114]⟩ : ByteArray), (List.replicate h2.toNat (0 : Int)), 0⟩] : List PF) rm)]) (O163.sel [1, 0] (by decide))
    refine gw_call H803 (want_none rfl) rfl (by decide) (op_callL Try.func20 (by kernel_rfl) rfl rfl (ar_cons (H803.ev rfl) (ar_cons (ev_c _ _) ar_nil))) ((by have h_ := remove_calls w _ (Chunk.all [Chunk.jour w.heap.size gd15 gj104 (⟨#[106]⟩ : ByteArray) Sj is ((recsJ is).length : Int)]) gd15 Sd (jdk (⟨#[106]⟩ : ByteArray) (recsJ is) 0 ([⟨(⟨#[111, 116, 104, 101, 114]⟩ : ByteArray), (List.replicate h2.toNat (0 : Int)), 0⟩] : List PF) rm) (⟨#[111, 116, 104, 101, 114]⟩ : ByteArray) hw (by decide) (by exact O812); rw [show (removeD (⟨#[111, 116, 104, 101, 114]⟩ : ByteArray) (jdk (⟨#[106]⟩ : ByteArray) (recsJ is) 0 ([⟨(⟨#[111, 116, 104, 101, 114]⟩ : ByteArray), (List.replicate h2.toNat (0 : Int)), 0⟩] : List PF) rm)) = ((jdk (⟨#[106]⟩ : ByteArray) (recsJ is) 0 [] rm), 0) from fu4] at h_; (try dsimp only at h_); exact h_)) ?_
    rintro e806 w807 ⟨rfl, S804, hb808⟩
    refine ⟨_, rfl, fun _ H810 => ?_⟩
    have O811 : Own w w807 [Chunk.jour w.heap.size gd15 gj104 (⟨#[106]⟩ : ByteArray) Sj is ((recsJ is).length : Int), Chunk.disk w.heap.size gd15 S804 (jdk (⟨#[106]⟩ : ByteArray) (recsJ is) 0 [] rm)] := Own.unbundle (A := [Chunk.jour w.heap.size gd15 gj104 (⟨#[106]⟩ : ByteArray) Sj is ((recsJ is).length : Int)]) (L := [Chunk.disk w.heap.size gd15 S804 (jdk (⟨#[106]⟩ : ByteArray) (recsJ is) 0 [] rm)]) (hb808.sel [0, 1] (by decide))
    clear O812
    clear H803 O163 hb808
    have O814 : Own w w807 [Chunk.jour w.heap.size gd15 gj104 (⟨#[106]⟩ : ByteArray) Sj is ((recsJ is).length : Int), Chunk.disk w.heap.size gd15 S804 (jdk (⟨#[106]⟩ : ByteArray) (recsJ is) 0 [] rm)] := O811
    clear O811
    have hwf805 : wfD (jdk (⟨#[106]⟩ : ByteArray) (recsJ is) 0 [] rm) := by have h_ : wfD (removeD (⟨#[111, 116, 104, 101, 114]⟩ : ByteArray) (jdk (⟨#[106]⟩ : ByteArray) (recsJ is) 0 ([⟨(⟨#[111, 116, 104, 101, 114]⟩ : ByteArray), (List.replicate h2.toNat (0 : Int)), 0⟩] : List PF) rm)).1 := wf_remove hw; rw [show (removeD (⟨#[111, 116, 104, 101, 114]⟩ : ByteArray) (jdk (⟨#[106]⟩ : ByteArray) (recsJ is) 0 ([⟨(⟨#[111, 116, 104, 101, 114]⟩ : ByteArray), (List.replicate h2.toNat (0 : Int)), 0⟩] : List PF) rm)) = ((jdk (⟨#[106]⟩ : ByteArray) (recsJ is) 0 [] rm), 0) from fu4] at h_; exact h_
    refine V H810 (op_nei rfl (H810.ev rfl) (ev_c _ _)) ?_
    intro _ H816; clear H810
    have H817 := H816.lit (b := false) (by decide)
    clear H816
    refine V H817 (op_move rfl (H817.ev rfl)) ?_
    intro _ H819; clear H817
    refine V2 H819 (want_yes H819 rfl rfl rfl rfl) (op_move rfl (H819.ev rfl)) ?_
    intro _ H821; clear H819
    refine gw_call H821 (want_yes H821 rfl rfl rfl rfl) rfl (by decide) (op_callL Try.func35 (by kernel_rfl) rfl rfl (ar_cons (H821.ev rfl) ar_nil)) (keys_calls w.heap.size gd15 gj104 (⟨#[106]⟩ : ByteArray) Sj is ((recsJ is).length : Int) _ (by exact O814.get 0 rfl) (by omega)) ?_
    rintro e829 w830 ⟨A822, c823, S824, ks825, hkr826, hkp827, rfl, hb831⟩
    refine ⟨_, rfl, fun _ H833 => ?_⟩
    have O834 := O814.fresh hb831
    have hbel835 := O814.below
    clear H821 O814 hb831
    have O836 := O834.lowrow 0 rfl (base' := w.heap.size) (Below.size hbel835)
    have O837 : Own w w830 [Chunk.row (Kd.int .i64) 2 w.heap.size S824 (.slice A822 ks825.length c823) ks825, Chunk.jour w.heap.size gd15 gj104 (⟨#[106]⟩ : ByteArray) Sj is ((recsJ is).length : Int), Chunk.disk w.heap.size gd15 S804 (jdk (⟨#[106]⟩ : ByteArray) (recsJ is) 0 [] rm)] := O836
    clear O836
    have hkl_ks825 := hkp827.length_eq
    rw [List.length_map] at hkl_ks825
    have hkn828 : ks825.length = is.length := hkl_ks825
    refine V2 H833 (want_yes H833 rfl rfl rfl rfl) (op_len Try.underlying66 rfl (H833.ev rfl)) ?_
    intro _ H839; clear H833
    refine V2 H839 (want_yes H839 rfl rfl rfl rfl) (op_move rfl (H839.ev rfl)) ?_
    intro _ H841; clear H839
    refine V2 H841 (want_yes H841 rfl rfl rfl rfl) (op_nei rfl (H841.ev rfl) (H841.ev rfl)) ?_
    intro _ H843; clear H841
    have H844 := H843.lit (b := false) (by simp [hkn828])
    clear H843
    refine V H844 (op_pick_f rfl (H844.ev rfl) (H844.ev rfl)) ?_
    intro _ H846; clear H844
    refine wpList_nil ?_
    refine gw_nx (hK801 _ _ ?_)
    refine gw_cond H846 rfl (fun hb847 => ?_) (fun hb847 => ?_)
    skip
    ·
     cases hb847
    refine wp_skip ?_
    refine gw_nx (hK800 _ _ ?_)
    refine gw_seq fun K848 hK848 => ?_
    refine gw_seq fun K849 hK849 => ?_
    refine gx_draw (M := []) (fun j_ => false) O837 (by kernel_rfl) fun w850 O851 => ?_
    clear O837
    refine gx_take 0 rfl (by kernel_rfl) H846 (by exact O851.sel [] (by decide)) (want_none rfl) rfl (by decide) (fun wq HO => (op_move rfl (H846.ev rfl))) ?_
    intro _ H853; clear H846
    refine gx_take 1 rfl (by kernel_rfl) H853 (by exact O851.sel [] (by decide)) (want_none rfl) rfl (by decide) (fun wq HO => (op_move rfl (H853.ev rfl))) ?_
    intro _ H855; clear H853
    obtain ⟨ad856, cs859, hA857, hl860, hK861, hc858⟩ := Kd.C_get hr1 ([] : List Int) rf (by omega) (by omega)
    obtain ⟨A862, c863, rfl, hl864, hC865⟩ := id hK861
    clear hl860
    refine gx_take 2 rfl (by kernel_rfl) H855 (by exact O851.sel [] (by decide)) (want_none rfl) rfl (by decide) (fun wq HO => (op_index Try.underlying22 gwsiz28 rfl (H855.ev rfl) (H855.ev rfl) hA857 (⟨by omega, by omega⟩))) ?_
    intro _ H867; clear H855
    refine gx_take 3 rfl (by kernel_rfl) H867 (by exact O851.sel [] (by decide)) (want_none rfl) rfl (by decide) (fun wq HO => (op_load1 gwagg28 rfl (H867.ev rfl) (HO.cell0 (at0 hc858)))) ?_
    intro _ H869; clear H867
    refine gx_take 4 rfl (by kernel_rfl) H869 (by exact O851.sel [] (by decide)) (want_none rfl) rfl (by decide) (fun wq HO => (op_len Try.underlying28 rfl (H869.ev rfl))) ?_
    intro _ H871; clear H869
    refine gx_take 5 rfl (by kernel_rfl) H871 (by exact O851.sel [] (by decide)) (want_none rfl) rfl (by decide) (fun wq HO => (op_add rfl (H871.ev rfl) (ev_c _ _) (by omega))) ?_
    intro _ H873; clear H871
    refine gx_take 6 rfl (by kernel_rfl) H873 (by exact O851.sel [] (by decide)) (want_none rfl) rfl (by decide) (fun wq HO => (op_move rfl (H873.ev rfl))) ?_
    intro _ H875; clear H873
    refine gx_step 7 rfl (by kernel_rfl) ?_
    refine gw_call H875 (want_none rfl) rfl (by decide) (op_callL Try.func24 (by kernel_rfl) rfl rfl (ar_cons (H875.ev rfl) ar_nil)) (room_calls w.heap.size gd15 S804 (jdk (⟨#[106]⟩ : ByteArray) (recsJ is) 0 [] rm) _ (O851.get 2 rfl) hwf805) ?_
    rintro e876 w877 ⟨rfl, hb878⟩
    refine ⟨_, rfl, fun _ H880 => ?_⟩
    have O881 := O851.after hb878
    clear H875 O851 hb878
    have H883 := H880.conv (v' := J (rm - (((recsJ is).length : Int) + ((totF [] : Nat) : Int)))) (rfl)
    clear H880
    refine gx_on (i := 7) (B := (fun j_ => false)) (M := []) (fun _ => (by exact O881.sel [] (by decide))) ?_
    refine gx_take 8 rfl (by kernel_rfl) H883 (by exact O881.sel [] (by decide)) (want_none rfl) rfl (by decide) (fun wq HO => (op_leq rfl (H883.ev rfl) (H883.ev rfl))) ?_
    intro _ H885; clear H883
    refine gx_take 9 rfl (by kernel_rfl) H885 (by exact O881.sel [] (by decide)) (want_none rfl) rfl (by decide) (fun wq HO => (op_move rfl (H885.ev rfl))) ?_
    intro _ H887; clear H885
    rcases Bool.eq_false_or_eq_true (decide (((((datas.getD rf.toNat ([] : List Int)).length) : Int) + 10) ≤ (rm - (((recsJ is).length : Int) + ((totF [] : Nat) : Int))))) with hb888 | hb888
    ·
     have H889 := H887.subst_ (d := 123) (b := true) rfl hb888
     clear H887
     (try simp only [decide_eq_true_eq] at hb888)
     refine gx_take 10 rfl (by kernel_rfl) H889 (by exact O881.sel [] (by decide)) (want_yes H889 rfl rfl rfl rfl) rfl (by decide) (fun wq HO => (op_move rfl (H889.ev rfl))) ?_
     intro _ H891; clear H889
     refine gx_take 11 rfl (by kernel_rfl) H891 (by exact O881.sel [] (by decide)) (want_yes H891 rfl rfl rfl rfl) rfl (by decide) (fun wq HO => (op_move rfl (H891.ev rfl))) ?_
     intro _ H893; clear H891
     refine gx_take 12 rfl (by kernel_rfl) H893 (by exact O881.sel [] (by decide)) (want_yes H893 rfl rfl rfl rfl) rfl (by decide) (fun wq HO => (op_move rfl (H893.ev rfl))) ?_
     intro _ H895; clear H893
     refine gx_take 13 rfl (by kernel_rfl) H895 (by exact O881.sel [] (by decide)) (want_yes H895 rfl rfl rfl rfl) rfl (by decide) (fun wq HO => (op_move rfl (H895.ev rfl))) ?_
     intro _ H897; clear H895
     obtain ⟨ad898, cs901, hA899, hl902, hK903, hc900⟩ := Kd.C_get hr1 ([] : List Int) rf (by omega) (by omega)
     obtain ⟨A904, c905, rfl, hl906, hC907⟩ := id hK903
     clear hl902
     refine gx_take 14 rfl (by kernel_rfl) H897 (by exact O881.sel [] (by decide)) (want_yes H897 rfl rfl rfl rfl) rfl (by decide) (fun wq HO => (op_index Try.underlying22 gwsiz28 rfl (H897.ev rfl) (H897.ev rfl) hA899 (⟨by omega, by omega⟩))) ?_
     intro _ H909; clear H897
     refine gx_take 15 rfl (by kernel_rfl) H909 (by exact O881.sel [] (by decide)) (want_yes H909 rfl rfl rfl rfl) rfl (by decide) (fun wq HO => (op_load1 gwagg28 rfl (H909.ev rfl) (HO.cell0 (at0 hc900)))) ?_
     intro _ H911; clear H909
     refine gx_step 16 rfl (by kernel_rfl) ?_
     have hjn : JL (is ++ [((is.length : Int), (datas.getD rf.toNat ([] : List Int)))]) := hj.snoc (by omega) (by omega) (byte_getDL hB _)
     have hrs := rec_small (b := (datas.getD rf.toNat ([] : List Int))) (show is.length ≤ 100 by omega)
     have hrn : (recsJ (is ++ [((is.length : Int), (datas.getD rf.toNat ([] : List Int)))])).length = (recsJ is).length + (recI ((is.length : Int), (datas.getD rf.toNat ([] : List Int)))).length := by rw [recs_snoc, List.length_append]
     have heq915 : putJ (⟨#[106]⟩ : ByteArray) (is.length : Int) (datas.getD rf.toNat ([] : List Int)) is ((recsJ is).length : Int) (jdk (⟨#[106]⟩ : ByteArray) (recsJ is) 0 [] rm) = (((jdk (⟨#[106]⟩ : ByteArray) (recsJ (is ++ [((is.length : Int), (datas.getD rf.toNat ([] : List Int)))])) 0 [] rm), 0), ((is ++ [((is.length : Int), (datas.getD rf.toNat ([] : List Int)))]), ((recsJ (is ++ [((is.length : Int), (datas.getD rf.toNat ([] : List Int)))])).length : Int))) := full_put (fun g_ hg_ => by simp at hg_) ⟨by omega, by omega⟩ (by omega) hj.has (by rw [hrs, h0t]; omega)
     have O922 : Own w _ [(Chunk.all [Chunk.row (Kd.int .i64) 2 w.heap.size S824 (.slice A822 ks825.length c823) ks825]), Chunk.disk w.heap.size gd15 S804 (jdk (⟨#[106]⟩ : ByteArray) (recsJ is) 0 [] rm), Chunk.jour w.heap.size gd15 gj104 (⟨#[106]⟩ : ByteArray) Sj is ((recsJ is).length : Int)] := Own.bundle (A := [Chunk.row (Kd.int .i64) 2 w.heap.size S824 (.slice A822 ks825.length c823) ks825]) (L := [Chunk.disk w.heap.size gd15 S804 (jdk (⟨#[106]⟩ : ByteArray) (recsJ is) 0 [] rm), Chunk.jour w.heap.size gd15 gj104 (⟨#[106]⟩ : ByteArray) Sj is ((recsJ is).length : Int)]) (O881.sel [0, 2, 1] (by decide))
     refine gw_call H911 (want_yes H911 rfl rfl rfl rfl) rfl (by decide) (op_callL Try.func33 (by kernel_rfl) rfl rfl (ar_cons (H911.ev rfl) (ar_cons (H911.ev rfl) (ar_cons (H911.ev rfl) ar_nil)))) (put_is heq915 hwf805 (by decide) (wf_i64 (by omega)) (fun w_ h_ => Kd.C_below hC907 h_.below) hl906 (byte_getDL hB _) (by omega) (used_le (by omega)) (by omega) ⟨by omega, by omega⟩ (by exact O922)) ?_
     rintro e916 w917 ⟨rfl, S913, SJ912, hb918⟩
     refine ⟨_, rfl, fun _ H920 => ?_⟩
     have O921 : Own w w917 [Chunk.row (Kd.int .i64) 2 w.heap.size S824 (.slice A822 ks825.length c823) ks825, Chunk.disk w.heap.size gd15 S913 (jdk (⟨#[106]⟩ : ByteArray) (recsJ (is ++ [((is.length : Int), (datas.getD rf.toNat ([] : List Int)))])) 0 [] rm), Chunk.jour w.heap.size gd15 gj104 (⟨#[106]⟩ : ByteArray) SJ912 (is ++ [((is.length : Int), (datas.getD rf.toNat ([] : List Int)))]) ((recsJ (is ++ [((is.length : Int), (datas.getD rf.toNat ([] : List Int)))])).length : Int)] := Own.unbundle (A := [Chunk.row (Kd.int .i64) 2 w.heap.size S824 (.slice A822 ks825.length c823) ks825]) (L := [Chunk.disk w.heap.size gd15 S913 (jdk (⟨#[106]⟩ : ByteArray) (recsJ (is ++ [((is.length : Int), (datas.getD rf.toNat ([] : List Int)))])) 0 [] rm), Chunk.jour w.heap.size gd15 gj104 (⟨#[106]⟩ : ByteArray) SJ912 (is ++ [((is.length : Int), (datas.getD rf.toNat ([] : List Int)))]) ((recsJ (is ++ [((is.length : Int), (datas.getD rf.toNat ([] : List Int)))])).length : Int)]) (hb918.sel [0, 1, 2] (by decide))
     clear O922
     clear H911 O881 hb918
     have O924 : Own w w917 [Chunk.row (Kd.int .i64) 2 w.heap.size S824 (.slice A822 ks825.length c823) ks825, Chunk.disk w.heap.size gd15 S913 (jdk (⟨#[106]⟩ : ByteArray) (recsJ (is ++ [((is.length : Int), (datas.getD rf.toNat ([] : List Int)))])) 0 [] rm), Chunk.jour w.heap.size gd15 gj104 (⟨#[106]⟩ : ByteArray) SJ912 (is ++ [((is.length : Int), (datas.getD rf.toNat ([] : List Int)))]) ((recsJ (is ++ [((is.length : Int), (datas.getD rf.toNat ([] : List Int)))])).length : Int)] := O921
     clear O921
     have hwf914 : wfD (jdk (⟨#[106]⟩ : ByteArray) (recsJ (is ++ [((is.length : Int), (datas.getD rf.toNat ([] : List Int)))])) 0 [] rm) := wf_put' heq915 hwf805
     refine gx_on (i := 16) (B := (fun j_ => false)) (M := []) (fun _ => (by exact O924.sel [] (by decide))) ?_
     refine gx_take 17 rfl (by kernel_rfl) H920 (by exact O924.sel [] (by decide)) (want_yes H920 rfl rfl rfl rfl) rfl (by decide) (fun wq HO => (op_nei rfl (H920.ev rfl) (ev_c _ _))) ?_
     intro _ H926; clear H920
     have H927 := H926.lit (b := false) (by decide)
     clear H926
     refine gx_take 18 rfl (by kernel_rfl) H927 (by exact O924.sel [] (by decide)) (want_none rfl) rfl (by decide) (fun wq HO => (op_pick_t rfl (H927.ev rfl) (H927.ev rfl))) ?_
     intro _ H929; clear H927
     refine gx_done (by kernel_rfl) ?_
     refine gw_nx (hK849 _ _ ?_)
     refine gw_cond H929 rfl (fun hb930 => ?_) (fun hb930 => ?_)
     skip
     ·
      cases hb930
     refine wp_skip ?_
     refine gw_nx (hK848 _ _ ?_)
     refine gw_seq fun K931 hK931 => ?_
     refine wp_region_lit ?_
     refine V H929 (op_move rfl (H929.ev rfl)) ?_
     intro _ H933; clear H929
     have heq938 : openJ (⟨#[106]⟩ : ByteArray) (jdk (⟨#[106]⟩ : ByteArray) (recsJ (is ++ [((is.length : Int), (datas.getD rf.toNat ([] : List Int)))])) 0 [] rm) = (((jdk (⟨#[106]⟩ : ByteArray) (recsJ (is ++ [((is.length : Int), (datas.getD rf.toNat ([] : List Int)))])) ((recsJ (is ++ [((is.length : Int), (datas.getD rf.toNat ([] : List Int)))])).length : Int) [] rm), 0), ((is ++ [((is.length : Int), (datas.getD rf.toNat ([] : List Int)))]), ((recsJ (is ++ [((is.length : Int), (datas.getD rf.toNat ([] : List Int)))])).length : Int))) := jd_reopen_all (fun g_ hg_ => by simp at hg_) hjn.ok hjn.once ⟨by omega, by omega⟩
     have O945 : Own w _ [(Chunk.all [Chunk.row (Kd.int .i64) 2 w.heap.size S824 (.slice A822 ks825.length c823) ks825, Chunk.jour w.heap.size gd15 gj104 (⟨#[106]⟩ : ByteArray) SJ912 (is ++ [((is.length : Int), (datas.getD rf.toNat ([] : List Int)))]) ((recsJ (is ++ [((is.length : Int), (datas.getD rf.toNat ([] : List Int)))])).length : Int)]), Chunk.disk w.heap.size gd15 S913 (jdk (⟨#[106]⟩ : ByteArray) (recsJ (is ++ [((is.length : Int), (datas.getD rf.toNat ([] : List Int)))])) 0 [] rm)] := Own.bundle (A := [Chunk.row (Kd.int .i64) 2 w.heap.size S824 (.slice A822 ks825.length c823) ks825, Chunk.jour w.heap.size gd15 gj104 (⟨#[106]⟩ : ByteArray) SJ912 (is ++ [((is.length : Int), (datas.getD rf.toNat ([] : List Int)))]) ((recsJ (is ++ [((is.length : Int), (datas.getD rf.toNat ([] : List Int)))])).length : Int)]) (L := [Chunk.disk w.heap.size gd15 S913 (jdk (⟨#[106]⟩ : ByteArray) (recsJ (is ++ [((is.length : Int), (datas.getD rf.toNat ([] : List Int)))])) 0 [] rm)]) (O924.sel [0, 2, 1] (by decide))
     refine gw_call H933 (want_none rfl) rfl (by decide) (op_callL Try.func32 (by kernel_rfl) rfl rfl (ar_cons (H933.ev rfl) (ar_cons (ev_c _ _) ar_nil))) (open_ok heq938 hwf914 (by decide) (by show 1 ≤ 1000000; decide) (used_le (by omega)) (jd_byte (recs_byte hjn.ok)) (by exact O945)) ?_
     rintro e939 w940 ⟨gj934, SJ935, S936, rfl, hb941⟩
     refine ⟨_, rfl, fun _ H943 => ?_⟩
     have O944 : Own w w940 [Chunk.row (Kd.int .i64) 2 w.heap.size S824 (.slice A822 ks825.length c823) ks825, Chunk.jour w.heap.size gd15 gj104 (⟨#[106]⟩ : ByteArray) SJ912 (is ++ [((is.length : Int), (datas.getD rf.toNat ([] : List Int)))]) ((recsJ (is ++ [((is.length : Int), (datas.getD rf.toNat ([] : List Int)))])).length : Int), Chunk.disk w.heap.size gd15 S936 (jdk (⟨#[106]⟩ : ByteArray) (recsJ (is ++ [((is.length : Int), (datas.getD rf.toNat ([] : List Int)))])) ((recsJ (is ++ [((is.length : Int), (datas.getD rf.toNat ([] : List Int)))])).length : Int) [] rm), Chunk.jour w.heap.size gd15 gj934 (⟨#[106]⟩ : ByteArray) SJ935 (is ++ [((is.length : Int), (datas.getD rf.toNat ([] : List Int)))]) ((recsJ (is ++ [((is.length : Int), (datas.getD rf.toNat ([] : List Int)))])).length : Int)] := Own.unbundle (A := [Chunk.row (Kd.int .i64) 2 w.heap.size S824 (.slice A822 ks825.length c823) ks825, Chunk.jour w.heap.size gd15 gj104 (⟨#[106]⟩ : ByteArray) SJ912 (is ++ [((is.length : Int), (datas.getD rf.toNat ([] : List Int)))]) ((recsJ (is ++ [((is.length : Int), (datas.getD rf.toNat ([] : List Int)))])).length : Int)]) (L := [Chunk.disk w.heap.size gd15 S936 (jdk (⟨#[106]⟩ : ByteArray) (recsJ (is ++ [((is.length : Int), (datas.getD rf.toNat ([] : List Int)))])) ((recsJ (is ++ [((is.length : Int), (datas.getD rf.toNat ([] : List Int)))])).length : Int) [] rm), Chunk.jour w.heap.size gd15 gj934 (⟨#[106]⟩ : ByteArray) SJ935 (is ++ [((is.length : Int), (datas.getD rf.toNat ([] : List Int)))]) ((recsJ (is ++ [((is.length : Int), (datas.getD rf.toNat ([] : List Int)))])).length : Int)]) (hb941.sel [0, 1, 2] (by decide))
     clear O945
     clear H933 O924 hb941
     have O947 : Own w w940 [Chunk.row (Kd.int .i64) 2 w.heap.size S824 (.slice A822 ks825.length c823) ks825, Chunk.jour w.heap.size gd15 gj104 (⟨#[106]⟩ : ByteArray) SJ912 (is ++ [((is.length : Int), (datas.getD rf.toNat ([] : List Int)))]) ((recsJ (is ++ [((is.length : Int), (datas.getD rf.toNat ([] : List Int)))])).length : Int), Chunk.disk w.heap.size gd15 S936 (jdk (⟨#[106]⟩ : ByteArray) (recsJ (is ++ [((is.length : Int), (datas.getD rf.toNat ([] : List Int)))])) ((recsJ (is ++ [((is.length : Int), (datas.getD rf.toNat ([] : List Int)))])).length : Int) [] rm), Chunk.jour w.heap.size gd15 gj934 (⟨#[106]⟩ : ByteArray) SJ935 (is ++ [((is.length : Int), (datas.getD rf.toNat ([] : List Int)))]) ((recsJ (is ++ [((is.length : Int), (datas.getD rf.toNat ([] : List Int)))])).length : Int)] := O944
     clear O944
     have hwf937 : wfD (jdk (⟨#[106]⟩ : ByteArray) (recsJ (is ++ [((is.length : Int), (datas.getD rf.toNat ([] : List Int)))])) ((recsJ (is ++ [((is.length : Int), (datas.getD rf.toNat ([] : List Int)))])).length : Int) [] rm) := wf_open' heq938 hwf914
     refine V H943 (op_move rfl (H943.ev rfl)) ?_
     intro _ H949; clear H943
     refine V H949 (op_extract rfl (H949.ev rfl) rfl) ?_
     intro _ H951; clear H949
     refine V H951 (op_extract rfl (H951.ev rfl) rfl) ?_
     intro _ H953; clear H951
     refine V H953 (op_assign rfl (H953.ev rfl)) ?_
     intro _ H955; clear H953
     refine V H955 (op_assign rfl (H955.ev rfl)) ?_
     intro _ H957; clear H955
     refine wpList_nil ?_
     refine gw_nx (hK931 _ _ ?_)
     refine gw_seq fun K958 hK958 => ?_
     refine wp_region_lit ?_
     refine V H957 (op_move rfl (H957.ev rfl)) ?_
     intro _ H960; clear H957
     refine V H960 (op_eqi rfl (H960.ev rfl) (ev_c _ _)) ?_
     intro _ H962; clear H960
     have H963 := H962.lit (b := true) (by decide)
     clear H962
     refine V H963 (op_move rfl (H963.ev rfl)) ?_
     intro _ H965; clear H963
     refine V2 H965 (want_yes H965 rfl rfl rfl rfl) (op_move rfl (H965.ev rfl)) ?_
     intro _ H967; clear H965
     refine V2 H967 (want_yes H967 rfl rfl rfl rfl) (op_nep_nil Try.underlying61 rfl (H967.ev rfl)) ?_
     intro _ H969; clear H967
     refine V H969 (op_pick_t rfl (H969.ev rfl) (H969.ev rfl)) ?_
     intro _ H971; clear H969
     refine V H971 (op_move rfl (H971.ev rfl)) ?_
     intro _ H973; clear H971
     refine V2 H973 (want_yes H973 rfl rfl rfl rfl) (op_move rfl (H973.ev rfl)) ?_
     intro _ H975; clear H973
     refine gw_call H975 (want_yes H975 rfl rfl rfl rfl) rfl (by decide) (op_callL Try.func35 (by kernel_rfl) rfl rfl (ar_cons (H975.ev rfl) ar_nil)) (keys_calls w.heap.size gd15 gj934 (⟨#[106]⟩ : ByteArray) SJ935 (is ++ [((is.length : Int), (datas.getD rf.toNat ([] : List Int)))]) ((recsJ (is ++ [((is.length : Int), (datas.getD rf.toNat ([] : List Int)))])).length : Int) _ (by exact O947.get 3 rfl) (by rw [List.length_append, List.length_singleton]; omega)) ?_
     rintro e983 w984 ⟨A976, c977, S978, ks979, hkr980, hkp981, rfl, hb985⟩
     refine ⟨_, rfl, fun _ H987 => ?_⟩
     have O988 := O947.fresh hb985
     have hbel989 := O947.below
     clear H975 O947 hb985
     have O990 := O988.lowrow 0 rfl (base' := w.heap.size) (Below.size hbel989)
     have O991 : Own w w984 [Chunk.row (Kd.int .i64) 2 w.heap.size S978 (.slice A976 ks979.length c977) ks979, Chunk.row (Kd.int .i64) 2 w.heap.size S824 (.slice A822 ks825.length c823) ks825, Chunk.jour w.heap.size gd15 gj104 (⟨#[106]⟩ : ByteArray) SJ912 (is ++ [((is.length : Int), (datas.getD rf.toNat ([] : List Int)))]) ((recsJ (is ++ [((is.length : Int), (datas.getD rf.toNat ([] : List Int)))])).length : Int), Chunk.disk w.heap.size gd15 S936 (jdk (⟨#[106]⟩ : ByteArray) (recsJ (is ++ [((is.length : Int), (datas.getD rf.toNat ([] : List Int)))])) ((recsJ (is ++ [((is.length : Int), (datas.getD rf.toNat ([] : List Int)))])).length : Int) [] rm), Chunk.jour w.heap.size gd15 gj934 (⟨#[106]⟩ : ByteArray) SJ935 (is ++ [((is.length : Int), (datas.getD rf.toNat ([] : List Int)))]) ((recsJ (is ++ [((is.length : Int), (datas.getD rf.toNat ([] : List Int)))])).length : Int)] := O990
     clear O990
     have hkl_ks979 := hkp981.length_eq
     rw [List.length_map] at hkl_ks979
     have hkn982 : ks979.length = (is ++ [((is.length : Int), (datas.getD rf.toNat ([] : List Int)))]).length := hkl_ks979
     refine V2 H987 (want_yes H987 rfl rfl rfl rfl) (op_len Try.underlying66 rfl (H987.ev rfl)) ?_
     intro _ H993; clear H987
     refine V2 H993 (want_yes H993 rfl rfl rfl rfl) (op_move rfl (H993.ev rfl)) ?_
     intro _ H995; clear H993
     refine gw_call H995 (want_yes H995 rfl rfl rfl rfl) rfl (by decide) (op_callL Try.func35 (by kernel_rfl) rfl rfl (ar_cons (H995.ev rfl) ar_nil)) (keys_calls w.heap.size gd15 gj104 (⟨#[106]⟩ : ByteArray) SJ912 (is ++ [((is.length : Int), (datas.getD rf.toNat ([] : List Int)))]) ((recsJ (is ++ [((is.length : Int), (datas.getD rf.toNat ([] : List Int)))])).length : Int) _ (by exact O991.get 2 rfl) (by rw [List.length_append, List.length_singleton]; omega)) ?_
     rintro e1003 w1004 ⟨A996, c997, S998, ks999, hkr1000, hkp1001, rfl, hb1005⟩
     refine ⟨_, rfl, fun _ H1007 => ?_⟩
     have O1008 := O991.fresh hb1005
     have hbel1009 := O991.below
     clear H995 O991 hb1005
     have O1010 := O1008.lowrow 0 rfl (base' := w.heap.size) (Below.size hbel1009)
     have O1011 : Own w w1004 [Chunk.row (Kd.int .i64) 2 w.heap.size S998 (.slice A996 ks999.length c997) ks999, Chunk.row (Kd.int .i64) 2 w.heap.size S978 (.slice A976 ks979.length c977) ks979, Chunk.row (Kd.int .i64) 2 w.heap.size S824 (.slice A822 ks825.length c823) ks825, Chunk.jour w.heap.size gd15 gj104 (⟨#[106]⟩ : ByteArray) SJ912 (is ++ [((is.length : Int), (datas.getD rf.toNat ([] : List Int)))]) ((recsJ (is ++ [((is.length : Int), (datas.getD rf.toNat ([] : List Int)))])).length : Int), Chunk.disk w.heap.size gd15 S936 (jdk (⟨#[106]⟩ : ByteArray) (recsJ (is ++ [((is.length : Int), (datas.getD rf.toNat ([] : List Int)))])) ((recsJ (is ++ [((is.length : Int), (datas.getD rf.toNat ([] : List Int)))])).length : Int) [] rm), Chunk.jour w.heap.size gd15 gj934 (⟨#[106]⟩ : ByteArray) SJ935 (is ++ [((is.length : Int), (datas.getD rf.toNat ([] : List Int)))]) ((recsJ (is ++ [((is.length : Int), (datas.getD rf.toNat ([] : List Int)))])).length : Int)] := O1010
     clear O1010
     have hkl_ks999 := hkp1001.length_eq
     rw [List.length_map] at hkl_ks999
     have hkn1002 : ks999.length = (is ++ [((is.length : Int), (datas.getD rf.toNat ([] : List Int)))]).length := hkl_ks999
     refine V2 H1007 (want_yes H1007 rfl rfl rfl rfl) (op_len Try.underlying66 rfl (H1007.ev rfl)) ?_
     intro _ H1013; clear H1007
     refine V2 H1013 (want_yes H1013 rfl rfl rfl rfl) (op_eqi rfl (H1013.ev rfl) (H1013.ev rfl)) ?_
     intro _ H1015; clear H1013
     have H1016 := H1015.lit (b := true) (by simp [hkn828, hkn982, hkn1002])
     clear H1015
     refine V H1016 (op_pick_t rfl (H1016.ev rfl) (H1016.ev rfl)) ?_
     intro _ H1018; clear H1016
     refine V H1018 (op_move rfl (H1018.ev rfl)) ?_
     intro _ H1020; clear H1018
     refine V2 H1020 (want_yes H1020 rfl rfl rfl rfl) (op_move rfl (H1020.ev rfl)) ?_
     intro _ H1022; clear H1020
     refine gw_call H1022 (want_yes H1022 rfl rfl rfl rfl) rfl (by decide) (op_callL Try.func37 (by kernel_rfl) rfl rfl (ar_cons (H1022.ev rfl) ar_nil)) (size_calls w.heap.size gd15 gj934 (⟨#[106]⟩ : ByteArray) SJ935 (is ++ [((is.length : Int), (datas.getD rf.toNat ([] : List Int)))]) ((recsJ (is ++ [((is.length : Int), (datas.getD rf.toNat ([] : List Int)))])).length : Int) _ (O1011.get 5 rfl)) ?_
     rintro e1023 w1024 ⟨rfl, hb1025⟩
     refine ⟨_, rfl, fun _ H1027 => ?_⟩
     have O1028 := O1011.after hb1025
     clear H1022 O1011 hb1025
     refine V2 H1027 (want_yes H1027 rfl rfl rfl rfl) (op_move rfl (H1027.ev rfl)) ?_
     intro _ H1031; clear H1027
     refine gw_call H1031 (want_yes H1031 rfl rfl rfl rfl) rfl (by decide) (op_callL Try.func37 (by kernel_rfl) rfl rfl (ar_cons (H1031.ev rfl) ar_nil)) (size_calls w.heap.size gd15 gj104 (⟨#[106]⟩ : ByteArray) SJ912 (is ++ [((is.length : Int), (datas.getD rf.toNat ([] : List Int)))]) ((recsJ (is ++ [((is.length : Int), (datas.getD rf.toNat ([] : List Int)))])).length : Int) _ (O1028.get 3 rfl)) ?_
     rintro e1032 w1033 ⟨rfl, hb1034⟩
     refine ⟨_, rfl, fun _ H1036 => ?_⟩
     have O1037 := O1028.after hb1034
     clear H1031 O1028 hb1034
     refine V2 H1036 (want_yes H1036 rfl rfl rfl rfl) (op_eqi rfl (H1036.ev rfl) (H1036.ev rfl)) ?_
     intro _ H1040; clear H1036
     have H1041 := H1040.lit (b := true) (by simp)
     clear H1040
     refine V H1041 (op_pick_t rfl (H1041.ev rfl) (H1041.ev rfl)) ?_
     intro _ H1043; clear H1041
     refine V H1043 (op_assign rfl (H1043.ev rfl)) ?_
     intro _ H1045; clear H1043
     refine wpList_nil ?_
     refine gw_nx (hK958 _ _ ?_)
     refine wp_ret ?_
     refine gw_ret1 H1045 rfl rfl ?_
     exact ⟨rfl, O1037.below⟩
    ·
     have H1046 := H887.subst_ (d := 123) (b := false) rfl hb888
     clear H887
     (try simp only [decide_eq_false_iff_not, Int.not_le] at hb888)
     refine gx_take_off 10 rfl (by kernel_rfl) H1046 (by exact O881.sel [] (by decide)) (wn H1046 rfl rfl rfl rfl) rfl (by decide) ?_
     intro _ H1048; clear H1046
     refine gx_take_off 11 rfl (by kernel_rfl) H1048 (by exact O881.sel [] (by decide)) (wn H1048 rfl rfl rfl rfl) rfl (by decide) ?_
     intro _ H1050; clear H1048
     refine gx_take_off 12 rfl (by kernel_rfl) H1050 (by exact O881.sel [] (by decide)) (wn H1050 rfl rfl rfl rfl) rfl (by decide) ?_
     intro _ H1052; clear H1050
     refine gx_take_off 13 rfl (by kernel_rfl) H1052 (by exact O881.sel [] (by decide)) (wn H1052 rfl rfl rfl rfl) rfl (by decide) ?_
     intro _ H1054; clear H1052
     refine gx_take_off 14 rfl (by kernel_rfl) H1054 (by exact O881.sel [] (by decide)) (wn H1054 rfl rfl rfl rfl) rfl (by decide) ?_
     intro _ H1056; clear H1054
     refine gx_take_off 15 rfl (by kernel_rfl) H1056 (by exact O881.sel [] (by decide)) (wn H1056 rfl rfl rfl rfl) rfl (by decide) ?_
     intro _ H1058; clear H1056
     refine gx_step 16 rfl (by kernel_rfl) ?_
     refine Vo H1058 (wn H1058 rfl rfl rfl rfl) ?_
     intro _ H1060; clear H1058
     refine gx_on (i := 16) (B := (fun j_ => false)) (M := []) (fun _ => (by exact O881.sel [] (by decide))) ?_
     refine gx_take_off 17 rfl (by kernel_rfl) H1060 (by exact O881.sel [] (by decide)) (wn H1060 rfl rfl rfl rfl) rfl (by decide) ?_
     intro _ H1062; clear H1060
     refine gx_take 18 rfl (by kernel_rfl) H1062 (by exact O881.sel [] (by decide)) (want_none rfl) rfl (by decide) (fun wq HO => (op_pick_f rfl (H1062.ev rfl) (ev_c _ _))) ?_
     intro _ H1064; clear H1062
     refine gx_done (by kernel_rfl) ?_
     refine gw_nx (hK849 _ _ ?_)
     refine gw_cond H1064 rfl (fun hb1065 => ?_) (fun hb1065 => ?_)
     skip
     ·
      cases hb1065
     refine wp_skip ?_
     refine gw_nx (hK848 _ _ ?_)
     refine gw_seq fun K1066 hK1066 => ?_
     refine wp_region_lit ?_
     refine V H1064 (op_move rfl (H1064.ev rfl)) ?_
     intro _ H1068; clear H1064
     have heq1073 : openJ (⟨#[106]⟩ : ByteArray) (jdk (⟨#[106]⟩ : ByteArray) (recsJ is) 0 [] rm) = (((jdk (⟨#[106]⟩ : ByteArray) (recsJ is) ((recsJ is).length : Int) [] rm), 0), (is, ((recsJ is).length : Int))) := jd_reopen_all (fun g_ hg_ => by simp at hg_) hj.ok hj.once ⟨by omega, by omega⟩
     have O1080 : Own w _ [(Chunk.all [Chunk.row (Kd.int .i64) 2 w.heap.size S824 (.slice A822 ks825.length c823) ks825, Chunk.jour w.heap.size gd15 gj104 (⟨#[106]⟩ : ByteArray) Sj is ((recsJ is).length : Int)]), Chunk.disk w.heap.size gd15 S804 (jdk (⟨#[106]⟩ : ByteArray) (recsJ is) 0 [] rm)] := Own.bundle (A := [Chunk.row (Kd.int .i64) 2 w.heap.size S824 (.slice A822 ks825.length c823) ks825, Chunk.jour w.heap.size gd15 gj104 (⟨#[106]⟩ : ByteArray) Sj is ((recsJ is).length : Int)]) (L := [Chunk.disk w.heap.size gd15 S804 (jdk (⟨#[106]⟩ : ByteArray) (recsJ is) 0 [] rm)]) (O881.sel [0, 1, 2] (by decide))
     refine gw_call H1068 (want_none rfl) rfl (by decide) (op_callL Try.func32 (by kernel_rfl) rfl rfl (ar_cons (H1068.ev rfl) (ar_cons (ev_c _ _) ar_nil))) (open_ok heq1073 hwf805 (by decide) (by show 1 ≤ 1000000; decide) (used_le (by omega)) (jd_byte (recs_byte hj.ok)) (by exact O1080)) ?_
     rintro e1074 w1075 ⟨gj1069, SJ1070, S1071, rfl, hb1076⟩
     refine ⟨_, rfl, fun _ H1078 => ?_⟩
     have O1079 : Own w w1075 [Chunk.row (Kd.int .i64) 2 w.heap.size S824 (.slice A822 ks825.length c823) ks825, Chunk.jour w.heap.size gd15 gj104 (⟨#[106]⟩ : ByteArray) Sj is ((recsJ is).length : Int), Chunk.disk w.heap.size gd15 S1071 (jdk (⟨#[106]⟩ : ByteArray) (recsJ is) ((recsJ is).length : Int) [] rm), Chunk.jour w.heap.size gd15 gj1069 (⟨#[106]⟩ : ByteArray) SJ1070 is ((recsJ is).length : Int)] := Own.unbundle (A := [Chunk.row (Kd.int .i64) 2 w.heap.size S824 (.slice A822 ks825.length c823) ks825, Chunk.jour w.heap.size gd15 gj104 (⟨#[106]⟩ : ByteArray) Sj is ((recsJ is).length : Int)]) (L := [Chunk.disk w.heap.size gd15 S1071 (jdk (⟨#[106]⟩ : ByteArray) (recsJ is) ((recsJ is).length : Int) [] rm), Chunk.jour w.heap.size gd15 gj1069 (⟨#[106]⟩ : ByteArray) SJ1070 is ((recsJ is).length : Int)]) (hb1076.sel [0, 1, 2] (by decide))
     clear O1080
     clear H1068 O881 hb1076
     have O1082 : Own w w1075 [Chunk.row (Kd.int .i64) 2 w.heap.size S824 (.slice A822 ks825.length c823) ks825, Chunk.jour w.heap.size gd15 gj104 (⟨#[106]⟩ : ByteArray) Sj is ((recsJ is).length : Int), Chunk.disk w.heap.size gd15 S1071 (jdk (⟨#[106]⟩ : ByteArray) (recsJ is) ((recsJ is).length : Int) [] rm), Chunk.jour w.heap.size gd15 gj1069 (⟨#[106]⟩ : ByteArray) SJ1070 is ((recsJ is).length : Int)] := O1079
     clear O1079
     have hwf1072 : wfD (jdk (⟨#[106]⟩ : ByteArray) (recsJ is) ((recsJ is).length : Int) [] rm) := wf_open' heq1073 hwf805
     refine V H1078 (op_move rfl (H1078.ev rfl)) ?_
     intro _ H1084; clear H1078
     refine V H1084 (op_extract rfl (H1084.ev rfl) rfl) ?_
     intro _ H1086; clear H1084
     refine V H1086 (op_extract rfl (H1086.ev rfl) rfl) ?_
     intro _ H1088; clear H1086
     refine V H1088 (op_assign rfl (H1088.ev rfl)) ?_
     intro _ H1090; clear H1088
     refine V H1090 (op_assign rfl (H1090.ev rfl)) ?_
     intro _ H1092; clear H1090
     refine wpList_nil ?_
     refine gw_nx (hK1066 _ _ ?_)
     refine gw_seq fun K1093 hK1093 => ?_
     refine wp_region_lit ?_
     refine V H1092 (op_move rfl (H1092.ev rfl)) ?_
     intro _ H1095; clear H1092
     refine V H1095 (op_eqi rfl (H1095.ev rfl) (ev_c _ _)) ?_
     intro _ H1097; clear H1095
     have H1098 := H1097.lit (b := true) (by decide)
     clear H1097
     refine V H1098 (op_move rfl (H1098.ev rfl)) ?_
     intro _ H1100; clear H1098
     refine V2 H1100 (want_yes H1100 rfl rfl rfl rfl) (op_move rfl (H1100.ev rfl)) ?_
     intro _ H1102; clear H1100
     refine V2 H1102 (want_yes H1102 rfl rfl rfl rfl) (op_nep_nil Try.underlying61 rfl (H1102.ev rfl)) ?_
     intro _ H1104; clear H1102
     refine V H1104 (op_pick_t rfl (H1104.ev rfl) (H1104.ev rfl)) ?_
     intro _ H1106; clear H1104
     refine V H1106 (op_move rfl (H1106.ev rfl)) ?_
     intro _ H1108; clear H1106
     refine V2 H1108 (want_yes H1108 rfl rfl rfl rfl) (op_move rfl (H1108.ev rfl)) ?_
     intro _ H1110; clear H1108
     refine gw_call H1110 (want_yes H1110 rfl rfl rfl rfl) rfl (by decide) (op_callL Try.func35 (by kernel_rfl) rfl rfl (ar_cons (H1110.ev rfl) ar_nil)) (keys_calls w.heap.size gd15 gj1069 (⟨#[106]⟩ : ByteArray) SJ1070 is ((recsJ is).length : Int) _ (by exact O1082.get 3 rfl) (by omega)) ?_
     rintro e1118 w1119 ⟨A1111, c1112, S1113, ks1114, hkr1115, hkp1116, rfl, hb1120⟩
     refine ⟨_, rfl, fun _ H1122 => ?_⟩
     have O1123 := O1082.fresh hb1120
     have hbel1124 := O1082.below
     clear H1110 O1082 hb1120
     have O1125 := O1123.lowrow 0 rfl (base' := w.heap.size) (Below.size hbel1124)
     have O1126 : Own w w1119 [Chunk.row (Kd.int .i64) 2 w.heap.size S1113 (.slice A1111 ks1114.length c1112) ks1114, Chunk.row (Kd.int .i64) 2 w.heap.size S824 (.slice A822 ks825.length c823) ks825, Chunk.jour w.heap.size gd15 gj104 (⟨#[106]⟩ : ByteArray) Sj is ((recsJ is).length : Int), Chunk.disk w.heap.size gd15 S1071 (jdk (⟨#[106]⟩ : ByteArray) (recsJ is) ((recsJ is).length : Int) [] rm), Chunk.jour w.heap.size gd15 gj1069 (⟨#[106]⟩ : ByteArray) SJ1070 is ((recsJ is).length : Int)] := O1125
     clear O1125
     have hkl_ks1114 := hkp1116.length_eq
     rw [List.length_map] at hkl_ks1114
     have hkn1117 : ks1114.length = is.length := hkl_ks1114
     refine V2 H1122 (want_yes H1122 rfl rfl rfl rfl) (op_len Try.underlying66 rfl (H1122.ev rfl)) ?_
     intro _ H1128; clear H1122
     refine V2 H1128 (want_yes H1128 rfl rfl rfl rfl) (op_move rfl (H1128.ev rfl)) ?_
     intro _ H1130; clear H1128
     refine gw_call H1130 (want_yes H1130 rfl rfl rfl rfl) rfl (by decide) (op_callL Try.func35 (by kernel_rfl) rfl rfl (ar_cons (H1130.ev rfl) ar_nil)) (keys_calls w.heap.size gd15 gj104 (⟨#[106]⟩ : ByteArray) Sj is ((recsJ is).length : Int) _ (by exact O1126.get 2 rfl) (by omega)) ?_
     rintro e1138 w1139 ⟨A1131, c1132, S1133, ks1134, hkr1135, hkp1136, rfl, hb1140⟩
     refine ⟨_, rfl, fun _ H1142 => ?_⟩
     have O1143 := O1126.fresh hb1140
     have hbel1144 := O1126.below
     clear H1130 O1126 hb1140
     have O1145 := O1143.lowrow 0 rfl (base' := w.heap.size) (Below.size hbel1144)
     have O1146 : Own w w1139 [Chunk.row (Kd.int .i64) 2 w.heap.size S1133 (.slice A1131 ks1134.length c1132) ks1134, Chunk.row (Kd.int .i64) 2 w.heap.size S1113 (.slice A1111 ks1114.length c1112) ks1114, Chunk.row (Kd.int .i64) 2 w.heap.size S824 (.slice A822 ks825.length c823) ks825, Chunk.jour w.heap.size gd15 gj104 (⟨#[106]⟩ : ByteArray) Sj is ((recsJ is).length : Int), Chunk.disk w.heap.size gd15 S1071 (jdk (⟨#[106]⟩ : ByteArray) (recsJ is) ((recsJ is).length : Int) [] rm), Chunk.jour w.heap.size gd15 gj1069 (⟨#[106]⟩ : ByteArray) SJ1070 is ((recsJ is).length : Int)] := O1145
     clear O1145
     have hkl_ks1134 := hkp1136.length_eq
     rw [List.length_map] at hkl_ks1134
     have hkn1137 : ks1134.length = is.length := hkl_ks1134
     refine V2 H1142 (want_yes H1142 rfl rfl rfl rfl) (op_len Try.underlying66 rfl (H1142.ev rfl)) ?_
     intro _ H1148; clear H1142
     refine V2 H1148 (want_yes H1148 rfl rfl rfl rfl) (op_eqi rfl (H1148.ev rfl) (H1148.ev rfl)) ?_
     intro _ H1150; clear H1148
     have H1151 := H1150.lit (b := true) (by simp [hkn828, hkn1117, hkn1137])
     clear H1150
     refine V H1151 (op_pick_t rfl (H1151.ev rfl) (H1151.ev rfl)) ?_
     intro _ H1153; clear H1151
     refine V H1153 (op_move rfl (H1153.ev rfl)) ?_
     intro _ H1155; clear H1153
     refine V2 H1155 (want_yes H1155 rfl rfl rfl rfl) (op_move rfl (H1155.ev rfl)) ?_
     intro _ H1157; clear H1155
     refine gw_call H1157 (want_yes H1157 rfl rfl rfl rfl) rfl (by decide) (op_callL Try.func37 (by kernel_rfl) rfl rfl (ar_cons (H1157.ev rfl) ar_nil)) (size_calls w.heap.size gd15 gj1069 (⟨#[106]⟩ : ByteArray) SJ1070 is ((recsJ is).length : Int) _ (O1146.get 5 rfl)) ?_
     rintro e1158 w1159 ⟨rfl, hb1160⟩
     refine ⟨_, rfl, fun _ H1162 => ?_⟩
     have O1163 := O1146.after hb1160
     clear H1157 O1146 hb1160
     refine V2 H1162 (want_yes H1162 rfl rfl rfl rfl) (op_move rfl (H1162.ev rfl)) ?_
     intro _ H1166; clear H1162
     refine gw_call H1166 (want_yes H1166 rfl rfl rfl rfl) rfl (by decide) (op_callL Try.func37 (by kernel_rfl) rfl rfl (ar_cons (H1166.ev rfl) ar_nil)) (size_calls w.heap.size gd15 gj104 (⟨#[106]⟩ : ByteArray) Sj is ((recsJ is).length : Int) _ (O1163.get 3 rfl)) ?_
     rintro e1167 w1168 ⟨rfl, hb1169⟩
     refine ⟨_, rfl, fun _ H1171 => ?_⟩
     have O1172 := O1163.after hb1169
     clear H1166 O1163 hb1169
     refine V2 H1171 (want_yes H1171 rfl rfl rfl rfl) (op_eqi rfl (H1171.ev rfl) (H1171.ev rfl)) ?_
     intro _ H1175; clear H1171
     have H1176 := H1175.lit (b := true) (by simp)
     clear H1175
     refine V H1176 (op_pick_t rfl (H1176.ev rfl) (H1176.ev rfl)) ?_
     intro _ H1178; clear H1176
     refine V H1178 (op_assign rfl (H1178.ev rfl)) ?_
     intro _ H1180; clear H1178
     refine wpList_nil ?_
     refine gw_nx (hK1093 _ _ ?_)
     refine wp_ret ?_
     refine gw_ret1 H1180 rfl rfl ?_
     exact ⟨rfl, O1172.below⟩
end GJFull_
export GJFull_ (JournalFull_walk)
open Classical in
noncomputable def colloquylaw09_JournalFull.f (a0 : Int) (l1 : List (List Int)) : Option Bool := if (∀ x ∈ l1, ByteL x) then some true else none
theorem colloquylaw09_JournalFull.calls (a0 : Int) (A1 : Option Addr) (c1 : Nat) (l1 : List (List Int)) (r : Bool) (w : World) (hr1 : Kd.C (Kd.slice 5 (Kd.int .u8)) w A1 l1.length l1) (hc1 : l1.length ≤ c1) (h : colloquylaw09_JournalFull.f a0 l1 = some r) :
    Calls Try.prog 10 #[(.int .i64 a0), (.slice A1 l1.length c1)] w fun e w' => e = .returned (.bool r) ∧ Below w.heap.size w w' := by
  unfold colloquylaw09_JournalFull.f at h
  split at h
  · cases h; rename_i hh; exact JournalFull_walk a0 A1 c1 l1 w hr1 hc1 hh
  · cases h
end Go.Proofs.Ytkdahjnmldeklaa.PA
end
section
namespace Go.Proofs.Ytkdahjnmldeklaa.PA
open Go.RowKit Go.Proofs.YtkdahjnmldeklaaW.PrintWords Go.Proofs.YtkdahjnmldeklaaW.PrintLast Go.Proofs.YtkdahjnmldeklaaW.PrintMore
structure Opens {α : Type} (P : Program) (t : TypeId) (d : Kd α) (good : α → Prop) (wt : α → Nat) (sz : α → Prop) : Prop where
  run : ∀ {H : Type} (enc : TypeId × Value → H) (w : World) (spare : Nat → Bool) (held : Bool) (fuel : Nat) (cs : List Value) (x : DataW H × List MemPlace),
    DataW.trod enc P w 0 spare held fuel t cs = some x → ∃ y : α, d.K w y cs ∧ good y ∧ wt y ≤ Rows.uptoBulk x.1 ∧ ((∀ n ∈ x.1.weights P t, n ≤ reachBytes) → sz y)
structure OpensF {α : Type} (P : Program) (fs : List Field) (off : Nat) (d : Kd α) (good : α → Prop) (wt : α → Nat) (sz : α → Prop) : Prop where
  run : ∀ {H : Type} (enc : TypeId × Value → H) (w : World) (spare : Nat → Bool) (held : Bool) (fuel : Nat) (cs : List Value) (xs : List (DataW H × List MemPlace)),
    (fs.mapM fun f => DataW.trod enc P w 0 spare held fuel f.type ((cs.drop f.offset).take (P.cellsOf f.type))) = some xs →
      ∃ y : α, d.K w y ((cs.drop off).take d.sz) ∧ good y ∧ wt y ≤ Rows.uptoBulkAll (xs.map (·.1)) ∧ ((∀ n ∈ DataW.weightsEach P (fs.map (·.type)) (xs.map (·.1)), n ≤ reachBytes) → sz y)
section
variable {P : Program} {t e : TypeId}
theorem bulk_pos {H : Type} (d : DataW H) : 1 ≤ Rows.uptoBulk d := by
  cases d with
  | lit l => cases l <;> simp [Rows.uptoBulk]
  | nil => simp [Rows.uptoBulk]
  | ptr d => simp [Rows.uptoBulk]
  | slice elems spare => simp [Rows.uptoBulk]
  | agg parts => simp [Rows.uptoBulk]
  | iface t d => simp [Rows.uptoBulk]
  | map entries => simp [Rows.uptoBulk]
  | held h => simp [Rows.uptoBulk]
theorem opens_int {k : IntKind} (ht : P.underlying t = some (.int k)) : Opens P t (Kd.int k) (fun y => (Lit.int k y).wf = true) (fun _ => 1) (fun _ => True) :=
  ⟨fun enc w spare held fuel cs x h => by
    obtain ⟨n, rfl, rfl, hw⟩ := DataW.trod_int ht h
    exact ⟨n, rfl, hw, bulk_pos _, fun _ => trivial⟩⟩
theorem bulkAll_map {H : Type} {α : Type} (wt : α → Nat) : ∀ (ds : List (DataW H)) (xs : List α), xs.length = ds.length → (∀ (i : Nat) (x : α) (d : DataW H), xs[i]? = some x → ds[i]? = some d → wt x ≤ Rows.uptoBulk d) → (xs.map wt).sum ≤ Rows.uptoBulkAll ds
  | [], [], _, _ => by simp
  | [], _ :: _, hl, _ => by simp at hl
  | _ :: _, [], hl, _ => by simp at hl
  | d :: ds, x :: xs, hl, h => by
    have h0 := h 0 x d rfl rfl
    have ih := bulkAll_map wt ds xs (by simpa using hl) (fun i x' d' h1 h2 => h (i + 1) x' d' (by simpa using h1) (by simpa using h2))
    simp only [List.map_cons, List.sum_cons, Rows.uptoBulkAll]
    omega
theorem cells_list {w : World} {base : Nat} {a : Addr} {n : Nat} {cs : List Value} (h : w.cells? base a n = some cs) : cs.length = n ∧ ∀ i u, cs[i]? = some u → w.cell? (a.add i) = some u := by
  unfold World.cells? at h
  split at h
  · have hl := mapM_some_length h
    rw [List.length_range] at hl
    refine ⟨hl, fun i u hu => ?_⟩
    have hi : i < n := by
      have := (List.getElem?_eq_some_iff.1 hu).1
      omega
    have := mapM_some_get h i i (by rw [List.getElem?_range hi])
    rw [this]
    exact hu
  · cases h
theorem mem_weightsAll {H : Type} {n : Nat} {d : DataW H} : ∀ {ds : List (DataW H)}, d ∈ ds → n ∈ d.weights P e → n ∈ DataW.weightsAll P e ds
  | [], h, _ => by cases h
  | c :: ds, h, hn => by
    simp only [DataW.weightsAll, List.mem_append]
    rcases List.mem_cons.1 h with rfl | h
    · exact .inl hn
    · exact .inr (mem_weightsAll h hn)
theorem opens_slice {α : Type} [Inhabited α] {d : Kd α} {good : α → Prop} {wt : α → Nat} {sz : α → Prop} {b : Nat} (hby : P.bytesOf e = b) (ht : P.underlying t = some (.slice e)) (hsz : P.cellsOf e = d.sz) (ho : Opens P e d good wt sz) :
    Opens P t (Kd.slice e d) (fun xs => xs.length ≤ maxLen ∧ ∀ x ∈ xs, good x) (fun xs => (xs.map wt).sum + 1) (fun xs => xs.length * b ≤ reachBytes ∧ ∀ x ∈ xs, sz x) :=
  ⟨fun enc w spare held fuel cs x h => by
    rcases Deep.open_slice ht h with ⟨rfl, rfl⟩ | ⟨a, len, cap, m, n, D, Pl, rfl, hb, hl, hm, hmm, rfl, hx⟩
    · refine ⟨[], ⟨none, 0, rfl, Nat.le_refl _, rfl, Nat.zero_le _, fun h => absurd h (by simp)⟩, ⟨by simp [maxLen], fun x hx => by cases hx⟩, by simpa using bulk_pos _, fun _ => ⟨by simp, fun x hx => by cases hx⟩⟩
    · have hlm : len ≤ m := by rw [hmm]; split <;> omega
      have hel : ∀ i : Nat, ∃ y : α, i < len → ∃ cs', w.cells? 0 (a.add (i * P.cellsOf e)) (P.cellsOf e) = some cs' ∧ d.K w y cs' ∧ good y ∧ wt y ≤ Rows.uptoBulk (D i) ∧ ((∀ n ∈ (D i).weights P e, n ≤ reachBytes) → sz y) := by
        intro i
        by_cases hi : i < len
        · obtain ⟨cs', h1, h2⟩ := hx i (by omega)
          obtain ⟨y, hk, hg, hw, hz⟩ := ho.run enc w spare held n cs' _ h2
          exact ⟨y, fun _ => ⟨cs', h1, hk, hg, hw, hz⟩⟩
        · exact ⟨default, fun h => absurd h hi⟩
      obtain ⟨f, hf⟩ := Classical.axiomOfChoice hel
      have hget : ∀ (j : Nat) (p : α), ((List.range len).map f)[j]? = some p → j < len ∧ f j = p := by
        intro j p hj
        have hj' := (List.getElem?_eq_some_iff.1 hj).1
        rw [List.length_map, List.length_range] at hj'
        rw [List.getElem?_map, List.getElem?_range hj'] at hj
        exact ⟨hj', by simpa using hj⟩
      have hlen : ((List.range len).map f).length = len := by rw [List.length_map, List.length_range]
      have hmax : maxLen = 9223372036854775807 := rfl
      refine ⟨(List.range len).map f, ⟨some a, cap, by rw [hlen], by rw [hlen]; exact hl, rfl, by rw [hlen]; omega, fun _ => ⟨a, rfl, fun j p hj => ?_⟩⟩, ⟨by rw [hlen]; omega, fun x hx' => ?_⟩, ?_, fun hn => ⟨?_, fun x hx' => ?_⟩⟩
      · obtain ⟨hj', rfl⟩ := hget j p hj
        obtain ⟨cs', h1, hk, _⟩ := hf j hj'
        obtain ⟨hcl, hcc⟩ := cells_list h1
        refine ⟨cs', by rw [hcl, hsz], hk, fun i u hu => ?_⟩
        have := hcc i u hu
        rwa [Addr.add_add, hsz] at this
      · obtain ⟨i, hi, rfl⟩ := List.mem_map.1 hx'
        obtain ⟨_, _, _, hg, _⟩ := hf i (List.mem_range.1 hi)
        exact hg
      · simp only [Rows.uptoBulk]
        have := bulkAll_map wt ((List.range len).map D) ((List.range len).map f) (by simp) (fun i x' d' h1 h2 => by
          obtain ⟨hi, rfl⟩ := hget i x' h1
          have hd : D i = d' := by
            rw [List.getElem?_map, List.getElem?_range hi] at h2
            simpa using h2
          subst hd
          obtain ⟨_, _, _, _, hw, _⟩ := hf i hi
          exact hw)
        omega
      · simp only [DataW.weights, ht] at hn
        have h1 := hn _ (List.mem_cons_self ..)
        rw [List.length_map, List.length_range, hby] at h1
        rw [hlen]
        exact Nat.le_trans (Nat.mul_le_mul_right b (Nat.le_add_right _ _)) h1
      · simp only [DataW.weights, ht] at hn
        obtain ⟨i, hi, rfl⟩ := List.mem_map.1 hx'
        obtain ⟨_, _, _, _, _, hz⟩ := hf i (List.mem_range.1 hi)
        exact hz fun n hn' => hn n (List.mem_cons_of_mem _ (List.mem_append_left _ (mem_weightsAll (List.mem_map.2 ⟨i, hi, rfl⟩) hn')))⟩
end
end Go.Proofs.Ytkdahjnmldeklaa.PA
end
section
namespace Go.Proofs.Ytkdahjnmldeklaa.PA
open Go.RowKit Go.Proofs.YtkdahjnmldeklaaW.PrintWords Go.Proofs.YtkdahjnmldeklaaW.PrintLast Go.Proofs.YtkdahjnmldeklaaW.PrintMore
set_option linter.unusedVariables false
def colloquylaw09_JournalFull.PureU : Prop := ∀ (x0 : Int) (x1 : List (List (Int))), (Lit.int .i64 (x0)).wf = true → ((x1).length ≤ maxLen ∧ ∀ y ∈ x1, ((y).length ≤ maxLen ∧ ∀ z ∈ y, (Lit.int .u8 (z)).wf = true)) → ((x1).length * 24 ≤ reachBytes ∧ ∀ y ∈ x1, ((y).length * 1 ≤ reachBytes ∧ ∀ z ∈ y, True)) → ∃ _ : Nat, colloquylaw09_JournalFull.f (x0) (x1) = some true
end Go.Proofs.Ytkdahjnmldeklaa.PA
end
section
namespace Go.Proofs.Ytkdahjnmldeklaa.Pure
open Go.RowKit Go.Proofs.Ytkdahjnmldeklaa.PA
set_option linter.unusedVariables false in
theorem JournalFull : colloquylaw09_JournalFull.PureU := by
  intro x0 x1 g0 g1
  have hB : ∀ l : List Int, (∀ y ∈ l, (Lit.int .u8 (y)).wf = true) → ByteL l := fun l h y hy => by
    have := wf_byte (h y hy)
    unfold Byte at this
    omega
  intros
  exact ⟨0, if_pos fun x hx => hB x (g1.2 x hx).2⟩
end Go.Proofs.Ytkdahjnmldeklaa.Pure
end
section
namespace Go.Proofs.Ytkdahjnmldeklaa.journalFull
open Go.ChangeShapes Go.WideShapes Go.ChangeAt Go.RowKit
open Go.ChangeMaps (open_string shut_string)
open Go.RowKit Go.Proofs.YtkdahjnmldeklaaW.PrintWords Go.Proofs.YtkdahjnmldeklaaW.PrintLast Go.Proofs.YtkdahjnmldeklaaW.PrintMore Go.Proofs.Ytkdahjnmldeklaa.PA
set_option linter.unusedVariables false
set_option linter.unusedSimpArgs false
theorem own : ownKnob Try.prog.godebug = none := by kernel_rfl
theorem laidOut : laidOutB Try.prog = true := by kernel_rfl
set_option maxRecDepth 100000 in
theorem contract (H : Type) (enc : TypeId × Value → H) (W : World) (base : Nat) (args : Array Value) (ds gs : List (DataW H)) (before : List MemPlace)
    (hval0 : ∀ (j : Nat) t v, Try.f10.params[j]? = some t → args[j]? = some v → Value.okWide Try.prog W .any base t v)
    (hW : DataW.Whole enc Try.prog Try.f10.params.toList Rows.journalFullSpec.vars false W args.toList ds gs before)
    (hsz0 : (DataW.weightsEach Try.prog (Try.f10.params.toList ++ Rows.journalFullSpec.plain.varTypes Try.prog) (ds ++ gs)).all (· ≤ reachBytes) = true) :
    Calls Try.prog 10 args W fun e W' => ∃ v, e = .returned v ∧ Rows.journalFullSpec.post enc Try.prog Try.f10 false true false false W args v W' := by
  have hsz : (DataW.weightsEach Try.prog (Try.f10.params.toList ++ Rows.journalFullSpec.plain.varTypes Try.prog) (ds ++ gs)).all (· ≤ reachBytes) = true := hsz0
  have hval : ∀ (j : Nat) t v, Try.f10.params[j]? = some t → args[j]? = some v → Value.okWide Try.prog W .any base t v := hval0
  have hW' := hW
  obtain ⟨p, q, hA0, hV, rfl, hfz, hnd⟩ := hW
  have hA : DataW.TrodAll enc Try.prog W 0 (fun _ => true) true Try.f10.params.toList args.toList ds p := hA0
  rw [Try.params10] at hA hval hsz
  obtain ⟨v0, vs0, d0, ds0, p0, q0, hargs, rfl, rfl, h0, r0⟩ := trodAll_cons hA
  obtain ⟨v1, vs1, d1, ds1, p1, q1, rfl, rfl, rfl, h1, r1⟩ := trodAll_cons r0
  obtain ⟨rfl, rfl, rfl⟩ := trodAll_nil r1
  obtain rfl : args = #[v0, v1] := by cases args; simp_all
  obtain ⟨rfl, rfl⟩ := trodVars_none hV
  obtain ⟨x0, rfl, rfl, rfl, g0⟩ := open_int Try.underlying3 (hval 0 3 v0 rfl rfl) h0
  have k1 := h1
  have lt1 : ∀ x ∈ p1, x.block < W.heap.size := by obtain ⟨m, hm⟩ := k1; exact DataW.trod_lt m _ _ _ hm
  obtain ⟨fuel1, hf1⟩ := h1
  obtain ⟨x1, hK1, g1, z1, s10⟩ := (opens_slice (b := 24) (by kernel_rfl) Try.underlying22 (by kernel_rfl) (opens_slice (b := 1) (by kernel_rfl) Try.underlying28 (by kernel_rfl) (opens_int Try.underlying5))).run enc W _ _ fuel1 _ _ hf1
  have s1 := s10 (fun n hn => by have := List.all_eq_true.1 hsz n (DataW.weights_mem_each (j := 1) (t := 22) rfl rfl n hn); simpa using this)
  obtain ⟨a1, len1, cap1, rfl⟩ := okWide_slice Try.underlying22 (hval 1 22 v1 rfl rfl)
  obtain ⟨A1, c1, hcs1, hc1, hr1⟩ := hK1
  obtain ⟨rfl, rfl, rfl⟩ : a1 = A1 ∧ len1 = x1.length ∧ cap1 = c1 := by
    have hcs' : [Value.slice a1 len1 cap1] = [Value.slice A1 x1.length c1] := hcs1
    injection hcs' with e1 _
    injection e1 with e1 e2 e3
    exact ⟨e1, e2, e3⟩
  obtain ⟨k, h⟩ := Pure.JournalFull x0 x1 g0 g1 s1
  refine (PA.colloquylaw09_JournalFull.calls (a0 := x0) (A1 := a1) (c1 := cap1) (l1 := x1) (r := true) (w := W) (hr1 := hr1) (hc1 := hc1) (h := h)).mono fun e W' ⟨he, hb⟩ => ?_
  have bel : Below W.heap.size W W' := by first | exact hb | exact Drawn0.below hb
  subst he
  exact ⟨_, rfl, _, _, _, [], _, [], hW', trodAll_mk1 (shut_bool Try.underlying4 _), (trodAll_cons_mk (shut_int Try.underlying3 g0) (trodAll_cons_mk (Below.trod laidOut (by kernel_rfl) (of_decide_eq_true (by kernel_rfl)) k1 bel lt1) trodAll_mk0)), rfl, bel.frame _, fun h => by cases h⟩
set_option maxRecDepth 100000 in
theorem lifted (os : Os) (started : os.Started) (H : Type) (enc : TypeId × Value → H) :
    ReturnsInHanded {} Try.checked os 10 .any (Rows.journalFullSpec.pre6 enc Try.prog Try.f10 Rows.journalFullRow.domain false) (Rows.journalFullSpec.post enc Try.prog Try.f10 false true false false) := by
  refine returnsInHanded_of_change_sized (C := Try.checked) own started (by kernel_rfl) Try.func10
    (ChangeSpec.witness6 (enc := enc) (C := Try.checked) false ⟨#[], #[.int .i64 0, .slice none 0 0], []⟩ 8 (by kernel_rfl) (by kernel_rfl) (by kernel_rfl) (by kernel_rfl)) ?_
  intro W base args ds gs before hval hW _ hsz _
  exact contract H enc W base args ds gs before hval hW hsz
theorem proved : Rows.JournalFullSaid :=
  OpenClaim.holds_of_wide 10 Try.f10 rfl rfl rfl rfl rfl rfl rfl ⟨rfl, rfl, rfl, rfl, rfl⟩ rfl rfl rfl rfl rfl (by kernel_rfl) Try.func10 (by kernel_rfl)
    (of_decide_eq_true (by kernel_rfl)) (by unfold Func.isWrapper; first | (rw [if_pos (by decide +kernel)]; kernel_rfl) | (rw [if_neg (by decide +kernel)]; exact ⟨rfl, rfl⟩))
    (fun os started H enc _ => lifted os started H enc)
#print axioms proved
end Go.Proofs.Ytkdahjnmldeklaa.journalFull
namespace Go.Proofs.Ytkdahjnmldeklaa
theorem journalFull_holds : Rows.JournalFullSaid := journalFull.proved
end Go.Proofs.Ytkdahjnmldeklaa
end
