/- The row of the law JournalKeeps: for every input the call returns true and leaves its arguments as they were. Printed by a program of this session. -/
/- What this claim uses of this session's own texts, put together by a program: GJour3 HJLaw HJourL GJAlive GJKeeps HOpen StmtJournalKeeps PureJournalKeeps LawJournalKeeps. -/
import Derived.Test.YtkdahjnmldeklaaKJournalKeeps2
import Derived.Test.YtkdahjnmldeklaaProg
import Derived.Test.YtkdahjnmldeklaaRows
section
namespace Go.Proofs.Ytkdahjnmldeklaa.PA
open Go.RowKit Go.Proofs.YtkdahjnmldeklaaW.PrintWords Go.Proofs.YtkdahjnmldeklaaW.PrintLast Go.Proofs.YtkdahjnmldeklaaW.PrintMore
set_option linter.unusedVariables false
set_option linter.unusedSimpArgs false
namespace GJour3_
theorem gwagg3 : ∀ w, (isAgg 3).run Try.prog w = .ok false w := fun _ => by kernel_rfl
theorem gwagg98 : ∀ w, (isAgg 98).run Try.prog w = .ok false w := fun _ => by kernel_rfl
theorem gwfld100_2 (g off : Nat) : ∀ w, (Instr.fieldAt 100 (.pointer (some ⟨g, off, none⟩)) 2).run Try.prog w = .ok (.pointer (some ⟨g, off + 2, none⟩)) w := fun _ => by kernel_rfl
theorem gwfld100_3 (g off : Nat) : ∀ w, (Instr.fieldAt 100 (.pointer (some ⟨g, off, none⟩)) 3).run Try.prog w = .ok (.pointer (some ⟨g, off + 3, none⟩)) w := fun _ => by kernel_rfl
theorem gwsiz3 : ∀ w, (sizeOf 3).run Try.prog w = .ok 1 w := fun _ => by kernel_rfl
theorem gwsiz5 : ∀ w, (sizeOf 5).run Try.prog w = .ok 1 w := fun _ => by kernel_rfl
set_option maxHeartbeats 4000000 in
set_option maxRecDepth 100000 in
theorem open_calls (w0 w : World) (R : Chunk) (gd : Nat) (S : Nat → Prop) (d : PD) (nm : ByteArray) (hw : wfD d) (hn : nm.size ≤ 9223372036854775807) (hlen : d.fs.length ≤ 1000000) (hus : d.used ≤ 1000000) (hbb : ByteL (readD nm d).1) (HO : Own w0 w [R, Chunk.disk w0.heap.size gd S d]) :
    Calls Try.prog 32 #[.pointer (some ⟨gd, 0, none⟩), .string nm] w fun e w' => (e = .returned (.tuple #[.pointer none, .int .i64 (openJ nm d).1.2]) ∧ (openJ nm d).1.2 ≠ 0 ∧ ∃ S', Own w0 w' [R, Chunk.disk w0.heap.size gd S' (openJ nm d).1.1]) ∨ ((openJ nm d).1.2 = 0 ∧ ∃ gj SJ S', e = .returned (.tuple #[.pointer (some ⟨gj, 0, none⟩), .int .i64 0]) ∧ Own w0 w' [R, Chunk.disk w0.heap.size gd S' (openJ nm d).1.1, Chunk.jour w0.heap.size gd gj nm SJ (openJ nm d).2.1 (openJ nm d).2.2]) := by
 have hbl : ((readD nm d).1.length : Int) ≤ 1000000 := Int.le_trans (read_len hw) hus
 refine gw_startO (N := 100) (vs := [.pointer (some ⟨gd, 0, none⟩), .string nm]) Try.func32 rfl rfl (by simp) fun a HF => ?_
 refine gw_seq fun K1 hK1 => ?_
 refine wp_region_lit ?_
 refine V HF (op_assign rfl (ev_c _ _)) ?_
 intro _ H3; clear HF
 refine V H3 (op_assign rfl (ev_c _ _)) ?_
 intro _ H5; clear H3
 refine wpList_nil ?_
 refine gw_nx (hK1 _ _ ?_)
 refine gw_seq fun K6 hK6 => ?_
 refine wp_region_lit ?_
 refine V H5 (op_move rfl (H5.ev rfl)) ?_
 intro _ H8; clear H5
 refine V H8 (op_move rfl (H8.ev rfl)) ?_
 intro _ H10; clear H8
 refine gw_mkmap (K := 2) H10 HO (want_none rfl) rfl (by decide) rfl ?_
 intro g11 _ w13 H14 O15; clear H10 HO
 have O16 : Own w0 w13 [Chunk.lmap Try.prog 2 g11 ([] : List (Lit × Value)), R, Chunk.disk w0.heap.size gd S d] := O15
 clear O15
 refine V H14 (op_build (cells := #[.pointer (some ⟨gd, 0, none⟩), .string nm, .map (some g11), J 0]) rfl (pt_cons (H14.ev rfl) (pt_cons (H14.ev rfl) (pt_cons (H14.ev rfl) pt_nil))) (by kernel_rfl)) ?_
 intro _ H18; clear H14
 refine gw_new H18 O16 (want_none rfl) rfl (by decide) (op_box rfl (H18.ev rfl)) ?_
 intro g19 _ w21 H22 O23; clear H18 O16
 have O24 : Own w0 w21 [Bk g19 [.pointer (some ⟨gd, 0, none⟩), .string nm, .map (some g11), J 0] 100, Chunk.lmap Try.prog 2 g11 ([] : List (Lit × Value)), R, Chunk.disk w0.heap.size gd S d] := O23
 clear O23
 refine V H22 (op_assign rfl (H22.ev rfl)) ?_
 intro _ H26; clear H22
 have O27 := Own.jrows_nil O24 w0.heap.size
 have O28 : Own w0 w21 [Chunk.jrows w0.heap.size ([]), Bk g19 [.pointer (some ⟨gd, 0, none⟩), .string nm, .map (some g11), J 0] 100, Chunk.lmap Try.prog 2 g11 ([] : List (Lit × Value)), R, Chunk.disk w0.heap.size gd S d] := O27
 clear O27
 refine wpList_nil ?_
 refine gw_nx (hK6 _ _ ?_)
 refine gw_seq fun K29 hK29 => ?_
 refine wp_region_lit ?_
 refine V H26 (op_move rfl (H26.ev rfl)) ?_
 intro _ H31; clear H26
 refine V H31 (op_move rfl (H31.ev rfl)) ?_
 intro _ H33; clear H31
 refine gw_call H33 (want_none rfl) rfl (by decide) (op_callL Try.func18 (by kernel_rfl) rfl rfl (ar_cons (H33.ev rfl) (ar_cons (H33.ev rfl) ar_nil))) (read_calls w0.heap.size gd S d nm _ (by exact O28.get 4 rfl) hn hw (by first | decide | omega)) ?_
 rintro e37 w38 ⟨A34, c35, S36, rfl, hb39⟩
 refine ⟨_, rfl, fun _ H41 => ?_⟩
 have O42 := O28.fresh hb39
 have hbel43 := O28.below
 clear H33 O28 hb39
 have O44 := O42.lowrow 0 rfl (base' := w0.heap.size) (Below.size hbel43)
 have O45 : Own w0 w38 [Chunk.row (Kd.int .u8) 5 w0.heap.size S36 (.slice A34 (((readD nm d).1).length) c35) ((readD nm d).1), Chunk.jrows w0.heap.size ([]), Bk g19 [.pointer (some ⟨gd, 0, none⟩), .string nm, .map (some g11), J 0] 100, Chunk.lmap Try.prog 2 g11 ([] : List (Lit × Value)), R, Chunk.disk w0.heap.size gd S d] := O44
 clear O44
 refine V H41 (op_move rfl (H41.ev rfl)) ?_
 intro _ H47; clear H41
 refine V H47 (op_extract rfl (H47.ev rfl) rfl) ?_
 intro _ H49; clear H47
 refine V H49 (op_extract rfl (H49.ev rfl) rfl) ?_
 intro _ H51; clear H49
 refine V H51 (op_assign rfl (H51.ev rfl)) ?_
 intro _ H53; clear H51
 have O54 := O45.row_view 0 rfl
 clear O45
 have O55 : Own w0 w38 [Chunk.view (Kd.int .u8) S36 A34 (((readD nm d).1).length) c35 ((readD nm d).1), Chunk.jrows w0.heap.size ([]), Bk g19 [.pointer (some ⟨gd, 0, none⟩), .string nm, .map (some g11), J 0] 100, Chunk.lmap Try.prog 2 g11 ([] : List (Lit × Value)), R, Chunk.disk w0.heap.size gd S d] := O54
 clear O54
 refine V H53 (op_assign rfl (H53.ev rfl)) ?_
 intro _ H57; clear H53
 refine wpList_nil ?_
 refine gw_nx (hK29 _ _ ?_)
 refine gw_joinS (fun a_ w_ => ∃ (d1 : PD) (S1 : Nat → Prop) (e8 : Int), Fr 100 a_ [(8, J e8), (0, .pointer (some ⟨gd, 0, none⟩)), (1, .string nm), (4, .pointer none), (5, J 0), (6, .pointer (some ⟨g19, 0, none⟩)), (7, .slice A34 (((readD nm d).1).length) c35)] ∧ Own w0 w_ [Chunk.view (Kd.int .u8) S36 A34 (((readD nm d).1).length) c35 ((readD nm d).1), Chunk.jrows w0.heap.size ([]), Bk g19 [.pointer (some ⟨gd, 0, none⟩), .string nm, .map (some g11), J 0] 100, Chunk.lmap Try.prog 2 g11 ([] : List (Lit × Value)), R, Chunk.disk w0.heap.size gd S1 d1] ∧ (wfD d1) ∧ (preJ nm d = (d1, e8))) ?_ ?_
 ·
  refine gw_seq fun K58 hK58 => ?_
  refine wp_region_lit ?_
  refine V H57 (op_move rfl (H57.ev rfl)) ?_
  intro _ H60; clear H57
  refine V H60 (op_eqi rfl (H60.ev rfl) (ev_c _ _)) ?_
  intro _ H62; clear H60
  refine wpList_nil ?_
  refine gw_nx (hK58 _ _ ?_)
  refine gw_cond H62 rfl (fun hb63 => ?_) (fun hb63 => ?_)
  ·
   have H64 := H62.subst_ (d := 28) (b := true) rfl hb63
   clear H62
   (try simp only [decide_eq_true_eq] at hb63)
   have h28 := hb63
   refine wp_region_lit ?_
   refine V H64 (op_move rfl (H64.ev rfl)) ?_
   intro _ H66; clear H64
   refine V H66 (op_move rfl (H66.ev rfl)) ?_
   intro _ H68; clear H66
   have O77 : Own w0 _ [(Chunk.all [Chunk.view (Kd.int .u8) S36 A34 (((readD nm d).1).length) c35 ((readD nm d).1), Chunk.jrows w0.heap.size ([]), Bk g19 [.pointer (some ⟨gd, 0, none⟩), .string nm, .map (some g11), J 0] 100, Chunk.lmap Try.prog 2 g11 ([] : List (Lit × Value)), R]), Chunk.disk w0.heap.size gd S d] := Own.bundle (A := [Chunk.view (Kd.int .u8) S36 A34 (((readD nm d).1).length) c35 ((readD nm d).1), Chunk.jrows w0.heap.size ([]), Bk g19 [.pointer (some ⟨gd, 0, none⟩), .string nm, .map (some g11), J 0] 100, Chunk.lmap Try.prog 2 g11 ([] : List (Lit × Value)), R]) (L := [Chunk.disk w0.heap.size gd S d]) (O55.sel [0, 1, 2, 3, 4, 5] (by decide))
   refine gw_call H68 (want_none rfl) rfl (by decide) (op_callL Try.func13 (by kernel_rfl) rfl rfl (ar_cons (H68.ev rfl) (ar_cons (H68.ev rfl) ar_nil))) (create_calls w0 _ (Chunk.all [Chunk.view (Kd.int .u8) S36 A34 (((readD nm d).1).length) c35 ((readD nm d).1), Chunk.jrows w0.heap.size ([]), Bk g19 [.pointer (some ⟨gd, 0, none⟩), .string nm, .map (some g11), J 0] 100, Chunk.lmap Try.prog 2 g11 ([] : List (Lit × Value)), R]) gd S d nm hw hn (by first | decide | omega) (by exact O77)) ?_
   rintro e71 w72 ⟨rfl, S69, hb73⟩
   refine ⟨_, rfl, fun _ H75 => ?_⟩
   have O76 : Own w0 w72 [Chunk.view (Kd.int .u8) S36 A34 (((readD nm d).1).length) c35 ((readD nm d).1), Chunk.jrows w0.heap.size ([]), Bk g19 [.pointer (some ⟨gd, 0, none⟩), .string nm, .map (some g11), J 0] 100, Chunk.lmap Try.prog 2 g11 ([] : List (Lit × Value)), R, Chunk.disk w0.heap.size gd S69 ((createD nm d).1)] := Own.unbundle (A := [Chunk.view (Kd.int .u8) S36 A34 (((readD nm d).1).length) c35 ((readD nm d).1), Chunk.jrows w0.heap.size ([]), Bk g19 [.pointer (some ⟨gd, 0, none⟩), .string nm, .map (some g11), J 0] 100, Chunk.lmap Try.prog 2 g11 ([] : List (Lit × Value)), R]) (L := [Chunk.disk w0.heap.size gd S69 ((createD nm d).1)]) (hb73.sel [0, 1] (by decide))
   clear O77
   clear H68 O55 hb73
   have O79 : Own w0 w72 [Chunk.view (Kd.int .u8) S36 A34 (((readD nm d).1).length) c35 ((readD nm d).1), Chunk.jrows w0.heap.size ([]), Bk g19 [.pointer (some ⟨gd, 0, none⟩), .string nm, .map (some g11), J 0] 100, Chunk.lmap Try.prog 2 g11 ([] : List (Lit × Value)), R, Chunk.disk w0.heap.size gd S69 ((createD nm d).1)] := O76
   clear O76
   have hwf70 : wfD ((createD nm d).1) := wf_create hw
   refine V H75 (op_assign rfl (H75.ev rfl)) ?_
   intro _ H81; clear H75
   refine wpList_nil ?_
   refine gw_nx ⟨((createD nm d).1), S69, ((createD nm d).2), (H81.pick (t := 8) rfl (H81.pick (t := 0) rfl (H81.pick (t := 1) rfl (H81.pick (t := 4) rfl (H81.pick (t := 5) rfl (H81.pick (t := 6) rfl (H81.pick (t := 7) rfl H81.nil))))))), O79.sel [0, 1, 2, 3, 4, 5] (by decide), ?_, ?_⟩
   ·
    exact hwf70
   ·
    unfold preJ; first | exact if_pos h28 | exact if_neg h28
  ·
   have H82 := H62.subst_ (d := 28) (b := false) rfl hb63
   clear H62
   (try simp only [decide_eq_false_iff_not] at hb63)
   have h28 := hb63
   refine wp_skip ?_
   refine gw_nx ⟨d, S, ((readD nm d).2), (H82.pick (t := 8) rfl (H82.pick (t := 0) rfl (H82.pick (t := 1) rfl (H82.pick (t := 4) rfl (H82.pick (t := 5) rfl (H82.pick (t := 6) rfl (H82.pick (t := 7) rfl H82.nil))))))), O55.sel [0, 1, 2, 3, 4, 5] (by decide), ?_, ?_⟩
   ·
    exact hw
   ·
    unfold preJ; first | exact if_pos h28 | exact if_neg h28
 ·
  rintro _ w84 ⟨d1, S1, e8, H85, O86, hw1, hpre⟩
  refine gw_seq fun K87 hK87 => ?_
  refine gw_seq fun K88 hK88 => ?_
  refine wp_region_lit ?_
  refine V H85 (op_move rfl (H85.ev rfl)) ?_
  intro _ H90; clear H85
  refine V H90 (op_nei rfl (H90.ev rfl) (ev_c _ _)) ?_
  intro _ H92; clear H90
  refine wpList_nil ?_
  refine gw_nx (hK88 _ _ ?_)
  refine gw_cond H92 rfl (fun hb93 => ?_) (fun hb93 => ?_)
  ·
   have H94 := H92.subst_ (d := 33) (b := true) rfl hb93
   clear H92
   (try simp only [decide_eq_true_eq, ne_eq] at hb93)
   have hne : e8 ≠ 0 := hb93
   refine gw_seq fun K95 hK95 => ?_
   refine wp_region_lit ?_
   refine V H94 (op_move rfl (H94.ev rfl)) ?_
   intro _ H97; clear H94
   refine V H97 (op_assign rfl (ev_c _ _)) ?_
   intro _ H99; clear H97
   refine V H99 (op_assign rfl (H99.ev rfl)) ?_
   intro _ H101; clear H99
   refine wpList_nil ?_
   refine gw_nx (hK95 _ _ ?_)
   refine wp_ret ?_
   refine gw_thr ?_
   refine gw_ret2 H101 rfl rfl rfl ?_
   rw [open1 hpre hne]
   exact .inl ⟨rfl, by first | exact hne | (show _ ≠ _; exact hne), _, O86.sel [4, 5] (by decide)⟩
  ·
   have H102 := H92.subst_ (d := 33) (b := false) rfl hb93
   clear H92
   (try simp only [decide_eq_false_iff_not, ne_eq, Decidable.not_not] at hb93)
   have he8 : e8 = 0 := by omega
   refine wp_skip ?_
   refine gw_nx (hK87 _ _ ?_)
   refine gw_joinS (fun a_ w_ => ∃ (is : List PI) (xs : List XJ) (sz : Int), Fr 100 a_ [(0, .pointer (some ⟨gd, 0, none⟩)), (1, .string nm), (4, .pointer none), (5, J 0), (6, .pointer (some ⟨g19, 0, none⟩)), (7, .slice A34 (((readD nm d).1).length) c35)] ∧ Own w0 w_ [R, Chunk.disk w0.heap.size gd S1 d1, Bk g19 [.pointer (some ⟨gd, 0, none⟩), .string nm, .map (some g11), J sz] 100, Chunk.lmap Try.prog 2 g11 (xs.map XJ.ent), Chunk.jrows w0.heap.size xs, Chunk.view (Kd.int .u8) S36 A34 (((readD nm d).1).length) c35 ((readD nm d).1)] ∧ ((xs.map XJ.p).Perm is) ∧ (scanJ (readD nm d).1 = (is, sz)) ∧ (0 ≤ sz ∧ sz ≤ (readD nm d).1.length)) ?_ ?_
   ·
    refine wp_block ?_
    refine gw_loop (fun m_ a_ w_ => ∃ (is : List PI) (xs : List XJ) (sz : Int) (f : Nat), Fr 100 a_ [(0, .pointer (some ⟨gd, 0, none⟩)), (1, .string nm), (4, .pointer none), (5, J 0), (6, .pointer (some ⟨g19, 0, none⟩)), (7, .slice A34 (((readD nm d).1).length) c35)] ∧ Own w0 w_ [R, Chunk.disk w0.heap.size gd S1 d1, Bk g19 [.pointer (some ⟨gd, 0, none⟩), .string nm, .map (some g11), J sz] 100, Chunk.lmap Try.prog 2 g11 (xs.map XJ.ent), Chunk.jrows w0.heap.size xs, Chunk.view (Kd.int .u8) S36 A34 (((readD nm d).1).length) c35 ((readD nm d).1)] ∧ ((xs.map XJ.p).Perm is) ∧ (scanS f ((readD nm d).1.drop sz.toNat) is sz = scanJ (readD nm d).1) ∧ (0 ≤ sz ∧ sz ≤ (readD nm d).1.length) ∧ (((readD nm d).1.length : Int) < f + sz) ∧ ((is.length : Int) ≤ sz) ∧ m_ = f) ((((readD nm d).1.length + 1) : Nat)) ?_ ?_
    ·
     refine ⟨[], [], 0, ((readD nm d).1.length + 1), (H102.pick (t := 0) rfl (H102.pick (t := 1) rfl (H102.pick (t := 4) rfl (H102.pick (t := 5) rfl (H102.pick (t := 6) rfl (H102.pick (t := 7) rfl H102.nil)))))), O86.sel [4, 5, 2, 3, 1, 0] (by decide), ?_, ?_, ?_, ?_, ?_, rfl⟩
     ·
      exact List.Perm.refl _
     ·
      rfl
     ·
      exact ⟨by omega, by omega⟩
     ·
      omega
     ·
      simp
    ·
     rintro m104 _ w106 ⟨is, xs, sz, f, H107, O108, hxs, hsc, hsz, hff, hil, hm109⟩
     have hxn := hxs.length_eq
     rw [List.length_map] at hxn
     refine wp_block ?_
     refine gw_seq fun K110 hK110 => ?_
     refine wp_region_lit ?_
     refine V H107 (op_move rfl (H107.ev rfl)) ?_
     intro _ H112; clear H107
     refine V H112 (op_move rfl (H112.ev rfl)) ?_
     intro _ H114; clear H112
     refine V H114 (op_nil rfl (H114.ev rfl)) ?_
     intro _ H116; clear H114
     refine V H116 (op_field (gwfld100_3 _ _) rfl (H116.ev rfl)) ?_
     intro _ H118; clear H116
     refine V H118 (op_load1 gwagg3 rfl (H118.ev rfl) (blk_at (O108.get 2 rfl) rfl)) ?_
     intro _ H120; clear H118
     obtain ⟨A121, c122, hr123, hc124, hC125, hA126⟩ := cut_lo (P := Try.prog) (d := (Kd.int .u8)) (t := 28) (e := 5) Try.underlying28 gwsiz5 A34 c35 ((readD nm d).1) (view_le (O108.get 5 rfl)) sz (by omega) (by omega)
     refine V H120 (op_cut Try.underlying28 hr123 rfl (H120.ev rfl) (some_ev (H120.ev rfl)) rfl) ?_
     intro _ H128; clear H120
     refine gw_call H128 (want_none rfl) rfl (by decide) (op_callL Try.func58 (by kernel_rfl) rfl rfl (ar_cons (H128.ev rfl) ar_nil)) (split_own A121 c122 (((readD nm d).1).drop sz.toNat) _ (hC125 _ (view_C (O108.get 5 rfl))) hc124 (hbb.drop _) (by rw [List.length_drop]; omega)) ?_
     rintro e132 w133 ⟨A129, c130, S131, rfl, hb134⟩
     refine ⟨_, rfl, fun _ H136 => ?_⟩
     have O137 := O108.fresh hb134
     have hbel138 := O108.below
     clear H128 O108 hb134
     have O139 := O137.lowrow 0 rfl (base' := w0.heap.size) (Below.size hbel138)
     have O140 : Own w0 w133 [Chunk.row (Kd.int .u8) 5 w0.heap.size S131 (.slice A129 (((Pure.splitOf (((readD nm d).1).drop sz.toNat)).1).length) c130) ((Pure.splitOf (((readD nm d).1).drop sz.toNat)).1), R, Chunk.disk w0.heap.size gd S1 d1, Bk g19 [.pointer (some ⟨gd, 0, none⟩), .string nm, .map (some g11), J sz] 100, Chunk.lmap Try.prog 2 g11 (xs.map XJ.ent), Chunk.jrows w0.heap.size xs, Chunk.view (Kd.int .u8) S36 A34 (((readD nm d).1).length) c35 ((readD nm d).1)] := O139
     clear O139
     refine V H136 (op_move rfl (H136.ev rfl)) ?_
     intro _ H142; clear H136
     refine V H142 (op_extract rfl (H142.ev rfl) rfl) ?_
     intro _ H144; clear H142
     refine V H144 (op_extract rfl (H144.ev rfl) rfl) ?_
     intro _ H146; clear H144
     refine V H146 (op_extract rfl (H146.ev rfl) rfl) ?_
     intro _ H148; clear H146
     refine V H148 (op_assign rfl (H148.ev rfl)) ?_
     intro _ H150; clear H148
     refine V H150 (op_assign rfl (H150.ev rfl)) ?_
     intro _ H152; clear H150
     refine V H152 (op_assign rfl (H152.ev rfl)) ?_
     intro _ H154; clear H152
     refine wpList_nil ?_
     refine gw_nx (hK110 _ _ ?_)
     refine gw_seq fun K155 hK155 => ?_
     refine gw_seq fun K156 hK156 => ?_
     refine wp_region_lit ?_
     refine V H154 (op_move rfl (H154.ev rfl)) ?_
     intro _ H158; clear H154
     refine V H158 (op_not rfl (H158.ev rfl)) ?_
     intro _ H160; clear H158
     refine wpList_nil ?_
     refine gw_nx (hK156 _ _ ?_)
     refine gw_cond H160 rfl (fun hb161 => ?_) (fun hb161 => ?_)
     ·
      have H162 := H160.subst_ (d := 47) (b := true) rfl hb161
      clear H160
      (try simp only [Bool.and_eq_true, Bool.or_eq_true, Bool.and_eq_false_iff, Bool.or_eq_false_iff, Bool.not_and, Bool.not_or, Bool.not_not, decide_eq_true_eq, decide_eq_false_iff_not, Bool.not_eq_true', Bool.not_eq_false', Bool.not_eq_true, Bool.not_eq_false, ne_eq, Decidable.not_not, Int.not_lt, Int.not_le, not_true_eq_false, not_false_eq_true, bne_iff_ne, beq_iff_eq, bne_eq_false_iff_eq, beq_eq_false_iff_ne] at hb161)
      have hok : (Pure.splitOf ((readD nm d).1.drop sz.toNat)).2.2 = false := by simpa using hb161
      refine wp_exit ?_
      refine gw_thx ?_
      refine gw_out (by decide) ?_
      refine gw_thx ?_
      refine gw_in ?_
      refine gw_nx ⟨is, xs, sz, (H162.pick (t := 0) rfl (H162.pick (t := 1) rfl (H162.pick (t := 4) rfl (H162.pick (t := 5) rfl (H162.pick (t := 6) rfl (H162.pick (t := 7) rfl H162.nil)))))), O140.sel [1, 2, 3, 4, 5, 6] (by decide), ?_, ?_, ?_⟩
      ·
       exact hxs
      ·
       exact hsc.symm.trans (by first | exact scan_stop1 hok | exact scan_stop2 hok hok | exact scan_stop3 hok hok hhas)
      ·
       exact hsz
     ·
      have H163 := H160.subst_ (d := 47) (b := false) rfl hb161
      clear H160
      (try simp only [Bool.and_eq_true, Bool.or_eq_true, Bool.and_eq_false_iff, Bool.or_eq_false_iff, Bool.not_and, Bool.not_or, Bool.not_not, decide_eq_true_eq, decide_eq_false_iff_not, Bool.not_eq_true', Bool.not_eq_false', Bool.not_eq_true, Bool.not_eq_false, ne_eq, Decidable.not_not, Int.not_lt, Int.not_le, not_true_eq_false, not_false_eq_true, bne_iff_ne, beq_iff_eq, bne_eq_false_iff_eq, beq_eq_false_iff_ne] at hb161)
      have hok : (Pure.splitOf ((readD nm d).1.drop sz.toNat)).2.2 = true := by simpa using hb161
      have hsi := split_in hok
      have hdl : ((readD nm d).1.drop sz.toNat).length = (readD nm d).1.length - sz.toNat := List.length_drop
      refine wp_skip ?_
      refine gw_nx (hK155 _ _ ?_)
      refine gw_seq fun K164 hK164 => ?_
      refine wp_region_lit ?_
      refine V H163 (op_move rfl (H163.ev rfl)) ?_
      intro _ H166; clear H163
      have O180 : Own w0 _ [(Chunk.all [Chunk.row (Kd.int .u8) 5 w0.heap.size S131 (.slice A129 (((Pure.splitOf (((readD nm d).1).drop sz.toNat)).1).length) c130) ((Pure.splitOf (((readD nm d).1).drop sz.toNat)).1), R, Chunk.disk w0.heap.size gd S1 d1, Bk g19 [.pointer (some ⟨gd, 0, none⟩), .string nm, .map (some g11), J sz] 100, Chunk.lmap Try.prog 2 g11 (xs.map XJ.ent), Chunk.jrows w0.heap.size xs, Chunk.view (Kd.int .u8) S36 A34 (((readD nm d).1).length) c35 ((readD nm d).1)])] := Own.bundle (A := [Chunk.row (Kd.int .u8) 5 w0.heap.size S131 (.slice A129 (((Pure.splitOf (((readD nm d).1).drop sz.toNat)).1).length) c130) ((Pure.splitOf (((readD nm d).1).drop sz.toNat)).1), R, Chunk.disk w0.heap.size gd S1 d1, Bk g19 [.pointer (some ⟨gd, 0, none⟩), .string nm, .map (some g11), J sz] 100, Chunk.lmap Try.prog 2 g11 (xs.map XJ.ent), Chunk.jrows w0.heap.size xs, Chunk.view (Kd.int .u8) S36 A34 (((readD nm d).1).length) c35 ((readD nm d).1)]) (L := []) (O140.sel [0, 1, 2, 3, 4, 5, 6] (by decide))
      refine gw_call H166 (want_none rfl) rfl (by decide) (op_callL Try.func59 (by kernel_rfl) rfl rfl (ar_cons (H166.ev rfl) ar_nil)) (entry_calls A129 c130 ((Pure.splitOf (((readD nm d).1).drop sz.toNat)).1) _ (Kd.R_reads' (O140.get 0 rfl)).2.2 (row_cap (O140.get 0 rfl)) (split_byte (hbb.drop _)) (by have h_ := split_len ((readD nm d).1.drop sz.toNat); rw [List.length_drop] at h_; omega)) ?_
      rintro e174 w175 (⟨hen171, rfl, hb176⟩ | ⟨kn167, kk168, A169, c170, hen171, rfl, hC172, hc173, hb176⟩)
      ·
       refine ⟨_, rfl, fun _ H178 => ?_⟩
       have O179 : Own w0 w175 [Chunk.row (Kd.int .u8) 5 w0.heap.size S131 (.slice A129 (((Pure.splitOf (((readD nm d).1).drop sz.toNat)).1).length) c130) ((Pure.splitOf (((readD nm d).1).drop sz.toNat)).1), R, Chunk.disk w0.heap.size gd S1 d1, Bk g19 [.pointer (some ⟨gd, 0, none⟩), .string nm, .map (some g11), J sz] 100, Chunk.lmap Try.prog 2 g11 (xs.map XJ.ent), Chunk.jrows w0.heap.size xs, Chunk.view (Kd.int .u8) S36 A34 (((readD nm d).1).length) c35 ((readD nm d).1)] := O140.after hb176
       clear O180 hb176
       clear H166 O140
       refine V H178 (op_move rfl (H178.ev rfl)) ?_
       intro _ H182; clear H178
       refine V H182 (op_extract rfl (H182.ev rfl) rfl) ?_
       intro _ H184; clear H182
       refine V H184 (op_extract rfl (H184.ev rfl) rfl) ?_
       intro _ H186; clear H184
       refine V H186 (op_extract rfl (H186.ev rfl) rfl) ?_
       intro _ H188; clear H186
       refine V H188 (op_assign rfl (H188.ev rfl)) ?_
       intro _ H190; clear H188
       refine V H190 (op_assign rfl (H190.ev rfl)) ?_
       intro _ H192; clear H190
       refine V H192 (op_assign rfl (H192.ev rfl)) ?_
       intro _ H194; clear H192
       refine wpList_nil ?_
       refine gw_nx (hK164 _ _ ?_)
       refine gw_seq fun K195 hK195 => ?_
       refine gw_seq fun K196 hK196 => ?_
       refine wp_region_lit ?_
       refine V H194 (op_move rfl (H194.ev rfl)) ?_
       intro _ H198; clear H194
       refine V H198 (op_not rfl (H198.ev rfl)) ?_
       intro _ H200; clear H198
       refine V H200 (op_move rfl (H200.ev rfl)) ?_
       intro _ H202; clear H200
       refine Vo H202 (wn H202 rfl rfl rfl rfl) ?_
       intro _ H204; clear H202
       refine Vo H204 (wn H204 rfl rfl rfl rfl) ?_
       intro _ H206; clear H204
       refine Vo H206 (wn H206 rfl rfl rfl rfl) ?_
       intro _ H208; clear H206
       refine V H208 (op_pick_t rfl (H208.ev rfl) (ev_c _ _)) ?_
       intro _ H210; clear H208
       refine wpList_nil ?_
       refine gw_nx (hK196 _ _ ?_)
       refine gw_cond H210 rfl (fun hb211 => ?_) (fun hb211 => ?_)
       rotate_left
       ·
        cases hb211
       refine wp_exit ?_
       refine gw_thx ?_
       refine gw_out (by decide) ?_
       refine gw_thx ?_
       refine gw_in ?_
       refine gw_nx ⟨is, xs, sz, (H210.pick (t := 0) rfl (H210.pick (t := 1) rfl (H210.pick (t := 4) rfl (H210.pick (t := 5) rfl (H210.pick (t := 6) rfl (H210.pick (t := 7) rfl H210.nil)))))), O179.sel [1, 2, 3, 4, 5, 6] (by decide), ?_, ?_, ?_⟩
       ·
        exact hxs
       ·
        exact hsc.symm.trans (by first | exact scan_stop1 hok | exact scan_stop2 hok hen171 | exact scan_stop3 hok hen171 hhas)
       ·
        exact hsz
      ·
       refine ⟨_, rfl, fun _ H178 => ?_⟩
       have O179 : Own w0 w175 [Chunk.row (Kd.int .u8) 5 w0.heap.size S131 (.slice A129 (((Pure.splitOf (((readD nm d).1).drop sz.toNat)).1).length) c130) ((Pure.splitOf (((readD nm d).1).drop sz.toNat)).1), R, Chunk.disk w0.heap.size gd S1 d1, Bk g19 [.pointer (some ⟨gd, 0, none⟩), .string nm, .map (some g11), J sz] 100, Chunk.lmap Try.prog 2 g11 (xs.map XJ.ent), Chunk.jrows w0.heap.size xs, Chunk.view (Kd.int .u8) S36 A34 (((readD nm d).1).length) c35 ((readD nm d).1)] := O140.after hb176
       clear O180 hb176
       clear H166 O140
       have hei := entry_in hen171
       refine V H178 (op_move rfl (H178.ev rfl)) ?_
       intro _ H213; clear H178
       refine V H213 (op_extract rfl (H213.ev rfl) rfl) ?_
       intro _ H215; clear H213
       refine V H215 (op_extract rfl (H215.ev rfl) rfl) ?_
       intro _ H217; clear H215
       refine V H217 (op_extract rfl (H217.ev rfl) rfl) ?_
       intro _ H219; clear H217
       refine V H219 (op_assign rfl (H219.ev rfl)) ?_
       intro _ H221; clear H219
       refine V H221 (op_assign rfl (H221.ev rfl)) ?_
       intro _ H223; clear H221
       refine V H223 (op_assign rfl (H223.ev rfl)) ?_
       intro _ H225; clear H223
       refine wpList_nil ?_
       refine gw_nx (hK164 _ _ ?_)
       refine gw_seq fun K226 hK226 => ?_
       refine gw_seq fun K227 hK227 => ?_
       refine wp_region_lit ?_
       refine V H225 (op_move rfl (H225.ev rfl)) ?_
       intro _ H229; clear H225
       refine V H229 (op_not rfl (H229.ev rfl)) ?_
       intro _ H231; clear H229
       refine V H231 (op_move rfl (H231.ev rfl)) ?_
       intro _ H233; clear H231
       refine V2 H233 (want_yes H233 rfl rfl rfl rfl) (op_move rfl (H233.ev rfl)) ?_
       intro _ H235; clear H233
       refine V2 H235 (want_yes H235 rfl rfl rfl rfl) (op_move rfl (H235.ev rfl)) ?_
       intro _ H237; clear H235
       obtain ⟨Sj238, HOj239⟩ := jour_close2 (R := R) (base := w0.heap.size) (xs := xs) hxs (by exact O179.sel [1, 2, 3, 4, 5] (by decide))
       refine gw_call H237 (want_yes H237 rfl rfl rfl rfl) rfl (by decide) (op_callL Try.func38 (by kernel_rfl) rfl rfl (ar_cons (H237.ev rfl) (ar_cons (H237.ev rfl) ar_nil))) (has_calls w0.heap.size gd g19 nm Sj238 is sz _ (HOj239.get 2 rfl) kn167 (wf_i64 (by omega))) ?_
       rintro e240 w241 ⟨rfl, hb242⟩
       refine ⟨_, rfl, fun _ H244 => ?_⟩
       have O245 := O179.after hb242
       clear H237 O179 hb242
       refine V H244 (op_pick_f rfl (H244.ev rfl) (H244.ev rfl)) ?_
       intro _ H248; clear H244
       refine wpList_nil ?_
       refine gw_nx (hK227 _ _ ?_)
       refine gw_cond H248 rfl (fun hb249 => ?_) (fun hb249 => ?_)
       ·
        have H250 := H248.subst_ (d := 60) (b := true) rfl hb249
        clear H248
        (try simp only [Bool.and_eq_true, Bool.or_eq_true, Bool.and_eq_false_iff, Bool.or_eq_false_iff, Bool.not_and, Bool.not_or, Bool.not_not, decide_eq_true_eq, decide_eq_false_iff_not, Bool.not_eq_true', Bool.not_eq_false', Bool.not_eq_true, Bool.not_eq_false, ne_eq, Decidable.not_not, Int.not_lt, Int.not_le, not_true_eq_false, not_false_eq_true, bne_iff_ne, beq_iff_eq, bne_eq_false_iff_eq, beq_eq_false_iff_ne] at hb249)
        have hhas := hb249
        refine wp_exit ?_
        refine gw_thx ?_
        refine gw_out (by decide) ?_
        refine gw_thx ?_
        refine gw_in ?_
        refine gw_nx ⟨is, xs, sz, (H250.pick (t := 0) rfl (H250.pick (t := 1) rfl (H250.pick (t := 4) rfl (H250.pick (t := 5) rfl (H250.pick (t := 6) rfl (H250.pick (t := 7) rfl H250.nil)))))), O245.sel [1, 2, 3, 4, 5, 6] (by decide), ?_, ?_, ?_⟩
        ·
         exact hxs
        ·
         exact hsc.symm.trans (by first | exact scan_stop1 hok | exact scan_stop2 hok hen171 | exact scan_stop3 hok hen171 hhas)
        ·
         exact hsz
       ·
        have H251 := H248.subst_ (d := 60) (b := false) rfl hb249
        clear H248
        (try simp only [Bool.and_eq_true, Bool.or_eq_true, Bool.and_eq_false_iff, Bool.or_eq_false_iff, Bool.not_and, Bool.not_or, Bool.not_not, decide_eq_true_eq, decide_eq_false_iff_not, Bool.not_eq_true', Bool.not_eq_false', Bool.not_eq_true, Bool.not_eq_false, ne_eq, Decidable.not_not, Int.not_lt, Int.not_le, not_true_eq_false, not_false_eq_true, bne_iff_ne, beq_iff_eq, bne_eq_false_iff_eq, beq_eq_false_iff_ne] at hb249)
        have hhas := hb249
        have hno := none_key hxs hhas
        refine wp_skip ?_
        refine gw_nx (hK226 _ _ ?_)
        refine gw_seq fun K252 hK252 => ?_
        have O253 := O245.pin 6 rfl
        clear O245
        have O254 : Own w0 w241 [Chunk.row (Kd.int .u8) 5 w0.heap.size S131 (.slice A129 (((Pure.splitOf (((readD nm d).1).drop sz.toNat)).1).length) c130) ((Pure.splitOf (((readD nm d).1).drop sz.toNat)).1), R, Chunk.disk w0.heap.size gd S1 d1, Bk g19 [.pointer (some ⟨gd, 0, none⟩), .string nm, .map (some g11), J sz] 100, Chunk.lmap Try.prog 2 g11 (xs.map XJ.ent), Chunk.jrows w0.heap.size xs, Chunk.viewAt w241 (Kd.int .u8) S36 A34 (((readD nm d).1).length) c35 ((readD nm d).1)] := O253
        clear O253
        refine gx_draw (M := [Chunk.row (Kd.int .u8) 5 w0.heap.size S131 (.slice A129 (((Pure.splitOf (((readD nm d).1).drop sz.toNat)).1).length) c130) ((Pure.splitOf (((readD nm d).1).drop sz.toNat)).1), R, Chunk.disk w0.heap.size gd S1 d1, Bk g19 [.pointer (some ⟨gd, 0, none⟩), .string nm, .map (some g11), J sz] 100, Chunk.lmap Try.prog 2 g11 (xs.map XJ.ent), Chunk.jrows w0.heap.size xs, Chunk.viewAt w241 (Kd.int .u8) S36 A34 (((readD nm d).1).length) c35 ((readD nm d).1)]) (fun j_ => j_ == 7) O254 (by kernel_rfl) fun w255 O256 => ?_
        clear O254
        refine gx_take 0 rfl (by kernel_rfl) H251 (by exact O256.sel [0, 1, 2, 3, 4, 5, 6] (by decide)) (want_none rfl) rfl (by decide) (fun wq HO => (op_move rfl (H251.ev rfl))) ?_
        intro _ H258; clear H251
        refine gx_take 1 rfl (by kernel_rfl) H258 (by exact O256.sel [0, 1, 2, 3, 4, 5, 6] (by decide)) (want_none rfl) rfl (by decide) (fun wq HO => (op_nil rfl (H258.ev rfl))) ?_
        intro _ H260; clear H258
        refine gx_take 2 rfl (by kernel_rfl) H260 (by exact O256.sel [0, 1, 2, 3, 4, 5, 6] (by decide)) (want_none rfl) rfl (by decide) (fun wq HO => (op_field (gwfld100_2 _ _) rfl (H260.ev rfl))) ?_
        intro _ H262; clear H260
        refine gx_take 3 rfl (by kernel_rfl) H262 (by exact O256.sel [0, 1, 2, 3, 4, 5, 6] (by decide)) (want_none rfl) rfl (by decide) (fun wq HO => (op_load1 gwagg98 rfl (H262.ev rfl) (blk_at (HO.get 3 rfl) rfl))) ?_
        intro _ H264; clear H262
        refine gx_take 4 rfl (by kernel_rfl) H264 (by exact O256.sel [0, 1, 2, 3, 4, 5, 6] (by decide)) (want_none rfl) rfl (by decide) (fun wq HO => (op_move rfl (H264.ev rfl))) ?_
        intro _ H266; clear H264
        refine gx_take 5 rfl (by kernel_rfl) H266 (by exact O256.sel [0, 1, 2, 3, 4, 5, 6] (by decide)) (want_none rfl) rfl (by decide) (fun wq HO => (op_move rfl (H266.ev rfl))) ?_
        intro _ H268; clear H266
        refine gx_step 6 rfl (by kernel_rfl) ?_
        refine gw_call H268 (want_none rfl) rfl (by decide) (op_callL Try.func45 (by kernel_rfl) rfl rfl (ar_cons (H268.ev rfl) ar_nil)) (clone0 A169 c170 (((Pure.splitOf (((readD nm d).1).drop sz.toNat)).1).drop kk168) _ (hC172 _ (Kd.R_reads' (O256.get 0 rfl)).2.2) hc173 (by have h_ := split_len ((readD nm d).1.drop sz.toNat); simp only [List.length_drop] at *; omega)) ?_
        rintro e272 w273 ⟨A269, c270, S271, rfl, hb274⟩
        refine ⟨_, rfl, fun _ H276 => ?_⟩
        have O277 := O256.fresh hb274
        have hbel278 := O256.below
        clear H268 O256 hb274
        have O279 := O277.lowrow 0 rfl (base' := w0.heap.size) (Below.size hbel278)
        have O280 : Own w0 w273 [Chunk.row (Kd.int .u8) 5 w0.heap.size S271 (.slice A269 ((((Pure.splitOf (((readD nm d).1).drop sz.toNat)).1).drop kk168).length) c270) (((Pure.splitOf (((readD nm d).1).drop sz.toNat)).1).drop kk168), Chunk.row (Kd.int .u8) 5 w0.heap.size S131 (.slice A129 (((Pure.splitOf (((readD nm d).1).drop sz.toNat)).1).length) c130) ((Pure.splitOf (((readD nm d).1).drop sz.toNat)).1), R, Chunk.disk w0.heap.size gd S1 d1, Bk g19 [.pointer (some ⟨gd, 0, none⟩), .string nm, .map (some g11), J sz] 100, Chunk.lmap Try.prog 2 g11 (xs.map XJ.ent), Chunk.jrows w0.heap.size xs, Chunk.viewAt w241 (Kd.int .u8) S36 A34 (((readD nm d).1).length) c35 ((readD nm d).1)] := O279
        clear O279
        refine gx_on (i := 6) (B := (fun j_ => j_ == 7)) (M := [Chunk.row (Kd.int .u8) 5 w0.heap.size S131 (.slice A129 (((Pure.splitOf (((readD nm d).1).drop sz.toNat)).1).length) c130) ((Pure.splitOf (((readD nm d).1).drop sz.toNat)).1), R, Chunk.disk w0.heap.size gd S1 d1, Bk g19 [.pointer (some ⟨gd, 0, none⟩), .string nm, .map (some g11), J sz] 100, Chunk.lmap Try.prog 2 g11 (xs.map XJ.ent), Chunk.jrows w0.heap.size xs, Chunk.viewAt w241 (Kd.int .u8) S36 A34 (((readD nm d).1).length) c35 ((readD nm d).1)]) (fun _ => (by exact O280.sel [1, 2, 3, 4, 5, 6, 7] (by decide))) ?_
        refine gx_step 7 rfl (by kernel_rfl) ?_
        refine gw_mput 5 (Go.Maps.int_keyed Try.underlying2) Try.underlying98 H276 O280 rfl (want_none rfl) rfl rfl (H276.ev rfl) (H276.ev rfl) (H276.ev rfl) (Go.Maps.keyOf_int_mk Try.underlying2 (wf_i64 (by omega))) (by rw [List.length_map]; omega) ?_
        intro _ w282 H283 O284; clear H276 O280
        have O285 : Own w0 w282 [Chunk.row (Kd.int .u8) 5 w0.heap.size S271 (.slice A269 ((((Pure.splitOf (((readD nm d).1).drop sz.toNat)).1).drop kk168).length) c270) (((Pure.splitOf (((readD nm d).1).drop sz.toNat)).1).drop kk168), Chunk.row (Kd.int .u8) 5 w0.heap.size S131 (.slice A129 (((Pure.splitOf (((readD nm d).1).drop sz.toNat)).1).length) c130) ((Pure.splitOf (((readD nm d).1).drop sz.toNat)).1), R, Chunk.disk w0.heap.size gd S1 d1, Bk g19 [.pointer (some ⟨gd, 0, none⟩), .string nm, .map (some g11), J sz] 100, Chunk.lmap Try.prog 2 g11 (lput (Lit.int .i64 kn167) (.slice A269 ((((Pure.splitOf (((readD nm d).1).drop sz.toNat)).1).drop kk168).length) c270) (xs.map XJ.ent)), Chunk.jrows w0.heap.size xs, Chunk.viewAt w241 (Kd.int .u8) S36 A34 (((readD nm d).1).length) c35 ((readD nm d).1)] := O284
        clear O284
        have elp_ := lput_new (x := (⟨kn167, (Pure.splitOf ((readD nm d).1.drop sz.toNat)).1.drop kk168, A269, c270, S271⟩ : XJ)) (xs := xs) hno
        have O286 : Own w0 w282 [Chunk.row (Kd.int .u8) 5 w0.heap.size S271 (.slice A269 ((((Pure.splitOf (((readD nm d).1).drop sz.toNat)).1).drop kk168).length) c270) (((Pure.splitOf (((readD nm d).1).drop sz.toNat)).1).drop kk168), Chunk.row (Kd.int .u8) 5 w0.heap.size S131 (.slice A129 (((Pure.splitOf (((readD nm d).1).drop sz.toNat)).1).length) c130) ((Pure.splitOf (((readD nm d).1).drop sz.toNat)).1), R, Chunk.disk w0.heap.size gd S1 d1, Bk g19 [.pointer (some ⟨gd, 0, none⟩), .string nm, .map (some g11), J sz] 100, Chunk.lmap Try.prog 2 g11 ((insJ (⟨kn167, (Pure.splitOf ((readD nm d).1.drop sz.toNat)).1.drop kk168, A269, c270, S271⟩ : XJ) xs).map XJ.ent), Chunk.jrows w0.heap.size xs, Chunk.viewAt w241 (Kd.int .u8) S36 A34 (((readD nm d).1).length) c35 ((readD nm d).1)] := by have h_ := O285; rw [show lput (Lit.int .i64 kn167) (.slice A269 ((((Pure.splitOf (((readD nm d).1).drop sz.toNat)).1).drop kk168).length) c270) (xs.map XJ.ent) = (insJ (⟨kn167, (Pure.splitOf ((readD nm d).1.drop sz.toNat)).1.drop kk168, A269, c270, S271⟩ : XJ) xs).map XJ.ent from elp_] at h_; exact h_
        refine gx_on (i := 7) (B := (fun j_ => j_ == 7)) (M := [Chunk.row (Kd.int .u8) 5 w0.heap.size S131 (.slice A129 (((Pure.splitOf (((readD nm d).1).drop sz.toNat)).1).length) c130) ((Pure.splitOf (((readD nm d).1).drop sz.toNat)).1), R, Chunk.disk w0.heap.size gd S1 d1, Bk g19 [.pointer (some ⟨gd, 0, none⟩), .string nm, .map (some g11), J sz] 100, Chunk.lmap Try.prog 2 g11 (xs.map XJ.ent), Chunk.jrows w0.heap.size xs, Chunk.viewAt w241 (Kd.int .u8) S36 A34 (((readD nm d).1).length) c35 ((readD nm d).1)]) (fun h_ => by cases h_) ?_
        refine gx_done (by kernel_rfl) ?_
        refine gw_nx (hK252 _ _ ?_)
        refine wp_region_lit ?_
        refine V H283 (op_move rfl (H283.ev rfl)) ?_
        intro _ H288; clear H283
        refine V H288 (op_nil rfl (H288.ev rfl)) ?_
        intro _ H290; clear H288
        refine V H290 (op_field (gwfld100_3 _ _) rfl (H290.ev rfl)) ?_
        intro _ H292; clear H290
        refine V H292 (op_load1 gwagg3 rfl (H292.ev rfl) (blk_at (O286.get 4 rfl) rfl)) ?_
        intro _ H294; clear H292
        refine V H294 (op_move rfl (H294.ev rfl)) ?_
        intro _ H296; clear H294
        refine V H296 (op_add rfl (H296.ev rfl) (H296.ev rfl) (by omega)) ?_
        intro _ H298; clear H296
        refine V H298 (op_nil rfl (H298.ev rfl)) ?_
        intro _ H300; clear H298
        refine V H300 (op_field (gwfld100_3 _ _) rfl (H300.ev rfl)) ?_
        intro _ H302; clear H300
        refine gw_set 4 H302 O286 rfl (want_none rfl) rfl (op_store1 gwsiz3 rfl (H302.ev rfl) (H302.ev rfl) rfl (blk_at (O286.get 4 rfl) rfl) (blkf (O286.get 4 rfl))) ?_
        intro _ w305 H304 O306; clear H302 O286
        have O307 : Own w0 w305 [Chunk.row (Kd.int .u8) 5 w0.heap.size S271 (.slice A269 ((((Pure.splitOf (((readD nm d).1).drop sz.toNat)).1).drop kk168).length) c270) (((Pure.splitOf (((readD nm d).1).drop sz.toNat)).1).drop kk168), Chunk.row (Kd.int .u8) 5 w0.heap.size S131 (.slice A129 (((Pure.splitOf (((readD nm d).1).drop sz.toNat)).1).length) c130) ((Pure.splitOf (((readD nm d).1).drop sz.toNat)).1), R, Chunk.disk w0.heap.size gd S1 d1, Bk g19 [.pointer (some ⟨gd, 0, none⟩), .string nm, .map (some g11), J (sz + ((Pure.splitOf (((readD nm d).1).drop sz.toNat)).2.1))] 100, Chunk.lmap Try.prog 2 g11 ((insJ (⟨kn167, (Pure.splitOf ((readD nm d).1.drop sz.toNat)).1.drop kk168, A269, c270, S271⟩ : XJ) xs).map XJ.ent), Chunk.jrows w0.heap.size xs, Chunk.viewAt w241 (Kd.int .u8) S36 A34 (((readD nm d).1).length) c35 ((readD nm d).1)] := O306
        clear O306
        refine wpList_nil ?_
        refine gw_blk ?_
        have O308 := O307.unpin 7 rfl
        clear O307
        have O309 : Own w0 w305 [Chunk.row (Kd.int .u8) 5 w0.heap.size S271 (.slice A269 ((((Pure.splitOf (((readD nm d).1).drop sz.toNat)).1).drop kk168).length) c270) (((Pure.splitOf (((readD nm d).1).drop sz.toNat)).1).drop kk168), Chunk.row (Kd.int .u8) 5 w0.heap.size S131 (.slice A129 (((Pure.splitOf (((readD nm d).1).drop sz.toNat)).1).length) c130) ((Pure.splitOf (((readD nm d).1).drop sz.toNat)).1), R, Chunk.disk w0.heap.size gd S1 d1, Bk g19 [.pointer (some ⟨gd, 0, none⟩), .string nm, .map (some g11), J (sz + ((Pure.splitOf (((readD nm d).1).drop sz.toNat)).2.1))] 100, Chunk.lmap Try.prog 2 g11 ((insJ (⟨kn167, (Pure.splitOf ((readD nm d).1.drop sz.toNat)).1.drop kk168, A269, c270, S271⟩ : XJ) xs).map XJ.ent), Chunk.jrows w0.heap.size xs, Chunk.view (Kd.int .u8) S36 A34 (((readD nm d).1).length) c35 ((readD nm d).1)] := O308
        clear O308
        have O310 := Own.jrow_in (x := (⟨kn167, (Pure.splitOf ((readD nm d).1.drop sz.toNat)).1.drop kk168, A269, c270, S271⟩ : XJ)) (xs := xs) (by exact O309.sel [0, 6, 1, 2, 3, 4, 5, 7] (by decide))
        refine gw_nx ⟨_, ?_, (is ++ [(kn167, (Pure.splitOf ((readD nm d).1.drop sz.toNat)).1.drop kk168)]), (insJ (⟨kn167, (Pure.splitOf ((readD nm d).1.drop sz.toNat)).1.drop kk168, A269, c270, S271⟩ : XJ) xs), (sz + (Pure.splitOf ((readD nm d).1.drop sz.toNat)).2.1), (f - 1), (H304.pick (t := 0) rfl (H304.pick (t := 1) rfl (H304.pick (t := 4) rfl (H304.pick (t := 5) rfl (H304.pick (t := 6) rfl (H304.pick (t := 7) rfl H304.nil)))))), O310.sel [2, 3, 4, 5, 0, 6] (by decide), ?_, ?_, ?_, ?_, ?_, rfl⟩
        ·
         rw [hm109]; omega
        ·
         exact ins_items hxs
        ·
         rw [← hsc, scan_go (by omega) hok hen171 hhas, List.drop_drop]; congr 2; omega
        ·
         omega
        ·
         omega
        ·
         rw [List.length_append, List.length_singleton]; omega
   ·
    rintro _ w312 ⟨is, xs, sz, H313, O314, hxs, hsc, hsz⟩
    refine gw_seq fun K315 hK315 => ?_
    refine gw_seq fun K316 hK316 => ?_
    refine wp_region_lit ?_
    refine V H313 (op_move rfl (H313.ev rfl)) ?_
    intro _ H318; clear H313
    refine V H318 (op_nil rfl (H318.ev rfl)) ?_
    intro _ H320; clear H318
    refine V H320 (op_field (gwfld100_3 _ _) rfl (H320.ev rfl)) ?_
    intro _ H322; clear H320
    refine V H322 (op_load1 gwagg3 rfl (H322.ev rfl) (blk_at (O314.get 2 rfl) rfl)) ?_
    intro _ H324; clear H322
    refine V H324 (op_move rfl (H324.ev rfl)) ?_
    intro _ H326; clear H324
    refine V H326 (op_len Try.underlying28 rfl (H326.ev rfl)) ?_
    intro _ H328; clear H326
    refine V H328 (op_lss rfl (H328.ev rfl) (H328.ev rfl)) ?_
    intro _ H330; clear H328
    refine wpList_nil ?_
    refine gw_nx (hK316 _ _ ?_)
    refine gw_cond H330 rfl (fun hb331 => ?_) (fun hb331 => ?_)
    ·
     have H332 := H330.subst_ (d := 82) (b := true) rfl hb331
     clear H330
     (try simp only [decide_eq_true_eq] at hb331)
     have hlt := hb331
     refine gw_seq fun K333 hK333 => ?_
     refine wp_region_lit ?_
     refine V H332 (op_move rfl (H332.ev rfl)) ?_
     intro _ H335; clear H332
     refine V H335 (op_move rfl (H335.ev rfl)) ?_
     intro _ H337; clear H335
     refine V H337 (op_move rfl (H337.ev rfl)) ?_
     intro _ H339; clear H337
     refine V H339 (op_nil rfl (H339.ev rfl)) ?_
     intro _ H341; clear H339
     refine V H341 (op_field (gwfld100_3 _ _) rfl (H341.ev rfl)) ?_
     intro _ H343; clear H341
     refine V H343 (op_load1 gwagg3 rfl (H343.ev rfl) (blk_at (O314.get 2 rfl) rfl)) ?_
     intro _ H345; clear H343
     have O354 : Own w0 _ [(Chunk.all [R, Bk g19 [.pointer (some ⟨gd, 0, none⟩), .string nm, .map (some g11), J sz] 100, Chunk.lmap Try.prog 2 g11 (xs.map XJ.ent), Chunk.jrows w0.heap.size xs, Chunk.view (Kd.int .u8) S36 A34 (((readD nm d).1).length) c35 ((readD nm d).1)]), Chunk.disk w0.heap.size gd S1 d1] := Own.bundle (A := [R, Bk g19 [.pointer (some ⟨gd, 0, none⟩), .string nm, .map (some g11), J sz] 100, Chunk.lmap Try.prog 2 g11 (xs.map XJ.ent), Chunk.jrows w0.heap.size xs, Chunk.view (Kd.int .u8) S36 A34 (((readD nm d).1).length) c35 ((readD nm d).1)]) (L := [Chunk.disk w0.heap.size gd S1 d1]) (O314.sel [0, 2, 3, 4, 5, 1] (by decide))
     refine gw_call H345 (want_none rfl) rfl (by decide) (op_callL Try.func51 (by kernel_rfl) rfl rfl (ar_cons (H345.ev rfl) (ar_cons (H345.ev rfl) (ar_cons (H345.ev rfl) ar_nil)))) (cut_calls w0 _ (Chunk.all [R, Bk g19 [.pointer (some ⟨gd, 0, none⟩), .string nm, .map (some g11), J sz] 100, Chunk.lmap Try.prog 2 g11 (xs.map XJ.ent), Chunk.jrows w0.heap.size xs, Chunk.view (Kd.int .u8) S36 A34 (((readD nm d).1).length) c35 ((readD nm d).1)]) gd S1 d1 nm sz hw1 hn (by exact O354)) ?_
     rintro e348 w349 ⟨rfl, S346, hb350⟩
     refine ⟨_, rfl, fun _ H352 => ?_⟩
     have O353 : Own w0 w349 [R, Bk g19 [.pointer (some ⟨gd, 0, none⟩), .string nm, .map (some g11), J sz] 100, Chunk.lmap Try.prog 2 g11 (xs.map XJ.ent), Chunk.jrows w0.heap.size xs, Chunk.view (Kd.int .u8) S36 A34 (((readD nm d).1).length) c35 ((readD nm d).1), Chunk.disk w0.heap.size gd S346 ((cutD nm sz d1).1)] := Own.unbundle (A := [R, Bk g19 [.pointer (some ⟨gd, 0, none⟩), .string nm, .map (some g11), J sz] 100, Chunk.lmap Try.prog 2 g11 (xs.map XJ.ent), Chunk.jrows w0.heap.size xs, Chunk.view (Kd.int .u8) S36 A34 (((readD nm d).1).length) c35 ((readD nm d).1)]) (L := [Chunk.disk w0.heap.size gd S346 ((cutD nm sz d1).1)]) (hb350.sel [0, 1] (by decide))
     clear O354
     clear H345 O314 hb350
     have O356 : Own w0 w349 [R, Bk g19 [.pointer (some ⟨gd, 0, none⟩), .string nm, .map (some g11), J sz] 100, Chunk.lmap Try.prog 2 g11 (xs.map XJ.ent), Chunk.jrows w0.heap.size xs, Chunk.view (Kd.int .u8) S36 A34 (((readD nm d).1).length) c35 ((readD nm d).1), Chunk.disk w0.heap.size gd S346 ((cutD nm sz d1).1)] := O353
     clear O353
     have hwf347 : wfD ((cutD nm sz d1).1) := wf_cut hw1
     refine V H352 (op_assign rfl (H352.ev rfl)) ?_
     intro _ H358; clear H352
     refine wpList_nil ?_
     refine gw_nx (hK333 _ _ ?_)
     refine gw_seq fun K359 hK359 => ?_
     refine wp_region_lit ?_
     refine V H358 (op_move rfl (H358.ev rfl)) ?_
     intro _ H361; clear H358
     refine V H361 (op_nei rfl (H361.ev rfl) (ev_c _ _)) ?_
     intro _ H363; clear H361
     refine wpList_nil ?_
     refine gw_nx (hK359 _ _ ?_)
     refine gw_cond H363 rfl (fun hb364 => ?_) (fun hb364 => ?_)
     ·
      have H365 := H363.subst_ (d := 91) (b := true) rfl hb364
      clear H363
      (try simp only [decide_eq_true_eq, ne_eq] at hb364)
      have hne := hb364
      refine gw_seq fun K366 hK366 => ?_
      refine wp_region_lit ?_
      refine V H365 (op_move rfl (H365.ev rfl)) ?_
      intro _ H368; clear H365
      refine V H368 (op_assign rfl (ev_c _ _)) ?_
      intro _ H370; clear H368
      refine V H370 (op_assign rfl (H370.ev rfl)) ?_
      intro _ H372; clear H370
      refine wpList_nil ?_
      refine gw_nx (hK366 _ _ ?_)
      refine wp_ret ?_
      refine gw_thr ?_
      refine gw_ret2 H372 rfl rfl rfl ?_
      rw [open2 hpre he8 hsc hlt hne]
      exact .inl ⟨rfl, by first | exact hne | (show _ ≠ _; exact hne), _, O356.sel [0, 5] (by decide)⟩
     ·
      have H373 := H363.subst_ (d := 91) (b := false) rfl hb364
      clear H363
      (try simp only [decide_eq_false_iff_not, ne_eq, Decidable.not_not] at hb364)
      have hcu := hb364
      refine wp_skip ?_
      refine gw_nx (hK315 _ _ ?_)
      refine gw_seq fun K374 hK374 => ?_
      refine gw_seq fun K375 hK375 => ?_
      refine wp_region_lit ?_
      refine V H373 (op_move rfl (H373.ev rfl)) ?_
      intro _ H377; clear H373
      refine V H377 (op_move rfl (H377.ev rfl)) ?_
      intro _ H379; clear H377
      have O388 : Own w0 _ [(Chunk.all [R, Bk g19 [.pointer (some ⟨gd, 0, none⟩), .string nm, .map (some g11), J sz] 100, Chunk.lmap Try.prog 2 g11 (xs.map XJ.ent), Chunk.jrows w0.heap.size xs, Chunk.view (Kd.int .u8) S36 A34 (((readD nm d).1).length) c35 ((readD nm d).1)]), Chunk.disk w0.heap.size gd S346 ((cutD nm sz d1).1)] := Own.bundle (A := [R, Bk g19 [.pointer (some ⟨gd, 0, none⟩), .string nm, .map (some g11), J sz] 100, Chunk.lmap Try.prog 2 g11 (xs.map XJ.ent), Chunk.jrows w0.heap.size xs, Chunk.view (Kd.int .u8) S36 A34 (((readD nm d).1).length) c35 ((readD nm d).1)]) (L := [Chunk.disk w0.heap.size gd S346 ((cutD nm sz d1).1)]) (O356.sel [0, 1, 2, 3, 4, 5] (by decide))
      refine gw_call H379 (want_none rfl) rfl (by decide) (op_callL Try.func16 (by kernel_rfl) rfl rfl (ar_cons (H379.ev rfl) (ar_cons (H379.ev rfl) ar_nil))) (sync_calls w0 _ (Chunk.all [R, Bk g19 [.pointer (some ⟨gd, 0, none⟩), .string nm, .map (some g11), J sz] 100, Chunk.lmap Try.prog 2 g11 (xs.map XJ.ent), Chunk.jrows w0.heap.size xs, Chunk.view (Kd.int .u8) S36 A34 (((readD nm d).1).length) c35 ((readD nm d).1)]) gd S346 ((cutD nm sz d1).1) nm hwf347 hn (by exact O388)) ?_
      rintro e382 w383 ⟨rfl, S380, hb384⟩
      refine ⟨_, rfl, fun _ H386 => ?_⟩
      have O387 : Own w0 w383 [R, Bk g19 [.pointer (some ⟨gd, 0, none⟩), .string nm, .map (some g11), J sz] 100, Chunk.lmap Try.prog 2 g11 (xs.map XJ.ent), Chunk.jrows w0.heap.size xs, Chunk.view (Kd.int .u8) S36 A34 (((readD nm d).1).length) c35 ((readD nm d).1), Chunk.disk w0.heap.size gd S380 ((syncD nm ((cutD nm sz d1).1)).1)] := Own.unbundle (A := [R, Bk g19 [.pointer (some ⟨gd, 0, none⟩), .string nm, .map (some g11), J sz] 100, Chunk.lmap Try.prog 2 g11 (xs.map XJ.ent), Chunk.jrows w0.heap.size xs, Chunk.view (Kd.int .u8) S36 A34 (((readD nm d).1).length) c35 ((readD nm d).1)]) (L := [Chunk.disk w0.heap.size gd S380 ((syncD nm ((cutD nm sz d1).1)).1)]) (hb384.sel [0, 1] (by decide))
      clear O388
      clear H379 O356 hb384
      have O390 : Own w0 w383 [R, Bk g19 [.pointer (some ⟨gd, 0, none⟩), .string nm, .map (some g11), J sz] 100, Chunk.lmap Try.prog 2 g11 (xs.map XJ.ent), Chunk.jrows w0.heap.size xs, Chunk.view (Kd.int .u8) S36 A34 (((readD nm d).1).length) c35 ((readD nm d).1), Chunk.disk w0.heap.size gd S380 ((syncD nm ((cutD nm sz d1).1)).1)] := O387
      clear O387
      have hwf381 : wfD ((syncD nm ((cutD nm sz d1).1)).1) := wf_sync hwf347
      refine V H386 (op_assign rfl (H386.ev rfl)) ?_
      intro _ H392; clear H386
      refine wpList_nil ?_
      refine gw_nx (hK375 _ _ ?_)
      refine gw_seq fun K393 hK393 => ?_
      refine wp_region_lit ?_
      refine V H392 (op_move rfl (H392.ev rfl)) ?_
      intro _ H395; clear H392
      refine V H395 (op_nei rfl (H395.ev rfl) (ev_c _ _)) ?_
      intro _ H397; clear H395
      refine wpList_nil ?_
      refine gw_nx (hK393 _ _ ?_)
      refine gw_cond H397 rfl (fun hb398 => ?_) (fun hb398 => ?_)
      ·
       have H399 := H397.subst_ (d := 97) (b := true) rfl hb398
       clear H397
       (try simp only [decide_eq_true_eq, ne_eq] at hb398)
       have hne := hb398
       refine gw_seq fun K400 hK400 => ?_
       refine wp_region_lit ?_
       refine V H399 (op_move rfl (H399.ev rfl)) ?_
       intro _ H402; clear H399
       refine V H402 (op_assign rfl (ev_c _ _)) ?_
       intro _ H404; clear H402
       refine V H404 (op_assign rfl (H404.ev rfl)) ?_
       intro _ H406; clear H404
       refine wpList_nil ?_
       refine gw_nx (hK400 _ _ ?_)
       refine wp_ret ?_
       refine gw_thr ?_
       refine gw_ret2 H406 rfl rfl rfl ?_
       rw [open3 hpre he8 hsc hlt hcu]
       exact .inl ⟨rfl, by first | exact hne | (show _ ≠ _; exact hne), _, O390.sel [0, 5] (by decide)⟩
      ·
       have H407 := H397.subst_ (d := 97) (b := false) rfl hb398
       clear H397
       (try simp only [decide_eq_false_iff_not, ne_eq, Decidable.not_not] at hb398)
       have hsy := hb398
       refine wp_skip ?_
       refine gw_nx (hK374 _ _ ?_)
       refine gw_seq fun K408 hK408 => ?_
       refine wp_region_lit ?_
       refine V H407 (op_move rfl (H407.ev rfl)) ?_
       intro _ H410; clear H407
       refine V H410 (op_assign rfl (H410.ev rfl)) ?_
       intro _ H412; clear H410
       refine V H412 (op_assign rfl (ev_c _ _)) ?_
       intro _ H414; clear H412
       refine wpList_nil ?_
       refine gw_nx (hK408 _ _ ?_)
       refine wp_ret ?_
       refine gw_ret2 H414 rfl rfl rfl ?_
       obtain ⟨SJ', HOj⟩ := jour_close2 (xs := xs) hxs (by exact O390.sel [0, 5, 1, 2, 3] (by decide))
       rw [open3 hpre he8 hsc hlt hcu]
       exact .inr ⟨hsy, _, SJ', _, rfl, HOj⟩
    ·
     have H415 := H330.subst_ (d := 82) (b := false) rfl hb331
     clear H330
     (try simp only [decide_eq_false_iff_not, Int.not_lt] at hb331)
     have hlt : ¬ sz < ((readD nm d).1.length : Int) := by omega
     refine wp_skip ?_
     refine gw_nx (hK315 _ _ ?_)
     refine gw_seq fun K416 hK416 => ?_
     refine gw_seq fun K417 hK417 => ?_
     refine wp_region_lit ?_
     refine V H415 (op_move rfl (H415.ev rfl)) ?_
     intro _ H419; clear H415
     refine V H419 (op_move rfl (H419.ev rfl)) ?_
     intro _ H421; clear H419
     have O430 : Own w0 _ [(Chunk.all [R, Bk g19 [.pointer (some ⟨gd, 0, none⟩), .string nm, .map (some g11), J sz] 100, Chunk.lmap Try.prog 2 g11 (xs.map XJ.ent), Chunk.jrows w0.heap.size xs, Chunk.view (Kd.int .u8) S36 A34 (((readD nm d).1).length) c35 ((readD nm d).1)]), Chunk.disk w0.heap.size gd S1 d1] := Own.bundle (A := [R, Bk g19 [.pointer (some ⟨gd, 0, none⟩), .string nm, .map (some g11), J sz] 100, Chunk.lmap Try.prog 2 g11 (xs.map XJ.ent), Chunk.jrows w0.heap.size xs, Chunk.view (Kd.int .u8) S36 A34 (((readD nm d).1).length) c35 ((readD nm d).1)]) (L := [Chunk.disk w0.heap.size gd S1 d1]) (O314.sel [0, 2, 3, 4, 5, 1] (by decide))
     refine gw_call H421 (want_none rfl) rfl (by decide) (op_callL Try.func16 (by kernel_rfl) rfl rfl (ar_cons (H421.ev rfl) (ar_cons (H421.ev rfl) ar_nil))) (sync_calls w0 _ (Chunk.all [R, Bk g19 [.pointer (some ⟨gd, 0, none⟩), .string nm, .map (some g11), J sz] 100, Chunk.lmap Try.prog 2 g11 (xs.map XJ.ent), Chunk.jrows w0.heap.size xs, Chunk.view (Kd.int .u8) S36 A34 (((readD nm d).1).length) c35 ((readD nm d).1)]) gd S1 d1 nm hw1 hn (by exact O430)) ?_
     rintro e424 w425 ⟨rfl, S422, hb426⟩
     refine ⟨_, rfl, fun _ H428 => ?_⟩
     have O429 : Own w0 w425 [R, Bk g19 [.pointer (some ⟨gd, 0, none⟩), .string nm, .map (some g11), J sz] 100, Chunk.lmap Try.prog 2 g11 (xs.map XJ.ent), Chunk.jrows w0.heap.size xs, Chunk.view (Kd.int .u8) S36 A34 (((readD nm d).1).length) c35 ((readD nm d).1), Chunk.disk w0.heap.size gd S422 ((syncD nm d1).1)] := Own.unbundle (A := [R, Bk g19 [.pointer (some ⟨gd, 0, none⟩), .string nm, .map (some g11), J sz] 100, Chunk.lmap Try.prog 2 g11 (xs.map XJ.ent), Chunk.jrows w0.heap.size xs, Chunk.view (Kd.int .u8) S36 A34 (((readD nm d).1).length) c35 ((readD nm d).1)]) (L := [Chunk.disk w0.heap.size gd S422 ((syncD nm d1).1)]) (hb426.sel [0, 1] (by decide))
     clear O430
     clear H421 O314 hb426
     have O432 : Own w0 w425 [R, Bk g19 [.pointer (some ⟨gd, 0, none⟩), .string nm, .map (some g11), J sz] 100, Chunk.lmap Try.prog 2 g11 (xs.map XJ.ent), Chunk.jrows w0.heap.size xs, Chunk.view (Kd.int .u8) S36 A34 (((readD nm d).1).length) c35 ((readD nm d).1), Chunk.disk w0.heap.size gd S422 ((syncD nm d1).1)] := O429
     clear O429
     have hwf423 : wfD ((syncD nm d1).1) := wf_sync hw1
     refine V H428 (op_assign rfl (H428.ev rfl)) ?_
     intro _ H434; clear H428
     refine wpList_nil ?_
     refine gw_nx (hK417 _ _ ?_)
     refine gw_seq fun K435 hK435 => ?_
     refine wp_region_lit ?_
     refine V H434 (op_move rfl (H434.ev rfl)) ?_
     intro _ H437; clear H434
     refine V H437 (op_nei rfl (H437.ev rfl) (ev_c _ _)) ?_
     intro _ H439; clear H437
     refine wpList_nil ?_
     refine gw_nx (hK435 _ _ ?_)
     refine gw_cond H439 rfl (fun hb440 => ?_) (fun hb440 => ?_)
     ·
      have H441 := H439.subst_ (d := 97) (b := true) rfl hb440
      clear H439
      (try simp only [decide_eq_true_eq, ne_eq] at hb440)
      have hne := hb440
      refine gw_seq fun K442 hK442 => ?_
      refine wp_region_lit ?_
      refine V H441 (op_move rfl (H441.ev rfl)) ?_
      intro _ H444; clear H441
      refine V H444 (op_assign rfl (ev_c _ _)) ?_
      intro _ H446; clear H444
      refine V H446 (op_assign rfl (H446.ev rfl)) ?_
      intro _ H448; clear H446
      refine wpList_nil ?_
      refine gw_nx (hK442 _ _ ?_)
      refine wp_ret ?_
      refine gw_thr ?_
      refine gw_ret2 H448 rfl rfl rfl ?_
      rw [open4 hpre he8 hsc hlt]
      exact .inl ⟨rfl, by first | exact hne | (show _ ≠ _; exact hne), _, O432.sel [0, 5] (by decide)⟩
     ·
      have H449 := H439.subst_ (d := 97) (b := false) rfl hb440
      clear H439
      (try simp only [decide_eq_false_iff_not, ne_eq, Decidable.not_not] at hb440)
      have hsy := hb440
      refine wp_skip ?_
      refine gw_nx (hK416 _ _ ?_)
      refine gw_seq fun K450 hK450 => ?_
      refine wp_region_lit ?_
      refine V H449 (op_move rfl (H449.ev rfl)) ?_
      intro _ H452; clear H449
      refine V H452 (op_assign rfl (H452.ev rfl)) ?_
      intro _ H454; clear H452
      refine V H454 (op_assign rfl (ev_c _ _)) ?_
      intro _ H456; clear H454
      refine wpList_nil ?_
      refine gw_nx (hK450 _ _ ?_)
      refine wp_ret ?_
      refine gw_ret2 H456 rfl rfl rfl ?_
      obtain ⟨SJ', HOj⟩ := jour_close2 (xs := xs) hxs (by exact O432.sel [0, 5, 1, 2, 3] (by decide))
      rw [open4 hpre he8 hsc hlt]
      exact .inr ⟨hsy, _, SJ', _, rfl, HOj⟩
end GJour3_
export GJour3_ (open_calls)
end Go.Proofs.Ytkdahjnmldeklaa.PA
end
section
namespace Go.Proofs.Ytkdahjnmldeklaa.PA
open Go.RowKit Go.Maps Go.Sort Go.Proofs.YtkdahjnmldeklaaW.PrintWords Go.Proofs.YtkdahjnmldeklaaW.PrintLast Go.Proofs.YtkdahjnmldeklaaW.PrintMore
set_option linter.unusedVariables false
set_option linter.unusedSimpArgs false
section
variable {w0 w : World} {R : Chunk} {gd gj : Nat} {S SJ : Nat → Prop} {d d2 : PD} {nm : ByteArray} {is is2 : List PI} {size sz2 c key : Int} {b : List Int}
theorem open_ok (h : openJ nm d = ((d2, 0), (is2, sz2))) (hw : wfD d) (hn : nm.size ≤ 9223372036854775807) (hlen : d.fs.length ≤ 1000000) (hus : d.used ≤ 1000000) (hbb : ByteL (readD nm d).1) (HO : Own w0 w [R, Chunk.disk w0.heap.size gd S d]) :
    Calls Try.prog 32 #[.pointer (some ⟨gd, 0, none⟩), .string nm] w fun e w' => ∃ gj SJ S', e = .returned (.tuple #[.pointer (some ⟨gj, 0, none⟩), .int .i64 0]) ∧ Own w0 w' [R, Chunk.disk w0.heap.size gd S' d2, Chunk.jour w0.heap.size gd gj nm SJ is2 sz2] := by
  refine (open_calls w0 w R gd S d nm hw hn hlen hus hbb HO).mono ?_
  rw [h]
  rintro e w' (⟨_, h2, _⟩ | ⟨_, h2⟩)
  · exact absurd rfl h2
  · exact h2
theorem jsync_is (h : syncD nm d = (d2, c)) (hw : wfD d) (hn : nm.size ≤ 9223372036854775807) (HO : Own w0 w [R, Chunk.disk w0.heap.size gd S d, Chunk.jour w0.heap.size gd gj nm SJ is size]) :
    Calls Try.prog 34 #[.pointer (some ⟨gj, 0, none⟩)] w fun e w' => e = .returned (.int .i64 c) ∧ ∃ S' SJ', Own w0 w' [R, Chunk.disk w0.heap.size gd S' d2, Chunk.jour w0.heap.size gd gj nm SJ' is size] := by
  have := jsync_calls w0 w R gd gj S SJ d nm is size hw hn HO
  rw [h] at this
  exact this
theorem put_is {Ab : Option Addr} {cb : Nat} (h : putJ nm key b is size d = ((d2, c), (is2, sz2))) (hw : wfD d) (hn : nm.size ≤ 9223372036854775807) (hkw : (Lit.int .i64 key).wf = true) (hy : ∀ w1, Own w0 w1 [R] → Kd.C (Kd.int .u8) w1 Ab b.length b) (hcy : b.length ≤ cb) (hbb : ByteL b) (hbl : b.length ≤ 900000) (hroom : d.used ≤ 1000000) (his : is.length ≤ 1000000) (hsz : 0 ≤ size ∧ size ≤ 140737488355327) (HO : Own w0 w [R, Chunk.disk w0.heap.size gd S d, Chunk.jour w0.heap.size gd gj nm SJ is size]) :
    Calls Try.prog 33 #[.pointer (some ⟨gj, 0, none⟩), .int .i64 key, .slice Ab b.length cb] w fun e w' => e = .returned (.int .i64 c) ∧ ∃ S' SJ', Own w0 w' [R, Chunk.disk w0.heap.size gd S' d2, Chunk.jour w0.heap.size gd gj nm SJ' is2 sz2] := by
  have := put_calls w0 w R gd gj S SJ d nm is size hw hn key hkw Ab cb b hy hcy hbb hbl (by have h1 := recI_len (key, b); have h2 := encN_len key; simp only at h1; omega) his hsz HO
  rw [h] at this
  exact this
theorem put_nil (h : putJ nm key [] is size d = ((d2, c), (is2, sz2))) (hw : wfD d) (hn : nm.size ≤ 9223372036854775807) (hkw : (Lit.int .i64 key).wf = true) (hroom : d.used ≤ 1000000) (his : is.length ≤ 1000000) (hsz : 0 ≤ size ∧ size ≤ 140737488355327) (HO : Own w0 w [R, Chunk.disk w0.heap.size gd S d, Chunk.jour w0.heap.size gd gj nm SJ is size]) :
    Calls Try.prog 33 #[.pointer (some ⟨gj, 0, none⟩), .int .i64 key, .slice none 0 0] w fun e w' => e = .returned (.int .i64 c) ∧ ∃ S' SJ', Own w0 w' [R, Chunk.disk w0.heap.size gd S' d2, Chunk.jour w0.heap.size gd gj nm SJ' is2 sz2] :=
  put_is (Ab := none) (cb := 0) (b := []) h hw hn hkw (fun w1 _ => Kd.C_nil _ _) (Nat.le_refl _) (fun x hx => by simp at hx) (Nat.zero_le _) hroom his hsz HO
theorem wf_pre (hw : wfD d) : wfD (preJ nm d).1 := by
  unfold preJ
  split
  · exact wf_create hw
  · exact hw
theorem wf_open (hw : wfD d) : wfD (openJ nm d).1.1 := by
  unfold openJ
  split
  · exact wf_pre hw
  · simp only
    have hc : wfD (if (scanJ (readD nm d).1).2 < ((readD nm d).1.length : Int) then cutD nm (scanJ (readD nm d).1).2 (preJ nm d).1 else ((preJ nm d).1, 0)).1 := by
      split
      · exact wf_cut (wf_pre hw)
      · exact wf_pre hw
    generalize (if (scanJ (readD nm d).1).2 < ((readD nm d).1.length : Int) then cutD nm (scanJ (readD nm d).1).2 (preJ nm d).1 else ((preJ nm d).1, 0)) = cc at hc ⊢
    split
    · exact hc
    · exact wf_sync hc
theorem wf_put (hw : wfD d) : wfD (putJ nm key b is size d).1.1 := by
  unfold putJ
  split
  · exact hw
  · split
    · exact hw
    · split
      · exact hw
      · exact wf_append hw
theorem wf_open' (h : openJ nm d = ((d2, c), (is2, sz2))) (hw : wfD d) : wfD d2 := by have := wf_open (nm := nm) hw; rw [h] at this; exact this
theorem wf_put' (h : putJ nm key b is size d = ((d2, c), (is2, sz2))) (hw : wfD d) : wfD d2 := by have := wf_put (nm := nm) (key := key) (b := b) (is := is) (size := size) hw; rw [h] at this; exact this
theorem wf_sync' (h : syncD nm d = (d2, c)) (hw : wfD d) : wfD d2 := by have := wf_sync (nm := nm) hw; rw [h] at this; exact this
end
end Go.Proofs.Ytkdahjnmldeklaa.PA
end
section
namespace Go.Proofs.Ytkdahjnmldeklaa.PA
open Go.RowKit Go.Maps Go.Sort Go.Proofs.YtkdahjnmldeklaaW.PrintWords Go.Proofs.YtkdahjnmldeklaaW.PrintLast Go.Proofs.YtkdahjnmldeklaaW.PrintMore
set_option linter.unusedVariables false
set_option linter.unusedSimpArgs false
theorem valN_app (pre l : List Int) : ∀ k, k ≤ pre.length → valN (pre ++ l) k = valN pre k
  | 0, _ => rfl
  | k + 1, h => by
    unfold valN
    rw [valN_app pre l k (by omega)]
    have : (pre ++ l).getD k 0 = pre.getD k 0 := by
      simp [List.getD_eq_getElem?_getD, List.getElem?_append_left (show k < pre.length by omega)]
    rw [this]
theorem getD_pre (pre l : List Int) (x : Int) : (pre ++ x :: l).getD pre.length 0 = x := by
  simp [List.getD_eq_getElem?_getD]
theorem gnumFrom_put (rest : List Int) : ∀ (f u : Nat) (pre : List Int) (G : Nat), u < 128 ^ f → (0 < f ∨ 0 < u) → (0 < u ∨ pre.length = 0) → pre.length + f ≤ 9 → f ≤ G → valN pre pre.length + (u : Int) * 128 ^ pre.length ≤ 4611686018427387904 →
    gnumFrom (pre ++ (putN f u ++ rest)) G pre.length = some (valN pre pre.length + (u : Int) * 128 ^ pre.length, pre.length + (putN f u).length)
  | 0, u, pre, G, hu, hf, h0, hl, hG, hv => by
    exfalso
    rw [Nat.pow_zero] at hu
    omega
  | f + 1, u, pre, G, hu, hf, h0, hl, hG, hv => by
    obtain ⟨G', rfl⟩ : ∃ G', G = G' + 1 := ⟨G - 1, by omega⟩
    unfold putN
    split
    · rename_i h127
      have hx : (pre ++ (((u % 128 + 128 : Nat) : Int) :: putN f (u / 128) ++ rest)).getD pre.length 0 = ((u % 128 + 128 : Nat) : Int) := getD_pre _ _ _
      unfold gnumFrom
      rw [hx, if_pos (by simp; omega), if_neg (by omega)]
      have e : pre ++ (((u % 128 + 128 : Nat) : Int) :: putN f (u / 128) ++ rest) = (pre ++ [((u % 128 + 128 : Nat) : Int)]) ++ (putN f (u / 128) ++ rest) := by simp
      have hl1 : (pre ++ [((u % 128 + 128 : Nat) : Int)]).length = pre.length + 1 := by simp
      have hval : valN (pre ++ [((u % 128 + 128 : Nat) : Int)]) (pre.length + 1) + ((u / 128 : Nat) : Int) * 128 ^ (pre.length + 1) = valN pre pre.length + (u : Int) * 128 ^ pre.length := by
        have h1 : valN (pre ++ [((u % 128 + 128 : Nat) : Int)]) (pre.length + 1) = valN pre pre.length + ((u % 128 : Nat) : Int) * 128 ^ pre.length := by
          show valN (pre ++ [((u % 128 + 128 : Nat) : Int)]) pre.length + _ = _
          rw [valN_app _ _ _ (Nat.le_refl _), getD_pre]
          have : (((u % 128 + 128 : Nat) : Int)) % 128 = ((u % 128 : Nat) : Int) := by omega
          rw [this]
        rw [h1, Int.pow_succ]
        have h2 : (u : Int) = ((u % 128 : Nat) : Int) + ((u / 128 : Nat) : Int) * 128 := by omega
        conv => rhs; rw [h2]
        rw [Int.add_mul, Int.add_assoc, Int.mul_assoc, Int.mul_comm 128 (128 ^ pre.length)]
      have ih := gnumFrom_put rest f (u / 128) (pre ++ [((u % 128 + 128 : Nat) : Int)]) G' (by rw [Nat.pow_succ] at hu; omega) (.inr (by omega)) (.inl (by omega)) (by omega) (by omega) (by rw [hl1, hval]; exact hv)
      rw [hl1] at ih
      rw [e, ih, hval]
      simp
      omega
    · rename_i h127
      have hx : (pre ++ ([(u : Int)] ++ rest)).getD pre.length 0 = (u : Int) := getD_pre _ _ _
      have hval : valN (pre ++ ([(u : Int)] ++ rest)) (pre.length + 1) = valN pre pre.length + (u : Int) * 128 ^ pre.length := by
        show valN (pre ++ ([(u : Int)] ++ rest)) pre.length + _ = _
        rw [valN_app _ _ _ (Nat.le_refl _), hx]
        have : (u : Int) % 128 = u := by omega
        rw [this]
      unfold gnumFrom
      rw [hx, if_pos (by simp; omega), if_pos (by omega), hval, if_pos ⟨hv, by omega⟩]
      rfl
theorem numOf_top (n : Int) : numOf n ≤ 4611686018427387904 := by
  unfold numOf mn mx
  split <;> split <;> omega
theorem gnum_enc (n : Int) (rest : List Int) : gnum (encN n ++ rest) = some ((numOf n : Int), (encN n).length) := by
  have h := numOf_top n
  have h9 : numOf n < 128 ^ 9 := Nat.lt_of_le_of_lt h (by decide)
  have := gnumFrom_put rest 9 (numOf n) [] 10 h9 (.inl (by decide)) (.inr rfl) (Nat.le_refl 9) (by decide) (by show (0 : Int) + (numOf n : Int) * 1 ≤ _; omega)
  have e : valN [] 0 + (numOf n : Int) * 128 ^ 0 = numOf n := by show (0 : Int) + (numOf n : Int) * 1 = _; omega
  rw [show ([] : List Int).length = 0 from rfl, e, Nat.zero_add] at this
  exact this
theorem numOf_key {n : Int} (h : 0 ≤ n ∧ n ≤ 1099511627776) : (numOf n : Int) = n := by
  unfold numOf mn mx
  split <;> split <;> omega
def okI (x : PI) : Prop := (0 ≤ x.1 ∧ x.1 ≤ 1099511627776) ∧ x.2.length ≤ 900000 ∧ ByteL x.2
theorem entry_rec {x : PI} (h : okI x) : entryP (encN x.1 ++ x.2) = some (x.1, (encN x.1).length) := by
  have h1 := gnum_enc x.1 x.2
  rw [numOf_key h.1] at h1
  have h2 := h.2.1
  exact entry_some h1 (by rw [List.length_append]; omega) h.1.2
theorem split_item {x : PI} (h : okI x) (b : List Int) : Pure.splitOf (recI x ++ b) = (encN x.1 ++ x.2, (((encN x.1 ++ x.2).length + 8 : Nat) : Int), true) :=
  Pure.split_rec _ _ (byteL_byte (byteL_app (encN_byte _) h.2.2)) (by have h1 := encN_len x.1; have h2 := h.2.1; rw [List.length_append]; omega)
theorem begin_item {x : PI} (h : okI x) {i : Nat} (hi : i < (recI x).length) : (Pure.splitOf ((recI x).take i)).2.2 = false :=
  Pure.begin_none _ (by have h1 := encN_len x.1; have h2 := h.2.1; rw [List.length_append]; omega) i (by rw [recI_len] at hi; rw [List.length_append]; omega)
def recsJ (is : List PI) : List Int := is.flatMap recI
theorem recs_nil : recsJ [] = [] := rfl
theorem recs_cons (x : PI) (r : List PI) : recsJ (x :: r) = recI x ++ recsJ r := List.flatMap_cons
theorem recs_app (a b : List PI) : recsJ (a ++ b) = recsJ a ++ recsJ b := List.flatMap_append
theorem recs_snoc (a : List PI) (x : PI) : recsJ (a ++ [x]) = recsJ a ++ recI x := by rw [recs_app, recs_cons, recs_nil, List.append_nil]
theorem recs_take (is : List PI) (q : Nat) : (recsJ is).take (recsJ (is.take q)).length = recsJ (is.take q) := by
  conv => lhs; arg 2; rw [← List.take_append_drop q is, recs_app]
  exact List.take_left
theorem recs_take_le (is : List PI) (q : Nat) : (recsJ (is.take q)).length ≤ (recsJ is).length := by
  have := congrArg List.length (recs_take is q)
  rw [List.length_take] at this
  omega
theorem split_nil : (Pure.splitOf []).2.2 = false := by decide +kernel
theorem scan_recs : ∀ (rest pre : List PI) (m f : Nat) (sz : Int), (∀ x ∈ rest, okI x) → onceJ (pre ++ rest) → m < f →
    ∃ q, q ≤ rest.length ∧ scanS f ((recsJ rest).take m) pre sz = (pre ++ rest.take q, sz + ((recsJ (rest.take q)).length : Int)) ∧ (recsJ (rest.take q)).length ≤ m ∧ (q < rest.length → m < (recsJ (rest.take (q + 1))).length)
  | [], pre, m, f, sz, ho, hn, hf => by
    refine ⟨0, Nat.le_refl _, ?_, Nat.zero_le _, fun h => by simp at h⟩
    rw [recs_nil, List.take_nil, scan_stop1 split_nil]
    simp [recs_nil]
  | x :: r, pre, m, f, sz, ho, hn, hf => by
    have hx := ho x (by simp)
    by_cases hm : m < (recI x).length
    · refine ⟨0, Nat.zero_le _, ?_, Nat.zero_le _, fun _ => ?_⟩
      · rw [recs_cons, List.take_append_of_le_length (by omega), scan_stop1 (begin_item hx hm)]
        simp [recs_nil]
      · simpa [recs_cons, recs_nil] using hm
    · have e : (recsJ (x :: r)).take m = recI x ++ (recsJ r).take (m - (recI x).length) := by
        rw [recs_cons, List.take_append, List.take_of_length_le (by omega)]
      have hs := split_item hx ((recsJ r).take (m - (recI x).length))
      have hl : (encN x.1 ++ x.2).length + 8 = (recI x).length := by rw [recI_len, List.length_append]
      have hno : hasJ x.1 pre = false := hasJ_false.2 fun y hy e2 => by
        obtain ⟨_, _, h3⟩ := List.pairwise_append.1 hn
        exact h3 y hy x (by simp) e2
      have h8 := recI_len x
      obtain ⟨q, h1, h2, h3, h4⟩ := scan_recs r (pre ++ [x]) (m - (recI x).length) (f - 1) (sz + ((recI x).length : Int)) (fun y hy => ho y (List.mem_cons_of_mem _ hy)) (by rw [List.append_assoc]; exact hn) (by omega)
      refine ⟨q + 1, by simpa using h1, ?_, ?_, fun h => ?_⟩
      · rw [e, scan_go (n := x.1) (k := (encN x.1).length) (by omega) (by rw [hs]) (by rw [hs]; exact entry_rec hx) hno, hs]
        have e1 : (recI x ++ (recsJ r).take (m - (recI x).length)).drop (((encN x.1 ++ x.2).length + 8 : Nat) : Int).toNat = (recsJ r).take (m - (recI x).length) := by
          rw [Int.toNat_natCast, hl]
          exact List.drop_left
        have e2 : (encN x.1 ++ x.2).drop (encN x.1).length = x.2 := List.drop_left
        show scanS (f - 1) (List.drop (((encN x.1 ++ x.2).length + 8 : Nat) : Int).toNat _) (pre ++ [(x.1, (encN x.1 ++ x.2).drop (encN x.1).length)]) (sz + (((encN x.1 ++ x.2).length + 8 : Nat) : Int)) = _
        rw [e1, e2, hl]
        show scanS (f - 1) _ (pre ++ [x]) _ = _
        rw [h2, List.append_assoc, List.take_succ_cons, recs_cons, List.length_append]
        refine Prod.ext rfl ?_
        show sz + ((recI x).length : Int) + ((recsJ (r.take q)).length : Int) = sz + (((recI x).length + (recsJ (r.take q)).length : Nat) : Int)
        omega
      · rw [List.take_succ_cons, recs_cons, List.length_append]; omega
      · rw [List.take_succ_cons, recs_cons, List.length_append]
        have := h4 (by simpa using h)
        omega
theorem scan_cut {is : List PI} (ho : ∀ x ∈ is, okI x) (hn : onceJ is) (m : Nat) (hm : m ≤ (recsJ is).length) :
    ∃ q, q ≤ is.length ∧ scanJ ((recsJ is).take m) = (is.take q, ((recsJ (is.take q)).length : Int)) ∧ (recsJ (is.take q)).length ≤ m ∧ (q < is.length → m < (recsJ (is.take (q + 1))).length) := by
  obtain ⟨q, h1, h2, h3, h4⟩ := scan_recs is [] m (((recsJ is).take m).length + 1) 0 ho hn (by rw [List.length_take]; omega)
  refine ⟨q, h1, ?_, h3, h4⟩
  unfold scanJ
  rw [h2, List.nil_append, Int.zero_add]
def jdk (nm : ByteArray) (all : List Int) (sf : Int) (ext : List PF) (mst : Int) : PD := ⟨⟨nm, all, sf⟩ :: ext, mst, (all.length : Int) + (totF ext : Int), 0, false⟩
section
variable {nm : ByteArray} {all y : List Int} {sf mst key sz : Int} {ext : List PF} {is : List PI} {b : List Int}
theorem jd_get : getF nm (jdk nm all sf ext mst).fs = some ⟨nm, all, sf⟩ := by unfold getF jdk; simp
theorem jd_upd {h : PF → PF} (he : ∀ g ∈ ext, g.nm ≠ nm) : updF nm h (⟨nm, all, sf⟩ :: ext) = h ⟨nm, all, sf⟩ :: ext := upd_split (pre := []) rfl he
theorem jd_append (he : ∀ g ∈ ext, g.nm ≠ nm) (hr : (all.length : Int) + (totF ext : Int) + y.length ≤ mst) : appendD nm y (jdk nm all sf ext mst) = (jdk nm (all ++ y) sf ext mst, 0) := by
  rw [append_go rfl jd_get (by show ¬ (mst - ((all.length : Int) + (totF ext : Int)) < _); omega), step_on (by show (0 : Int) ≠ 1; decide) (Int.le_refl _)]
  show (PD.mk (updF nm _ (⟨nm, all, sf⟩ :: ext)) mst ((all.length : Int) + (totF ext : Int) + (y.length : Int)) (decF 0) false, (0 : Int)) = _
  rw [jd_upd he]
  unfold jdk
  rw [List.length_append]
  refine Prod.ext ?_ rfl
  show PD.mk _ mst _ 0 false = PD.mk _ mst _ 0 false
  congr 1
  omega
theorem jd_sync (he : ∀ g ∈ ext, g.nm ≠ nm) : syncD nm (jdk nm all sf ext mst) = (jdk nm all all.length ext mst, 0) := by
  rw [sync_go rfl jd_get, step_on (by show (0 : Int) ≠ 1; decide) (Int.le_refl _)]
  show (PD.mk (updF nm _ (⟨nm, all, sf⟩ :: ext)) mst _ (decF 0) false, (0 : Int)) = _
  rw [jd_upd he]
  rfl
theorem jd_put (he : ∀ g ∈ ext, g.nm ≠ nm) (hk : 0 ≤ key ∧ key ≤ 1099511627776) (hb : b.length ≤ 900000) (hn : hasJ key is = false) (hr : ((recsJ is).length : Int) + (totF ext : Int) + (recI (key, b)).length ≤ mst) :
    putJ nm key b is sz (jdk nm (recsJ is) sf ext mst) = ((jdk nm (recsJ (is ++ [(key, b)])) sf ext mst, 0), (is ++ [(key, b)], sz + ((recI (key, b)).length : Int))) := by
  have e := jd_append (nm := nm) (all := recsJ is) (y := recI (key, b)) (sf := sf) he hr
  rw [put_ok hk (by omega) hn (by rw [e]), e, recs_snoc]
theorem jd_crash (hs : 0 ≤ sf ∧ sf ≤ all.length) (k : Int) : ∃ m : Nat, (m : Int) = sf + mn (mx k 0) ((all.length : Int) - sf) ∧ m ≤ all.length ∧ sf ≤ (m : Int) ∧ crashD [k] (jdk nm all sf [] mst) = jdk nm (all.take m) m [] mst := by
  by_cases hl : (all.length : Int) - sf = 0
  · refine ⟨all.length, ?_, Nat.le_refl _, hs.2, ?_⟩
    · have : mn (mx k 0) ((all.length : Int) - sf) = 0 := by rw [hl]; unfold mn mx; (repeat' split) <;> omega
      rw [this]; omega
    · have e : sf = all.length := by omega
      subst e
      unfold crashD jdk
      rw [crash_keep (f := ⟨nm, all, all.length⟩) (by show (all.length : Int) - all.length = 0; omega), crash_nil, List.take_length]
      show PD.mk _ mst ((all.length : Int) + (totF [] : Int) - 0) 0 false = _
      rw [Int.sub_zero]
  · have hk := keepN_in [k] (loose := (all.length : Int) - sf) (by omega)
    have hk2 : keepN [k] ((all.length : Int) - sf) = mn (mx k 0) ((all.length : Int) - sf) := rfl
    refine ⟨(sf + keepN [k] ((all.length : Int) - sf)).toNat, by rw [← hk2]; omega, by omega, by omega, ?_⟩
    unfold crashD jdk
    rw [crash_cut (f := ⟨nm, all, sf⟩) hl, List.drop_one, List.tail_cons, crash_nil]
    show PD.mk [⟨nm, all.take (sf + keepN [k] ((all.length : Int) - sf)).toNat, sf + keepN [k] ((all.length : Int) - sf)⟩] mst ((all.length : Int) + (totF [] : Int) - ((all.length : Int) - sf - keepN [k] ((all.length : Int) - sf) + 0)) 0 false = PD.mk [⟨nm, all.take (sf + keepN [k] ((all.length : Int) - sf)).toNat, (((sf + keepN [k] ((all.length : Int) - sf)).toNat : Nat) : Int)⟩] mst (((all.take (sf + keepN [k] ((all.length : Int) - sf)).toNat).length : Int) + (totF [] : Int)) 0 false
    have e0 : (totF [] : Int) = 0 := rfl
    rw [show (((sf + keepN [k] ((all.length : Int) - sf)).toNat : Nat) : Int) = sf + keepN [k] ((all.length : Int) - sf) by omega]
    congr 1
    rw [List.length_take, e0]
    omega
theorem jd_open (he : ∀ g ∈ ext, g.nm ≠ nm) (hs : 0 ≤ sf ∧ sf ≤ all.length) {s : Nat} (hsc : scanJ all = (is, (s : Int))) (hsl : s ≤ all.length) :
    openJ nm (jdk nm all sf ext mst) = ((jdk nm (all.take s) s ext mst, 0), (is, (s : Int))) := by
  have hr : readD nm (jdk nm all sf ext mst) = (all, 0) := read_some (f := ⟨nm, all, sf⟩) rfl jd_get
  have hp : preJ nm (jdk nm all sf ext mst) = (jdk nm all sf ext mst, 0) := by
    unfold preJ
    rw [hr]
    exact if_neg (by show ¬ ((0 : Int) = 4); decide)
  by_cases hlt : (s : Int) < (all.length : Int)
  · have hc : cutD nm (s : Int) (jdk nm all sf ext mst) = (jdk nm (all.take s) (mn sf s) ext mst, 0) := by
      rw [cut_go (f := ⟨nm, all, sf⟩) rfl jd_get (by show ¬ ((s : Int) < 0 ∨ (all.length : Int) < (s : Int)); omega), step_on (by show (0 : Int) ≠ 1; decide) (Int.le_refl _)]
      show (PD.mk (updF nm _ (⟨nm, all, sf⟩ :: ext)) mst ((all.length : Int) + (totF ext : Int) - ((all.length : Int) - (s : Int))) (decF 0) false, (0 : Int)) = _
      rw [jd_upd he]
      refine Prod.ext ?_ rfl
      show PD.mk (⟨nm, all.take (s : Int).toNat, mn sf s⟩ :: ext) mst _ 0 false = PD.mk (⟨nm, all.take s, mn sf s⟩ :: ext) mst (((all.take s).length : Int) + (totF ext : Int)) 0 false
      rw [Int.toNat_natCast, List.length_take]
      congr 1
      omega
    rw [open3 (is := is) (sz := (s : Int)) hp rfl (by rw [hr]; exact hsc) (by rw [hr]; exact hlt) (by rw [hc]), hc, jd_sync he, List.length_take, Nat.min_eq_left hsl]
  · have e : s = all.length := by omega
    subst e
    rw [open4 (is := is) (sz := ((all.length : Nat) : Int)) hp rfl (by rw [hr]; exact hsc) (by rw [hr]; exact hlt), jd_sync he, List.take_length]
theorem jd_open0 (hb : namedB nm = true) (he : ∀ g ∈ ext, g.nm ≠ nm) (hi : insF ⟨nm, [], 0⟩ ext = ⟨nm, [], 0⟩ :: ext) :
    openJ nm ⟨ext, mst, (totF ext : Int), 0, false⟩ = ((jdk nm [] 0 ext mst, 0), ([], 0)) := by
  have hg : getF nm ext = none := List.find?_eq_none.2 fun g hg => by simpa using he g hg
  have hr : readD nm ⟨ext, mst, (totF ext : Int), 0, false⟩ = ([], 4) := read_none rfl hg
  have hp : preJ nm ⟨ext, mst, (totF ext : Int), 0, false⟩ = (jdk nm [] 0 ext mst, 0) := by
    unfold preJ
    rw [hr]
    rw [if_pos (by rfl), create_go rfl hb hg, step_on (by show (0 : Int) ≠ 1; decide) (Int.le_refl _)]
    show (PD.mk (insF ⟨nm, [], 0⟩ (delF nm ext)) mst (totF ext : Int) (decF 0) false, (0 : Int)) = _
    rw [del_none he, hi]
    refine Prod.ext ?_ rfl
    show PD.mk _ mst _ 0 false = PD.mk _ mst _ 0 false
    congr 1
    show (totF ext : Int) = ((0 : Nat) : Int) + _
    omega
  have hsc : scanJ ([] : List Int) = ([], 0) := by
    unfold scanJ
    exact scan_stop1 split_nil
  rw [open4 (is := []) (sz := 0) hp rfl (by rw [hr]; exact hsc) (by rw [hr]; decide), jd_sync he]
  rfl
end
def isK (ds : List (List Int)) (n : Nat) : List PI := (List.range n).map fun i : Nat => ((i : Int), ds.getD i [])
section
variable {ds : List (List Int)} {n q i : Nat}
theorem isK_len : (isK ds n).length = n := by unfold isK; simp
theorem isK_succ : isK ds (n + 1) = isK ds n ++ [((n : Int), ds.getD n [])] := by unfold isK; rw [List.range_succ, List.map_append]; rfl
theorem isK_take (h : q ≤ n) : (isK ds n).take q = isK ds q := by unfold isK; rw [← List.map_take, List.take_range, Nat.min_eq_left h]
theorem isK_mem {x : PI} : x ∈ isK ds n ↔ ∃ i, i < n ∧ x = ((i : Int), ds.getD i []) := by
  unfold isK
  simp only [List.mem_map, List.mem_range]
  constructor
  · rintro ⟨i, h, rfl⟩; exact ⟨i, h, rfl⟩
  · rintro ⟨i, h, rfl⟩; exact ⟨i, h, rfl⟩
theorem isK_once : onceJ (isK ds n) := by
  unfold isK
  refine List.pairwise_map.2 (List.pairwise_lt_range.imp fun {a b} h e => ?_)
  have : (a : Int) = (b : Int) := e
  omega
theorem isK_has (h : n ≤ i) : hasJ (i : Int) (isK ds n) = false := hasJ_false.2 fun x hx e => by
  obtain ⟨j, hj, rfl⟩ := isK_mem.1 hx
  have : (j : Int) = (i : Int) := e
  omega
theorem isK_get (h : i < n) : getJ (i : Int) (isK ds n) = some (ds.getD i []) := (getJ_iff isK_once).2 (isK_mem.2 ⟨i, h, rfl⟩)
theorem isK_hasT (h : i < n) : hasJ (i : Int) (isK ds n) = true := by unfold hasJ; rw [isK_get h]; rfl
theorem isK_ok (hn : n ≤ 1000) (h : ∀ i, i < n → (ds.getD i []).length ≤ 900000 ∧ ByteL (ds.getD i [])) : ∀ x ∈ isK ds n, okI x := fun x hx => by
  obtain ⟨j, hj, rfl⟩ := isK_mem.1 hx
  exact ⟨⟨by show (0 : Int) ≤ (j : Int); omega, by show (j : Int) ≤ _; omega⟩, (h j hj).1, (h j hj).2⟩
theorem isK_recs {M : Nat} (h : ∀ i, i < n → (ds.getD i []).length ≤ M) : (recsJ (isK ds n)).length ≤ n * (M + 17) := by
  induction n with
  | zero => simp [isK, recs_nil]
  | succ n ih =>
    rw [isK_succ, recs_snoc, List.length_append, recI_len, Nat.succ_mul]
    have h1 := ih fun i hi => h i (by omega)
    have h2 := h n (by omega)
    have h3 := encN_len (n : Int)
    show _ + ((encN (n : Int)).length + (ds.getD n []).length + 8) ≤ _
    omega
theorem isK_mono (h : q ≤ n) : (recsJ (isK ds q)).length ≤ (recsJ (isK ds n)).length := by rw [← isK_take h]; exact recs_take_le _ _
theorem keys_isK {ks : List Int} (hr : ks.Pairwise (fun x y => x < y)) (hp : ks.Perm ((isK ds n).map (·.1))) : ks = (List.range n).map fun i : Nat => (i : Int) := by
  have e : (isK ds n).map (·.1) = (List.range n).map fun i : Nat => (i : Int) := by unfold isK; rw [List.map_map]; rfl
  rw [e] at hp
  refine List.Perm.eq_of_pairwise (le := fun x y => x < y) (fun a b _ _ h1 h2 => by omega) hr ?_ hp
  exact List.pairwise_map.2 (List.pairwise_lt_range.imp fun {a b} h => by omega)
theorem keysK_at {ks : List Int} (h : ks = (List.range n).map fun i : Nat => (i : Int)) (i : Int) (h0 : 0 ≤ i) (h1 : i < n) : ks.getD i.toNat 0 = i := by
  subst h
  rw [List.getD_eq_getElem?_getD, List.getElem?_map, List.getElem?_range (by omega)]
  show ((i.toNat : Nat) : Int) = i
  omega
end
theorem used_le {nm : ByteArray} {all : List Int} {sf mst : Int} (h : all.length ≤ 1000000) : (jdk nm all sf [] mst).used ≤ 1000000 := by
  show (all.length : Int) + ((totF [] : Nat) : Int) ≤ 1000000
  have : ((totF [] : Nat) : Int) = 0 := rfl
  omega
theorem jd_byte {nm : ByteArray} {all : List Int} {sf mst : Int} {ext : List PF} (h : ByteL all) : ByteL (readD nm (jdk nm all sf ext mst)).1 := by
  rw [read_some (f := ⟨nm, all, sf⟩) rfl jd_get]
  exact h
theorem recs_byte {is : List PI} (h : ∀ x ∈ is, okI x) : ByteL (recsJ is) := fun z hz => by
  obtain ⟨x, hx, hz⟩ := List.mem_flatMap.1 hz
  have := Pure.recOf_bytes _ (byteL_byte (byteL_app (encN_byte x.1) (h x hx).2.2)) z hz
  unfold Pure.Byte at this
  omega
theorem take_byte {l : List Int} (h : ByteL l) (m : Nat) : ByteL (l.take m) := fun x hx => h x (List.mem_of_mem_take hx)
section
variable {nm : ByteArray} {sf mst : Int} {is : List PI} {ext : List PF} {ds : List (List Int)} {m n q safe : Nat} {i : Int} {x y : PI}
theorem newD_lit (h : 0 ≤ mst) : newD mst = ⟨[], mst, ((totF [] : Nat) : Int), 0, false⟩ := by
  unfold newD mx
  split
  · have : mst = 0 := by omega
    rw [this]; rfl
  · rfl
theorem open_new (h : 0 ≤ mst) (hb : namedB nm = true) : openJ nm (newD mst) = ((jdk nm (recsJ []) 0 [] mst, 0), ([], 0)) := by
  rw [newD_lit h]
  exact jd_open0 hb (fun g hg => by simp at hg) rfl
theorem jd_reopen (he : ∀ g ∈ ext, g.nm ≠ nm) (ho : ∀ x ∈ is, okI x) (hn : onceJ is) (hm : m ≤ (recsJ is).length) :
    ∃ q, q ≤ is.length ∧ openJ nm (jdk nm ((recsJ is).take m) m ext mst) = ((jdk nm (recsJ (is.take q)) (recsJ (is.take q)).length ext mst, 0), (is.take q, ((recsJ (is.take q)).length : Int))) ∧ (recsJ (is.take q)).length ≤ m ∧ (q < is.length → m < (recsJ (is.take (q + 1))).length) := by
  obtain ⟨q, h1, h2, h3, h4⟩ := scan_cut ho hn m hm
  refine ⟨q, h1, ?_, h3, h4⟩
  have hl : ((recsJ is).take m).length = m := by rw [List.length_take]; omega
  rw [jd_open he ⟨by omega, by omega⟩ h2 (by omega), List.take_take, Nat.min_eq_left h3, recs_take]
theorem recs_one : (recsJ [x]).length = (recI x).length := by rw [recs_cons, recs_nil, List.append_nil]
theorem recs_two : (recsJ [x, y]).length = (recI x).length + (recI y).length := by rw [recs_cons, List.length_append, recs_one]
theorem two_cut (h1 : q ≤ [x, y].length) (h3 : (recsJ ([x, y].take q)).length ≤ m) (h4 : q < [x, y].length → m < (recsJ ([x, y].take (q + 1))).length) (hm : (recI x).length ≤ m) (hm2 : m ≤ (recsJ [x, y]).length) :
    (q = 1 ∧ m < (recI x).length + (recI y).length) ∨ (q = 2 ∧ m = (recI x).length + (recI y).length) := by
  rw [recs_two] at hm2
  match q, h1 with
  | 0, _ =>
    have := h4 (by show 0 < 2; decide)
    rw [show ([x, y] : List PI).take (0 + 1) = [x] from rfl, recs_one] at this
    omega
  | 1, _ =>
    have := h4 (by show 1 < 2; decide)
    rw [show ([x, y] : List PI).take (1 + 1) = [x, y] from rfl, recs_two] at this
    exact .inl ⟨rfl, this⟩
  | 2, _ =>
    rw [show ([x, y] : List PI).take 2 = [x, y] from rfl, recs_two] at h3
    exact .inr ⟨rfl, by omega⟩
  | q + 3, h => exact absurd h (by simp)
theorem enc_small {k : Int} (h : 0 ≤ k ∧ k ≤ 127) : (encN k).length = 1 := by
  have : numOf k ≤ 127 := by
    unfold numOf mn mx
    split <;> split <;> omega
  unfold encN putN
  rw [if_neg (by omega)]
  rfl
theorem keep_put (h : 0 ≤ i ∧ i < 1000) (hb : ∀ j, j ≤ i.toNat → (ds.getD j []).length ≤ 1000) (hr : (i.toNat + 1) * 1017 ≤ mst) :
    putJ nm i (ds.getD i.toNat []) (isK ds i.toNat) ((recsJ (isK ds i.toNat)).length : Int) (jdk nm (recsJ (isK ds i.toNat)) sf [] mst) = ((jdk nm (recsJ (isK ds (i + 1).toNat)) sf [] mst, 0), (isK ds (i + 1).toNat, ((recsJ (isK ds (i + 1).toNat)).length : Int))) := by
  obtain ⟨n, rfl⟩ : ∃ n : Nat, i = (n : Int) := ⟨i.toNat, by omega⟩
  have e : ((n : Int) + 1).toNat = n + 1 := by omega
  have h1 : (recsJ (isK ds n)).length ≤ n * (1000 + 17) := isK_recs fun j hj => hb j (by show j ≤ n; omega)
  have h2 := recI_len ((n : Int), ds.getD n [])
  have h3 := encN_len (n : Int)
  have h4 : (ds.getD n []).length ≤ 1000 := hb n (Nat.le_refl _)
  have h5 : ((n : Int)).toNat = n := rfl
  rw [e, h5, isK_succ]
  rw [h5] at hr
  rw [jd_put (fun g hg => by simp at hg) ⟨by omega, by omega⟩ (by omega) (isK_has (Nat.le_refl _)) (by have e0 : ((totF [] : Nat) : Int) = 0 := rfl; rw [h2, e0]; simp only; omega), recs_snoc, List.length_append]
  rfl
theorem keep_open (hn : n ≤ 1000) (hb : ∀ j, j < n → (ds.getD j []).length ≤ 1000 ∧ ByteL (ds.getD j [])) (hs : safe ≤ n) (hm : (recsJ (isK ds safe)).length ≤ m) (hm2 : m ≤ (recsJ (isK ds n)).length) :
    ∃ q, q ≤ n ∧ safe ≤ q ∧ openJ nm (jdk nm ((recsJ (isK ds n)).take m) m [] mst) = ((jdk nm (recsJ (isK ds q)) (recsJ (isK ds q)).length [] mst, 0), (isK ds q, ((recsJ (isK ds q)).length : Int))) := by
  obtain ⟨q, h1, h2, h3, h4⟩ := jd_reopen (ext := []) (nm := nm) (mst := mst) (fun g hg => by simp at hg) (isK_ok hn fun j hj => ⟨by have := (hb j hj).1; omega, (hb j hj).2⟩) isK_once hm2
  rw [isK_len] at h1 h4
  rw [isK_take h1] at h2 h3
  refine ⟨q, h1, ?_, h2⟩
  by_cases hlt : q < n
  · have := h4 hlt
    rw [isK_take (by omega)] at this
    by_cases hq : safe ≤ q
    · exact hq
    · have := isK_mono (ds := ds) (show q + 1 ≤ safe by omega)
      omega
  · omega
theorem byte_getDL (h : ∀ x ∈ ds, ByteL x) (j : Nat) : ByteL (ds.getD j []) := by
  rw [List.getD_eq_getElem?_getD]
  cases e : ds[j]? with
  | none => intro z hz; simp at hz
  | some b => exact h b (List.mem_of_getElem? e)
theorem hasK {k : Int} (h : 0 ≤ k ∧ k < q) : hasJ k (isK ds q) = true := by
  obtain ⟨n, rfl⟩ : ∃ n : Nat, k = (n : Int) := ⟨k.toNat, by omega⟩
  exact isK_hasT (by omega)
theorem getK {k : Int} (h : 0 ≤ k ∧ k < q) : (getJ k (isK ds q)).getD [] = ds.getD k.toNat [] := by
  obtain ⟨n, rfl⟩ : ∃ n : Nat, k = (n : Int) := ⟨k.toNat, by omega⟩
  rw [isK_get (by omega)]
  rfl
theorem isK_datas {M : Nat} (h : ∀ j, j < q → (ds.getD j []).length ≤ M) : ∀ x ∈ isK ds q, x.2.length ≤ M := fun x hx => by
  obtain ⟨j, hj, rfl⟩ := isK_mem.1 hx
  exact h j hj
end
end Go.Proofs.Ytkdahjnmldeklaa.PA
end
section
namespace Go.Proofs.Ytkdahjnmldeklaa.PA
open Go.RowKit Go.Proofs.YtkdahjnmldeklaaW.PrintWords Go.Proofs.YtkdahjnmldeklaaW.PrintLast Go.Proofs.YtkdahjnmldeklaaW.PrintMore
set_option linter.unusedVariables false
set_option linter.unusedSimpArgs false
namespace GJAlive_
attribute [local irreducible] recI
set_option maxHeartbeats 4000000 in
set_option maxRecDepth 100000 in
theorem alive_calls (w : World) :
    Calls Try.prog 31 #[] w fun e w' => e = .returned (.bool true) ∧ Below w.heap.size w w' := by
 have hrx := recI_len (3, [120])
 have hry := recI_len (1, [])
 rw [show (encN (3, [120]).1).length = 1 from enc_small (k := 3) (by decide)] at hrx
 rw [show (encN (1, []).1).length = 1 from enc_small (k := 1) (by decide)] at hry
 simp only [List.length_cons, List.length_nil] at hrx hry
 have hok2 : ∀ x_ ∈ ([(3, [120]), (1, [])] : List PI), okI x_ := by intro x_ hx_; rcases List.mem_cons.1 hx_ with rfl | hx_; (· exact ⟨show (0 : Int) ≤ 3 ∧ (3 : Int) ≤ 1099511627776 by decide, by (try simp only [List.length_cons, List.length_nil]); omega, (by unfold ByteL; decide)⟩); (· obtain rfl := List.mem_singleton.1 hx_; exact ⟨show (0 : Int) ≤ 1 ∧ (1 : Int) ≤ 1099511627776 by decide, by (try simp only [List.length_cons, List.length_nil]); omega, (by unfold ByteL; decide)⟩)
 have hok1 : ∀ x_ ∈ ([(3, [120])] : List PI), okI x_ := fun x_ hx_ => hok2 x_ (by obtain rfl := List.mem_singleton.1 hx_; simp)
 have hon2 : onceJ ([(3, [120]), (1, [])] : List PI) := by simp [onceJ]
 have h00 : ((totF [] : Nat) : Int) = 0 := rfl
 refine gw_start (N := 89) (vs := []) Try.func31 rfl rfl (by simp) fun a HF HO => ?_
 replace HO : Own w w [] := HO
 refine gw_seq fun K1 hK1 => ?_
 refine wp_region_lit ?_
 refine V HF (op_assign rfl (ev_c _ _)) ?_
 intro _ H3; clear HF
 refine wpList_nil ?_
 refine gw_nx (hK1 _ _ ?_)
 refine gw_seq fun K4 hK4 => ?_
 refine wp_region_lit ?_
 have O14 : Own w _ [(Chunk.all [])] := Own.bundle (A := []) (L := []) (HO.sel [] (by decide))
 refine gw_call H3 (want_none rfl) rfl (by decide) (op_callL Try.func11 (by kernel_rfl) rfl rfl (ar_cons (ev_c _ _) ar_nil)) (new_own w _ (Chunk.all []) 1000 (by exact O14)) ?_
 rintro e8 w9 ⟨gd5, S6, rfl, hb10⟩
 refine ⟨_, rfl, fun _ H12 => ?_⟩
 have O13 : Own w w9 [Chunk.disk w.heap.size gd5 S6 (newD 1000)] := Own.unbundle (A := []) (L := [Chunk.disk w.heap.size gd5 S6 (newD 1000)]) (hb10.sel [0, 1] (by decide))
 clear O14
 clear H3 HO hb10
 have O16 : Own w w9 [Chunk.disk w.heap.size gd5 S6 (newD 1000)] := O13
 clear O13
 have hwf7 : wfD (newD 1000) := wf_new (by decide)
 refine V H12 (op_assign rfl (H12.ev rfl)) ?_
 intro _ H18; clear H12
 refine wpList_nil ?_
 refine gw_nx (hK4 _ _ ?_)
 refine gw_seq fun K19 hK19 => ?_
 refine gw_seq fun K20 hK20 => ?_
 refine wp_region_lit ?_
 refine V H18 (op_move rfl (H18.ev rfl)) ?_
 intro _ H22; clear H18
 refine V H22 (op_eqp_nil Try.underlying23 rfl (H22.ev rfl)) ?_
 intro _ H24; clear H22
 refine wpList_nil ?_
 refine gw_nx (hK20 _ _ ?_)
 refine gw_cond H24 rfl (fun hb25 => ?_) (fun hb25 => ?_)
 skip
 ·
  cases hb25
 refine wp_skip ?_
 refine gw_nx (hK19 _ _ ?_)
 refine gw_seq fun K26 hK26 => ?_
 refine wp_region_lit ?_
 refine V H24 (op_move rfl (H24.ev rfl)) ?_
 intro _ H28; clear H24
 have heq33 : openJ (⟨#[106]⟩ : ByteArray) (newD 1000) = (((jdk (⟨#[106]⟩ : ByteArray) (recsJ []) 0 [] 1000), 0), (([] : List PI), 0)) := open_new (by decide) (by decide)
 have O40 : Own w _ [(Chunk.all []), Chunk.disk w.heap.size gd5 S6 (newD 1000)] := Own.bundle (A := []) (L := [Chunk.disk w.heap.size gd5 S6 (newD 1000)]) (O16.sel [0] (by decide))
 refine gw_call H28 (want_none rfl) rfl (by decide) (op_callL Try.func32 (by kernel_rfl) rfl rfl (ar_cons (H28.ev rfl) (ar_cons (ev_c _ _) ar_nil))) (open_ok heq33 hwf7 (by decide) (by decide) (by decide) (by unfold ByteL; decide +kernel) (by exact O40)) ?_
 rintro e34 w35 ⟨gj29, SJ30, S31, rfl, hb36⟩
 refine ⟨_, rfl, fun _ H38 => ?_⟩
 have O39 : Own w w35 [Chunk.disk w.heap.size gd5 S31 (jdk (⟨#[106]⟩ : ByteArray) (recsJ []) 0 [] 1000), Chunk.jour w.heap.size gd5 gj29 (⟨#[106]⟩ : ByteArray) SJ30 ([] : List PI) 0] := Own.unbundle (A := []) (L := [Chunk.disk w.heap.size gd5 S31 (jdk (⟨#[106]⟩ : ByteArray) (recsJ []) 0 [] 1000), Chunk.jour w.heap.size gd5 gj29 (⟨#[106]⟩ : ByteArray) SJ30 ([] : List PI) 0]) (hb36.sel [0, 1, 2] (by decide))
 clear O40
 clear H28 O16 hb36
 have O42 : Own w w35 [Chunk.disk w.heap.size gd5 S31 (jdk (⟨#[106]⟩ : ByteArray) (recsJ []) 0 [] 1000), Chunk.jour w.heap.size gd5 gj29 (⟨#[106]⟩ : ByteArray) SJ30 ([] : List PI) 0] := O39
 clear O39
 have hwf32 : wfD (jdk (⟨#[106]⟩ : ByteArray) (recsJ []) 0 [] 1000) := wf_open' heq33 hwf7
 refine V H38 (op_move rfl (H38.ev rfl)) ?_
 intro _ H44; clear H38
 refine V H44 (op_extract rfl (H44.ev rfl) rfl) ?_
 intro _ H46; clear H44
 refine V H46 (op_extract rfl (H46.ev rfl) rfl) ?_
 intro _ H48; clear H46
 refine V H48 (op_assign rfl (H48.ev rfl)) ?_
 intro _ H50; clear H48
 refine V H50 (op_assign rfl (H50.ev rfl)) ?_
 intro _ H52; clear H50
 refine wpList_nil ?_
 refine gw_nx (hK26 _ _ ?_)
 refine gw_seq fun K53 hK53 => ?_
 refine gw_seq fun K54 hK54 => ?_
 refine wp_region_lit ?_
 refine V H52 (op_move rfl (H52.ev rfl)) ?_
 intro _ H56; clear H52
 refine V H56 (op_nei rfl (H56.ev rfl) (ev_c _ _)) ?_
 intro _ H58; clear H56
 have H59 := H58.lit (b := false) (by decide)
 clear H58
 refine V H59 (op_move rfl (H59.ev rfl)) ?_
 intro _ H61; clear H59
 refine V2 H61 (want_yes H61 rfl rfl rfl rfl) (op_move rfl (H61.ev rfl)) ?_
 intro _ H63; clear H61
 refine V2 H63 (want_yes H63 rfl rfl rfl rfl) (op_eqp_nil Try.underlying61 rfl (H63.ev rfl)) ?_
 intro _ H65; clear H63
 refine V H65 (op_pick_f rfl (H65.ev rfl) (H65.ev rfl)) ?_
 intro _ H67; clear H65
 refine V H67 (op_move rfl (H67.ev rfl)) ?_
 intro _ H69; clear H67
 refine V2 H69 (want_yes H69 rfl rfl rfl rfl) (op_move rfl (H69.ev rfl)) ?_
 intro _ H71; clear H69
 refine gw_bytes (xs := [120]) Try.underlying28 Try.underlying5 H71 O42 (want_yes H71 rfl rfl rfl rfl) rfl (by decide) (op_bslice (by kernel_rfl) rfl (pt_cons (ev_c _ _) pt_nil)) (fun a_ HF_ => (want_yes HF_ rfl rfl rfl rfl)) rfl (by decide) rfl ?_
 intro g72 _ w74 H75 O76; clear H71 O42
 have O77 : Own w w74 [Chunk.blk g72 (.cells (nums .u8 [120]).toArray 5 (([120]).length, ([120]).length + 1)), Chunk.disk w.heap.size gd5 S31 (jdk (⟨#[106]⟩ : ByteArray) (recsJ []) 0 [] 1000), Chunk.jour w.heap.size gd5 gj29 (⟨#[106]⟩ : ByteArray) SJ30 ([] : List PI) 0] := O76
 clear O76
 have heq81 : putJ (⟨#[106]⟩ : ByteArray) 3 ([120]) ([] : List PI) 0 (jdk (⟨#[106]⟩ : ByteArray) (recsJ []) 0 [] 1000) = (((jdk (⟨#[106]⟩ : ByteArray) (recsJ ([(3, [120])] : List PI)) 0 [] 1000), 0), (([(3, [120])] : List PI), (0 + ((recI (3, [120])).length : Int)))) := jd_put (is := []) (fun g_ hg_ => by simp at hg_) (by decide) (by (try simp only [List.length_cons, List.length_nil]); omega) rfl (by rw [show (recsJ []).length = 0 from rfl, h00]; omega)
 have O88 : Own w _ [(Chunk.all [Chunk.blk g72 (.cells (nums .u8 [120]).toArray 5 (([120]).length, ([120]).length + 1))]), Chunk.disk w.heap.size gd5 S31 (jdk (⟨#[106]⟩ : ByteArray) (recsJ []) 0 [] 1000), Chunk.jour w.heap.size gd5 gj29 (⟨#[106]⟩ : ByteArray) SJ30 ([] : List PI) 0] := Own.bundle (A := [Chunk.blk g72 (.cells (nums .u8 [120]).toArray 5 (([120]).length, ([120]).length + 1))]) (L := [Chunk.disk w.heap.size gd5 S31 (jdk (⟨#[106]⟩ : ByteArray) (recsJ []) 0 [] 1000), Chunk.jour w.heap.size gd5 gj29 (⟨#[106]⟩ : ByteArray) SJ30 ([] : List PI) 0]) (O77.sel [0, 1, 2] (by decide))
 refine gw_call H75 (want_yes H75 rfl rfl rfl rfl) rfl (by decide) (op_callL Try.func33 (by kernel_rfl) rfl rfl (ar_cons (H75.ev rfl) (ar_cons (ev_c _ _) (ar_cons (H75.ev rfl) ar_nil)))) (put_is heq81 hwf32 (by decide) (by decide) (fun w_ h_ => (blkC ((Own.unbundle (A := [Chunk.blk g72 (.cells (nums .u8 [120]).toArray 5 (([120]).length, ([120]).length + 1))]) (L := []) h_).get 0 rfl) (by simp))) (Nat.le_refl _) (by unfold ByteL; decide) (by (try simp only [List.length_cons, List.length_nil]); omega) (used_le (by decide)) (by show 0 ≤ 1000000; decide) (by omega) (by exact O88)) ?_
 rintro e82 w83 ⟨rfl, S79, SJ78, hb84⟩
 refine ⟨_, rfl, fun _ H86 => ?_⟩
 have O87 : Own w w83 [Chunk.blk g72 (.cells (nums .u8 [120]).toArray 5 (([120]).length, ([120]).length + 1)), Chunk.disk w.heap.size gd5 S79 (jdk (⟨#[106]⟩ : ByteArray) (recsJ ([(3, [120])] : List PI)) 0 [] 1000), Chunk.jour w.heap.size gd5 gj29 (⟨#[106]⟩ : ByteArray) SJ78 ([(3, [120])] : List PI) (0 + ((recI (3, [120])).length : Int))] := Own.unbundle (A := [Chunk.blk g72 (.cells (nums .u8 [120]).toArray 5 (([120]).length, ([120]).length + 1))]) (L := [Chunk.disk w.heap.size gd5 S79 (jdk (⟨#[106]⟩ : ByteArray) (recsJ ([(3, [120])] : List PI)) 0 [] 1000), Chunk.jour w.heap.size gd5 gj29 (⟨#[106]⟩ : ByteArray) SJ78 ([(3, [120])] : List PI) (0 + ((recI (3, [120])).length : Int))]) (hb84.sel [0, 1, 2] (by decide))
 clear O88
 clear H75 O77 hb84
 have O90 : Own w w83 [Chunk.blk g72 (.cells (nums .u8 [120]).toArray 5 (([120]).length, ([120]).length + 1)), Chunk.disk w.heap.size gd5 S79 (jdk (⟨#[106]⟩ : ByteArray) (recsJ ([(3, [120])] : List PI)) 0 [] 1000), Chunk.jour w.heap.size gd5 gj29 (⟨#[106]⟩ : ByteArray) SJ78 ([(3, [120])] : List PI) (0 + ((recI (3, [120])).length : Int))] := O87
 clear O87
 have hwf80 : wfD (jdk (⟨#[106]⟩ : ByteArray) (recsJ ([(3, [120])] : List PI)) 0 [] 1000) := wf_put' heq81 hwf32
 refine V2 H86 (want_yes H86 rfl rfl rfl rfl) (op_nei rfl (H86.ev rfl) (ev_c _ _)) ?_
 intro _ H92; clear H86
 have H93 := H92.lit (b := false) (by decide)
 clear H92
 refine V H93 (op_pick_f rfl (H93.ev rfl) (H93.ev rfl)) ?_
 intro _ H95; clear H93
 refine V H95 (op_move rfl (H95.ev rfl)) ?_
 intro _ H97; clear H95
 refine V2 H97 (want_yes H97 rfl rfl rfl rfl) (op_move rfl (H97.ev rfl)) ?_
 intro _ H99; clear H97
 have heq103 : syncD (⟨#[106]⟩ : ByteArray) (jdk (⟨#[106]⟩ : ByteArray) (recsJ ([(3, [120])] : List PI)) 0 [] 1000) = ((jdk (⟨#[106]⟩ : ByteArray) (recsJ ([(3, [120])] : List PI)) ((recsJ ([(3, [120])] : List PI)).length : Int) [] 1000), 0) := jd_sync (fun g_ hg_ => by simp at hg_)
 have O110 : Own w _ [(Chunk.all [Chunk.blk g72 (.cells (nums .u8 [120]).toArray 5 (([120]).length, ([120]).length + 1))]), Chunk.disk w.heap.size gd5 S79 (jdk (⟨#[106]⟩ : ByteArray) (recsJ ([(3, [120])] : List PI)) 0 [] 1000), Chunk.jour w.heap.size gd5 gj29 (⟨#[106]⟩ : ByteArray) SJ78 ([(3, [120])] : List PI) (0 + ((recI (3, [120])).length : Int))] := Own.bundle (A := [Chunk.blk g72 (.cells (nums .u8 [120]).toArray 5 (([120]).length, ([120]).length + 1))]) (L := [Chunk.disk w.heap.size gd5 S79 (jdk (⟨#[106]⟩ : ByteArray) (recsJ ([(3, [120])] : List PI)) 0 [] 1000), Chunk.jour w.heap.size gd5 gj29 (⟨#[106]⟩ : ByteArray) SJ78 ([(3, [120])] : List PI) (0 + ((recI (3, [120])).length : Int))]) (O90.sel [0, 1, 2] (by decide))
 refine gw_call H99 (want_yes H99 rfl rfl rfl rfl) rfl (by decide) (op_callL Try.func34 (by kernel_rfl) rfl rfl (ar_cons (H99.ev rfl) ar_nil)) (jsync_is heq103 hwf80 (by decide) (by exact O110)) ?_
 rintro e104 w105 ⟨rfl, S101, SJ100, hb106⟩
 refine ⟨_, rfl, fun _ H108 => ?_⟩
 have O109 : Own w w105 [Chunk.blk g72 (.cells (nums .u8 [120]).toArray 5 (([120]).length, ([120]).length + 1)), Chunk.disk w.heap.size gd5 S101 (jdk (⟨#[106]⟩ : ByteArray) (recsJ ([(3, [120])] : List PI)) ((recsJ ([(3, [120])] : List PI)).length : Int) [] 1000), Chunk.jour w.heap.size gd5 gj29 (⟨#[106]⟩ : ByteArray) SJ100 ([(3, [120])] : List PI) (0 + ((recI (3, [120])).length : Int))] := Own.unbundle (A := [Chunk.blk g72 (.cells (nums .u8 [120]).toArray 5 (([120]).length, ([120]).length + 1))]) (L := [Chunk.disk w.heap.size gd5 S101 (jdk (⟨#[106]⟩ : ByteArray) (recsJ ([(3, [120])] : List PI)) ((recsJ ([(3, [120])] : List PI)).length : Int) [] 1000), Chunk.jour w.heap.size gd5 gj29 (⟨#[106]⟩ : ByteArray) SJ100 ([(3, [120])] : List PI) (0 + ((recI (3, [120])).length : Int))]) (hb106.sel [0, 1, 2] (by decide))
 clear O110
 clear H99 O90 hb106
 have O112 : Own w w105 [Chunk.blk g72 (.cells (nums .u8 [120]).toArray 5 (([120]).length, ([120]).length + 1)), Chunk.disk w.heap.size gd5 S101 (jdk (⟨#[106]⟩ : ByteArray) (recsJ ([(3, [120])] : List PI)) ((recsJ ([(3, [120])] : List PI)).length : Int) [] 1000), Chunk.jour w.heap.size gd5 gj29 (⟨#[106]⟩ : ByteArray) SJ100 ([(3, [120])] : List PI) (0 + ((recI (3, [120])).length : Int))] := O109
 clear O109
 have hwf102 : wfD (jdk (⟨#[106]⟩ : ByteArray) (recsJ ([(3, [120])] : List PI)) ((recsJ ([(3, [120])] : List PI)).length : Int) [] 1000) := wf_sync' heq103 hwf80
 refine V2 H108 (want_yes H108 rfl rfl rfl rfl) (op_nei rfl (H108.ev rfl) (ev_c _ _)) ?_
 intro _ H114; clear H108
 have H115 := H114.lit (b := false) (by decide)
 clear H114
 refine V H115 (op_pick_f rfl (H115.ev rfl) (H115.ev rfl)) ?_
 intro _ H117; clear H115
 refine V H117 (op_move rfl (H117.ev rfl)) ?_
 intro _ H119; clear H117
 refine V2 H119 (want_yes H119 rfl rfl rfl rfl) (op_move rfl (H119.ev rfl)) ?_
 intro _ H121; clear H119
 have heq125 : putJ (⟨#[106]⟩ : ByteArray) 1 ([] : List Int) ([(3, [120])] : List PI) (0 + ((recI (3, [120])).length : Int)) (jdk (⟨#[106]⟩ : ByteArray) (recsJ ([(3, [120])] : List PI)) ((recsJ ([(3, [120])] : List PI)).length : Int) [] 1000) = (((jdk (⟨#[106]⟩ : ByteArray) (recsJ ([(3, [120]), (1, [])] : List PI)) ((recsJ ([(3, [120])] : List PI)).length : Int) [] 1000), 0), (([(3, [120]), (1, [])] : List PI), (0 + ((recI (3, [120])).length : Int) + ((recI (1, [])).length : Int)))) := jd_put (is := ([(3, [120])] : List PI)) (fun g_ hg_ => by simp at hg_) (by decide) (by (try simp only [List.length_cons, List.length_nil]); omega) rfl (by rw [recs_one, h00]; omega)
 have O132 : Own w _ [(Chunk.all [Chunk.blk g72 (.cells (nums .u8 [120]).toArray 5 (([120]).length, ([120]).length + 1))]), Chunk.disk w.heap.size gd5 S101 (jdk (⟨#[106]⟩ : ByteArray) (recsJ ([(3, [120])] : List PI)) ((recsJ ([(3, [120])] : List PI)).length : Int) [] 1000), Chunk.jour w.heap.size gd5 gj29 (⟨#[106]⟩ : ByteArray) SJ100 ([(3, [120])] : List PI) (0 + ((recI (3, [120])).length : Int))] := Own.bundle (A := [Chunk.blk g72 (.cells (nums .u8 [120]).toArray 5 (([120]).length, ([120]).length + 1))]) (L := [Chunk.disk w.heap.size gd5 S101 (jdk (⟨#[106]⟩ : ByteArray) (recsJ ([(3, [120])] : List PI)) ((recsJ ([(3, [120])] : List PI)).length : Int) [] 1000), Chunk.jour w.heap.size gd5 gj29 (⟨#[106]⟩ : ByteArray) SJ100 ([(3, [120])] : List PI) (0 + ((recI (3, [120])).length : Int))]) (O112.sel [0, 1, 2] (by decide))
 refine gw_call H121 (want_yes H121 rfl rfl rfl rfl) rfl (by decide) (op_callL Try.func33 (by kernel_rfl) rfl rfl (ar_cons (H121.ev rfl) (ar_cons (ev_c _ _) (ar_cons (ev_c _ _) ar_nil)))) (put_nil heq125 hwf102 (by decide) (by decide) (used_le (by rw [recs_one]; omega)) (by show 1 ≤ 1000000; decide) (by omega) (by exact O132)) ?_
 rintro e126 w127 ⟨rfl, S123, SJ122, hb128⟩
 refine ⟨_, rfl, fun _ H130 => ?_⟩
 have O131 : Own w w127 [Chunk.blk g72 (.cells (nums .u8 [120]).toArray 5 (([120]).length, ([120]).length + 1)), Chunk.disk w.heap.size gd5 S123 (jdk (⟨#[106]⟩ : ByteArray) (recsJ ([(3, [120]), (1, [])] : List PI)) ((recsJ ([(3, [120])] : List PI)).length : Int) [] 1000), Chunk.jour w.heap.size gd5 gj29 (⟨#[106]⟩ : ByteArray) SJ122 ([(3, [120]), (1, [])] : List PI) (0 + ((recI (3, [120])).length : Int) + ((recI (1, [])).length : Int))] := Own.unbundle (A := [Chunk.blk g72 (.cells (nums .u8 [120]).toArray 5 (([120]).length, ([120]).length + 1))]) (L := [Chunk.disk w.heap.size gd5 S123 (jdk (⟨#[106]⟩ : ByteArray) (recsJ ([(3, [120]), (1, [])] : List PI)) ((recsJ ([(3, [120])] : List PI)).length : Int) [] 1000), Chunk.jour w.heap.size gd5 gj29 (⟨#[106]⟩ : ByteArray) SJ122 ([(3, [120]), (1, [])] : List PI) (0 + ((recI (3, [120])).length : Int) + ((recI (1, [])).length : Int))]) (hb128.sel [0, 1, 2] (by decide))
 clear O132
 clear H121 O112 hb128
 have O134 : Own w w127 [Chunk.blk g72 (.cells (nums .u8 [120]).toArray 5 (([120]).length, ([120]).length + 1)), Chunk.disk w.heap.size gd5 S123 (jdk (⟨#[106]⟩ : ByteArray) (recsJ ([(3, [120]), (1, [])] : List PI)) ((recsJ ([(3, [120])] : List PI)).length : Int) [] 1000), Chunk.jour w.heap.size gd5 gj29 (⟨#[106]⟩ : ByteArray) SJ122 ([(3, [120]), (1, [])] : List PI) (0 + ((recI (3, [120])).length : Int) + ((recI (1, [])).length : Int))] := O131
 clear O131
 have hwf124 : wfD (jdk (⟨#[106]⟩ : ByteArray) (recsJ ([(3, [120]), (1, [])] : List PI)) ((recsJ ([(3, [120])] : List PI)).length : Int) [] 1000) := wf_put' heq125 hwf102
 refine V2 H130 (want_yes H130 rfl rfl rfl rfl) (op_nei rfl (H130.ev rfl) (ev_c _ _)) ?_
 intro _ H136; clear H130
 have H137 := H136.lit (b := false) (by decide)
 clear H136
 refine V H137 (op_pick_f rfl (H137.ev rfl) (H137.ev rfl)) ?_
 intro _ H139; clear H137
 refine V H139 (op_move rfl (H139.ev rfl)) ?_
 intro _ H141; clear H139
 refine V2 H141 (want_yes H141 rfl rfl rfl rfl) (op_move rfl (H141.ev rfl)) ?_
 intro _ H143; clear H141
 have heq147 : putJ (⟨#[106]⟩ : ByteArray) 3 ([] : List Int) ([(3, [120]), (1, [])] : List PI) (0 + ((recI (3, [120])).length : Int) + ((recI (1, [])).length : Int)) (jdk (⟨#[106]⟩ : ByteArray) (recsJ ([(3, [120]), (1, [])] : List PI)) ((recsJ ([(3, [120])] : List PI)).length : Int) [] 1000) = (((jdk (⟨#[106]⟩ : ByteArray) (recsJ ([(3, [120]), (1, [])] : List PI)) ((recsJ ([(3, [120])] : List PI)).length : Int) [] 1000), 5), (([(3, [120]), (1, [])] : List PI), (0 + ((recI (3, [120])).length : Int) + ((recI (1, [])).length : Int)))) := put_twice (by decide) (by decide) rfl
 have O154 : Own w _ [(Chunk.all [Chunk.blk g72 (.cells (nums .u8 [120]).toArray 5 (([120]).length, ([120]).length + 1))]), Chunk.disk w.heap.size gd5 S123 (jdk (⟨#[106]⟩ : ByteArray) (recsJ ([(3, [120]), (1, [])] : List PI)) ((recsJ ([(3, [120])] : List PI)).length : Int) [] 1000), Chunk.jour w.heap.size gd5 gj29 (⟨#[106]⟩ : ByteArray) SJ122 ([(3, [120]), (1, [])] : List PI) (0 + ((recI (3, [120])).length : Int) + ((recI (1, [])).length : Int))] := Own.bundle (A := [Chunk.blk g72 (.cells (nums .u8 [120]).toArray 5 (([120]).length, ([120]).length + 1))]) (L := [Chunk.disk w.heap.size gd5 S123 (jdk (⟨#[106]⟩ : ByteArray) (recsJ ([(3, [120]), (1, [])] : List PI)) ((recsJ ([(3, [120])] : List PI)).length : Int) [] 1000), Chunk.jour w.heap.size gd5 gj29 (⟨#[106]⟩ : ByteArray) SJ122 ([(3, [120]), (1, [])] : List PI) (0 + ((recI (3, [120])).length : Int) + ((recI (1, [])).length : Int))]) (O134.sel [0, 1, 2] (by decide))
 refine gw_call H143 (want_yes H143 rfl rfl rfl rfl) rfl (by decide) (op_callL Try.func33 (by kernel_rfl) rfl rfl (ar_cons (H143.ev rfl) (ar_cons (ev_c _ _) (ar_cons (ev_c _ _) ar_nil)))) (put_nil heq147 hwf124 (by decide) (by decide) (used_le (by rw [recs_two]; omega)) (by show 2 ≤ 1000000; decide) (by omega) (by exact O154)) ?_
 rintro e148 w149 ⟨rfl, S145, SJ144, hb150⟩
 refine ⟨_, rfl, fun _ H152 => ?_⟩
 have O153 : Own w w149 [Chunk.blk g72 (.cells (nums .u8 [120]).toArray 5 (([120]).length, ([120]).length + 1)), Chunk.disk w.heap.size gd5 S145 (jdk (⟨#[106]⟩ : ByteArray) (recsJ ([(3, [120]), (1, [])] : List PI)) ((recsJ ([(3, [120])] : List PI)).length : Int) [] 1000), Chunk.jour w.heap.size gd5 gj29 (⟨#[106]⟩ : ByteArray) SJ144 ([(3, [120]), (1, [])] : List PI) (0 + ((recI (3, [120])).length : Int) + ((recI (1, [])).length : Int))] := Own.unbundle (A := [Chunk.blk g72 (.cells (nums .u8 [120]).toArray 5 (([120]).length, ([120]).length + 1))]) (L := [Chunk.disk w.heap.size gd5 S145 (jdk (⟨#[106]⟩ : ByteArray) (recsJ ([(3, [120]), (1, [])] : List PI)) ((recsJ ([(3, [120])] : List PI)).length : Int) [] 1000), Chunk.jour w.heap.size gd5 gj29 (⟨#[106]⟩ : ByteArray) SJ144 ([(3, [120]), (1, [])] : List PI) (0 + ((recI (3, [120])).length : Int) + ((recI (1, [])).length : Int))]) (hb150.sel [0, 1, 2] (by decide))
 clear O154
 clear H143 O134 hb150
 have O156 : Own w w149 [Chunk.blk g72 (.cells (nums .u8 [120]).toArray 5 (([120]).length, ([120]).length + 1)), Chunk.disk w.heap.size gd5 S145 (jdk (⟨#[106]⟩ : ByteArray) (recsJ ([(3, [120]), (1, [])] : List PI)) ((recsJ ([(3, [120])] : List PI)).length : Int) [] 1000), Chunk.jour w.heap.size gd5 gj29 (⟨#[106]⟩ : ByteArray) SJ144 ([(3, [120]), (1, [])] : List PI) (0 + ((recI (3, [120])).length : Int) + ((recI (1, [])).length : Int))] := O153
 clear O153
 have hwf146 : wfD (jdk (⟨#[106]⟩ : ByteArray) (recsJ ([(3, [120]), (1, [])] : List PI)) ((recsJ ([(3, [120])] : List PI)).length : Int) [] 1000) := wf_put' heq147 hwf124
 refine V2 H152 (want_yes H152 rfl rfl rfl rfl) (op_nei rfl (H152.ev rfl) (ev_c _ _)) ?_
 intro _ H158; clear H152
 have H159 := H158.lit (b := false) (by decide)
 clear H158
 refine V H159 (op_pick_f rfl (H159.ev rfl) (H159.ev rfl)) ?_
 intro _ H161; clear H159
 refine wpList_nil ?_
 refine gw_nx (hK54 _ _ ?_)
 refine gw_cond H161 rfl (fun hb162 => ?_) (fun hb162 => ?_)
 skip
 ·
  cases hb162
 refine wp_skip ?_
 refine gw_nx (hK53 _ _ ?_)
 refine gw_seq fun K163 hK163 => ?_
 refine wp_region_lit ?_
 refine V H161 (op_move rfl (H161.ev rfl)) ?_
 intro _ H165; clear H161
 refine gw_lit (enc := Value.int .i64) (fun _ => rfl) (xs := [5]) (e := 3) H165 O156 (want_none rfl) rfl (by decide) (op_bslice (by kernel_rfl) rfl (pt_cons (ev_c _ _) pt_nil)) (by simp) ?_
 intro A166 S167 _ w169 H170 O171; clear H165 O156
 have O172 : Own w w169 [Chunk.row (Kd.int .i64) 3 w.heap.size S167 (.slice A166 (([5]).length) (([5]).length)) ([5]), Chunk.blk g72 (.cells (nums .u8 [120]).toArray 5 (([120]).length, ([120]).length + 1)), Chunk.disk w.heap.size gd5 S145 (jdk (⟨#[106]⟩ : ByteArray) (recsJ ([(3, [120]), (1, [])] : List PI)) ((recsJ ([(3, [120])] : List PI)).length : Int) [] 1000), Chunk.jour w.heap.size gd5 gj29 (⟨#[106]⟩ : ByteArray) SJ144 ([(3, [120]), (1, [])] : List PI) (0 + ((recI (3, [120])).length : Int) + ((recI (1, [])).length : Int))] := O171
 clear O171
 obtain ⟨m, hm1, hm2, hm4, hmc⟩ := jd_crash (nm := (⟨#[106]⟩ : ByteArray)) (mst := 1000) (all := recsJ ([(3, [120]), (1, [])] : List PI)) (sf := ((recsJ ([(3, [120])] : List PI)).length : Int)) (by rw [recs_one, recs_two]; omega) 5
 have hm3 : (recI (3, [120])).length ≤ m := by rw [recs_one] at hm4; omega
 have hml : ((recsJ ([(3, [120]), (1, [])] : List PI)).take m).length = m := by rw [List.length_take]; omega
 rw [recs_two, recs_one] at hm1
 have O181 : Own w _ [(Chunk.all [Chunk.row (Kd.int .i64) 3 w.heap.size S167 (.slice A166 (([5]).length) (([5]).length)) ([5]), Chunk.blk g72 (.cells (nums .u8 [120]).toArray 5 (([120]).length, ([120]).length + 1)), Chunk.jour w.heap.size gd5 gj29 (⟨#[106]⟩ : ByteArray) SJ144 ([(3, [120]), (1, [])] : List PI) (0 + ((recI (3, [120])).length : Int) + ((recI (1, [])).length : Int))]), Chunk.disk w.heap.size gd5 S145 (jdk (⟨#[106]⟩ : ByteArray) (recsJ ([(3, [120]), (1, [])] : List PI)) ((recsJ ([(3, [120])] : List PI)).length : Int) [] 1000)] := Own.bundle (A := [Chunk.row (Kd.int .i64) 3 w.heap.size S167 (.slice A166 (([5]).length) (([5]).length)) ([5]), Chunk.blk g72 (.cells (nums .u8 [120]).toArray 5 (([120]).length, ([120]).length + 1)), Chunk.jour w.heap.size gd5 gj29 (⟨#[106]⟩ : ByteArray) SJ144 ([(3, [120]), (1, [])] : List PI) (0 + ((recI (3, [120])).length : Int) + ((recI (1, [])).length : Int))]) (L := [Chunk.disk w.heap.size gd5 S145 (jdk (⟨#[106]⟩ : ByteArray) (recsJ ([(3, [120]), (1, [])] : List PI)) ((recsJ ([(3, [120])] : List PI)).length : Int) [] 1000)]) (O172.sel [0, 1, 3, 2] (by decide))
 refine gw_call H170 (want_none rfl) rfl (by decide) (op_callL Try.func17 (by kernel_rfl) rfl rfl (ar_cons (H170.ev rfl) (ar_cons (H170.ev rfl) ar_nil))) ((by have h_ := crash_calls w _ (Chunk.all [Chunk.row (Kd.int .i64) 3 w.heap.size S167 (.slice A166 (([5]).length) (([5]).length)) ([5]), Chunk.blk g72 (.cells (nums .u8 [120]).toArray 5 (([120]).length, ([120]).length + 1)), Chunk.jour w.heap.size gd5 gj29 (⟨#[106]⟩ : ByteArray) SJ144 ([(3, [120]), (1, [])] : List PI) (0 + ((recI (3, [120])).length : Int) + ((recI (1, [])).length : Int))]) gd5 S145 (jdk (⟨#[106]⟩ : ByteArray) (recsJ ([(3, [120]), (1, [])] : List PI)) ((recsJ ([(3, [120])] : List PI)).length : Int) [] 1000) A166 (([5]).length) ([5]) (fun w_ h_ => (Kd.R_reads' ((Own.unbundle (A := [Chunk.row (Kd.int .i64) 3 w.heap.size S167 (.slice A166 (([5]).length) (([5]).length)) ([5]), Chunk.blk g72 (.cells (nums .u8 [120]).toArray 5 (([120]).length, ([120]).length + 1)), Chunk.jour w.heap.size gd5 gj29 (⟨#[106]⟩ : ByteArray) SJ144 ([(3, [120]), (1, [])] : List PI) (0 + ((recI (3, [120])).length : Int) + ((recI (1, [])).length : Int))]) (L := []) h_).get 0 rfl)).2.2) (row_cap (O172.get 0 rfl)) hwf146 (by show 1 ≤ 1000000; decide) (by exact O181); rw [show (crashD ([5]) (jdk (⟨#[106]⟩ : ByteArray) (recsJ ([(3, [120]), (1, [])] : List PI)) ((recsJ ([(3, [120])] : List PI)).length : Int) [] 1000)) = (jdk (⟨#[106]⟩ : ByteArray) ((recsJ ([(3, [120]), (1, [])] : List PI)).take m) (m : Int) [] 1000) from hmc] at h_; (try dsimp only at h_); exact h_)) ?_
 rintro e175 w176 ⟨rfl, S173, hb177⟩
 refine ⟨_, rfl, fun _ H179 => ?_⟩
 have O180 : Own w w176 [Chunk.row (Kd.int .i64) 3 w.heap.size S167 (.slice A166 (([5]).length) (([5]).length)) ([5]), Chunk.blk g72 (.cells (nums .u8 [120]).toArray 5 (([120]).length, ([120]).length + 1)), Chunk.jour w.heap.size gd5 gj29 (⟨#[106]⟩ : ByteArray) SJ144 ([(3, [120]), (1, [])] : List PI) (0 + ((recI (3, [120])).length : Int) + ((recI (1, [])).length : Int)), Chunk.disk w.heap.size gd5 S173 (jdk (⟨#[106]⟩ : ByteArray) ((recsJ ([(3, [120]), (1, [])] : List PI)).take m) (m : Int) [] 1000)] := Own.unbundle (A := [Chunk.row (Kd.int .i64) 3 w.heap.size S167 (.slice A166 (([5]).length) (([5]).length)) ([5]), Chunk.blk g72 (.cells (nums .u8 [120]).toArray 5 (([120]).length, ([120]).length + 1)), Chunk.jour w.heap.size gd5 gj29 (⟨#[106]⟩ : ByteArray) SJ144 ([(3, [120]), (1, [])] : List PI) (0 + ((recI (3, [120])).length : Int) + ((recI (1, [])).length : Int))]) (L := [Chunk.disk w.heap.size gd5 S173 (jdk (⟨#[106]⟩ : ByteArray) ((recsJ ([(3, [120]), (1, [])] : List PI)).take m) (m : Int) [] 1000)]) (hb177.sel [0, 1] (by decide))
 clear O181
 clear H170 O172 hb177
 have O183 : Own w w176 [Chunk.row (Kd.int .i64) 3 w.heap.size S167 (.slice A166 (([5]).length) (([5]).length)) ([5]), Chunk.blk g72 (.cells (nums .u8 [120]).toArray 5 (([120]).length, ([120]).length + 1)), Chunk.jour w.heap.size gd5 gj29 (⟨#[106]⟩ : ByteArray) SJ144 ([(3, [120]), (1, [])] : List PI) (0 + ((recI (3, [120])).length : Int) + ((recI (1, [])).length : Int)), Chunk.disk w.heap.size gd5 S173 (jdk (⟨#[106]⟩ : ByteArray) ((recsJ ([(3, [120]), (1, [])] : List PI)).take m) (m : Int) [] 1000)] := O180
 clear O180
 have hwf174 : wfD (jdk (⟨#[106]⟩ : ByteArray) ((recsJ ([(3, [120]), (1, [])] : List PI)).take m) (m : Int) [] 1000) := by have h_ := wf_crash (keep := ([5])) hwf146; rw [show (crashD ([5]) (jdk (⟨#[106]⟩ : ByteArray) (recsJ ([(3, [120]), (1, [])] : List PI)) ((recsJ ([(3, [120])] : List PI)).length : Int) [] 1000)) = (jdk (⟨#[106]⟩ : ByteArray) ((recsJ ([(3, [120]), (1, [])] : List PI)).take m) (m : Int) [] 1000) from hmc] at h_; exact h_
 refine wpList_nil ?_
 refine gw_nx (hK163 _ _ ?_)
 refine gw_seq fun K184 hK184 => ?_
 refine wp_region_lit ?_
 refine V H179 (op_move rfl (H179.ev rfl)) ?_
 intro _ H186; clear H179
 obtain ⟨q, hq1, hqo, hq3, hq4⟩ := jd_reopen (nm := (⟨#[106]⟩ : ByteArray)) (ext := []) (mst := 1000) (fun g_ hg_ => by simp at hg_) hok2 hon2 hm2
 have hTW := two_cut hq1 hq3 hq4 hm3 hm2
 have hq : q = 1 := by rcases hTW with ⟨h_, _⟩ | ⟨_, h_⟩; (· exact h_); (· exfalso; unfold mn mx at hm1; (repeat' split at hm1) <;> omega)
 have hokT : ∀ x_ ∈ (([(3, [120]), (1, [])] : List PI).take q), okI x_ := fun x_ hx_ => hok2 x_ (List.mem_of_mem_take hx_)
 have heq191 : openJ (⟨#[106]⟩ : ByteArray) (jdk (⟨#[106]⟩ : ByteArray) ((recsJ ([(3, [120]), (1, [])] : List PI)).take m) (m : Int) [] 1000) = (((jdk (⟨#[106]⟩ : ByteArray) (recsJ (([(3, [120]), (1, [])] : List PI).take q)) ((recsJ (([(3, [120]), (1, [])] : List PI).take q)).length : Int) [] 1000), 0), ((([(3, [120]), (1, [])] : List PI).take q), ((recsJ (([(3, [120]), (1, [])] : List PI).take q)).length : Int))) := hqo
 have O198 : Own w _ [(Chunk.all [Chunk.row (Kd.int .i64) 3 w.heap.size S167 (.slice A166 (([5]).length) (([5]).length)) ([5]), Chunk.blk g72 (.cells (nums .u8 [120]).toArray 5 (([120]).length, ([120]).length + 1)), Chunk.jour w.heap.size gd5 gj29 (⟨#[106]⟩ : ByteArray) SJ144 ([(3, [120]), (1, [])] : List PI) (0 + ((recI (3, [120])).length : Int) + ((recI (1, [])).length : Int))]), Chunk.disk w.heap.size gd5 S173 (jdk (⟨#[106]⟩ : ByteArray) ((recsJ ([(3, [120]), (1, [])] : List PI)).take m) (m : Int) [] 1000)] := Own.bundle (A := [Chunk.row (Kd.int .i64) 3 w.heap.size S167 (.slice A166 (([5]).length) (([5]).length)) ([5]), Chunk.blk g72 (.cells (nums .u8 [120]).toArray 5 (([120]).length, ([120]).length + 1)), Chunk.jour w.heap.size gd5 gj29 (⟨#[106]⟩ : ByteArray) SJ144 ([(3, [120]), (1, [])] : List PI) (0 + ((recI (3, [120])).length : Int) + ((recI (1, [])).length : Int))]) (L := [Chunk.disk w.heap.size gd5 S173 (jdk (⟨#[106]⟩ : ByteArray) ((recsJ ([(3, [120]), (1, [])] : List PI)).take m) (m : Int) [] 1000)]) (O183.sel [0, 1, 2, 3] (by decide))
 refine gw_call H186 (want_none rfl) rfl (by decide) (op_callL Try.func32 (by kernel_rfl) rfl rfl (ar_cons (H186.ev rfl) (ar_cons (ev_c _ _) ar_nil))) (open_ok heq191 hwf174 (by decide) (by show 1 ≤ 1000000; decide) (used_le (by rw [hml]; rw [recs_two] at hm2; omega)) (jd_byte (take_byte (recs_byte hok2) m)) (by exact O198)) ?_
 rintro e192 w193 ⟨gj187, SJ188, S189, rfl, hb194⟩
 refine ⟨_, rfl, fun _ H196 => ?_⟩
 have O197 : Own w w193 [Chunk.row (Kd.int .i64) 3 w.heap.size S167 (.slice A166 (([5]).length) (([5]).length)) ([5]), Chunk.blk g72 (.cells (nums .u8 [120]).toArray 5 (([120]).length, ([120]).length + 1)), Chunk.jour w.heap.size gd5 gj29 (⟨#[106]⟩ : ByteArray) SJ144 ([(3, [120]), (1, [])] : List PI) (0 + ((recI (3, [120])).length : Int) + ((recI (1, [])).length : Int)), Chunk.disk w.heap.size gd5 S189 (jdk (⟨#[106]⟩ : ByteArray) (recsJ (([(3, [120]), (1, [])] : List PI).take q)) ((recsJ (([(3, [120]), (1, [])] : List PI).take q)).length : Int) [] 1000), Chunk.jour w.heap.size gd5 gj187 (⟨#[106]⟩ : ByteArray) SJ188 (([(3, [120]), (1, [])] : List PI).take q) ((recsJ (([(3, [120]), (1, [])] : List PI).take q)).length : Int)] := Own.unbundle (A := [Chunk.row (Kd.int .i64) 3 w.heap.size S167 (.slice A166 (([5]).length) (([5]).length)) ([5]), Chunk.blk g72 (.cells (nums .u8 [120]).toArray 5 (([120]).length, ([120]).length + 1)), Chunk.jour w.heap.size gd5 gj29 (⟨#[106]⟩ : ByteArray) SJ144 ([(3, [120]), (1, [])] : List PI) (0 + ((recI (3, [120])).length : Int) + ((recI (1, [])).length : Int))]) (L := [Chunk.disk w.heap.size gd5 S189 (jdk (⟨#[106]⟩ : ByteArray) (recsJ (([(3, [120]), (1, [])] : List PI).take q)) ((recsJ (([(3, [120]), (1, [])] : List PI).take q)).length : Int) [] 1000), Chunk.jour w.heap.size gd5 gj187 (⟨#[106]⟩ : ByteArray) SJ188 (([(3, [120]), (1, [])] : List PI).take q) ((recsJ (([(3, [120]), (1, [])] : List PI).take q)).length : Int)]) (hb194.sel [0, 1, 2] (by decide))
 clear O198
 clear H186 O183 hb194
 have O200 : Own w w193 [Chunk.row (Kd.int .i64) 3 w.heap.size S167 (.slice A166 (([5]).length) (([5]).length)) ([5]), Chunk.blk g72 (.cells (nums .u8 [120]).toArray 5 (([120]).length, ([120]).length + 1)), Chunk.jour w.heap.size gd5 gj29 (⟨#[106]⟩ : ByteArray) SJ144 ([(3, [120]), (1, [])] : List PI) (0 + ((recI (3, [120])).length : Int) + ((recI (1, [])).length : Int)), Chunk.disk w.heap.size gd5 S189 (jdk (⟨#[106]⟩ : ByteArray) (recsJ (([(3, [120]), (1, [])] : List PI).take q)) ((recsJ (([(3, [120]), (1, [])] : List PI).take q)).length : Int) [] 1000), Chunk.jour w.heap.size gd5 gj187 (⟨#[106]⟩ : ByteArray) SJ188 (([(3, [120]), (1, [])] : List PI).take q) ((recsJ (([(3, [120]), (1, [])] : List PI).take q)).length : Int)] := O197
 clear O197
 have hwf190 : wfD (jdk (⟨#[106]⟩ : ByteArray) (recsJ (([(3, [120]), (1, [])] : List PI).take q)) ((recsJ (([(3, [120]), (1, [])] : List PI).take q)).length : Int) [] 1000) := wf_open' heq191 hwf174
 refine V H196 (op_move rfl (H196.ev rfl)) ?_
 intro _ H202; clear H196
 refine V H202 (op_extract rfl (H202.ev rfl) rfl) ?_
 intro _ H204; clear H202
 refine V H204 (op_extract rfl (H204.ev rfl) rfl) ?_
 intro _ H206; clear H204
 refine V H206 (op_assign rfl (H206.ev rfl)) ?_
 intro _ H208; clear H206
 refine V H208 (op_assign rfl (H208.ev rfl)) ?_
 intro _ H210; clear H208
 refine wpList_nil ?_
 refine gw_nx (hK184 _ _ ?_)
 refine gw_seq fun K211 hK211 => ?_
 refine gw_seq fun K212 hK212 => ?_
 refine wp_region_lit ?_
 refine V H210 (op_move rfl (H210.ev rfl)) ?_
 intro _ H214; clear H210
 refine V H214 (op_nei rfl (H214.ev rfl) (ev_c _ _)) ?_
 intro _ H216; clear H214
 have H217 := H216.lit (b := false) (by decide)
 clear H216
 refine V H217 (op_move rfl (H217.ev rfl)) ?_
 intro _ H219; clear H217
 refine V2 H219 (want_yes H219 rfl rfl rfl rfl) (op_move rfl (H219.ev rfl)) ?_
 intro _ H221; clear H219
 refine V2 H221 (want_yes H221 rfl rfl rfl rfl) (op_eqp_nil Try.underlying61 rfl (H221.ev rfl)) ?_
 intro _ H223; clear H221
 refine V H223 (op_pick_f rfl (H223.ev rfl) (H223.ev rfl)) ?_
 intro _ H225; clear H223
 refine V H225 (op_move rfl (H225.ev rfl)) ?_
 intro _ H227; clear H225
 refine V2 H227 (want_yes H227 rfl rfl rfl rfl) (op_move rfl (H227.ev rfl)) ?_
 intro _ H229; clear H227
 refine gw_call H229 (want_yes H229 rfl rfl rfl rfl) rfl (by decide) (op_callL Try.func38 (by kernel_rfl) rfl rfl (ar_cons (H229.ev rfl) (ar_cons (ev_c _ _) ar_nil))) ((by have h_ := has_calls w.heap.size gd5 gj187 (⟨#[106]⟩ : ByteArray) SJ188 (([(3, [120]), (1, [])] : List PI).take q) ((recsJ (([(3, [120]), (1, [])] : List PI).take q)).length : Int) _ (O200.get 4 rfl) 3 (by decide); rw [show hasJ 3 (([(3, [120]), (1, [])] : List PI).take q) = true from (by rcases hTW with ⟨h_, _⟩ | ⟨h_, _⟩ <;> rw [h_] <;> rfl)] at h_; exact h_)) ?_
 rintro e230 w231 ⟨rfl, hb232⟩
 refine ⟨_, rfl, fun _ H234 => ?_⟩
 have O235 := O200.after hb232
 clear H229 O200 hb232
 refine V2 H234 (want_yes H234 rfl rfl rfl rfl) (op_not rfl (H234.ev rfl)) ?_
 intro _ H238; clear H234
 refine V H238 (op_pick_f rfl (H238.ev rfl) (H238.ev rfl)) ?_
 intro _ H240; clear H238
 refine V H240 (op_move rfl (H240.ev rfl)) ?_
 intro _ H242; clear H240
 refine V2 H242 (want_yes H242 rfl rfl rfl rfl) (op_move rfl (H242.ev rfl)) ?_
 intro _ H244; clear H242
 refine gw_call H244 (want_yes H244 rfl rfl rfl rfl) rfl (by decide) (op_callL Try.func38 (by kernel_rfl) rfl rfl (ar_cons (H244.ev rfl) (ar_cons (ev_c _ _) ar_nil))) ((by have h_ := has_calls w.heap.size gd5 gj187 (⟨#[106]⟩ : ByteArray) SJ188 (([(3, [120]), (1, [])] : List PI).take q) ((recsJ (([(3, [120]), (1, [])] : List PI).take q)).length : Int) _ (O235.get 4 rfl) 1 (by decide); rw [show hasJ 1 (([(3, [120]), (1, [])] : List PI).take q) = false from (by rw [hq]; rfl)] at h_; exact h_)) ?_
 rintro e245 w246 ⟨rfl, hb247⟩
 refine ⟨_, rfl, fun _ H249 => ?_⟩
 have O250 := O235.after hb247
 clear H244 O235 hb247
 refine V H249 (op_pick_f rfl (H249.ev rfl) (H249.ev rfl)) ?_
 intro _ H253; clear H249
 refine wpList_nil ?_
 refine gw_nx (hK212 _ _ ?_)
 refine gw_cond H253 rfl (fun hb254 => ?_) (fun hb254 => ?_)
 skip
 ·
  cases hb254
 refine wp_skip ?_
 refine gw_nx (hK211 _ _ ?_)
 refine gw_seq fun K255 hK255 => ?_
 refine wp_region_lit ?_
 refine V H253 (op_move rfl (H253.ev rfl)) ?_
 intro _ H257; clear H253
 refine gw_call H257 (want_none rfl) rfl (by decide) (op_callL Try.func36 (by kernel_rfl) rfl rfl (ar_cons (H257.ev rfl) (ar_cons (ev_c _ _) ar_nil))) ((by have h_ := get_calls w.heap.size gd5 gj187 (⟨#[106]⟩ : ByteArray) SJ188 (([(3, [120]), (1, [])] : List PI).take q) ((recsJ (([(3, [120]), (1, [])] : List PI).take q)).length : Int) _ (O250.get 4 rfl) 3 (by decide) (fun x_ hx_ => by have h_ := (hokT x_ hx_).2.1; omega); rw [show hasJ 3 (([(3, [120]), (1, [])] : List PI).take q) = true from (by rcases hTW with ⟨h_, _⟩ | ⟨h_, _⟩ <;> rw [h_] <;> rfl), show (getJ 3 (([(3, [120]), (1, [])] : List PI).take q)).getD [] = [120] from (by rcases hTW with ⟨h_, _⟩ | ⟨h_, _⟩ <;> rw [h_] <;> rfl)] at h_; exact h_)) ?_
 rintro e261 w262 ⟨A258, c259, S260, rfl, hb263⟩
 refine ⟨_, rfl, fun _ H265 => ?_⟩
 have O266 := O250.fresh hb263
 have hbel267 := O250.below
 clear H257 O250 hb263
 have O268 := O266.lowrow 0 rfl (base' := w.heap.size) (Below.size hbel267)
 have O269 : Own w w262 [Chunk.row (Kd.int .u8) 5 w.heap.size S260 (.slice A258 (([120]).length) c259) ([120]), Chunk.row (Kd.int .i64) 3 w.heap.size S167 (.slice A166 (([5]).length) (([5]).length)) ([5]), Chunk.blk g72 (.cells (nums .u8 [120]).toArray 5 (([120]).length, ([120]).length + 1)), Chunk.jour w.heap.size gd5 gj29 (⟨#[106]⟩ : ByteArray) SJ144 ([(3, [120]), (1, [])] : List PI) (0 + ((recI (3, [120])).length : Int) + ((recI (1, [])).length : Int)), Chunk.disk w.heap.size gd5 S189 (jdk (⟨#[106]⟩ : ByteArray) (recsJ (([(3, [120]), (1, [])] : List PI).take q)) ((recsJ (([(3, [120]), (1, [])] : List PI).take q)).length : Int) [] 1000), Chunk.jour w.heap.size gd5 gj187 (⟨#[106]⟩ : ByteArray) SJ188 (([(3, [120]), (1, [])] : List PI).take q) ((recsJ (([(3, [120]), (1, [])] : List PI).take q)).length : Int)] := O268
 clear O268
 refine V H265 (op_move rfl (H265.ev rfl)) ?_
 intro _ H271; clear H265
 refine V H271 (op_extract rfl (H271.ev rfl) rfl) ?_
 intro _ H273; clear H271
 refine V H273 (op_extract rfl (H273.ev rfl) rfl) ?_
 intro _ H275; clear H273
 refine V H275 (op_assign rfl (H275.ev rfl)) ?_
 intro _ H277; clear H275
 refine V H277 (op_assign rfl (H277.ev rfl)) ?_
 intro _ H279; clear H277
 refine wpList_nil ?_
 refine gw_nx (hK255 _ _ ?_)
 refine gw_seq fun K280 hK280 => ?_
 refine wp_region_lit ?_
 refine V H279 (op_move rfl (H279.ev rfl)) ?_
 intro _ H282; clear H279
 refine V H282 (op_move rfl (H282.ev rfl)) ?_
 intro _ H284; clear H282
 refine V2 H284 (want_yes H284 rfl rfl rfl rfl) (op_move rfl (H284.ev rfl)) ?_
 intro _ H286; clear H284
 refine V2 H286 (want_yes H286 rfl rfl rfl rfl) (op_conv_str Try.underlying28 Try.underlying5 Try.underlying9 (Kd.R_reads' (O269.get 0 rfl)).2.2 rfl (H286.ev rfl)) ?_
 intro _ H288; clear H286
 refine V2 H288 (want_yes H288 rfl rfl rfl rfl) (op_eqs rfl (H288.ev rfl) (ev_c _ _)) ?_
 intro _ H290; clear H288
 have H291 := H290.lit (b := true) (by decide +kernel)
 clear H290
 refine V H291 (op_pick_t rfl (H291.ev rfl) (H291.ev rfl)) ?_
 intro _ H293; clear H291
 refine V H293 (op_move rfl (H293.ev rfl)) ?_
 intro _ H295; clear H293
 refine V2 H295 (want_yes H295 rfl rfl rfl rfl) (op_move rfl (H295.ev rfl)) ?_
 intro _ H297; clear H295
 refine gw_call H297 (want_yes H297 rfl rfl rfl rfl) rfl (by decide) (op_callL Try.func35 (by kernel_rfl) rfl rfl (ar_cons (H297.ev rfl) ar_nil)) (keys_calls w.heap.size gd5 gj187 (⟨#[106]⟩ : ByteArray) SJ188 (([(3, [120]), (1, [])] : List PI).take q) ((recsJ (([(3, [120]), (1, [])] : List PI).take q)).length : Int) _ (by exact O269.get 5 rfl) (by rw [List.length_take]; show min q 2 ≤ 1000000; omega)) ?_
 rintro e304 w305 ⟨A298, c299, S300, ks301, hkr302, hkp303, rfl, hb306⟩
 refine ⟨_, rfl, fun _ H308 => ?_⟩
 have O309 := O269.fresh hb306
 have hbel310 := O269.below
 clear H297 O269 hb306
 have O311 := O309.lowrow 0 rfl (base' := w.heap.size) (Below.size hbel310)
 have O312 : Own w w305 [Chunk.row (Kd.int .i64) 2 w.heap.size S300 (.slice A298 ks301.length c299) ks301, Chunk.row (Kd.int .u8) 5 w.heap.size S260 (.slice A258 (([120]).length) c259) ([120]), Chunk.row (Kd.int .i64) 3 w.heap.size S167 (.slice A166 (([5]).length) (([5]).length)) ([5]), Chunk.blk g72 (.cells (nums .u8 [120]).toArray 5 (([120]).length, ([120]).length + 1)), Chunk.jour w.heap.size gd5 gj29 (⟨#[106]⟩ : ByteArray) SJ144 ([(3, [120]), (1, [])] : List PI) (0 + ((recI (3, [120])).length : Int) + ((recI (1, [])).length : Int)), Chunk.disk w.heap.size gd5 S189 (jdk (⟨#[106]⟩ : ByteArray) (recsJ (([(3, [120]), (1, [])] : List PI).take q)) ((recsJ (([(3, [120]), (1, [])] : List PI).take q)).length : Int) [] 1000), Chunk.jour w.heap.size gd5 gj187 (⟨#[106]⟩ : ByteArray) SJ188 (([(3, [120]), (1, [])] : List PI).take q) ((recsJ (([(3, [120]), (1, [])] : List PI).take q)).length : Int)] := O311
 clear O311
 have hkl_ks301 := hkp303.length_eq
 rw [List.length_map] at hkl_ks301
 have KS := hkl_ks301
 refine V2 H308 (want_yes H308 rfl rfl rfl rfl) (op_len Try.underlying66 rfl (H308.ev rfl)) ?_
 intro _ H314; clear H308
 refine V2 H314 (want_yes H314 rfl rfl rfl rfl) (op_eqi rfl (H314.ev rfl) (ev_c _ _)) ?_
 intro _ H316; clear H314
 have H317 := H316.lit (b := true) (by rw [decide_eq_true_eq, KS, hq]; rfl)
 clear H316
 refine V H317 (op_pick_t rfl (H317.ev rfl) (H317.ev rfl)) ?_
 intro _ H319; clear H317
 refine V H319 (op_move rfl (H319.ev rfl)) ?_
 intro _ H321; clear H319
 refine V2 H321 (want_yes H321 rfl rfl rfl rfl) (op_move rfl (H321.ev rfl)) ?_
 intro _ H323; clear H321
 refine gw_call H323 (want_yes H323 rfl rfl rfl rfl) rfl (by decide) (op_callL Try.func37 (by kernel_rfl) rfl rfl (ar_cons (H323.ev rfl) ar_nil)) (size_calls w.heap.size gd5 gj187 (⟨#[106]⟩ : ByteArray) SJ188 (([(3, [120]), (1, [])] : List PI).take q) ((recsJ (([(3, [120]), (1, [])] : List PI).take q)).length : Int) _ (O312.get 6 rfl)) ?_
 rintro e324 w325 ⟨rfl, hb326⟩
 refine ⟨_, rfl, fun _ H328 => ?_⟩
 have O329 := O312.after hb326
 clear H323 O312 hb326
 refine V2 H328 (want_yes H328 rfl rfl rfl rfl) (op_eqi rfl (H328.ev rfl) (ev_c _ _)) ?_
 intro _ H332; clear H328
 have H333 := H332.lit (b := true) (by rw [decide_eq_true_eq, hq, show (([(3, [120]), (1, [])] : List PI) : List PI).take 1 = [(3, [120])] from rfl, recs_one]; omega)
 clear H332
 refine V H333 (op_pick_t rfl (H333.ev rfl) (H333.ev rfl)) ?_
 intro _ H335; clear H333
 refine V H335 (op_assign rfl (H335.ev rfl)) ?_
 intro _ H337; clear H335
 refine wpList_nil ?_
 refine gw_nx (hK280 _ _ ?_)
 refine wp_ret ?_
 refine gw_ret1 H337 rfl rfl ?_
 exact ⟨rfl, O329.below⟩
end GJAlive_
export GJAlive_ (alive_calls)
end Go.Proofs.Ytkdahjnmldeklaa.PA
end
section
namespace Go.Proofs.Ytkdahjnmldeklaa.PA
open Go.RowKit Go.Proofs.YtkdahjnmldeklaaW.PrintWords Go.Proofs.YtkdahjnmldeklaaW.PrintLast Go.Proofs.YtkdahjnmldeklaaW.PrintMore
set_option linter.unusedVariables false
set_option linter.unusedSimpArgs false
namespace GJKeeps_
theorem gwagg2 : ∀ w, (isAgg 2).run Try.prog w = .ok false w := fun _ => by kernel_rfl
theorem gwagg28 : ∀ w, (isAgg 28).run Try.prog w = .ok false w := fun _ => by kernel_rfl
theorem gwsiz2 : ∀ w, (sizeOf 2).run Try.prog w = .ok 1 w := fun _ => by kernel_rfl
theorem gwsiz28 : ∀ w, (sizeOf 28).run Try.prog w = .ok 1 w := fun _ => by kernel_rfl
attribute [local irreducible] recI
set_option maxHeartbeats 4000000 in
set_option maxRecDepth 100000 in
theorem JournalKeeps_walk (A1 : Option Addr) (c1 : Nat) (datas : List (List Int)) (synced keep : Int) (w : World) (hr1 : Kd.C (Kd.slice 5 (Kd.int .u8)) w A1 datas.length datas) (hc1 : datas.length ≤ c1) (hB : ∀ x ∈ datas, ByteL x) :
    Calls Try.prog 8 #[.slice A1 datas.length c1, .int .i64 synced, .int .i64 keep] w fun e w' => e = .returned (.bool true) ∧ Below w.heap.size w w' := by
 refine gw_start (N := 132) (vs := [.slice A1 datas.length c1, J synced, J keep]) Try.func8 rfl rfl (by simp) fun a HF HO => ?_
 replace HO : Own w w [] := HO
 refine gw_seq fun K1 hK1 => ?_
 refine wp_region_lit ?_
 refine V HF (op_assign rfl (ev_c _ _)) ?_
 intro _ H3; clear HF
 refine wpList_nil ?_
 refine gw_nx (hK1 _ _ ?_)
 refine gw_seq fun K4 hK4 => ?_
 refine wp_region_lit ?_
 have O14 : Own w _ [(Chunk.all [])] := Own.bundle (A := []) (L := []) (HO.sel [] (by decide))
 refine gw_call H3 (want_none rfl) rfl (by decide) (op_callL Try.func11 (by kernel_rfl) rfl rfl (ar_cons (ev_c _ _) ar_nil)) (new_own w _ (Chunk.all []) 1048576 (by exact O14)) ?_
 rintro e8 w9 ⟨gd5, S6, rfl, hb10⟩
 refine ⟨_, rfl, fun _ H12 => ?_⟩
 have O13 : Own w w9 [Chunk.disk w.heap.size gd5 S6 (newD 1048576)] := Own.unbundle (A := []) (L := [Chunk.disk w.heap.size gd5 S6 (newD 1048576)]) (hb10.sel [0, 1] (by decide))
 clear O14
 clear H3 HO hb10
 have O16 : Own w w9 [Chunk.disk w.heap.size gd5 S6 (newD 1048576)] := O13
 clear O13
 have hwf7 : wfD (newD 1048576) := wf_new (by decide)
 refine V H12 (op_assign rfl (H12.ev rfl)) ?_
 intro _ H18; clear H12
 refine wpList_nil ?_
 refine gw_nx (hK4 _ _ ?_)
 refine gw_seq fun K19 hK19 => ?_
 refine gw_seq fun K20 hK20 => ?_
 refine wp_region_lit ?_
 refine V H18 (op_move rfl (H18.ev rfl)) ?_
 intro _ H22; clear H18
 refine V H22 (op_eqp_nil Try.underlying23 rfl (H22.ev rfl)) ?_
 intro _ H24; clear H22
 refine V H24 (op_move rfl (H24.ev rfl)) ?_
 intro _ H26; clear H24
 refine gw_call H26 (want_yes H26 rfl rfl rfl rfl) rfl (by decide) (op_callL Try.func31 (by kernel_rfl) rfl rfl ar_nil) (alive_calls _) ?_
 rintro e27 w28 ⟨rfl, hb29⟩
 refine ⟨_, rfl, fun _ H31 => ?_⟩
 have O32 := O16.after hb29
 clear H26 O16 hb29
 refine V2 H31 (want_yes H31 rfl rfl rfl rfl) (op_not rfl (H31.ev rfl)) ?_
 intro _ H35; clear H31
 refine V H35 (op_pick_f rfl (H35.ev rfl) (H35.ev rfl)) ?_
 intro _ H37; clear H35
 refine wpList_nil ?_
 refine gw_nx (hK20 _ _ ?_)
 refine gw_cond H37 rfl (fun hb38 => ?_) (fun hb38 => ?_)
 skip
 ·
  cases hb38
 refine wp_skip ?_
 refine gw_nx (hK19 _ _ ?_)
 refine gw_seq fun K39 hK39 => ?_
 refine wp_region_lit ?_
 refine V H37 (op_move rfl (H37.ev rfl)) ?_
 intro _ H41; clear H37
 have heq46 : openJ (⟨#[106]⟩ : ByteArray) (newD 1048576) = (((jdk (⟨#[106]⟩ : ByteArray) (recsJ (isK datas (0 : Int).toNat)) ((recsJ (isK datas (0 : Int).toNat)).length : Int) [] 1048576), 0), ((isK datas (0 : Int).toNat), ((recsJ (isK datas (0 : Int).toNat)).length : Int))) := open_new (by decide) (by decide)
 have O53 : Own w _ [(Chunk.all []), Chunk.disk w.heap.size gd5 S6 (newD 1048576)] := Own.bundle (A := []) (L := [Chunk.disk w.heap.size gd5 S6 (newD 1048576)]) (O32.sel [0] (by decide))
 refine gw_call H41 (want_none rfl) rfl (by decide) (op_callL Try.func32 (by kernel_rfl) rfl rfl (ar_cons (H41.ev rfl) (ar_cons (ev_c _ _) ar_nil))) (open_ok heq46 hwf7 (by decide) (by decide) (by decide) (by unfold ByteL; decide +kernel) (by exact O53)) ?_
 rintro e47 w48 ⟨gj42, SJ43, S44, rfl, hb49⟩
 refine ⟨_, rfl, fun _ H51 => ?_⟩
 have O52 : Own w w48 [Chunk.disk w.heap.size gd5 S44 (jdk (⟨#[106]⟩ : ByteArray) (recsJ (isK datas (0 : Int).toNat)) ((recsJ (isK datas (0 : Int).toNat)).length : Int) [] 1048576), Chunk.jour w.heap.size gd5 gj42 (⟨#[106]⟩ : ByteArray) SJ43 (isK datas (0 : Int).toNat) ((recsJ (isK datas (0 : Int).toNat)).length : Int)] := Own.unbundle (A := []) (L := [Chunk.disk w.heap.size gd5 S44 (jdk (⟨#[106]⟩ : ByteArray) (recsJ (isK datas (0 : Int).toNat)) ((recsJ (isK datas (0 : Int).toNat)).length : Int) [] 1048576), Chunk.jour w.heap.size gd5 gj42 (⟨#[106]⟩ : ByteArray) SJ43 (isK datas (0 : Int).toNat) ((recsJ (isK datas (0 : Int).toNat)).length : Int)]) (hb49.sel [0, 1, 2] (by decide))
 clear O53
 clear H41 O32 hb49
 have O55 : Own w w48 [Chunk.disk w.heap.size gd5 S44 (jdk (⟨#[106]⟩ : ByteArray) (recsJ (isK datas (0 : Int).toNat)) ((recsJ (isK datas (0 : Int).toNat)).length : Int) [] 1048576), Chunk.jour w.heap.size gd5 gj42 (⟨#[106]⟩ : ByteArray) SJ43 (isK datas (0 : Int).toNat) ((recsJ (isK datas (0 : Int).toNat)).length : Int)] := O52
 clear O52
 have hwf45 : wfD (jdk (⟨#[106]⟩ : ByteArray) (recsJ (isK datas (0 : Int).toNat)) ((recsJ (isK datas (0 : Int).toNat)).length : Int) [] 1048576) := wf_open' heq46 hwf7
 refine V H51 (op_move rfl (H51.ev rfl)) ?_
 intro _ H57; clear H51
 refine V H57 (op_extract rfl (H57.ev rfl) rfl) ?_
 intro _ H59; clear H57
 refine V H59 (op_extract rfl (H59.ev rfl) rfl) ?_
 intro _ H61; clear H59
 refine V H61 (op_assign rfl (H61.ev rfl)) ?_
 intro _ H63; clear H61
 refine V H63 (op_assign rfl (H63.ev rfl)) ?_
 intro _ H65; clear H63
 refine wpList_nil ?_
 refine gw_nx (hK39 _ _ ?_)
 refine gw_seq fun K66 hK66 => ?_
 refine gw_seq fun K67 hK67 => ?_
 refine wp_region_lit ?_
 refine V H65 (op_move rfl (H65.ev rfl)) ?_
 intro _ H69; clear H65
 refine V H69 (op_nei rfl (H69.ev rfl) (ev_c _ _)) ?_
 intro _ H71; clear H69
 have H72 := H71.lit (b := false) (by decide)
 clear H71
 refine V H72 (op_move rfl (H72.ev rfl)) ?_
 intro _ H74; clear H72
 refine V2 H74 (want_yes H74 rfl rfl rfl rfl) (op_move rfl (H74.ev rfl)) ?_
 intro _ H76; clear H74
 refine V2 H76 (want_yes H76 rfl rfl rfl rfl) (op_eqp_nil Try.underlying61 rfl (H76.ev rfl)) ?_
 intro _ H78; clear H76
 refine V H78 (op_pick_f rfl (H78.ev rfl) (H78.ev rfl)) ?_
 intro _ H80; clear H78
 refine wpList_nil ?_
 refine gw_nx (hK67 _ _ ?_)
 refine gw_cond H80 rfl (fun hb81 => ?_) (fun hb81 => ?_)
 skip
 ·
  cases hb81
 refine wp_skip ?_
 refine gw_nx (hK66 _ _ ?_)
 refine gw_seq fun K82 hK82 => ?_
 refine wp_region_lit ?_
 refine V H80 (op_assign rfl (ev_c _ _)) ?_
 intro _ H84; clear H80
 refine V H84 (op_assign rfl (ev_c _ _)) ?_
 intro _ H86; clear H84
 refine wpList_nil ?_
 refine gw_nx (hK82 _ _ ?_)
 refine gw_seq fun K87 hK87 => ?_
 refine gw_seq fun K88 hK88 => ?_
 refine wp_region_lit ?_
 refine V H86 (op_move rfl (H86.ev rfl)) ?_
 intro _ H90; clear H86
 refine V H90 (op_len Try.underlying22 rfl (H90.ev rfl)) ?_
 intro _ H92; clear H90
 refine V H92 (op_move rfl (ev_c _ _)) ?_
 intro _ H94; clear H92
 refine wpList_nil ?_
 refine gw_nx (hK88 _ _ ?_)
 refine wp_block ?_
 refine gw_loop (fun m_ a_ w_ => ∃ (i : Int) (safe : Int) (Sd : Nat → Prop) (Sj : Nat → Prop), Fr 132 a_ [(41, J i), (10, J i), (11, J safe), (0, .slice A1 datas.length c1), (1, J synced), (2, J keep), (7, .pointer (some ⟨gd5, 0, none⟩)), (8, .pointer (some ⟨gj42, 0, none⟩)), (39, .slice A1 datas.length c1), (40, J (datas.length : Int))] ∧ Own w w_ [Chunk.disk w.heap.size gd5 Sd (jdk (⟨#[106]⟩ : ByteArray) (recsJ (isK datas i.toNat)) ((recsJ (isK datas safe.toNat)).length : Int) [] 1048576), Chunk.jour w.heap.size gd5 gj42 (⟨#[106]⟩ : ByteArray) Sj (isK datas i.toNat) ((recsJ (isK datas i.toNat)).length : Int)] ∧ (0 ≤ i ∧ i ≤ datas.length ∧ i ≤ 30) ∧ (0 ≤ safe ∧ safe ≤ i) ∧ (∀ j, j < i.toNat → (datas.getD j []).length ≤ 1000) ∧ (wfD (jdk (⟨#[106]⟩ : ByteArray) (recsJ (isK datas i.toNat)) ((recsJ (isK datas safe.toNat)).length : Int) [] 1048576)) ∧ m_ = (datas.length - i.toNat)) ((datas.length - (0 : Int).toNat)) ?_ ?_
 ·
  refine ⟨0, 0, S44, SJ43, (H94.pick (t := 41) rfl (H94.pick (t := 10) rfl (H94.pick (t := 11) rfl (H94.pick (t := 0) rfl (H94.pick (t := 1) rfl (H94.pick (t := 2) rfl (H94.pick (t := 7) rfl (H94.pick (t := 8) rfl (H94.pick (t := 39) rfl (H94.pick (t := 40) rfl H94.nil)))))))))), O55.sel [0, 1] (by decide), ?_, ?_, ?_, ?_, rfl⟩
  ·
   omega
  ·
   omega
  ·
   exact fun j_ hj_ => absurd hj_ (by omega)
  ·
   exact hwf45
 ·
  rintro m96 _ w98 ⟨i, safe, Sd, Sj, H99, O100, hi, hs, hb, hw, hm101⟩
  refine gw_seq fun K102 hK102 => ?_
  refine wp_region_lit ?_
  refine V H99 (op_lss rfl (H99.ev rfl) (H99.ev rfl)) ?_
  intro _ H104; clear H99
  refine wpList_nil ?_
  refine gw_nx (hK102 _ _ ?_)
  refine gw_seq fun K105 hK105 => ?_
  refine gw_cond H104 rfl (fun hb106 => ?_) (fun hb106 => ?_)
  ·
   have H107 := H104.subst_ (d := 42) (b := true) rfl hb106
   clear H104
   (try simp only [decide_eq_true_eq] at hb106)
   refine wp_skip ?_
   refine gw_nx (hK105 _ _ ?_)
   refine gw_seq fun K108 hK108 => ?_
   refine wp_block ?_
   refine gw_seq fun K109 hK109 => ?_
   refine wp_region_lit ?_
   refine V H107 (op_move rfl (H107.ev rfl)) ?_
   intro _ H111; clear H107
   obtain ⟨ad112, cs115, hA113, hl116, hK117, hc114⟩ := Kd.C_get hr1 ([] : List Int) i (by omega) (by omega)
   obtain ⟨A118, c119, rfl, hl120, hC121⟩ := id hK117
   clear hl116
   refine V H111 (op_index Try.underlying22 gwsiz28 rfl (H111.ev rfl) (H111.ev rfl) hA113 (⟨by omega, by omega⟩)) ?_
   intro _ H123; clear H111
   refine V H123 (op_load1 gwagg28 rfl (H123.ev rfl) (O100.cell0 (at0 hc114))) ?_
   intro _ H125; clear H123
   refine V H125 (op_assign rfl (H125.ev rfl)) ?_
   intro _ H127; clear H125
   refine V H127 (op_assign rfl (H127.ev rfl)) ?_
   intro _ H129; clear H127
   refine wpList_nil ?_
   refine gw_nx (hK109 _ _ ?_)
   refine gw_seq fun K130 hK130 => ?_
   refine gw_seq fun K131 hK131 => ?_
   refine wp_region_lit ?_
   refine V H129 (op_move rfl (H129.ev rfl)) ?_
   intro _ H133; clear H129
   refine V H133 (op_geq rfl (H133.ev rfl) (ev_c _ _)) ?_
   intro _ H135; clear H133
   refine V H135 (op_move rfl (H135.ev rfl)) ?_
   intro _ H137; clear H135
   refine gw_evG H137 rfl rfl rfl rfl (on_f _) rfl (by decide) (fun h_ => (op_move rfl (H137.ev rfl))) ?_
   intro _ H139; clear H137
   refine gw_evG H139 rfl rfl rfl rfl (on_f _) rfl (by decide) (fun h_ => (op_len Try.underlying28 rfl (ev_gv (H139.ev rfl) h_))) ?_
   intro _ H141; clear H139
   refine gw_evG H141 rfl rfl rfl rfl (on_f _) rfl (by decide) (fun h_ => (op_gtr rfl (ev_gv (H141.ev rfl) h_) (ev_c _ _))) ?_
   intro _ H143; clear H141
   refine V H143 (op_pick_or rfl (H143.ev rfl) (ev_c _ _) (fun hp_ => (ev_gv (H143.ev rfl) (not_t hp_)))) ?_
   intro _ H145; clear H143
   refine wpList_nil ?_
   refine gw_nx (hK131 _ _ ?_)
   refine gw_cond H145 rfl (fun hb146 => ?_) (fun hb146 => ?_)
   ·
    have H147 := H145.subst_ (d := 52) (b := true) rfl hb146
    clear H145
    (try simp only [Bool.and_eq_true, Bool.or_eq_true, Bool.and_eq_false_iff, Bool.or_eq_false_iff, Bool.not_and, Bool.not_or, Bool.not_not, decide_eq_true_eq, decide_eq_false_iff_not, Bool.not_eq_true', Bool.not_eq_false', Bool.not_eq_true, Bool.not_eq_false, ne_eq, Decidable.not_not, Int.not_lt, Int.not_le, not_true_eq_false, not_false_eq_true, bne_iff_ne, beq_iff_eq, bne_eq_false_iff_eq, beq_eq_false_iff_ne] at hb146)
    refine wp_exit ?_
    refine gw_thx ?_
    refine gw_out (by decide) ?_
    refine gw_thx ?_
    refine gw_thx ?_
    refine gw_in ?_
    refine gw_nx (hK87 _ _ ?_)
    refine gw_seq fun K148 hK148 => ?_
    refine wp_region_lit ?_
    refine V H147 (op_move rfl (H147.ev rfl)) ?_
    intro _ H150; clear H147
    refine V H150 (op_move rfl (H150.ev rfl)) ?_
    intro _ H152; clear H150
    refine gw_lit (enc := Value.int .i64) (fun _ => rfl) (xs := [keep]) (e := 3) H152 O100 (want_none rfl) rfl (by decide) (op_bslice (by kernel_rfl) rfl (pt_cons (H152.ev rfl) pt_nil)) (by simp) ?_
    intro A153 S154 _ w156 H157 O158; clear H152 O100
    have O159 : Own w w156 [Chunk.row (Kd.int .i64) 3 w.heap.size S154 (.slice A153 (([keep]).length) (([keep]).length)) ([keep]), Chunk.disk w.heap.size gd5 Sd (jdk (⟨#[106]⟩ : ByteArray) (recsJ (isK datas i.toNat)) ((recsJ (isK datas safe.toNat)).length : Int) [] 1048576), Chunk.jour w.heap.size gd5 gj42 (⟨#[106]⟩ : ByteArray) Sj (isK datas i.toNat) ((recsJ (isK datas i.toNat)).length : Int)] := O158
    clear O158
    have hmo := isK_mono (ds := datas) (show safe.toNat ≤ i.toNat by omega)
    obtain ⟨m, hm1, hm2, hm4, hmc⟩ := jd_crash (nm := (⟨#[106]⟩ : ByteArray)) (mst := 1048576) (all := recsJ (isK datas i.toNat)) (sf := ((recsJ (isK datas safe.toNat)).length : Int)) ⟨by omega, by omega⟩ keep
    have hml : ((recsJ (isK datas i.toNat)).take m).length = m := by rw [List.length_take]; omega
    have O168 : Own w _ [(Chunk.all [Chunk.row (Kd.int .i64) 3 w.heap.size S154 (.slice A153 (([keep]).length) (([keep]).length)) ([keep]), Chunk.jour w.heap.size gd5 gj42 (⟨#[106]⟩ : ByteArray) Sj (isK datas i.toNat) ((recsJ (isK datas i.toNat)).length : Int)]), Chunk.disk w.heap.size gd5 Sd (jdk (⟨#[106]⟩ : ByteArray) (recsJ (isK datas i.toNat)) ((recsJ (isK datas safe.toNat)).length : Int) [] 1048576)] := Own.bundle (A := [Chunk.row (Kd.int .i64) 3 w.heap.size S154 (.slice A153 (([keep]).length) (([keep]).length)) ([keep]), Chunk.jour w.heap.size gd5 gj42 (⟨#[106]⟩ : ByteArray) Sj (isK datas i.toNat) ((recsJ (isK datas i.toNat)).length : Int)]) (L := [Chunk.disk w.heap.size gd5 Sd (jdk (⟨#[106]⟩ : ByteArray) (recsJ (isK datas i.toNat)) ((recsJ (isK datas safe.toNat)).length : Int) [] 1048576)]) (O159.sel [0, 2, 1] (by decide))
    refine gw_call H157 (want_none rfl) rfl (by decide) (op_callL Try.func17 (by kernel_rfl) rfl rfl (ar_cons (H157.ev rfl) (ar_cons (H157.ev rfl) ar_nil))) ((by have h_ := crash_calls w _ (Chunk.all [Chunk.row (Kd.int .i64) 3 w.heap.size S154 (.slice A153 (([keep]).length) (([keep]).length)) ([keep]), Chunk.jour w.heap.size gd5 gj42 (⟨#[106]⟩ : ByteArray) Sj (isK datas i.toNat) ((recsJ (isK datas i.toNat)).length : Int)]) gd5 Sd (jdk (⟨#[106]⟩ : ByteArray) (recsJ (isK datas i.toNat)) ((recsJ (isK datas safe.toNat)).length : Int) [] 1048576) A153 (([keep]).length) ([keep]) (fun w_ h_ => (Kd.R_reads' ((Own.unbundle (A := [Chunk.row (Kd.int .i64) 3 w.heap.size S154 (.slice A153 (([keep]).length) (([keep]).length)) ([keep]), Chunk.jour w.heap.size gd5 gj42 (⟨#[106]⟩ : ByteArray) Sj (isK datas i.toNat) ((recsJ (isK datas i.toNat)).length : Int)]) (L := []) h_).get 0 rfl)).2.2) (row_cap (O159.get 0 rfl)) hw (by show 1 ≤ 1000000; decide) (by exact O168); rw [show (crashD ([keep]) (jdk (⟨#[106]⟩ : ByteArray) (recsJ (isK datas i.toNat)) ((recsJ (isK datas safe.toNat)).length : Int) [] 1048576)) = (jdk (⟨#[106]⟩ : ByteArray) ((recsJ (isK datas i.toNat)).take m) (m : Int) [] 1048576) from hmc] at h_; (try dsimp only at h_); exact h_)) ?_
    rintro e162 w163 ⟨rfl, S160, hb164⟩
    refine ⟨_, rfl, fun _ H166 => ?_⟩
    have O167 : Own w w163 [Chunk.row (Kd.int .i64) 3 w.heap.size S154 (.slice A153 (([keep]).length) (([keep]).length)) ([keep]), Chunk.jour w.heap.size gd5 gj42 (⟨#[106]⟩ : ByteArray) Sj (isK datas i.toNat) ((recsJ (isK datas i.toNat)).length : Int), Chunk.disk w.heap.size gd5 S160 (jdk (⟨#[106]⟩ : ByteArray) ((recsJ (isK datas i.toNat)).take m) (m : Int) [] 1048576)] := Own.unbundle (A := [Chunk.row (Kd.int .i64) 3 w.heap.size S154 (.slice A153 (([keep]).length) (([keep]).length)) ([keep]), Chunk.jour w.heap.size gd5 gj42 (⟨#[106]⟩ : ByteArray) Sj (isK datas i.toNat) ((recsJ (isK datas i.toNat)).length : Int)]) (L := [Chunk.disk w.heap.size gd5 S160 (jdk (⟨#[106]⟩ : ByteArray) ((recsJ (isK datas i.toNat)).take m) (m : Int) [] 1048576)]) (hb164.sel [0, 1] (by decide))
    clear O168
    clear H157 O159 hb164
    have O170 : Own w w163 [Chunk.row (Kd.int .i64) 3 w.heap.size S154 (.slice A153 (([keep]).length) (([keep]).length)) ([keep]), Chunk.jour w.heap.size gd5 gj42 (⟨#[106]⟩ : ByteArray) Sj (isK datas i.toNat) ((recsJ (isK datas i.toNat)).length : Int), Chunk.disk w.heap.size gd5 S160 (jdk (⟨#[106]⟩ : ByteArray) ((recsJ (isK datas i.toNat)).take m) (m : Int) [] 1048576)] := O167
    clear O167
    have hwf161 : wfD (jdk (⟨#[106]⟩ : ByteArray) ((recsJ (isK datas i.toNat)).take m) (m : Int) [] 1048576) := by have h_ := wf_crash (keep := ([keep])) hw; rw [show (crashD ([keep]) (jdk (⟨#[106]⟩ : ByteArray) (recsJ (isK datas i.toNat)) ((recsJ (isK datas safe.toNat)).length : Int) [] 1048576)) = (jdk (⟨#[106]⟩ : ByteArray) ((recsJ (isK datas i.toNat)).take m) (m : Int) [] 1048576) from hmc] at h_; exact h_
    refine wpList_nil ?_
    refine gw_nx (hK148 _ _ ?_)
    refine gw_seq fun K171 hK171 => ?_
    refine wp_region_lit ?_
    refine V H166 (op_move rfl (H166.ev rfl)) ?_
    intro _ H173; clear H166
    obtain ⟨q, hq1, hq2, hqo⟩ := keep_open (nm := (⟨#[106]⟩ : ByteArray)) (mst := 1048576) (ds := datas) (n := i.toNat) (safe := safe.toNat) (by omega) (fun j_ hj_ => ⟨hb j_ hj_, byte_getDL hB j_⟩) (by omega) (by omega) hm2
    have heq178 : openJ (⟨#[106]⟩ : ByteArray) (jdk (⟨#[106]⟩ : ByteArray) ((recsJ (isK datas i.toNat)).take m) (m : Int) [] 1048576) = (((jdk (⟨#[106]⟩ : ByteArray) (recsJ (isK datas q)) ((recsJ (isK datas q)).length : Int) [] 1048576), 0), ((isK datas q), ((recsJ (isK datas q)).length : Int))) := hqo
    have O185 : Own w _ [(Chunk.all [Chunk.row (Kd.int .i64) 3 w.heap.size S154 (.slice A153 (([keep]).length) (([keep]).length)) ([keep]), Chunk.jour w.heap.size gd5 gj42 (⟨#[106]⟩ : ByteArray) Sj (isK datas i.toNat) ((recsJ (isK datas i.toNat)).length : Int)]), Chunk.disk w.heap.size gd5 S160 (jdk (⟨#[106]⟩ : ByteArray) ((recsJ (isK datas i.toNat)).take m) (m : Int) [] 1048576)] := Own.bundle (A := [Chunk.row (Kd.int .i64) 3 w.heap.size S154 (.slice A153 (([keep]).length) (([keep]).length)) ([keep]), Chunk.jour w.heap.size gd5 gj42 (⟨#[106]⟩ : ByteArray) Sj (isK datas i.toNat) ((recsJ (isK datas i.toNat)).length : Int)]) (L := [Chunk.disk w.heap.size gd5 S160 (jdk (⟨#[106]⟩ : ByteArray) ((recsJ (isK datas i.toNat)).take m) (m : Int) [] 1048576)]) (O170.sel [0, 1, 2] (by decide))
    refine gw_call H173 (want_none rfl) rfl (by decide) (op_callL Try.func32 (by kernel_rfl) rfl rfl (ar_cons (H173.ev rfl) (ar_cons (ev_c _ _) ar_nil))) (open_ok heq178 hwf161 (by decide) (by show 1 ≤ 1000000; decide) (used_le (by rw [hml]; have h2_ := hm2; have h_ := isK_recs (ds := datas) (n := i.toNat) (M := 1000) (fun j_ hj_ => hb j_ (by omega)); omega)) (jd_byte (take_byte (recs_byte (isK_ok (by omega) fun j_ hj_ => ⟨by have h_ := hb j_ hj_; omega, byte_getDL hB j_⟩)) m)) (by exact O185)) ?_
    rintro e179 w180 ⟨gj174, SJ175, S176, rfl, hb181⟩
    refine ⟨_, rfl, fun _ H183 => ?_⟩
    have O184 : Own w w180 [Chunk.row (Kd.int .i64) 3 w.heap.size S154 (.slice A153 (([keep]).length) (([keep]).length)) ([keep]), Chunk.jour w.heap.size gd5 gj42 (⟨#[106]⟩ : ByteArray) Sj (isK datas i.toNat) ((recsJ (isK datas i.toNat)).length : Int), Chunk.disk w.heap.size gd5 S176 (jdk (⟨#[106]⟩ : ByteArray) (recsJ (isK datas q)) ((recsJ (isK datas q)).length : Int) [] 1048576), Chunk.jour w.heap.size gd5 gj174 (⟨#[106]⟩ : ByteArray) SJ175 (isK datas q) ((recsJ (isK datas q)).length : Int)] := Own.unbundle (A := [Chunk.row (Kd.int .i64) 3 w.heap.size S154 (.slice A153 (([keep]).length) (([keep]).length)) ([keep]), Chunk.jour w.heap.size gd5 gj42 (⟨#[106]⟩ : ByteArray) Sj (isK datas i.toNat) ((recsJ (isK datas i.toNat)).length : Int)]) (L := [Chunk.disk w.heap.size gd5 S176 (jdk (⟨#[106]⟩ : ByteArray) (recsJ (isK datas q)) ((recsJ (isK datas q)).length : Int) [] 1048576), Chunk.jour w.heap.size gd5 gj174 (⟨#[106]⟩ : ByteArray) SJ175 (isK datas q) ((recsJ (isK datas q)).length : Int)]) (hb181.sel [0, 1, 2] (by decide))
    clear O185
    clear H173 O170 hb181
    have O187 : Own w w180 [Chunk.row (Kd.int .i64) 3 w.heap.size S154 (.slice A153 (([keep]).length) (([keep]).length)) ([keep]), Chunk.jour w.heap.size gd5 gj42 (⟨#[106]⟩ : ByteArray) Sj (isK datas i.toNat) ((recsJ (isK datas i.toNat)).length : Int), Chunk.disk w.heap.size gd5 S176 (jdk (⟨#[106]⟩ : ByteArray) (recsJ (isK datas q)) ((recsJ (isK datas q)).length : Int) [] 1048576), Chunk.jour w.heap.size gd5 gj174 (⟨#[106]⟩ : ByteArray) SJ175 (isK datas q) ((recsJ (isK datas q)).length : Int)] := O184
    clear O184
    have hwf177 : wfD (jdk (⟨#[106]⟩ : ByteArray) (recsJ (isK datas q)) ((recsJ (isK datas q)).length : Int) [] 1048576) := wf_open' heq178 hwf161
    refine V H183 (op_move rfl (H183.ev rfl)) ?_
    intro _ H189; clear H183
    refine V H189 (op_extract rfl (H189.ev rfl) rfl) ?_
    intro _ H191; clear H189
    refine V H191 (op_extract rfl (H191.ev rfl) rfl) ?_
    intro _ H193; clear H191
    refine V H193 (op_assign rfl (H193.ev rfl)) ?_
    intro _ H195; clear H193
    refine V H195 (op_assign rfl (H195.ev rfl)) ?_
    intro _ H197; clear H195
    refine wpList_nil ?_
    refine gw_nx (hK171 _ _ ?_)
    refine gw_seq fun K198 hK198 => ?_
    refine gw_seq fun K199 hK199 => ?_
    refine wp_region_lit ?_
    refine V H197 (op_move rfl (H197.ev rfl)) ?_
    intro _ H201; clear H197
    refine V H201 (op_nei rfl (H201.ev rfl) (ev_c _ _)) ?_
    intro _ H203; clear H201
    have H204 := H203.lit (b := false) (by decide)
    clear H203
    refine V H204 (op_move rfl (H204.ev rfl)) ?_
    intro _ H206; clear H204
    refine V2 H206 (want_yes H206 rfl rfl rfl rfl) (op_move rfl (H206.ev rfl)) ?_
    intro _ H208; clear H206
    refine V2 H208 (want_yes H208 rfl rfl rfl rfl) (op_eqp_nil Try.underlying61 rfl (H208.ev rfl)) ?_
    intro _ H210; clear H208
    refine V H210 (op_pick_f rfl (H210.ev rfl) (H210.ev rfl)) ?_
    intro _ H212; clear H210
    refine wpList_nil ?_
    refine gw_nx (hK199 _ _ ?_)
    refine gw_cond H212 rfl (fun hb213 => ?_) (fun hb213 => ?_)
    skip
    ·
     cases hb213
    refine wp_skip ?_
    refine gw_nx (hK198 _ _ ?_)
    refine gw_seq fun K214 hK214 => ?_
    refine wp_region_lit ?_
    refine V H212 (op_move rfl (H212.ev rfl)) ?_
    intro _ H216; clear H212
    refine gw_call H216 (want_none rfl) rfl (by decide) (op_callL Try.func35 (by kernel_rfl) rfl rfl (ar_cons (H216.ev rfl) ar_nil)) (keys_calls w.heap.size gd5 gj174 (⟨#[106]⟩ : ByteArray) SJ175 (isK datas q) ((recsJ (isK datas q)).length : Int) _ (by exact O187.get 3 rfl) (by rw [isK_len]; omega)) ?_
    rintro e223 w224 ⟨A217, c218, S219, ks220, hkr221, hkp222, rfl, hb225⟩
    refine ⟨_, rfl, fun _ H227 => ?_⟩
    have O228 := O187.fresh hb225
    have hbel229 := O187.below
    clear H216 O187 hb225
    have O230 := O228.lowrow 0 rfl (base' := w.heap.size) (Below.size hbel229)
    have O231 : Own w w224 [Chunk.row (Kd.int .i64) 2 w.heap.size S219 (.slice A217 ks220.length c218) ks220, Chunk.row (Kd.int .i64) 3 w.heap.size S154 (.slice A153 (([keep]).length) (([keep]).length)) ([keep]), Chunk.jour w.heap.size gd5 gj42 (⟨#[106]⟩ : ByteArray) Sj (isK datas i.toNat) ((recsJ (isK datas i.toNat)).length : Int), Chunk.disk w.heap.size gd5 S176 (jdk (⟨#[106]⟩ : ByteArray) (recsJ (isK datas q)) ((recsJ (isK datas q)).length : Int) [] 1048576), Chunk.jour w.heap.size gd5 gj174 (⟨#[106]⟩ : ByteArray) SJ175 (isK datas q) ((recsJ (isK datas q)).length : Int)] := O230
    clear O230
    have hkl_ks220 := hkp222.length_eq
    rw [List.length_map] at hkl_ks220
    have hks := keys_isK hkr221 hkp222
    have hkq : ks220.length = q := by rw [hkl_ks220, isK_len]
    have O232 := O231.row_view 0 rfl
    clear O231
    have O233 : Own w w224 [Chunk.view (Kd.int .i64) S219 A217 ks220.length c218 ks220, Chunk.row (Kd.int .i64) 3 w.heap.size S154 (.slice A153 (([keep]).length) (([keep]).length)) ([keep]), Chunk.jour w.heap.size gd5 gj42 (⟨#[106]⟩ : ByteArray) Sj (isK datas i.toNat) ((recsJ (isK datas i.toNat)).length : Int), Chunk.disk w.heap.size gd5 S176 (jdk (⟨#[106]⟩ : ByteArray) (recsJ (isK datas q)) ((recsJ (isK datas q)).length : Int) [] 1048576), Chunk.jour w.heap.size gd5 gj174 (⟨#[106]⟩ : ByteArray) SJ175 (isK datas q) ((recsJ (isK datas q)).length : Int)] := O232
    clear O232
    refine V H227 (op_assign rfl (H227.ev rfl)) ?_
    intro _ H235; clear H227
    refine wpList_nil ?_
    refine gw_nx (hK214 _ _ ?_)
    refine gw_seq fun K236 hK236 => ?_
    refine gw_seq fun K237 hK237 => ?_
    refine wp_region_lit ?_
    refine V H235 (op_move rfl (H235.ev rfl)) ?_
    intro _ H239; clear H235
    refine V H239 (op_len Try.underlying66 rfl (H239.ev rfl)) ?_
    intro _ H241; clear H239
    refine V H241 (op_move rfl (H241.ev rfl)) ?_
    intro _ H243; clear H241
    refine V H243 (op_lss rfl (H243.ev rfl) (H243.ev rfl)) ?_
    intro _ H245; clear H243
    have H246 := H245.lit (b := false) (by rw [decide_eq_false_iff_not]; omega)
    clear H245
    refine V H246 (op_move rfl (H246.ev rfl)) ?_
    intro _ H248; clear H246
    refine V2 H248 (want_yes H248 rfl rfl rfl rfl) (op_move rfl (H248.ev rfl)) ?_
    intro _ H250; clear H248
    refine V2 H250 (want_yes H250 rfl rfl rfl rfl) (op_len Try.underlying66 rfl (H250.ev rfl)) ?_
    intro _ H252; clear H250
    refine V2 H252 (want_yes H252 rfl rfl rfl rfl) (op_move rfl (H252.ev rfl)) ?_
    intro _ H254; clear H252
    refine V2 H254 (want_yes H254 rfl rfl rfl rfl) (op_gtr rfl (H254.ev rfl) (H254.ev rfl)) ?_
    intro _ H256; clear H254
    have H257 := H256.lit (b := false) (by rw [decide_eq_false_iff_not]; omega)
    clear H256
    refine V H257 (op_pick_f rfl (H257.ev rfl) (H257.ev rfl)) ?_
    intro _ H259; clear H257
    refine wpList_nil ?_
    refine gw_nx (hK237 _ _ ?_)
    refine gw_cond H259 rfl (fun hb260 => ?_) (fun hb260 => ?_)
    skip
    ·
     cases hb260
    refine wp_skip ?_
    refine gw_nx (hK236 _ _ ?_)
    refine gw_seq fun K261 hK261 => ?_
    refine gw_seq fun K262 hK262 => ?_
    refine wp_region_lit ?_
    refine V H259 (op_move rfl (H259.ev rfl)) ?_
    intro _ H264; clear H259
    refine V H264 (op_len Try.underlying66 rfl (H264.ev rfl)) ?_
    intro _ H266; clear H264
    refine V H266 (op_move rfl (ev_c _ _)) ?_
    intro _ H268; clear H266
    refine wpList_nil ?_
    refine gw_nx (hK262 _ _ ?_)
    refine wp_block ?_
    refine gw_loop (fun m_ a_ w_ => ∃ (k : Int), Fr 132 a_ [(97, J k), (0, .slice A1 datas.length c1), (14, .pointer (some ⟨gj174, 0, none⟩)), (16, .slice A217 ks220.length c218), (95, .slice A217 ks220.length c218), (96, J (ks220.length : Int))] ∧ Own w w_ [Chunk.view (Kd.int .i64) S219 A217 ks220.length c218 ks220, Chunk.row (Kd.int .i64) 3 w.heap.size S154 (.slice A153 (([keep]).length) (([keep]).length)) ([keep]), Chunk.jour w.heap.size gd5 gj42 (⟨#[106]⟩ : ByteArray) Sj (isK datas i.toNat) ((recsJ (isK datas i.toNat)).length : Int), Chunk.disk w.heap.size gd5 S176 (jdk (⟨#[106]⟩ : ByteArray) (recsJ (isK datas q)) ((recsJ (isK datas q)).length : Int) [] 1048576), Chunk.jour w.heap.size gd5 gj174 (⟨#[106]⟩ : ByteArray) SJ175 (isK datas q) ((recsJ (isK datas q)).length : Int)] ∧ (0 ≤ k ∧ k ≤ ks220.length) ∧ m_ = (ks220.length - k.toNat)) ((ks220.length - (0 : Int).toNat)) ?_ ?_
    ·
     refine ⟨0, (H268.pick (t := 97) rfl (H268.pick (t := 0) rfl (H268.pick (t := 14) rfl (H268.pick (t := 16) rfl (H268.pick (t := 95) rfl (H268.pick (t := 96) rfl H268.nil)))))), O233.sel [0, 1, 2, 3, 4] (by decide), ?_, rfl⟩
     ·
      omega
    ·
     rintro m270 _ w272 ⟨k, H273, O274, hk, hm275⟩
     refine gw_seq fun K276 hK276 => ?_
     refine wp_region_lit ?_
     refine V H273 (op_lss rfl (H273.ev rfl) (H273.ev rfl)) ?_
     intro _ H278; clear H273
     refine wpList_nil ?_
     refine gw_nx (hK276 _ _ ?_)
     refine gw_seq fun K279 hK279 => ?_
     refine gw_cond H278 rfl (fun hb280 => ?_) (fun hb280 => ?_)
     ·
      have H281 := H278.subst_ (d := 98) (b := true) rfl hb280
      clear H278
      (try simp only [decide_eq_true_eq] at hb280)
      have hbk := hb k.toNat (by omega)
      refine wp_skip ?_
      refine gw_nx (hK279 _ _ ?_)
      refine gw_seq fun K282 hK282 => ?_
      refine wp_block ?_
      refine gw_seq fun K283 hK283 => ?_
      refine wp_region_lit ?_
      refine V H281 (op_move rfl (H281.ev rfl)) ?_
      intro _ H285; clear H281
      have O292 := O274.pin 0 rfl
      clear O274
      have O293 : Own w w272 [Chunk.viewAt w272 (Kd.int .i64) S219 A217 ks220.length c218 ks220, Chunk.row (Kd.int .i64) 3 w.heap.size S154 (.slice A153 (([keep]).length) (([keep]).length)) ([keep]), Chunk.jour w.heap.size gd5 gj42 (⟨#[106]⟩ : ByteArray) Sj (isK datas i.toNat) ((recsJ (isK datas i.toNat)).length : Int), Chunk.disk w.heap.size gd5 S176 (jdk (⟨#[106]⟩ : ByteArray) (recsJ (isK datas q)) ((recsJ (isK datas q)).length : Int) [] 1048576), Chunk.jour w.heap.size gd5 gj174 (⟨#[106]⟩ : ByteArray) SJ175 (isK datas q) ((recsJ (isK datas q)).length : Int)] := O292
      clear O292
      obtain ⟨ad286, cs289, hA287, hl290, hK291, hc288, _⟩ := Kd.F_get (viewAt_F (O293.get 0 rfl)) (0 : Int) k (by omega) (by omega)
      obtain rfl := int_openF hK291
      clear hl290
      refine V H285 (op_index Try.underlying66 gwsiz2 rfl (H285.ev rfl) (H285.ev rfl) hA287 (⟨by omega, by omega⟩)) ?_
      intro _ H295; clear H285
      refine V H295 (op_load1 gwagg2 rfl (H295.ev rfl) (((pin_cells (O293.get 0 rfl) hA287 hc288) 0 _ rfl))) ?_
      intro _ H297; clear H295
      have H298 := H297.conv (v' := J k) (congrArg (Value.int .i64) (keysK_at hks k (by omega) (by omega)))
      clear H297
      refine V H298 (op_assign rfl (H298.ev rfl)) ?_
      intro _ H300; clear H298
      refine V H300 (op_assign rfl (H300.ev rfl)) ?_
      intro _ H302; clear H300
      refine wpList_nil ?_
      refine gw_nx (hK283 _ _ ?_)
      refine gw_seq fun K303 hK303 => ?_
      refine wp_region_lit ?_
      refine V H302 (op_move rfl (H302.ev rfl)) ?_
      intro _ H305; clear H302
      refine V H305 (op_move rfl (H305.ev rfl)) ?_
      intro _ H307; clear H305
      refine gw_call H307 (want_none rfl) rfl (by decide) (op_callL Try.func36 (by kernel_rfl) rfl rfl (ar_cons (H307.ev rfl) (ar_cons (H307.ev rfl) ar_nil))) ((by have h_ := get_calls w.heap.size gd5 gj174 (⟨#[106]⟩ : ByteArray) SJ175 (isK datas q) ((recsJ (isK datas q)).length : Int) _ (O293.get 4 rfl) k (wf_i64 (by omega)) (fun x_ hx_ => Nat.le_trans (isK_datas (M := 1000) (fun j_ hj_ => hb j_ (by omega)) x_ hx_) (by decide)); rw [show hasJ k (isK datas q) = true from hasK (by omega), show (getJ k (isK datas q)).getD [] = (datas.getD k.toNat []) from getK (by omega)] at h_; exact h_)) ?_
      rintro e311 w312 ⟨A308, c309, S310, rfl, hb313⟩
      refine ⟨_, rfl, fun _ H315 => ?_⟩
      have O316 := O293.fresh hb313
      have hbel317 := O293.below
      clear H307 O293 hb313
      have O318 := O316.lowrow 0 rfl (base' := w.heap.size) (Below.size hbel317)
      have O319 : Own w w312 [Chunk.row (Kd.int .u8) 5 w.heap.size S310 (.slice A308 ((datas.getD k.toNat []).length) c309) (datas.getD k.toNat []), Chunk.viewAt w272 (Kd.int .i64) S219 A217 ks220.length c218 ks220, Chunk.row (Kd.int .i64) 3 w.heap.size S154 (.slice A153 (([keep]).length) (([keep]).length)) ([keep]), Chunk.jour w.heap.size gd5 gj42 (⟨#[106]⟩ : ByteArray) Sj (isK datas i.toNat) ((recsJ (isK datas i.toNat)).length : Int), Chunk.disk w.heap.size gd5 S176 (jdk (⟨#[106]⟩ : ByteArray) (recsJ (isK datas q)) ((recsJ (isK datas q)).length : Int) [] 1048576), Chunk.jour w.heap.size gd5 gj174 (⟨#[106]⟩ : ByteArray) SJ175 (isK datas q) ((recsJ (isK datas q)).length : Int)] := O318
      clear O318
      refine V H315 (op_move rfl (H315.ev rfl)) ?_
      intro _ H321; clear H315
      refine V H321 (op_extract rfl (H321.ev rfl) rfl) ?_
      intro _ H323; clear H321
      refine V H323 (op_extract rfl (H323.ev rfl) rfl) ?_
      intro _ H325; clear H323
      refine V H325 (op_assign rfl (H325.ev rfl)) ?_
      intro _ H327; clear H325
      refine V H327 (op_assign rfl (H327.ev rfl)) ?_
      intro _ H329; clear H327
      refine wpList_nil ?_
      refine gw_nx (hK303 _ _ ?_)
      refine gw_seq fun K330 hK330 => ?_
      refine wp_region_lit ?_
      refine V H329 (op_move rfl (H329.ev rfl)) ?_
      intro _ H332; clear H329
      refine V H332 (op_move rfl (H332.ev rfl)) ?_
      intro _ H334; clear H332
      refine V H334 (op_nei rfl (H334.ev rfl) (H334.ev rfl)) ?_
      intro _ H336; clear H334
      have H337 := H336.lit (b := false) (by simp)
      clear H336
      refine V H337 (op_move rfl (H337.ev rfl)) ?_
      intro _ H339; clear H337
      refine V2 H339 (want_yes H339 rfl rfl rfl rfl) (op_move rfl (H339.ev rfl)) ?_
      intro _ H341; clear H339
      refine V2 H341 (want_yes H341 rfl rfl rfl rfl) (op_not rfl (H341.ev rfl)) ?_
      intro _ H343; clear H341
      refine V H343 (op_pick_f rfl (H343.ev rfl) (H343.ev rfl)) ?_
      intro _ H345; clear H343
      refine V H345 (op_move rfl (H345.ev rfl)) ?_
      intro _ H347; clear H345
      refine V2 H347 (want_yes H347 rfl rfl rfl rfl) (op_move rfl (H347.ev rfl)) ?_
      intro _ H349; clear H347
      refine V2 H349 (want_yes H349 rfl rfl rfl rfl) (op_move rfl (H349.ev rfl)) ?_
      intro _ H351; clear H349
      refine V2 H351 (want_yes H351 rfl rfl rfl rfl) (op_move rfl (H351.ev rfl)) ?_
      intro _ H353; clear H351
      obtain ⟨ad354, cs357, hA355, hl358, hK359, hc356⟩ := Kd.C_get hr1 ([] : List Int) k (by omega) (by omega)
      obtain ⟨A360, c361, rfl, hl362, hC363⟩ := id hK359
      clear hl358
      refine V2 H353 (want_yes H353 rfl rfl rfl rfl) (op_index Try.underlying22 gwsiz28 rfl (H353.ev rfl) (H353.ev rfl) hA355 (⟨by omega, by omega⟩)) ?_
      intro _ H365; clear H353
      refine V2 H365 (want_yes H365 rfl rfl rfl rfl) (op_load1 gwagg28 rfl (H365.ev rfl) (O319.cell0 (at0 hc356))) ?_
      intro _ H367; clear H365
      refine gw_call H367 (want_yes H367 rfl rfl rfl rfl) rfl (by decide) (op_callL Try.func19 (by kernel_rfl) rfl rfl (ar_cons (H367.ev rfl) (ar_cons (H367.ev rfl) ar_nil))) (same_calls A308 c309 (datas.getD k.toNat []) A360 c361 (datas.getD k.toNat ([] : List Int)) _ (Kd.R_reads' (O319.get 0 rfl)).2.2 (row_cap (O319.get 0 rfl)) (Kd.C_below hC363 O319.below) hl362 (by omega)) ?_
      rintro e368 w369 ⟨rfl, hb370⟩
      refine ⟨_, rfl, fun _ H372 => ?_⟩
      have O373 := O319.after hb370
      clear H367 O319 hb370
      have H375 := H372.lit (b := true) (by simp)
      clear H372
      refine V2 H375 (want_yes H375 rfl rfl rfl rfl) (op_not rfl (H375.ev rfl)) ?_
      intro _ H377; clear H375
      refine V H377 (op_pick_f rfl (H377.ev rfl) (H377.ev rfl)) ?_
      intro _ H379; clear H377
      refine wpList_nil ?_
      refine gw_nx (hK330 _ _ ?_)
      refine gw_cond H379 rfl (fun hb380 => ?_) (fun hb380 => ?_)
      skip
      ·
       cases hb380
      refine wp_skip ?_
      refine gw_blk ?_
      refine gw_nx (hK282 _ _ ?_)
      refine wp_region_lit ?_
      refine V H379 (op_add rfl (H379.ev rfl) (ev_c _ _) (by omega)) ?_
      intro _ H382; clear H379
      refine V H382 (op_move rfl (H382.ev rfl)) ?_
      intro _ H384; clear H382
      refine wpList_nil ?_
      have O385 := O373.unpin 1 rfl
      clear O373
      have O386 : Own w w369 [Chunk.row (Kd.int .u8) 5 w.heap.size S310 (.slice A308 ((datas.getD k.toNat []).length) c309) (datas.getD k.toNat []), Chunk.view (Kd.int .i64) S219 A217 ks220.length c218 ks220, Chunk.row (Kd.int .i64) 3 w.heap.size S154 (.slice A153 (([keep]).length) (([keep]).length)) ([keep]), Chunk.jour w.heap.size gd5 gj42 (⟨#[106]⟩ : ByteArray) Sj (isK datas i.toNat) ((recsJ (isK datas i.toNat)).length : Int), Chunk.disk w.heap.size gd5 S176 (jdk (⟨#[106]⟩ : ByteArray) (recsJ (isK datas q)) ((recsJ (isK datas q)).length : Int) [] 1048576), Chunk.jour w.heap.size gd5 gj174 (⟨#[106]⟩ : ByteArray) SJ175 (isK datas q) ((recsJ (isK datas q)).length : Int)] := O385
      clear O385
      refine gw_nx ⟨_, ?_, k + 1, (H384.pick (t := 97) rfl (H384.pick (t := 0) rfl (H384.pick (t := 14) rfl (H384.pick (t := 16) rfl (H384.pick (t := 95) rfl (H384.pick (t := 96) rfl H384.nil)))))), O386.sel [1, 2, 3, 4, 5] (by decide), ?_, rfl⟩
      ·
       rw [hm275]; omega
      ·
       omega
     ·
      have H387 := H278.subst_ (d := 98) (b := false) rfl hb280
      clear H278
      (try simp only [decide_eq_false_iff_not, Int.not_lt] at hb280)
      refine wp_exit ?_
      refine gw_thx ?_
      refine gw_thx ?_
      refine gw_in ?_
      refine gw_nx (hK261 _ _ ?_)
      refine gw_seq fun K388 hK388 => ?_
      refine wp_region_lit ?_
      refine V H387 (op_move rfl (H387.ev rfl)) ?_
      intro _ H390; clear H387
      refine V H390 (op_move rfl (H390.ev rfl)) ?_
      intro _ H392; clear H390
      refine V H392 (op_len Try.underlying66 rfl (H392.ev rfl)) ?_
      intro _ H394; clear H392
      refine gw_bytes (xs := [109, 111, 114, 101]) Try.underlying28 Try.underlying5 H394 O274 (want_none rfl) rfl (by decide) (op_bslice (by kernel_rfl) rfl (pt_cons (ev_c _ _) (pt_cons (ev_c _ _) (pt_cons (ev_c _ _) (pt_cons (ev_c _ _) pt_nil))))) (fun a_ HF_ => (want_none rfl)) rfl (by decide) rfl ?_
      intro g395 _ w397 H398 O399; clear H394 O274
      have O400 : Own w w397 [Chunk.blk g395 (.cells (nums .u8 [109, 111, 114, 101]).toArray 5 (([109, 111, 114, 101]).length, ([109, 111, 114, 101]).length + 1)), Chunk.view (Kd.int .i64) S219 A217 ks220.length c218 ks220, Chunk.row (Kd.int .i64) 3 w.heap.size S154 (.slice A153 (([keep]).length) (([keep]).length)) ([keep]), Chunk.jour w.heap.size gd5 gj42 (⟨#[106]⟩ : ByteArray) Sj (isK datas i.toNat) ((recsJ (isK datas i.toNat)).length : Int), Chunk.disk w.heap.size gd5 S176 (jdk (⟨#[106]⟩ : ByteArray) (recsJ (isK datas q)) ((recsJ (isK datas q)).length : Int) [] 1048576), Chunk.jour w.heap.size gd5 gj174 (⟨#[106]⟩ : ByteArray) SJ175 (isK datas q) ((recsJ (isK datas q)).length : Int)] := O399
      clear O399
      have hrm := recI_len ((ks220.length : Int), [109, 111, 114, 101])
      have hem := encN_len (ks220.length : Int)
      simp only [List.length_cons, List.length_nil] at hrm
      have hrq := isK_recs (ds := datas) (n := q) (M := 1000) (fun j_ hj_ => hb j_ (by omega))
      have heq404 : putJ (⟨#[106]⟩ : ByteArray) (ks220.length : Int) ([109, 111, 114, 101]) (isK datas q) ((recsJ (isK datas q)).length : Int) (jdk (⟨#[106]⟩ : ByteArray) (recsJ (isK datas q)) ((recsJ (isK datas q)).length : Int) [] 1048576) = (((jdk (⟨#[106]⟩ : ByteArray) (recsJ ((isK datas q) ++ [((ks220.length : Int), [109, 111, 114, 101])])) ((recsJ (isK datas q)).length : Int) [] 1048576), 0), (((isK datas q) ++ [((ks220.length : Int), [109, 111, 114, 101])]), (((recsJ (isK datas q)).length : Int) + ((recI ((ks220.length : Int), [109, 111, 114, 101])).length : Int)))) := jd_put (fun g_ hg_ => by simp at hg_) ⟨by omega, by omega⟩ (by show 4 ≤ 900000; decide) (by rw [hkq]; exact isK_has (Nat.le_refl _)) (by rw [show ((totF [] : Nat) : Int) = 0 from rfl]; omega)
      have O411 : Own w _ [(Chunk.all [Chunk.blk g395 (.cells (nums .u8 [109, 111, 114, 101]).toArray 5 (([109, 111, 114, 101]).length, ([109, 111, 114, 101]).length + 1)), Chunk.view (Kd.int .i64) S219 A217 ks220.length c218 ks220, Chunk.row (Kd.int .i64) 3 w.heap.size S154 (.slice A153 (([keep]).length) (([keep]).length)) ([keep]), Chunk.jour w.heap.size gd5 gj42 (⟨#[106]⟩ : ByteArray) Sj (isK datas i.toNat) ((recsJ (isK datas i.toNat)).length : Int)]), Chunk.disk w.heap.size gd5 S176 (jdk (⟨#[106]⟩ : ByteArray) (recsJ (isK datas q)) ((recsJ (isK datas q)).length : Int) [] 1048576), Chunk.jour w.heap.size gd5 gj174 (⟨#[106]⟩ : ByteArray) SJ175 (isK datas q) ((recsJ (isK datas q)).length : Int)] := Own.bundle (A := [Chunk.blk g395 (.cells (nums .u8 [109, 111, 114, 101]).toArray 5 (([109, 111, 114, 101]).length, ([109, 111, 114, 101]).length + 1)), Chunk.view (Kd.int .i64) S219 A217 ks220.length c218 ks220, Chunk.row (Kd.int .i64) 3 w.heap.size S154 (.slice A153 (([keep]).length) (([keep]).length)) ([keep]), Chunk.jour w.heap.size gd5 gj42 (⟨#[106]⟩ : ByteArray) Sj (isK datas i.toNat) ((recsJ (isK datas i.toNat)).length : Int)]) (L := [Chunk.disk w.heap.size gd5 S176 (jdk (⟨#[106]⟩ : ByteArray) (recsJ (isK datas q)) ((recsJ (isK datas q)).length : Int) [] 1048576), Chunk.jour w.heap.size gd5 gj174 (⟨#[106]⟩ : ByteArray) SJ175 (isK datas q) ((recsJ (isK datas q)).length : Int)]) (O400.sel [0, 1, 2, 3, 4, 5] (by decide))
      refine gw_call H398 (want_none rfl) rfl (by decide) (op_callL Try.func33 (by kernel_rfl) rfl rfl (ar_cons (H398.ev rfl) (ar_cons (H398.ev rfl) (ar_cons (H398.ev rfl) ar_nil)))) (put_is heq404 hwf177 (by decide) (wf_i64 (by omega)) (fun w_ h_ => (blkC ((Own.unbundle (A := [Chunk.blk g395 (.cells (nums .u8 [109, 111, 114, 101]).toArray 5 (([109, 111, 114, 101]).length, ([109, 111, 114, 101]).length + 1)), Chunk.view (Kd.int .i64) S219 A217 ks220.length c218 ks220, Chunk.row (Kd.int .i64) 3 w.heap.size S154 (.slice A153 (([keep]).length) (([keep]).length)) ([keep]), Chunk.jour w.heap.size gd5 gj42 (⟨#[106]⟩ : ByteArray) Sj (isK datas i.toNat) ((recsJ (isK datas i.toNat)).length : Int)]) (L := []) h_).get 0 rfl) (by simp))) (Nat.le_refl _) (by unfold ByteL; decide +kernel) (by show 4 ≤ 900000; decide) (used_le (by have h_ := isK_recs (ds := datas) (n := q) (M := 1000) (fun j_ hj_ => hb j_ (by omega)); omega)) (by rw [isK_len]; omega) ⟨by omega, by have h_ := isK_recs (ds := datas) (n := q) (M := 1000) (fun j_ hj_ => hb j_ (by omega)); omega⟩ (by exact O411)) ?_
      rintro e405 w406 ⟨rfl, S402, SJ401, hb407⟩
      refine ⟨_, rfl, fun _ H409 => ?_⟩
      have O410 : Own w w406 [Chunk.blk g395 (.cells (nums .u8 [109, 111, 114, 101]).toArray 5 (([109, 111, 114, 101]).length, ([109, 111, 114, 101]).length + 1)), Chunk.view (Kd.int .i64) S219 A217 ks220.length c218 ks220, Chunk.row (Kd.int .i64) 3 w.heap.size S154 (.slice A153 (([keep]).length) (([keep]).length)) ([keep]), Chunk.jour w.heap.size gd5 gj42 (⟨#[106]⟩ : ByteArray) Sj (isK datas i.toNat) ((recsJ (isK datas i.toNat)).length : Int), Chunk.disk w.heap.size gd5 S402 (jdk (⟨#[106]⟩ : ByteArray) (recsJ ((isK datas q) ++ [((ks220.length : Int), [109, 111, 114, 101])])) ((recsJ (isK datas q)).length : Int) [] 1048576), Chunk.jour w.heap.size gd5 gj174 (⟨#[106]⟩ : ByteArray) SJ401 ((isK datas q) ++ [((ks220.length : Int), [109, 111, 114, 101])]) (((recsJ (isK datas q)).length : Int) + ((recI ((ks220.length : Int), [109, 111, 114, 101])).length : Int))] := Own.unbundle (A := [Chunk.blk g395 (.cells (nums .u8 [109, 111, 114, 101]).toArray 5 (([109, 111, 114, 101]).length, ([109, 111, 114, 101]).length + 1)), Chunk.view (Kd.int .i64) S219 A217 ks220.length c218 ks220, Chunk.row (Kd.int .i64) 3 w.heap.size S154 (.slice A153 (([keep]).length) (([keep]).length)) ([keep]), Chunk.jour w.heap.size gd5 gj42 (⟨#[106]⟩ : ByteArray) Sj (isK datas i.toNat) ((recsJ (isK datas i.toNat)).length : Int)]) (L := [Chunk.disk w.heap.size gd5 S402 (jdk (⟨#[106]⟩ : ByteArray) (recsJ ((isK datas q) ++ [((ks220.length : Int), [109, 111, 114, 101])])) ((recsJ (isK datas q)).length : Int) [] 1048576), Chunk.jour w.heap.size gd5 gj174 (⟨#[106]⟩ : ByteArray) SJ401 ((isK datas q) ++ [((ks220.length : Int), [109, 111, 114, 101])]) (((recsJ (isK datas q)).length : Int) + ((recI ((ks220.length : Int), [109, 111, 114, 101])).length : Int))]) (hb407.sel [0, 1, 2] (by decide))
      clear O411
      clear H398 O400 hb407
      have O413 : Own w w406 [Chunk.blk g395 (.cells (nums .u8 [109, 111, 114, 101]).toArray 5 (([109, 111, 114, 101]).length, ([109, 111, 114, 101]).length + 1)), Chunk.view (Kd.int .i64) S219 A217 ks220.length c218 ks220, Chunk.row (Kd.int .i64) 3 w.heap.size S154 (.slice A153 (([keep]).length) (([keep]).length)) ([keep]), Chunk.jour w.heap.size gd5 gj42 (⟨#[106]⟩ : ByteArray) Sj (isK datas i.toNat) ((recsJ (isK datas i.toNat)).length : Int), Chunk.disk w.heap.size gd5 S402 (jdk (⟨#[106]⟩ : ByteArray) (recsJ ((isK datas q) ++ [((ks220.length : Int), [109, 111, 114, 101])])) ((recsJ (isK datas q)).length : Int) [] 1048576), Chunk.jour w.heap.size gd5 gj174 (⟨#[106]⟩ : ByteArray) SJ401 ((isK datas q) ++ [((ks220.length : Int), [109, 111, 114, 101])]) (((recsJ (isK datas q)).length : Int) + ((recI ((ks220.length : Int), [109, 111, 114, 101])).length : Int))] := O410
      clear O410
      have hwf403 : wfD (jdk (⟨#[106]⟩ : ByteArray) (recsJ ((isK datas q) ++ [((ks220.length : Int), [109, 111, 114, 101])])) ((recsJ (isK datas q)).length : Int) [] 1048576) := wf_put' heq404 hwf177
      refine V H409 (op_eqi rfl (H409.ev rfl) (ev_c _ _)) ?_
      intro _ H415; clear H409
      have H416 := H415.lit (b := true) (by decide)
      clear H415
      refine V H416 (op_assign rfl (H416.ev rfl)) ?_
      intro _ H418; clear H416
      refine wpList_nil ?_
      refine gw_nx (hK388 _ _ ?_)
      refine wp_ret ?_
      refine gw_ret1 H418 rfl rfl ?_
      exact ⟨rfl, O413.below⟩
   ·
    have H419 := H145.subst_ (d := 52) (b := false) rfl hb146
    clear H145
    (try simp only [Bool.and_eq_true, Bool.or_eq_true, Bool.and_eq_false_iff, Bool.or_eq_false_iff, Bool.not_and, Bool.not_or, Bool.not_not, decide_eq_true_eq, decide_eq_false_iff_not, Bool.not_eq_true', Bool.not_eq_false', Bool.not_eq_true, Bool.not_eq_false, ne_eq, Decidable.not_not, Int.not_lt, Int.not_le, not_true_eq_false, not_false_eq_true, bne_iff_ne, beq_iff_eq, bne_eq_false_iff_eq, beq_eq_false_iff_ne] at hb146)
    have hbi : ∀ j, j ≤ i.toNat → (datas.getD j []).length ≤ 1000 := fun j_ hj_ => by rcases Nat.lt_or_ge j_ i.toNat with h_ | h_; (· exact hb j_ h_); (· have e_ : j_ = i.toNat := (by omega); rw [e_]; omega)
    refine wp_skip ?_
    refine gw_nx (hK130 _ _ ?_)
    refine gw_seq fun K420 hK420 => ?_
    refine gw_seq fun K421 hK421 => ?_
    refine wp_region_lit ?_
    refine V H419 (op_move rfl (H419.ev rfl)) ?_
    intro _ H423; clear H419
    refine V H423 (op_move rfl (H423.ev rfl)) ?_
    intro _ H425; clear H423
    refine V H425 (op_move rfl (H425.ev rfl)) ?_
    intro _ H427; clear H425
    have heq431 : putJ (⟨#[106]⟩ : ByteArray) i (datas.getD i.toNat ([] : List Int)) (isK datas i.toNat) ((recsJ (isK datas i.toNat)).length : Int) (jdk (⟨#[106]⟩ : ByteArray) (recsJ (isK datas i.toNat)) ((recsJ (isK datas safe.toNat)).length : Int) [] 1048576) = (((jdk (⟨#[106]⟩ : ByteArray) (recsJ (isK datas (i + 1).toNat)) ((recsJ (isK datas safe.toNat)).length : Int) [] 1048576), 0), ((isK datas (i + 1).toNat), ((recsJ (isK datas (i + 1).toNat)).length : Int))) := keep_put (by omega) hbi (by omega)
    have O438 : Own w _ [(Chunk.all []), Chunk.disk w.heap.size gd5 Sd (jdk (⟨#[106]⟩ : ByteArray) (recsJ (isK datas i.toNat)) ((recsJ (isK datas safe.toNat)).length : Int) [] 1048576), Chunk.jour w.heap.size gd5 gj42 (⟨#[106]⟩ : ByteArray) Sj (isK datas i.toNat) ((recsJ (isK datas i.toNat)).length : Int)] := Own.bundle (A := []) (L := [Chunk.disk w.heap.size gd5 Sd (jdk (⟨#[106]⟩ : ByteArray) (recsJ (isK datas i.toNat)) ((recsJ (isK datas safe.toNat)).length : Int) [] 1048576), Chunk.jour w.heap.size gd5 gj42 (⟨#[106]⟩ : ByteArray) Sj (isK datas i.toNat) ((recsJ (isK datas i.toNat)).length : Int)]) (O100.sel [0, 1] (by decide))
    refine gw_call H427 (want_none rfl) rfl (by decide) (op_callL Try.func33 (by kernel_rfl) rfl rfl (ar_cons (H427.ev rfl) (ar_cons (H427.ev rfl) (ar_cons (H427.ev rfl) ar_nil)))) (put_is heq431 hw (by decide) (wf_i64 (by omega)) (fun w_ h_ => Kd.C_below hC121 h_.below) hl120 (byte_getDL hB _) (by have h_ := hbi i.toNat (Nat.le_refl _); omega) (used_le (by have h_ := isK_recs (ds := datas) (n := i.toNat) (M := 1000) (fun j_ hj_ => hb j_ (by omega)); omega)) (by rw [isK_len]; omega) ⟨by omega, by have h_ := isK_recs (ds := datas) (n := i.toNat) (M := 1000) (fun j_ hj_ => hb j_ (by omega)); omega⟩ (by exact O438)) ?_
    rintro e432 w433 ⟨rfl, S429, SJ428, hb434⟩
    refine ⟨_, rfl, fun _ H436 => ?_⟩
    have O437 : Own w w433 [Chunk.disk w.heap.size gd5 S429 (jdk (⟨#[106]⟩ : ByteArray) (recsJ (isK datas (i + 1).toNat)) ((recsJ (isK datas safe.toNat)).length : Int) [] 1048576), Chunk.jour w.heap.size gd5 gj42 (⟨#[106]⟩ : ByteArray) SJ428 (isK datas (i + 1).toNat) ((recsJ (isK datas (i + 1).toNat)).length : Int)] := Own.unbundle (A := []) (L := [Chunk.disk w.heap.size gd5 S429 (jdk (⟨#[106]⟩ : ByteArray) (recsJ (isK datas (i + 1).toNat)) ((recsJ (isK datas safe.toNat)).length : Int) [] 1048576), Chunk.jour w.heap.size gd5 gj42 (⟨#[106]⟩ : ByteArray) SJ428 (isK datas (i + 1).toNat) ((recsJ (isK datas (i + 1).toNat)).length : Int)]) (hb434.sel [0, 1, 2] (by decide))
    clear O438
    clear H427 O100 hb434
    have O440 : Own w w433 [Chunk.disk w.heap.size gd5 S429 (jdk (⟨#[106]⟩ : ByteArray) (recsJ (isK datas (i + 1).toNat)) ((recsJ (isK datas safe.toNat)).length : Int) [] 1048576), Chunk.jour w.heap.size gd5 gj42 (⟨#[106]⟩ : ByteArray) SJ428 (isK datas (i + 1).toNat) ((recsJ (isK datas (i + 1).toNat)).length : Int)] := O437
    clear O437
    have hwf430 : wfD (jdk (⟨#[106]⟩ : ByteArray) (recsJ (isK datas (i + 1).toNat)) ((recsJ (isK datas safe.toNat)).length : Int) [] 1048576) := wf_put' heq431 hw
    refine V H436 (op_nei rfl (H436.ev rfl) (ev_c _ _)) ?_
    intro _ H442; clear H436
    have H443 := H442.lit (b := false) (by decide)
    clear H442
    refine wpList_nil ?_
    refine gw_nx (hK421 _ _ ?_)
    refine gw_cond H443 rfl (fun hb444 => ?_) (fun hb444 => ?_)
    skip
    ·
     cases hb444
    refine wp_skip ?_
    refine gw_nx (hK420 _ _ ?_)
    refine gw_seq fun K445 hK445 => ?_
    refine wp_region_lit ?_
    refine V H443 (op_move rfl (H443.ev rfl)) ?_
    intro _ H447; clear H443
    refine V H447 (op_add rfl (H447.ev rfl) (ev_c _ _) (by omega)) ?_
    intro _ H449; clear H447
    refine V H449 (op_assign rfl (H449.ev rfl)) ?_
    intro _ H451; clear H449
    refine wpList_nil ?_
    refine gw_nx (hK445 _ _ ?_)
    refine gw_seq fun K452 hK452 => ?_
    refine wp_region_lit ?_
    refine V H451 (op_move rfl (H451.ev rfl)) ?_
    intro _ H454; clear H451
    refine V H454 (op_move rfl (H454.ev rfl)) ?_
    intro _ H456; clear H454
    refine V H456 (op_eqi rfl (H456.ev rfl) (H456.ev rfl)) ?_
    intro _ H458; clear H456
    refine wpList_nil ?_
    refine gw_nx (hK452 _ _ ?_)
    refine gw_cond H458 rfl (fun hb459 => ?_) (fun hb459 => ?_)
    ·
     have H460 := H458.subst_ (d := 62) (b := true) rfl hb459
     clear H458
     (try simp only [decide_eq_true_eq] at hb459)
     refine gw_seq fun K461 hK461 => ?_
     refine gw_seq fun K462 hK462 => ?_
     refine wp_region_lit ?_
     refine V H460 (op_move rfl (H460.ev rfl)) ?_
     intro _ H464; clear H460
     have heq468 : syncD (⟨#[106]⟩ : ByteArray) (jdk (⟨#[106]⟩ : ByteArray) (recsJ (isK datas (i + 1).toNat)) ((recsJ (isK datas safe.toNat)).length : Int) [] 1048576) = ((jdk (⟨#[106]⟩ : ByteArray) (recsJ (isK datas (i + 1).toNat)) ((recsJ (isK datas (i + 1).toNat)).length : Int) [] 1048576), 0) := jd_sync (fun g_ hg_ => by simp at hg_)
     have O475 : Own w _ [(Chunk.all []), Chunk.disk w.heap.size gd5 S429 (jdk (⟨#[106]⟩ : ByteArray) (recsJ (isK datas (i + 1).toNat)) ((recsJ (isK datas safe.toNat)).length : Int) [] 1048576), Chunk.jour w.heap.size gd5 gj42 (⟨#[106]⟩ : ByteArray) SJ428 (isK datas (i + 1).toNat) ((recsJ (isK datas (i + 1).toNat)).length : Int)] := Own.bundle (A := []) (L := [Chunk.disk w.heap.size gd5 S429 (jdk (⟨#[106]⟩ : ByteArray) (recsJ (isK datas (i + 1).toNat)) ((recsJ (isK datas safe.toNat)).length : Int) [] 1048576), Chunk.jour w.heap.size gd5 gj42 (⟨#[106]⟩ : ByteArray) SJ428 (isK datas (i + 1).toNat) ((recsJ (isK datas (i + 1).toNat)).length : Int)]) (O440.sel [0, 1] (by decide))
     refine gw_call H464 (want_none rfl) rfl (by decide) (op_callL Try.func34 (by kernel_rfl) rfl rfl (ar_cons (H464.ev rfl) ar_nil)) (jsync_is heq468 hwf430 (by decide) (by exact O475)) ?_
     rintro e469 w470 ⟨rfl, S466, SJ465, hb471⟩
     refine ⟨_, rfl, fun _ H473 => ?_⟩
     have O474 : Own w w470 [Chunk.disk w.heap.size gd5 S466 (jdk (⟨#[106]⟩ : ByteArray) (recsJ (isK datas (i + 1).toNat)) ((recsJ (isK datas (i + 1).toNat)).length : Int) [] 1048576), Chunk.jour w.heap.size gd5 gj42 (⟨#[106]⟩ : ByteArray) SJ465 (isK datas (i + 1).toNat) ((recsJ (isK datas (i + 1).toNat)).length : Int)] := Own.unbundle (A := []) (L := [Chunk.disk w.heap.size gd5 S466 (jdk (⟨#[106]⟩ : ByteArray) (recsJ (isK datas (i + 1).toNat)) ((recsJ (isK datas (i + 1).toNat)).length : Int) [] 1048576), Chunk.jour w.heap.size gd5 gj42 (⟨#[106]⟩ : ByteArray) SJ465 (isK datas (i + 1).toNat) ((recsJ (isK datas (i + 1).toNat)).length : Int)]) (hb471.sel [0, 1, 2] (by decide))
     clear O475
     clear H464 O440 hb471
     have O477 : Own w w470 [Chunk.disk w.heap.size gd5 S466 (jdk (⟨#[106]⟩ : ByteArray) (recsJ (isK datas (i + 1).toNat)) ((recsJ (isK datas (i + 1).toNat)).length : Int) [] 1048576), Chunk.jour w.heap.size gd5 gj42 (⟨#[106]⟩ : ByteArray) SJ465 (isK datas (i + 1).toNat) ((recsJ (isK datas (i + 1).toNat)).length : Int)] := O474
     clear O474
     have hwf467 : wfD (jdk (⟨#[106]⟩ : ByteArray) (recsJ (isK datas (i + 1).toNat)) ((recsJ (isK datas (i + 1).toNat)).length : Int) [] 1048576) := wf_sync' heq468 hwf430
     refine V H473 (op_nei rfl (H473.ev rfl) (ev_c _ _)) ?_
     intro _ H479; clear H473
     have H480 := H479.lit (b := false) (by decide)
     clear H479
     refine wpList_nil ?_
     refine gw_nx (hK462 _ _ ?_)
     refine gw_cond H480 rfl (fun hb481 => ?_) (fun hb481 => ?_)
     skip
     ·
      cases hb481
     refine wp_skip ?_
     refine gw_nx (hK461 _ _ ?_)
     refine wp_region_lit ?_
     refine V H480 (op_move rfl (H480.ev rfl)) ?_
     intro _ H483; clear H480
     refine V H483 (op_assign rfl (H483.ev rfl)) ?_
     intro _ H485; clear H483
     refine wpList_nil ?_
     refine gw_blk ?_
     refine gw_nx (hK108 _ _ ?_)
     refine wp_region_lit ?_
     refine V H485 (op_add rfl (H485.ev rfl) (ev_c _ _) (by omega)) ?_
     intro _ H487; clear H485
     refine V H487 (op_move rfl (H487.ev rfl)) ?_
     intro _ H489; clear H487
     refine wpList_nil ?_
     refine gw_nx ⟨_, ?_, i + 1, (i + 1), S466, SJ465, (H489.pick (t := 41) rfl (H489.pick (t := 10) rfl (H489.pick (t := 11) rfl (H489.pick (t := 0) rfl (H489.pick (t := 1) rfl (H489.pick (t := 2) rfl (H489.pick (t := 7) rfl (H489.pick (t := 8) rfl (H489.pick (t := 39) rfl (H489.pick (t := 40) rfl H489.nil)))))))))), O477.sel [0, 1] (by decide), ?_, ?_, ?_, ?_, rfl⟩
     ·
      rw [hm101]; omega
     ·
      omega
     ·
      omega
     ·
      exact fun j_ hj_ => hbi j_ (by omega)
     ·
      exact hwf467
    ·
     have H490 := H458.subst_ (d := 62) (b := false) rfl hb459
     clear H458
     (try simp only [decide_eq_false_iff_not] at hb459)
     refine wp_skip ?_
     refine gw_blk ?_
     refine gw_nx (hK108 _ _ ?_)
     refine wp_region_lit ?_
     refine V H490 (op_add rfl (H490.ev rfl) (ev_c _ _) (by omega)) ?_
     intro _ H492; clear H490
     refine V H492 (op_move rfl (H492.ev rfl)) ?_
     intro _ H494; clear H492
     refine wpList_nil ?_
     refine gw_nx ⟨_, ?_, i + 1, safe, S429, SJ428, (H494.pick (t := 41) rfl (H494.pick (t := 10) rfl (H494.pick (t := 11) rfl (H494.pick (t := 0) rfl (H494.pick (t := 1) rfl (H494.pick (t := 2) rfl (H494.pick (t := 7) rfl (H494.pick (t := 8) rfl (H494.pick (t := 39) rfl (H494.pick (t := 40) rfl H494.nil)))))))))), O440.sel [0, 1] (by decide), ?_, ?_, ?_, ?_, rfl⟩
     ·
      rw [hm101]; omega
     ·
      omega
     ·
      omega
     ·
      exact fun j_ hj_ => hbi j_ (by omega)
     ·
      exact hwf430
  ·
   have H495 := H104.subst_ (d := 42) (b := false) rfl hb106
   clear H104
   (try simp only [decide_eq_false_iff_not, Int.not_lt] at hb106)
   refine wp_exit ?_
   refine gw_thx ?_
   refine gw_thx ?_
   refine gw_in ?_
   refine gw_nx (hK87 _ _ ?_)
   refine gw_seq fun K496 hK496 => ?_
   refine wp_region_lit ?_
   refine V H495 (op_move rfl (H495.ev rfl)) ?_
   intro _ H498; clear H495
   refine V H498 (op_move rfl (H498.ev rfl)) ?_
   intro _ H500; clear H498
   refine gw_lit (enc := Value.int .i64) (fun _ => rfl) (xs := [keep]) (e := 3) H500 O100 (want_none rfl) rfl (by decide) (op_bslice (by kernel_rfl) rfl (pt_cons (H500.ev rfl) pt_nil)) (by simp) ?_
   intro A501 S502 _ w504 H505 O506; clear H500 O100
   have O507 : Own w w504 [Chunk.row (Kd.int .i64) 3 w.heap.size S502 (.slice A501 (([keep]).length) (([keep]).length)) ([keep]), Chunk.disk w.heap.size gd5 Sd (jdk (⟨#[106]⟩ : ByteArray) (recsJ (isK datas i.toNat)) ((recsJ (isK datas safe.toNat)).length : Int) [] 1048576), Chunk.jour w.heap.size gd5 gj42 (⟨#[106]⟩ : ByteArray) Sj (isK datas i.toNat) ((recsJ (isK datas i.toNat)).length : Int)] := O506
   clear O506
   have hmo := isK_mono (ds := datas) (show safe.toNat ≤ i.toNat by omega)
   obtain ⟨m, hm1, hm2, hm4, hmc⟩ := jd_crash (nm := (⟨#[106]⟩ : ByteArray)) (mst := 1048576) (all := recsJ (isK datas i.toNat)) (sf := ((recsJ (isK datas safe.toNat)).length : Int)) ⟨by omega, by omega⟩ keep
   have hml : ((recsJ (isK datas i.toNat)).take m).length = m := by rw [List.length_take]; omega
   have O516 : Own w _ [(Chunk.all [Chunk.row (Kd.int .i64) 3 w.heap.size S502 (.slice A501 (([keep]).length) (([keep]).length)) ([keep]), Chunk.jour w.heap.size gd5 gj42 (⟨#[106]⟩ : ByteArray) Sj (isK datas i.toNat) ((recsJ (isK datas i.toNat)).length : Int)]), Chunk.disk w.heap.size gd5 Sd (jdk (⟨#[106]⟩ : ByteArray) (recsJ (isK datas i.toNat)) ((recsJ (isK datas safe.toNat)).length : Int) [] 1048576)] := Own.bundle (A := [Chunk.row (Kd.int .i64) 3 w.heap.size S502 (.slice A501 (([keep]).length) (([keep]).length)) ([keep]), Chunk.jour w.heap.size gd5 gj42 (⟨#[106]⟩ : ByteArray) Sj (isK datas i.toNat) ((recsJ (isK datas i.toNat)).length : Int)]) (L := [Chunk.disk w.heap.size gd5 Sd (jdk (⟨#[106]⟩ : ByteArray) (recsJ (isK datas i.toNat)) ((recsJ (isK datas safe.toNat)).length : Int) [] 1048576)]) (O507.sel [0, 2, 1] (by decide))
   refine gw_call H505 (want_none rfl) rfl (by decide) (op_callL Try.func17 (by kernel_rfl) rfl rfl (ar_cons (H505.ev rfl) (ar_cons (H505.ev rfl) ar_nil))) ((by have h_ := crash_calls w _ (Chunk.all [Chunk.row (Kd.int .i64) 3 w.heap.size S502 (.slice A501 (([keep]).length) (([keep]).length)) ([keep]), Chunk.jour w.heap.size gd5 gj42 (⟨#[106]⟩ : ByteArray) Sj (isK datas i.toNat) ((recsJ (isK datas i.toNat)).length : Int)]) gd5 Sd (jdk (⟨#[106]⟩ : ByteArray) (recsJ (isK datas i.toNat)) ((recsJ (isK datas safe.toNat)).length : Int) [] 1048576) A501 (([keep]).length) ([keep]) (fun w_ h_ => (Kd.R_reads' ((Own.unbundle (A := [Chunk.row (Kd.int .i64) 3 w.heap.size S502 (.slice A501 (([keep]).length) (([keep]).length)) ([keep]), Chunk.jour w.heap.size gd5 gj42 (⟨#[106]⟩ : ByteArray) Sj (isK datas i.toNat) ((recsJ (isK datas i.toNat)).length : Int)]) (L := []) h_).get 0 rfl)).2.2) (row_cap (O507.get 0 rfl)) hw (by show 1 ≤ 1000000; decide) (by exact O516); rw [show (crashD ([keep]) (jdk (⟨#[106]⟩ : ByteArray) (recsJ (isK datas i.toNat)) ((recsJ (isK datas safe.toNat)).length : Int) [] 1048576)) = (jdk (⟨#[106]⟩ : ByteArray) ((recsJ (isK datas i.toNat)).take m) (m : Int) [] 1048576) from hmc] at h_; (try dsimp only at h_); exact h_)) ?_
   rintro e510 w511 ⟨rfl, S508, hb512⟩
   refine ⟨_, rfl, fun _ H514 => ?_⟩
   have O515 : Own w w511 [Chunk.row (Kd.int .i64) 3 w.heap.size S502 (.slice A501 (([keep]).length) (([keep]).length)) ([keep]), Chunk.jour w.heap.size gd5 gj42 (⟨#[106]⟩ : ByteArray) Sj (isK datas i.toNat) ((recsJ (isK datas i.toNat)).length : Int), Chunk.disk w.heap.size gd5 S508 (jdk (⟨#[106]⟩ : ByteArray) ((recsJ (isK datas i.toNat)).take m) (m : Int) [] 1048576)] := Own.unbundle (A := [Chunk.row (Kd.int .i64) 3 w.heap.size S502 (.slice A501 (([keep]).length) (([keep]).length)) ([keep]), Chunk.jour w.heap.size gd5 gj42 (⟨#[106]⟩ : ByteArray) Sj (isK datas i.toNat) ((recsJ (isK datas i.toNat)).length : Int)]) (L := [Chunk.disk w.heap.size gd5 S508 (jdk (⟨#[106]⟩ : ByteArray) ((recsJ (isK datas i.toNat)).take m) (m : Int) [] 1048576)]) (hb512.sel [0, 1] (by decide))
   clear O516
   clear H505 O507 hb512
   have O518 : Own w w511 [Chunk.row (Kd.int .i64) 3 w.heap.size S502 (.slice A501 (([keep]).length) (([keep]).length)) ([keep]), Chunk.jour w.heap.size gd5 gj42 (⟨#[106]⟩ : ByteArray) Sj (isK datas i.toNat) ((recsJ (isK datas i.toNat)).length : Int), Chunk.disk w.heap.size gd5 S508 (jdk (⟨#[106]⟩ : ByteArray) ((recsJ (isK datas i.toNat)).take m) (m : Int) [] 1048576)] := O515
   clear O515
   have hwf509 : wfD (jdk (⟨#[106]⟩ : ByteArray) ((recsJ (isK datas i.toNat)).take m) (m : Int) [] 1048576) := by have h_ := wf_crash (keep := ([keep])) hw; rw [show (crashD ([keep]) (jdk (⟨#[106]⟩ : ByteArray) (recsJ (isK datas i.toNat)) ((recsJ (isK datas safe.toNat)).length : Int) [] 1048576)) = (jdk (⟨#[106]⟩ : ByteArray) ((recsJ (isK datas i.toNat)).take m) (m : Int) [] 1048576) from hmc] at h_; exact h_
   refine wpList_nil ?_
   refine gw_nx (hK496 _ _ ?_)
   refine gw_seq fun K519 hK519 => ?_
   refine wp_region_lit ?_
   refine V H514 (op_move rfl (H514.ev rfl)) ?_
   intro _ H521; clear H514
   obtain ⟨q, hq1, hq2, hqo⟩ := keep_open (nm := (⟨#[106]⟩ : ByteArray)) (mst := 1048576) (ds := datas) (n := i.toNat) (safe := safe.toNat) (by omega) (fun j_ hj_ => ⟨hb j_ hj_, byte_getDL hB j_⟩) (by omega) (by omega) hm2
   have heq526 : openJ (⟨#[106]⟩ : ByteArray) (jdk (⟨#[106]⟩ : ByteArray) ((recsJ (isK datas i.toNat)).take m) (m : Int) [] 1048576) = (((jdk (⟨#[106]⟩ : ByteArray) (recsJ (isK datas q)) ((recsJ (isK datas q)).length : Int) [] 1048576), 0), ((isK datas q), ((recsJ (isK datas q)).length : Int))) := hqo
   have O533 : Own w _ [(Chunk.all [Chunk.row (Kd.int .i64) 3 w.heap.size S502 (.slice A501 (([keep]).length) (([keep]).length)) ([keep]), Chunk.jour w.heap.size gd5 gj42 (⟨#[106]⟩ : ByteArray) Sj (isK datas i.toNat) ((recsJ (isK datas i.toNat)).length : Int)]), Chunk.disk w.heap.size gd5 S508 (jdk (⟨#[106]⟩ : ByteArray) ((recsJ (isK datas i.toNat)).take m) (m : Int) [] 1048576)] := Own.bundle (A := [Chunk.row (Kd.int .i64) 3 w.heap.size S502 (.slice A501 (([keep]).length) (([keep]).length)) ([keep]), Chunk.jour w.heap.size gd5 gj42 (⟨#[106]⟩ : ByteArray) Sj (isK datas i.toNat) ((recsJ (isK datas i.toNat)).length : Int)]) (L := [Chunk.disk w.heap.size gd5 S508 (jdk (⟨#[106]⟩ : ByteArray) ((recsJ (isK datas i.toNat)).take m) (m : Int) [] 1048576)]) (O518.sel [0, 1, 2] (by decide))
   refine gw_call H521 (want_none rfl) rfl (by decide) (op_callL Try.func32 (by kernel_rfl) rfl rfl (ar_cons (H521.ev rfl) (ar_cons (ev_c _ _) ar_nil))) (open_ok heq526 hwf509 (by decide) (by show 1 ≤ 1000000; decide) (used_le (by rw [hml]; have h2_ := hm2; have h_ := isK_recs (ds := datas) (n := i.toNat) (M := 1000) (fun j_ hj_ => hb j_ (by omega)); omega)) (jd_byte (take_byte (recs_byte (isK_ok (by omega) fun j_ hj_ => ⟨by have h_ := hb j_ hj_; omega, byte_getDL hB j_⟩)) m)) (by exact O533)) ?_
   rintro e527 w528 ⟨gj522, SJ523, S524, rfl, hb529⟩
   refine ⟨_, rfl, fun _ H531 => ?_⟩
   have O532 : Own w w528 [Chunk.row (Kd.int .i64) 3 w.heap.size S502 (.slice A501 (([keep]).length) (([keep]).length)) ([keep]), Chunk.jour w.heap.size gd5 gj42 (⟨#[106]⟩ : ByteArray) Sj (isK datas i.toNat) ((recsJ (isK datas i.toNat)).length : Int), Chunk.disk w.heap.size gd5 S524 (jdk (⟨#[106]⟩ : ByteArray) (recsJ (isK datas q)) ((recsJ (isK datas q)).length : Int) [] 1048576), Chunk.jour w.heap.size gd5 gj522 (⟨#[106]⟩ : ByteArray) SJ523 (isK datas q) ((recsJ (isK datas q)).length : Int)] := Own.unbundle (A := [Chunk.row (Kd.int .i64) 3 w.heap.size S502 (.slice A501 (([keep]).length) (([keep]).length)) ([keep]), Chunk.jour w.heap.size gd5 gj42 (⟨#[106]⟩ : ByteArray) Sj (isK datas i.toNat) ((recsJ (isK datas i.toNat)).length : Int)]) (L := [Chunk.disk w.heap.size gd5 S524 (jdk (⟨#[106]⟩ : ByteArray) (recsJ (isK datas q)) ((recsJ (isK datas q)).length : Int) [] 1048576), Chunk.jour w.heap.size gd5 gj522 (⟨#[106]⟩ : ByteArray) SJ523 (isK datas q) ((recsJ (isK datas q)).length : Int)]) (hb529.sel [0, 1, 2] (by decide))
   clear O533
   clear H521 O518 hb529
   have O535 : Own w w528 [Chunk.row (Kd.int .i64) 3 w.heap.size S502 (.slice A501 (([keep]).length) (([keep]).length)) ([keep]), Chunk.jour w.heap.size gd5 gj42 (⟨#[106]⟩ : ByteArray) Sj (isK datas i.toNat) ((recsJ (isK datas i.toNat)).length : Int), Chunk.disk w.heap.size gd5 S524 (jdk (⟨#[106]⟩ : ByteArray) (recsJ (isK datas q)) ((recsJ (isK datas q)).length : Int) [] 1048576), Chunk.jour w.heap.size gd5 gj522 (⟨#[106]⟩ : ByteArray) SJ523 (isK datas q) ((recsJ (isK datas q)).length : Int)] := O532
   clear O532
   have hwf525 : wfD (jdk (⟨#[106]⟩ : ByteArray) (recsJ (isK datas q)) ((recsJ (isK datas q)).length : Int) [] 1048576) := wf_open' heq526 hwf509
   refine V H531 (op_move rfl (H531.ev rfl)) ?_
   intro _ H537; clear H531
   refine V H537 (op_extract rfl (H537.ev rfl) rfl) ?_
   intro _ H539; clear H537
   refine V H539 (op_extract rfl (H539.ev rfl) rfl) ?_
   intro _ H541; clear H539
   refine V H541 (op_assign rfl (H541.ev rfl)) ?_
   intro _ H543; clear H541
   refine V H543 (op_assign rfl (H543.ev rfl)) ?_
   intro _ H545; clear H543
   refine wpList_nil ?_
   refine gw_nx (hK519 _ _ ?_)
   refine gw_seq fun K546 hK546 => ?_
   refine gw_seq fun K547 hK547 => ?_
   refine wp_region_lit ?_
   refine V H545 (op_move rfl (H545.ev rfl)) ?_
   intro _ H549; clear H545
   refine V H549 (op_nei rfl (H549.ev rfl) (ev_c _ _)) ?_
   intro _ H551; clear H549
   have H552 := H551.lit (b := false) (by decide)
   clear H551
   refine V H552 (op_move rfl (H552.ev rfl)) ?_
   intro _ H554; clear H552
   refine V2 H554 (want_yes H554 rfl rfl rfl rfl) (op_move rfl (H554.ev rfl)) ?_
   intro _ H556; clear H554
   refine V2 H556 (want_yes H556 rfl rfl rfl rfl) (op_eqp_nil Try.underlying61 rfl (H556.ev rfl)) ?_
   intro _ H558; clear H556
   refine V H558 (op_pick_f rfl (H558.ev rfl) (H558.ev rfl)) ?_
   intro _ H560; clear H558
   refine wpList_nil ?_
   refine gw_nx (hK547 _ _ ?_)
   refine gw_cond H560 rfl (fun hb561 => ?_) (fun hb561 => ?_)
   skip
   ·
    cases hb561
   refine wp_skip ?_
   refine gw_nx (hK546 _ _ ?_)
   refine gw_seq fun K562 hK562 => ?_
   refine wp_region_lit ?_
   refine V H560 (op_move rfl (H560.ev rfl)) ?_
   intro _ H564; clear H560
   refine gw_call H564 (want_none rfl) rfl (by decide) (op_callL Try.func35 (by kernel_rfl) rfl rfl (ar_cons (H564.ev rfl) ar_nil)) (keys_calls w.heap.size gd5 gj522 (⟨#[106]⟩ : ByteArray) SJ523 (isK datas q) ((recsJ (isK datas q)).length : Int) _ (by exact O535.get 3 rfl) (by rw [isK_len]; omega)) ?_
   rintro e571 w572 ⟨A565, c566, S567, ks568, hkr569, hkp570, rfl, hb573⟩
   refine ⟨_, rfl, fun _ H575 => ?_⟩
   have O576 := O535.fresh hb573
   have hbel577 := O535.below
   clear H564 O535 hb573
   have O578 := O576.lowrow 0 rfl (base' := w.heap.size) (Below.size hbel577)
   have O579 : Own w w572 [Chunk.row (Kd.int .i64) 2 w.heap.size S567 (.slice A565 ks568.length c566) ks568, Chunk.row (Kd.int .i64) 3 w.heap.size S502 (.slice A501 (([keep]).length) (([keep]).length)) ([keep]), Chunk.jour w.heap.size gd5 gj42 (⟨#[106]⟩ : ByteArray) Sj (isK datas i.toNat) ((recsJ (isK datas i.toNat)).length : Int), Chunk.disk w.heap.size gd5 S524 (jdk (⟨#[106]⟩ : ByteArray) (recsJ (isK datas q)) ((recsJ (isK datas q)).length : Int) [] 1048576), Chunk.jour w.heap.size gd5 gj522 (⟨#[106]⟩ : ByteArray) SJ523 (isK datas q) ((recsJ (isK datas q)).length : Int)] := O578
   clear O578
   have hkl_ks568 := hkp570.length_eq
   rw [List.length_map] at hkl_ks568
   have hks := keys_isK hkr569 hkp570
   have hkq : ks568.length = q := by rw [hkl_ks568, isK_len]
   have O580 := O579.row_view 0 rfl
   clear O579
   have O581 : Own w w572 [Chunk.view (Kd.int .i64) S567 A565 ks568.length c566 ks568, Chunk.row (Kd.int .i64) 3 w.heap.size S502 (.slice A501 (([keep]).length) (([keep]).length)) ([keep]), Chunk.jour w.heap.size gd5 gj42 (⟨#[106]⟩ : ByteArray) Sj (isK datas i.toNat) ((recsJ (isK datas i.toNat)).length : Int), Chunk.disk w.heap.size gd5 S524 (jdk (⟨#[106]⟩ : ByteArray) (recsJ (isK datas q)) ((recsJ (isK datas q)).length : Int) [] 1048576), Chunk.jour w.heap.size gd5 gj522 (⟨#[106]⟩ : ByteArray) SJ523 (isK datas q) ((recsJ (isK datas q)).length : Int)] := O580
   clear O580
   refine V H575 (op_assign rfl (H575.ev rfl)) ?_
   intro _ H583; clear H575
   refine wpList_nil ?_
   refine gw_nx (hK562 _ _ ?_)
   refine gw_seq fun K584 hK584 => ?_
   refine gw_seq fun K585 hK585 => ?_
   refine wp_region_lit ?_
   refine V H583 (op_move rfl (H583.ev rfl)) ?_
   intro _ H587; clear H583
   refine V H587 (op_len Try.underlying66 rfl (H587.ev rfl)) ?_
   intro _ H589; clear H587
   refine V H589 (op_move rfl (H589.ev rfl)) ?_
   intro _ H591; clear H589
   refine V H591 (op_lss rfl (H591.ev rfl) (H591.ev rfl)) ?_
   intro _ H593; clear H591
   have H594 := H593.lit (b := false) (by rw [decide_eq_false_iff_not]; omega)
   clear H593
   refine V H594 (op_move rfl (H594.ev rfl)) ?_
   intro _ H596; clear H594
   refine V2 H596 (want_yes H596 rfl rfl rfl rfl) (op_move rfl (H596.ev rfl)) ?_
   intro _ H598; clear H596
   refine V2 H598 (want_yes H598 rfl rfl rfl rfl) (op_len Try.underlying66 rfl (H598.ev rfl)) ?_
   intro _ H600; clear H598
   refine V2 H600 (want_yes H600 rfl rfl rfl rfl) (op_move rfl (H600.ev rfl)) ?_
   intro _ H602; clear H600
   refine V2 H602 (want_yes H602 rfl rfl rfl rfl) (op_gtr rfl (H602.ev rfl) (H602.ev rfl)) ?_
   intro _ H604; clear H602
   have H605 := H604.lit (b := false) (by rw [decide_eq_false_iff_not]; omega)
   clear H604
   refine V H605 (op_pick_f rfl (H605.ev rfl) (H605.ev rfl)) ?_
   intro _ H607; clear H605
   refine wpList_nil ?_
   refine gw_nx (hK585 _ _ ?_)
   refine gw_cond H607 rfl (fun hb608 => ?_) (fun hb608 => ?_)
   skip
   ·
    cases hb608
   refine wp_skip ?_
   refine gw_nx (hK584 _ _ ?_)
   refine gw_seq fun K609 hK609 => ?_
   refine gw_seq fun K610 hK610 => ?_
   refine wp_region_lit ?_
   refine V H607 (op_move rfl (H607.ev rfl)) ?_
   intro _ H612; clear H607
   refine V H612 (op_len Try.underlying66 rfl (H612.ev rfl)) ?_
   intro _ H614; clear H612
   refine V H614 (op_move rfl (ev_c _ _)) ?_
   intro _ H616; clear H614
   refine wpList_nil ?_
   refine gw_nx (hK610 _ _ ?_)
   refine wp_block ?_
   refine gw_loop (fun m_ a_ w_ => ∃ (k : Int), Fr 132 a_ [(97, J k), (0, .slice A1 datas.length c1), (14, .pointer (some ⟨gj522, 0, none⟩)), (16, .slice A565 ks568.length c566), (95, .slice A565 ks568.length c566), (96, J (ks568.length : Int))] ∧ Own w w_ [Chunk.view (Kd.int .i64) S567 A565 ks568.length c566 ks568, Chunk.row (Kd.int .i64) 3 w.heap.size S502 (.slice A501 (([keep]).length) (([keep]).length)) ([keep]), Chunk.jour w.heap.size gd5 gj42 (⟨#[106]⟩ : ByteArray) Sj (isK datas i.toNat) ((recsJ (isK datas i.toNat)).length : Int), Chunk.disk w.heap.size gd5 S524 (jdk (⟨#[106]⟩ : ByteArray) (recsJ (isK datas q)) ((recsJ (isK datas q)).length : Int) [] 1048576), Chunk.jour w.heap.size gd5 gj522 (⟨#[106]⟩ : ByteArray) SJ523 (isK datas q) ((recsJ (isK datas q)).length : Int)] ∧ (0 ≤ k ∧ k ≤ ks568.length) ∧ m_ = (ks568.length - k.toNat)) ((ks568.length - (0 : Int).toNat)) ?_ ?_
   ·
    refine ⟨0, (H616.pick (t := 97) rfl (H616.pick (t := 0) rfl (H616.pick (t := 14) rfl (H616.pick (t := 16) rfl (H616.pick (t := 95) rfl (H616.pick (t := 96) rfl H616.nil)))))), O581.sel [0, 1, 2, 3, 4] (by decide), ?_, rfl⟩
    ·
     omega
   ·
    rintro m618 _ w620 ⟨k, H621, O622, hk, hm623⟩
    refine gw_seq fun K624 hK624 => ?_
    refine wp_region_lit ?_
    refine V H621 (op_lss rfl (H621.ev rfl) (H621.ev rfl)) ?_
    intro _ H626; clear H621
    refine wpList_nil ?_
    refine gw_nx (hK624 _ _ ?_)
    refine gw_seq fun K627 hK627 => ?_
    refine gw_cond H626 rfl (fun hb628 => ?_) (fun hb628 => ?_)
    ·
     have H629 := H626.subst_ (d := 98) (b := true) rfl hb628
     clear H626
     (try simp only [decide_eq_true_eq] at hb628)
     have hbk := hb k.toNat (by omega)
     refine wp_skip ?_
     refine gw_nx (hK627 _ _ ?_)
     refine gw_seq fun K630 hK630 => ?_
     refine wp_block ?_
     refine gw_seq fun K631 hK631 => ?_
     refine wp_region_lit ?_
     refine V H629 (op_move rfl (H629.ev rfl)) ?_
     intro _ H633; clear H629
     have O640 := O622.pin 0 rfl
     clear O622
     have O641 : Own w w620 [Chunk.viewAt w620 (Kd.int .i64) S567 A565 ks568.length c566 ks568, Chunk.row (Kd.int .i64) 3 w.heap.size S502 (.slice A501 (([keep]).length) (([keep]).length)) ([keep]), Chunk.jour w.heap.size gd5 gj42 (⟨#[106]⟩ : ByteArray) Sj (isK datas i.toNat) ((recsJ (isK datas i.toNat)).length : Int), Chunk.disk w.heap.size gd5 S524 (jdk (⟨#[106]⟩ : ByteArray) (recsJ (isK datas q)) ((recsJ (isK datas q)).length : Int) [] 1048576), Chunk.jour w.heap.size gd5 gj522 (⟨#[106]⟩ : ByteArray) SJ523 (isK datas q) ((recsJ (isK datas q)).length : Int)] := O640
     clear O640
     obtain ⟨ad634, cs637, hA635, hl638, hK639, hc636, _⟩ := Kd.F_get (viewAt_F (O641.get 0 rfl)) (0 : Int) k (by omega) (by omega)
     obtain rfl := int_openF hK639
     clear hl638
     refine V H633 (op_index Try.underlying66 gwsiz2 rfl (H633.ev rfl) (H633.ev rfl) hA635 (⟨by omega, by omega⟩)) ?_
     intro _ H643; clear H633
     refine V H643 (op_load1 gwagg2 rfl (H643.ev rfl) (((pin_cells (O641.get 0 rfl) hA635 hc636) 0 _ rfl))) ?_
     intro _ H645; clear H643
     have H646 := H645.conv (v' := J k) (congrArg (Value.int .i64) (keysK_at hks k (by omega) (by omega)))
     clear H645
     refine V H646 (op_assign rfl (H646.ev rfl)) ?_
     intro _ H648; clear H646
     refine V H648 (op_assign rfl (H648.ev rfl)) ?_
     intro _ H650; clear H648
     refine wpList_nil ?_
     refine gw_nx (hK631 _ _ ?_)
     refine gw_seq fun K651 hK651 => ?_
     refine wp_region_lit ?_
     refine V H650 (op_move rfl (H650.ev rfl)) ?_
     intro _ H653; clear H650
     refine V H653 (op_move rfl (H653.ev rfl)) ?_
     intro _ H655; clear H653
     refine gw_call H655 (want_none rfl) rfl (by decide) (op_callL Try.func36 (by kernel_rfl) rfl rfl (ar_cons (H655.ev rfl) (ar_cons (H655.ev rfl) ar_nil))) ((by have h_ := get_calls w.heap.size gd5 gj522 (⟨#[106]⟩ : ByteArray) SJ523 (isK datas q) ((recsJ (isK datas q)).length : Int) _ (O641.get 4 rfl) k (wf_i64 (by omega)) (fun x_ hx_ => Nat.le_trans (isK_datas (M := 1000) (fun j_ hj_ => hb j_ (by omega)) x_ hx_) (by decide)); rw [show hasJ k (isK datas q) = true from hasK (by omega), show (getJ k (isK datas q)).getD [] = (datas.getD k.toNat []) from getK (by omega)] at h_; exact h_)) ?_
     rintro e659 w660 ⟨A656, c657, S658, rfl, hb661⟩
     refine ⟨_, rfl, fun _ H663 => ?_⟩
     have O664 := O641.fresh hb661
     have hbel665 := O641.below
     clear H655 O641 hb661
     have O666 := O664.lowrow 0 rfl (base' := w.heap.size) (Below.size hbel665)
     have O667 : Own w w660 [Chunk.row (Kd.int .u8) 5 w.heap.size S658 (.slice A656 ((datas.getD k.toNat []).length) c657) (datas.getD k.toNat []), Chunk.viewAt w620 (Kd.int .i64) S567 A565 ks568.length c566 ks568, Chunk.row (Kd.int .i64) 3 w.heap.size S502 (.slice A501 (([keep]).length) (([keep]).length)) ([keep]), Chunk.jour w.heap.size gd5 gj42 (⟨#[106]⟩ : ByteArray) Sj (isK datas i.toNat) ((recsJ (isK datas i.toNat)).length : Int), Chunk.disk w.heap.size gd5 S524 (jdk (⟨#[106]⟩ : ByteArray) (recsJ (isK datas q)) ((recsJ (isK datas q)).length : Int) [] 1048576), Chunk.jour w.heap.size gd5 gj522 (⟨#[106]⟩ : ByteArray) SJ523 (isK datas q) ((recsJ (isK datas q)).length : Int)] := O666
     clear O666
     refine V H663 (op_move rfl (H663.ev rfl)) ?_
     intro _ H669; clear H663
     refine V H669 (op_extract rfl (H669.ev rfl) rfl) ?_
     intro _ H671; clear H669
     refine V H671 (op_extract rfl (H671.ev rfl) rfl) ?_
     intro _ H673; clear H671
     refine V H673 (op_assign rfl (H673.ev rfl)) ?_
     intro _ H675; clear H673
     refine V H675 (op_assign rfl (H675.ev rfl)) ?_
     intro _ H677; clear H675
     refine wpList_nil ?_
     refine gw_nx (hK651 _ _ ?_)
     refine gw_seq fun K678 hK678 => ?_
     refine wp_region_lit ?_
     refine V H677 (op_move rfl (H677.ev rfl)) ?_
     intro _ H680; clear H677
     refine V H680 (op_move rfl (H680.ev rfl)) ?_
     intro _ H682; clear H680
     refine V H682 (op_nei rfl (H682.ev rfl) (H682.ev rfl)) ?_
     intro _ H684; clear H682
     have H685 := H684.lit (b := false) (by simp)
     clear H684
     refine V H685 (op_move rfl (H685.ev rfl)) ?_
     intro _ H687; clear H685
     refine V2 H687 (want_yes H687 rfl rfl rfl rfl) (op_move rfl (H687.ev rfl)) ?_
     intro _ H689; clear H687
     refine V2 H689 (want_yes H689 rfl rfl rfl rfl) (op_not rfl (H689.ev rfl)) ?_
     intro _ H691; clear H689
     refine V H691 (op_pick_f rfl (H691.ev rfl) (H691.ev rfl)) ?_
     intro _ H693; clear H691
     refine V H693 (op_move rfl (H693.ev rfl)) ?_
     intro _ H695; clear H693
     refine V2 H695 (want_yes H695 rfl rfl rfl rfl) (op_move rfl (H695.ev rfl)) ?_
     intro _ H697; clear H695
     refine V2 H697 (want_yes H697 rfl rfl rfl rfl) (op_move rfl (H697.ev rfl)) ?_
     intro _ H699; clear H697
     refine V2 H699 (want_yes H699 rfl rfl rfl rfl) (op_move rfl (H699.ev rfl)) ?_
     intro _ H701; clear H699
     obtain ⟨ad702, cs705, hA703, hl706, hK707, hc704⟩ := Kd.C_get hr1 ([] : List Int) k (by omega) (by omega)
     obtain ⟨A708, c709, rfl, hl710, hC711⟩ := id hK707
     clear hl706
     refine V2 H701 (want_yes H701 rfl rfl rfl rfl) (op_index Try.underlying22 gwsiz28 rfl (H701.ev rfl) (H701.ev rfl) hA703 (⟨by omega, by omega⟩)) ?_
     intro _ H713; clear H701
     refine V2 H713 (want_yes H713 rfl rfl rfl rfl) (op_load1 gwagg28 rfl (H713.ev rfl) (O667.cell0 (at0 hc704))) ?_
     intro _ H715; clear H713
     refine gw_call H715 (want_yes H715 rfl rfl rfl rfl) rfl (by decide) (op_callL Try.func19 (by kernel_rfl) rfl rfl (ar_cons (H715.ev rfl) (ar_cons (H715.ev rfl) ar_nil))) (same_calls A656 c657 (datas.getD k.toNat []) A708 c709 (datas.getD k.toNat ([] : List Int)) _ (Kd.R_reads' (O667.get 0 rfl)).2.2 (row_cap (O667.get 0 rfl)) (Kd.C_below hC711 O667.below) hl710 (by omega)) ?_
     rintro e716 w717 ⟨rfl, hb718⟩
     refine ⟨_, rfl, fun _ H720 => ?_⟩
     have O721 := O667.after hb718
     clear H715 O667 hb718
     have H723 := H720.lit (b := true) (by simp)
     clear H720
     refine V2 H723 (want_yes H723 rfl rfl rfl rfl) (op_not rfl (H723.ev rfl)) ?_
     intro _ H725; clear H723
     refine V H725 (op_pick_f rfl (H725.ev rfl) (H725.ev rfl)) ?_
     intro _ H727; clear H725
     refine wpList_nil ?_
     refine gw_nx (hK678 _ _ ?_)
     refine gw_cond H727 rfl (fun hb728 => ?_) (fun hb728 => ?_)
     skip
     ·
      cases hb728
     refine wp_skip ?_
     refine gw_blk ?_
     refine gw_nx (hK630 _ _ ?_)
     refine wp_region_lit ?_
     refine V H727 (op_add rfl (H727.ev rfl) (ev_c _ _) (by omega)) ?_
     intro _ H730; clear H727
     refine V H730 (op_move rfl (H730.ev rfl)) ?_
     intro _ H732; clear H730
     refine wpList_nil ?_
     have O733 := O721.unpin 1 rfl
     clear O721
     have O734 : Own w w717 [Chunk.row (Kd.int .u8) 5 w.heap.size S658 (.slice A656 ((datas.getD k.toNat []).length) c657) (datas.getD k.toNat []), Chunk.view (Kd.int .i64) S567 A565 ks568.length c566 ks568, Chunk.row (Kd.int .i64) 3 w.heap.size S502 (.slice A501 (([keep]).length) (([keep]).length)) ([keep]), Chunk.jour w.heap.size gd5 gj42 (⟨#[106]⟩ : ByteArray) Sj (isK datas i.toNat) ((recsJ (isK datas i.toNat)).length : Int), Chunk.disk w.heap.size gd5 S524 (jdk (⟨#[106]⟩ : ByteArray) (recsJ (isK datas q)) ((recsJ (isK datas q)).length : Int) [] 1048576), Chunk.jour w.heap.size gd5 gj522 (⟨#[106]⟩ : ByteArray) SJ523 (isK datas q) ((recsJ (isK datas q)).length : Int)] := O733
     clear O733
     refine gw_nx ⟨_, ?_, k + 1, (H732.pick (t := 97) rfl (H732.pick (t := 0) rfl (H732.pick (t := 14) rfl (H732.pick (t := 16) rfl (H732.pick (t := 95) rfl (H732.pick (t := 96) rfl H732.nil)))))), O734.sel [1, 2, 3, 4, 5] (by decide), ?_, rfl⟩
     ·
      rw [hm623]; omega
     ·
      omega
    ·
     have H735 := H626.subst_ (d := 98) (b := false) rfl hb628
     clear H626
     (try simp only [decide_eq_false_iff_not, Int.not_lt] at hb628)
     refine wp_exit ?_
     refine gw_thx ?_
     refine gw_thx ?_
     refine gw_in ?_
     refine gw_nx (hK609 _ _ ?_)
     refine gw_seq fun K736 hK736 => ?_
     refine wp_region_lit ?_
     refine V H735 (op_move rfl (H735.ev rfl)) ?_
     intro _ H738; clear H735
     refine V H738 (op_move rfl (H738.ev rfl)) ?_
     intro _ H740; clear H738
     refine V H740 (op_len Try.underlying66 rfl (H740.ev rfl)) ?_
     intro _ H742; clear H740
     refine gw_bytes (xs := [109, 111, 114, 101]) Try.underlying28 Try.underlying5 H742 O622 (want_none rfl) rfl (by decide) (op_bslice (by kernel_rfl) rfl (pt_cons (ev_c _ _) (pt_cons (ev_c _ _) (pt_cons (ev_c _ _) (pt_cons (ev_c _ _) pt_nil))))) (fun a_ HF_ => (want_none rfl)) rfl (by decide) rfl ?_
     intro g743 _ w745 H746 O747; clear H742 O622
     have O748 : Own w w745 [Chunk.blk g743 (.cells (nums .u8 [109, 111, 114, 101]).toArray 5 (([109, 111, 114, 101]).length, ([109, 111, 114, 101]).length + 1)), Chunk.view (Kd.int .i64) S567 A565 ks568.length c566 ks568, Chunk.row (Kd.int .i64) 3 w.heap.size S502 (.slice A501 (([keep]).length) (([keep]).length)) ([keep]), Chunk.jour w.heap.size gd5 gj42 (⟨#[106]⟩ : ByteArray) Sj (isK datas i.toNat) ((recsJ (isK datas i.toNat)).length : Int), Chunk.disk w.heap.size gd5 S524 (jdk (⟨#[106]⟩ : ByteArray) (recsJ (isK datas q)) ((recsJ (isK datas q)).length : Int) [] 1048576), Chunk.jour w.heap.size gd5 gj522 (⟨#[106]⟩ : ByteArray) SJ523 (isK datas q) ((recsJ (isK datas q)).length : Int)] := O747
     clear O747
     have hrm := recI_len ((ks568.length : Int), [109, 111, 114, 101])
     have hem := encN_len (ks568.length : Int)
     simp only [List.length_cons, List.length_nil] at hrm
     have hrq := isK_recs (ds := datas) (n := q) (M := 1000) (fun j_ hj_ => hb j_ (by omega))
     have heq752 : putJ (⟨#[106]⟩ : ByteArray) (ks568.length : Int) ([109, 111, 114, 101]) (isK datas q) ((recsJ (isK datas q)).length : Int) (jdk (⟨#[106]⟩ : ByteArray) (recsJ (isK datas q)) ((recsJ (isK datas q)).length : Int) [] 1048576) = (((jdk (⟨#[106]⟩ : ByteArray) (recsJ ((isK datas q) ++ [((ks568.length : Int), [109, 111, 114, 101])])) ((recsJ (isK datas q)).length : Int) [] 1048576), 0), (((isK datas q) ++ [((ks568.length : Int), [109, 111, 114, 101])]), (((recsJ (isK datas q)).length : Int) + ((recI ((ks568.length : Int), [109, 111, 114, 101])).length : Int)))) := jd_put (fun g_ hg_ => by simp at hg_) ⟨by omega, by omega⟩ (by show 4 ≤ 900000; decide) (by rw [hkq]; exact isK_has (Nat.le_refl _)) (by rw [show ((totF [] : Nat) : Int) = 0 from rfl]; omega)
     have O759 : Own w _ [(Chunk.all [Chunk.blk g743 (.cells (nums .u8 [109, 111, 114, 101]).toArray 5 (([109, 111, 114, 101]).length, ([109, 111, 114, 101]).length + 1)), Chunk.view (Kd.int .i64) S567 A565 ks568.length c566 ks568, Chunk.row (Kd.int .i64) 3 w.heap.size S502 (.slice A501 (([keep]).length) (([keep]).length)) ([keep]), Chunk.jour w.heap.size gd5 gj42 (⟨#[106]⟩ : ByteArray) Sj (isK datas i.toNat) ((recsJ (isK datas i.toNat)).length : Int)]), Chunk.disk w.heap.size gd5 S524 (jdk (⟨#[106]⟩ : ByteArray) (recsJ (isK datas q)) ((recsJ (isK datas q)).length : Int) [] 1048576), Chunk.jour w.heap.size gd5 gj522 (⟨#[106]⟩ : ByteArray) SJ523 (isK datas q) ((recsJ (isK datas q)).length : Int)] := Own.bundle (A := [Chunk.blk g743 (.cells (nums .u8 [109, 111, 114, 101]).toArray 5 (([109, 111, 114, 101]).length, ([109, 111, 114, 101]).length + 1)), Chunk.view (Kd.int .i64) S567 A565 ks568.length c566 ks568, Chunk.row (Kd.int .i64) 3 w.heap.size S502 (.slice A501 (([keep]).length) (([keep]).length)) ([keep]), Chunk.jour w.heap.size gd5 gj42 (⟨#[106]⟩ : ByteArray) Sj (isK datas i.toNat) ((recsJ (isK datas i.toNat)).length : Int)]) (L := [Chunk.disk w.heap.size gd5 S524 (jdk (⟨#[106]⟩ : ByteArray) (recsJ (isK datas q)) ((recsJ (isK datas q)).length : Int) [] 1048576), Chunk.jour w.heap.size gd5 gj522 (⟨#[106]⟩ : ByteArray) SJ523 (isK datas q) ((recsJ (isK datas q)).length : Int)]) (O748.sel [0, 1, 2, 3, 4, 5] (by decide))
     refine gw_call H746 (want_none rfl) rfl (by decide) (op_callL Try.func33 (by kernel_rfl) rfl rfl (ar_cons (H746.ev rfl) (ar_cons (H746.ev rfl) (ar_cons (H746.ev rfl) ar_nil)))) (put_is heq752 hwf525 (by decide) (wf_i64 (by omega)) (fun w_ h_ => (blkC ((Own.unbundle (A := [Chunk.blk g743 (.cells (nums .u8 [109, 111, 114, 101]).toArray 5 (([109, 111, 114, 101]).length, ([109, 111, 114, 101]).length + 1)), Chunk.view (Kd.int .i64) S567 A565 ks568.length c566 ks568, Chunk.row (Kd.int .i64) 3 w.heap.size S502 (.slice A501 (([keep]).length) (([keep]).length)) ([keep]), Chunk.jour w.heap.size gd5 gj42 (⟨#[106]⟩ : ByteArray) Sj (isK datas i.toNat) ((recsJ (isK datas i.toNat)).length : Int)]) (L := []) h_).get 0 rfl) (by simp))) (Nat.le_refl _) (by unfold ByteL; decide +kernel) (by show 4 ≤ 900000; decide) (used_le (by have h_ := isK_recs (ds := datas) (n := q) (M := 1000) (fun j_ hj_ => hb j_ (by omega)); omega)) (by rw [isK_len]; omega) ⟨by omega, by have h_ := isK_recs (ds := datas) (n := q) (M := 1000) (fun j_ hj_ => hb j_ (by omega)); omega⟩ (by exact O759)) ?_
     rintro e753 w754 ⟨rfl, S750, SJ749, hb755⟩
     refine ⟨_, rfl, fun _ H757 => ?_⟩
     have O758 : Own w w754 [Chunk.blk g743 (.cells (nums .u8 [109, 111, 114, 101]).toArray 5 (([109, 111, 114, 101]).length, ([109, 111, 114, 101]).length + 1)), Chunk.view (Kd.int .i64) S567 A565 ks568.length c566 ks568, Chunk.row (Kd.int .i64) 3 w.heap.size S502 (.slice A501 (([keep]).length) (([keep]).length)) ([keep]), Chunk.jour w.heap.size gd5 gj42 (⟨#[106]⟩ : ByteArray) Sj (isK datas i.toNat) ((recsJ (isK datas i.toNat)).length : Int), Chunk.disk w.heap.size gd5 S750 (jdk (⟨#[106]⟩ : ByteArray) (recsJ ((isK datas q) ++ [((ks568.length : Int), [109, 111, 114, 101])])) ((recsJ (isK datas q)).length : Int) [] 1048576), Chunk.jour w.heap.size gd5 gj522 (⟨#[106]⟩ : ByteArray) SJ749 ((isK datas q) ++ [((ks568.length : Int), [109, 111, 114, 101])]) (((recsJ (isK datas q)).length : Int) + ((recI ((ks568.length : Int), [109, 111, 114, 101])).length : Int))] := Own.unbundle (A := [Chunk.blk g743 (.cells (nums .u8 [109, 111, 114, 101]).toArray 5 (([109, 111, 114, 101]).length, ([109, 111, 114, 101]).length + 1)), Chunk.view (Kd.int .i64) S567 A565 ks568.length c566 ks568, Chunk.row (Kd.int .i64) 3 w.heap.size S502 (.slice A501 (([keep]).length) (([keep]).length)) ([keep]), Chunk.jour w.heap.size gd5 gj42 (⟨#[106]⟩ : ByteArray) Sj (isK datas i.toNat) ((recsJ (isK datas i.toNat)).length : Int)]) (L := [Chunk.disk w.heap.size gd5 S750 (jdk (⟨#[106]⟩ : ByteArray) (recsJ ((isK datas q) ++ [((ks568.length : Int), [109, 111, 114, 101])])) ((recsJ (isK datas q)).length : Int) [] 1048576), Chunk.jour w.heap.size gd5 gj522 (⟨#[106]⟩ : ByteArray) SJ749 ((isK datas q) ++ [((ks568.length : Int), [109, 111, 114, 101])]) (((recsJ (isK datas q)).length : Int) + ((recI ((ks568.length : Int), [109, 111, 114, 101])).length : Int))]) (hb755.sel [0, 1, 2] (by decide))
     clear O759
     clear H746 O748 hb755
     have O761 : Own w w754 [Chunk.blk g743 (.cells (nums .u8 [109, 111, 114, 101]).toArray 5 (([109, 111, 114, 101]).length, ([109, 111, 114, 101]).length + 1)), Chunk.view (Kd.int .i64) S567 A565 ks568.length c566 ks568, Chunk.row (Kd.int .i64) 3 w.heap.size S502 (.slice A501 (([keep]).length) (([keep]).length)) ([keep]), Chunk.jour w.heap.size gd5 gj42 (⟨#[106]⟩ : ByteArray) Sj (isK datas i.toNat) ((recsJ (isK datas i.toNat)).length : Int), Chunk.disk w.heap.size gd5 S750 (jdk (⟨#[106]⟩ : ByteArray) (recsJ ((isK datas q) ++ [((ks568.length : Int), [109, 111, 114, 101])])) ((recsJ (isK datas q)).length : Int) [] 1048576), Chunk.jour w.heap.size gd5 gj522 (⟨#[106]⟩ : ByteArray) SJ749 ((isK datas q) ++ [((ks568.length : Int), [109, 111, 114, 101])]) (((recsJ (isK datas q)).length : Int) + ((recI ((ks568.length : Int), [109, 111, 114, 101])).length : Int))] := O758
     clear O758
     have hwf751 : wfD (jdk (⟨#[106]⟩ : ByteArray) (recsJ ((isK datas q) ++ [((ks568.length : Int), [109, 111, 114, 101])])) ((recsJ (isK datas q)).length : Int) [] 1048576) := wf_put' heq752 hwf525
     refine V H757 (op_eqi rfl (H757.ev rfl) (ev_c _ _)) ?_
     intro _ H763; clear H757
     have H764 := H763.lit (b := true) (by decide)
     clear H763
     refine V H764 (op_assign rfl (H764.ev rfl)) ?_
     intro _ H766; clear H764
     refine wpList_nil ?_
     refine gw_nx (hK736 _ _ ?_)
     refine wp_ret ?_
     refine gw_ret1 H766 rfl rfl ?_
     exact ⟨rfl, O761.below⟩
end GJKeeps_
export GJKeeps_ (JournalKeeps_walk)
open Classical in
noncomputable def colloquylaw09_JournalKeeps.f (l0 : List (List Int)) (a1 : Int) (a2 : Int) : Option Bool := if (∀ x ∈ l0, ByteL x) then some true else none
theorem colloquylaw09_JournalKeeps.calls (A0 : Option Addr) (c0 : Nat) (l0 : List (List Int)) (a1 : Int) (a2 : Int) (r : Bool) (w : World) (hr0 : Kd.C (Kd.slice 5 (Kd.int .u8)) w A0 l0.length l0) (hc0 : l0.length ≤ c0) (h : colloquylaw09_JournalKeeps.f l0 a1 a2 = some r) :
    Calls Try.prog 8 #[(.slice A0 l0.length c0), (.int .i64 a1), (.int .i64 a2)] w fun e w' => e = .returned (.bool r) ∧ Below w.heap.size w w' := by
  unfold colloquylaw09_JournalKeeps.f at h
  split at h
  · cases h; rename_i hh; exact JournalKeeps_walk A0 c0 l0 a1 a2 w hr0 hc0 hh
  · cases h
end Go.Proofs.Ytkdahjnmldeklaa.PA
end
section
namespace Go.Proofs.Ytkdahjnmldeklaa.PA
open Go.RowKit Go.Proofs.YtkdahjnmldeklaaW.PrintWords Go.Proofs.YtkdahjnmldeklaaW.PrintLast Go.Proofs.YtkdahjnmldeklaaW.PrintMore
structure Opens {α : Type} (P : Program) (t : TypeId) (d : Kd α) (good : α → Prop) (wt : α → Nat) (sz : α → Prop) : Prop where
  run : ∀ {H : Type} (enc : TypeId × Value → H) (w : World) (spare : Nat → Bool) (held : Bool) (fuel : Nat) (cs : List Value) (x : DataW H × List MemPlace),
    DataW.trod enc P w 0 spare held fuel t cs = some x → ∃ y : α, d.K w y cs ∧ good y ∧ wt y ≤ Rows.uptoBulk x.1 ∧ ((∀ n ∈ x.1.weights P t, n ≤ reachBytes) → sz y)
structure OpensF {α : Type} (P : Program) (fs : List Field) (off : Nat) (d : Kd α) (good : α → Prop) (wt : α → Nat) (sz : α → Prop) : Prop where
  run : ∀ {H : Type} (enc : TypeId × Value → H) (w : World) (spare : Nat → Bool) (held : Bool) (fuel : Nat) (cs : List Value) (xs : List (DataW H × List MemPlace)),
    (fs.mapM fun f => DataW.trod enc P w 0 spare held fuel f.type ((cs.drop f.offset).take (P.cellsOf f.type))) = some xs →
      ∃ y : α, d.K w y ((cs.drop off).take d.sz) ∧ good y ∧ wt y ≤ Rows.uptoBulkAll (xs.map (·.1)) ∧ ((∀ n ∈ DataW.weightsEach P (fs.map (·.type)) (xs.map (·.1)), n ≤ reachBytes) → sz y)
section
variable {P : Program} {t e : TypeId}
theorem bulk_pos {H : Type} (d : DataW H) : 1 ≤ Rows.uptoBulk d := by
  cases d with
  | lit l => cases l <;> simp [Rows.uptoBulk]
  | nil => simp [Rows.uptoBulk]
  | ptr d => simp [Rows.uptoBulk]
  | slice elems spare => simp [Rows.uptoBulk]
  | agg parts => simp [Rows.uptoBulk]
  | iface t d => simp [Rows.uptoBulk]
  | map entries => simp [Rows.uptoBulk]
  | held h => simp [Rows.uptoBulk]
theorem opens_int {k : IntKind} (ht : P.underlying t = some (.int k)) : Opens P t (Kd.int k) (fun y => (Lit.int k y).wf = true) (fun _ => 1) (fun _ => True) :=
  ⟨fun enc w spare held fuel cs x h => by
    obtain ⟨n, rfl, rfl, hw⟩ := DataW.trod_int ht h
    exact ⟨n, rfl, hw, bulk_pos _, fun _ => trivial⟩⟩
theorem bulkAll_map {H : Type} {α : Type} (wt : α → Nat) : ∀ (ds : List (DataW H)) (xs : List α), xs.length = ds.length → (∀ (i : Nat) (x : α) (d : DataW H), xs[i]? = some x → ds[i]? = some d → wt x ≤ Rows.uptoBulk d) → (xs.map wt).sum ≤ Rows.uptoBulkAll ds
  | [], [], _, _ => by simp
  | [], _ :: _, hl, _ => by simp at hl
  | _ :: _, [], hl, _ => by simp at hl
  | d :: ds, x :: xs, hl, h => by
    have h0 := h 0 x d rfl rfl
    have ih := bulkAll_map wt ds xs (by simpa using hl) (fun i x' d' h1 h2 => h (i + 1) x' d' (by simpa using h1) (by simpa using h2))
    simp only [List.map_cons, List.sum_cons, Rows.uptoBulkAll]
    omega
theorem cells_list {w : World} {base : Nat} {a : Addr} {n : Nat} {cs : List Value} (h : w.cells? base a n = some cs) : cs.length = n ∧ ∀ i u, cs[i]? = some u → w.cell? (a.add i) = some u := by
  unfold World.cells? at h
  split at h
  · have hl := mapM_some_length h
    rw [List.length_range] at hl
    refine ⟨hl, fun i u hu => ?_⟩
    have hi : i < n := by
      have := (List.getElem?_eq_some_iff.1 hu).1
      omega
    have := mapM_some_get h i i (by rw [List.getElem?_range hi])
    rw [this]
    exact hu
  · cases h
theorem mem_weightsAll {H : Type} {n : Nat} {d : DataW H} : ∀ {ds : List (DataW H)}, d ∈ ds → n ∈ d.weights P e → n ∈ DataW.weightsAll P e ds
  | [], h, _ => by cases h
  | c :: ds, h, hn => by
    simp only [DataW.weightsAll, List.mem_append]
    rcases List.mem_cons.1 h with rfl | h
    · exact .inl hn
    · exact .inr (mem_weightsAll h hn)
theorem opens_slice {α : Type} [Inhabited α] {d : Kd α} {good : α → Prop} {wt : α → Nat} {sz : α → Prop} {b : Nat} (hby : P.bytesOf e = b) (ht : P.underlying t = some (.slice e)) (hsz : P.cellsOf e = d.sz) (ho : Opens P e d good wt sz) :
    Opens P t (Kd.slice e d) (fun xs => xs.length ≤ maxLen ∧ ∀ x ∈ xs, good x) (fun xs => (xs.map wt).sum + 1) (fun xs => xs.length * b ≤ reachBytes ∧ ∀ x ∈ xs, sz x) :=
  ⟨fun enc w spare held fuel cs x h => by
    rcases Deep.open_slice ht h with ⟨rfl, rfl⟩ | ⟨a, len, cap, m, n, D, Pl, rfl, hb, hl, hm, hmm, rfl, hx⟩
    · refine ⟨[], ⟨none, 0, rfl, Nat.le_refl _, rfl, Nat.zero_le _, fun h => absurd h (by simp)⟩, ⟨by simp [maxLen], fun x hx => by cases hx⟩, by simpa using bulk_pos _, fun _ => ⟨by simp, fun x hx => by cases hx⟩⟩
    · have hlm : len ≤ m := by rw [hmm]; split <;> omega
      have hel : ∀ i : Nat, ∃ y : α, i < len → ∃ cs', w.cells? 0 (a.add (i * P.cellsOf e)) (P.cellsOf e) = some cs' ∧ d.K w y cs' ∧ good y ∧ wt y ≤ Rows.uptoBulk (D i) ∧ ((∀ n ∈ (D i).weights P e, n ≤ reachBytes) → sz y) := by
        intro i
        by_cases hi : i < len
        · obtain ⟨cs', h1, h2⟩ := hx i (by omega)
          obtain ⟨y, hk, hg, hw, hz⟩ := ho.run enc w spare held n cs' _ h2
          exact ⟨y, fun _ => ⟨cs', h1, hk, hg, hw, hz⟩⟩
        · exact ⟨default, fun h => absurd h hi⟩
      obtain ⟨f, hf⟩ := Classical.axiomOfChoice hel
      have hget : ∀ (j : Nat) (p : α), ((List.range len).map f)[j]? = some p → j < len ∧ f j = p := by
        intro j p hj
        have hj' := (List.getElem?_eq_some_iff.1 hj).1
        rw [List.length_map, List.length_range] at hj'
        rw [List.getElem?_map, List.getElem?_range hj'] at hj
        exact ⟨hj', by simpa using hj⟩
      have hlen : ((List.range len).map f).length = len := by rw [List.length_map, List.length_range]
      have hmax : maxLen = 9223372036854775807 := rfl
      refine ⟨(List.range len).map f, ⟨some a, cap, by rw [hlen], by rw [hlen]; exact hl, rfl, by rw [hlen]; omega, fun _ => ⟨a, rfl, fun j p hj => ?_⟩⟩, ⟨by rw [hlen]; omega, fun x hx' => ?_⟩, ?_, fun hn => ⟨?_, fun x hx' => ?_⟩⟩
      · obtain ⟨hj', rfl⟩ := hget j p hj
        obtain ⟨cs', h1, hk, _⟩ := hf j hj'
        obtain ⟨hcl, hcc⟩ := cells_list h1
        refine ⟨cs', by rw [hcl, hsz], hk, fun i u hu => ?_⟩
        have := hcc i u hu
        rwa [Addr.add_add, hsz] at this
      · obtain ⟨i, hi, rfl⟩ := List.mem_map.1 hx'
        obtain ⟨_, _, _, hg, _⟩ := hf i (List.mem_range.1 hi)
        exact hg
      · simp only [Rows.uptoBulk]
        have := bulkAll_map wt ((List.range len).map D) ((List.range len).map f) (by simp) (fun i x' d' h1 h2 => by
          obtain ⟨hi, rfl⟩ := hget i x' h1
          have hd : D i = d' := by
            rw [List.getElem?_map, List.getElem?_range hi] at h2
            simpa using h2
          subst hd
          obtain ⟨_, _, _, _, hw, _⟩ := hf i hi
          exact hw)
        omega
      · simp only [DataW.weights, ht] at hn
        have h1 := hn _ (List.mem_cons_self ..)
        rw [List.length_map, List.length_range, hby] at h1
        rw [hlen]
        exact Nat.le_trans (Nat.mul_le_mul_right b (Nat.le_add_right _ _)) h1
      · simp only [DataW.weights, ht] at hn
        obtain ⟨i, hi, rfl⟩ := List.mem_map.1 hx'
        obtain ⟨_, _, _, _, _, hz⟩ := hf i (List.mem_range.1 hi)
        exact hz fun n hn' => hn n (List.mem_cons_of_mem _ (List.mem_append_left _ (mem_weightsAll (List.mem_map.2 ⟨i, hi, rfl⟩) hn')))⟩
end
end Go.Proofs.Ytkdahjnmldeklaa.PA
end
section
namespace Go.Proofs.Ytkdahjnmldeklaa.PA
open Go.RowKit Go.Proofs.YtkdahjnmldeklaaW.PrintWords Go.Proofs.YtkdahjnmldeklaaW.PrintLast Go.Proofs.YtkdahjnmldeklaaW.PrintMore
set_option linter.unusedVariables false
def colloquylaw09_JournalKeeps.PureU : Prop := ∀ (x0 : List (List (Int))) (x1 : Int) (x2 : Int), ((x0).length ≤ maxLen ∧ ∀ y ∈ x0, ((y).length ≤ maxLen ∧ ∀ z ∈ y, (Lit.int .u8 (z)).wf = true)) → (Lit.int .i64 (x1)).wf = true → (Lit.int .i64 (x2)).wf = true → ((x0).length * 24 ≤ reachBytes ∧ ∀ y ∈ x0, ((y).length * 1 ≤ reachBytes ∧ ∀ z ∈ y, True)) → ∃ _ : Nat, colloquylaw09_JournalKeeps.f (x0) (x1) (x2) = some true
end Go.Proofs.Ytkdahjnmldeklaa.PA
end
section
namespace Go.Proofs.Ytkdahjnmldeklaa.Pure
open Go.RowKit Go.Proofs.Ytkdahjnmldeklaa.PA
set_option linter.unusedVariables false in
theorem JournalKeeps : colloquylaw09_JournalKeeps.PureU := by
  intro x0 x1 x2 g0
  have hB : ∀ l : List Int, (∀ y ∈ l, (Lit.int .u8 (y)).wf = true) → ByteL l := fun l h y hy => by
    have := wf_byte (h y hy)
    unfold Byte at this
    omega
  intros
  exact ⟨0, if_pos fun x hx => hB x (g0.2 x hx).2⟩
end Go.Proofs.Ytkdahjnmldeklaa.Pure
end
section
namespace Go.Proofs.Ytkdahjnmldeklaa.journalKeeps
open Go.ChangeShapes Go.WideShapes Go.ChangeAt Go.RowKit
open Go.ChangeMaps (open_string shut_string)
open Go.RowKit Go.Proofs.YtkdahjnmldeklaaW.PrintWords Go.Proofs.YtkdahjnmldeklaaW.PrintLast Go.Proofs.YtkdahjnmldeklaaW.PrintMore Go.Proofs.Ytkdahjnmldeklaa.PA
set_option linter.unusedVariables false
set_option linter.unusedSimpArgs false
theorem own : ownKnob Try.prog.godebug = none := by kernel_rfl
theorem laidOut : laidOutB Try.prog = true := by kernel_rfl
set_option maxRecDepth 100000 in
theorem contract (H : Type) (enc : TypeId × Value → H) (W : World) (base : Nat) (args : Array Value) (ds gs : List (DataW H)) (before : List MemPlace)
    (hval0 : ∀ (j : Nat) t v, Try.f8.params[j]? = some t → args[j]? = some v → Value.okWide Try.prog W .any base t v)
    (hW : DataW.Whole enc Try.prog Try.f8.params.toList Rows.journalKeepsSpec.vars false W args.toList ds gs before)
    (hsz0 : (DataW.weightsEach Try.prog (Try.f8.params.toList ++ Rows.journalKeepsSpec.plain.varTypes Try.prog) (ds ++ gs)).all (· ≤ reachBytes) = true) :
    Calls Try.prog 8 args W fun e W' => ∃ v, e = .returned v ∧ Rows.journalKeepsSpec.post enc Try.prog Try.f8 false true false false W args v W' := by
  have hsz : (DataW.weightsEach Try.prog (Try.f8.params.toList ++ Rows.journalKeepsSpec.plain.varTypes Try.prog) (ds ++ gs)).all (· ≤ reachBytes) = true := hsz0
  have hval : ∀ (j : Nat) t v, Try.f8.params[j]? = some t → args[j]? = some v → Value.okWide Try.prog W .any base t v := hval0
  have hW' := hW
  obtain ⟨p, q, hA0, hV, rfl, hfz, hnd⟩ := hW
  have hA : DataW.TrodAll enc Try.prog W 0 (fun _ => true) true Try.f8.params.toList args.toList ds p := hA0
  rw [Try.params8] at hA hval hsz
  obtain ⟨v0, vs0, d0, ds0, p0, q0, hargs, rfl, rfl, h0, r0⟩ := trodAll_cons hA
  obtain ⟨v1, vs1, d1, ds1, p1, q1, rfl, rfl, rfl, h1, r1⟩ := trodAll_cons r0
  obtain ⟨v2, vs2, d2, ds2, p2, q2, rfl, rfl, rfl, h2, r2⟩ := trodAll_cons r1
  obtain ⟨rfl, rfl, rfl⟩ := trodAll_nil r2
  obtain rfl : args = #[v0, v1, v2] := by cases args; simp_all
  obtain ⟨rfl, rfl⟩ := trodVars_none hV
  have k0 := h0
  have lt0 : ∀ x ∈ p0, x.block < W.heap.size := by obtain ⟨m, hm⟩ := k0; exact DataW.trod_lt m _ _ _ hm
  obtain ⟨fuel0, hf0⟩ := h0
  obtain ⟨x0, hK0, g0, z0, s00⟩ := (opens_slice (b := 24) (by kernel_rfl) Try.underlying22 (by kernel_rfl) (opens_slice (b := 1) (by kernel_rfl) Try.underlying28 (by kernel_rfl) (opens_int Try.underlying5))).run enc W _ _ fuel0 _ _ hf0
  have s0 := s00 (fun n hn => by have := List.all_eq_true.1 hsz n (DataW.weights_mem_each (j := 0) (t := 22) rfl rfl n hn); simpa using this)
  obtain ⟨a0, len0, cap0, rfl⟩ := okWide_slice Try.underlying22 (hval 0 22 v0 rfl rfl)
  obtain ⟨A0, c0, hcs0, hc0, hr0⟩ := hK0
  obtain ⟨rfl, rfl, rfl⟩ : a0 = A0 ∧ len0 = x0.length ∧ cap0 = c0 := by
    have hcs' : [Value.slice a0 len0 cap0] = [Value.slice A0 x0.length c0] := hcs0
    injection hcs' with e1 _
    injection e1 with e1 e2 e3
    exact ⟨e1, e2, e3⟩
  obtain ⟨x1, rfl, rfl, rfl, g1⟩ := open_int Try.underlying3 (hval 1 3 v1 rfl rfl) h1
  obtain ⟨x2, rfl, rfl, rfl, g2⟩ := open_int Try.underlying3 (hval 2 3 v2 rfl rfl) h2
  obtain ⟨k, h⟩ := Pure.JournalKeeps x0 x1 x2 g0 g1 g2 s0
  refine (PA.colloquylaw09_JournalKeeps.calls (A0 := a0) (c0 := cap0) (l0 := x0) (a1 := x1) (a2 := x2) (r := true) (w := W) (hr0 := hr0) (hc0 := hc0) (h := h)).mono fun e W' ⟨he, hb⟩ => ?_
  have bel : Below W.heap.size W W' := by first | exact hb | exact Drawn0.below hb
  subst he
  exact ⟨_, rfl, _, _, _, [], _, [], hW', trodAll_mk1 (shut_bool Try.underlying4 _), (trodAll_cons_mk (Below.trod laidOut (by kernel_rfl) (of_decide_eq_true (by kernel_rfl)) k0 bel lt0) (trodAll_cons_mk (shut_int Try.underlying3 g1) (trodAll_cons_mk (shut_int Try.underlying3 g2) trodAll_mk0))), rfl, bel.frame _, fun h => by cases h⟩
set_option maxRecDepth 100000 in
theorem lifted (os : Os) (started : os.Started) (H : Type) (enc : TypeId × Value → H) :
    ReturnsInHanded {} Try.checked os 8 .any (Rows.journalKeepsSpec.pre6 enc Try.prog Try.f8 Rows.journalKeepsRow.domain false) (Rows.journalKeepsSpec.post enc Try.prog Try.f8 false true false false) := by
  refine returnsInHanded_of_change_sized (C := Try.checked) own started (by kernel_rfl) Try.func8
    (ChangeSpec.witness6 (enc := enc) (C := Try.checked) false ⟨#[], #[.slice none 0 0, .int .i64 0, .int .i64 0], []⟩ 8 (by kernel_rfl) (by kernel_rfl) (by kernel_rfl) (by kernel_rfl)) ?_
  intro W base args ds gs before hval hW _ hsz _
  exact contract H enc W base args ds gs before hval hW hsz
theorem proved : Rows.JournalKeepsSaid :=
  OpenClaim.holds_of_wide 8 Try.f8 rfl rfl rfl rfl rfl rfl rfl ⟨rfl, rfl, rfl, rfl, rfl⟩ rfl rfl rfl rfl rfl (by kernel_rfl) Try.func8 (by kernel_rfl)
    (of_decide_eq_true (by kernel_rfl)) (by unfold Func.isWrapper; first | (rw [if_pos (by decide +kernel)]; kernel_rfl) | (rw [if_neg (by decide +kernel)]; exact ⟨rfl, rfl⟩))
    (fun os started H enc _ => lifted os started H enc)
#print axioms proved
end Go.Proofs.Ytkdahjnmldeklaa.journalKeeps
namespace Go.Proofs.Ytkdahjnmldeklaa
theorem journalKeeps_holds : Rows.JournalKeepsSaid := journalKeeps.proved
end Go.Proofs.Ytkdahjnmldeklaa
end
