/- The row of the law JournalRaw: for every input the call returns true and leaves its arguments as they were. Printed by a program of this session. -/
/- What this claim uses of this session's own texts, put together by a program: GJour3 HJLaw HRj3 GRj5 GJAlive GRj6 HRj4 GRj7 HOpen StmtJournalRaw PureJournalRaw LawJournalRaw. -/
import Derived.Test.YtkdahjnmldeklaaGreatKJournalRaw3
import Derived.Test.YtkdahjnmldeklaaGreatProg
import Derived.Test.YtkdahjnmldeklaaGreatRows
section
namespace Go.Proofs.YtkdahjnmldeklaaGreat.PA
open Go.RowKit Go.Proofs.YtkdahjnmldeklaaGreatW.PrintWords Go.Proofs.YtkdahjnmldeklaaGreatW.PrintLast Go.Proofs.YtkdahjnmldeklaaGreatW.PrintMore
set_option linter.unusedVariables false
set_option linter.unusedSimpArgs false
namespace GJour3_
theorem gwagg3 : ∀ w, (isAgg 3).run Tryz.prog w = .ok false w := fun _ => by kernel_rfl
theorem gwagg77 : ∀ w, (isAgg 77).run Tryz.prog w = .ok false w := fun _ => by kernel_rfl
theorem gwfld79_2 (g off : Nat) : ∀ w, (Instr.fieldAt 79 (.pointer (some ⟨g, off, none⟩)) 2).run Tryz.prog w = .ok (.pointer (some ⟨g, off + 2, none⟩)) w := fun _ => by kernel_rfl
theorem gwfld79_3 (g off : Nat) : ∀ w, (Instr.fieldAt 79 (.pointer (some ⟨g, off, none⟩)) 3).run Tryz.prog w = .ok (.pointer (some ⟨g, off + 3, none⟩)) w := fun _ => by kernel_rfl
theorem gwsiz3 : ∀ w, (sizeOf 3).run Tryz.prog w = .ok 1 w := fun _ => by kernel_rfl
theorem gwsiz5 : ∀ w, (sizeOf 5).run Tryz.prog w = .ok 1 w := fun _ => by kernel_rfl
set_option maxHeartbeats 4000000 in
set_option maxRecDepth 100000 in
theorem open_calls (w0 w : World) (R : Chunk) (gd : Nat) (S : Nat → Prop) (d : PD) (nm : ByteArray) (hw : wfD d) (hn : nm.size ≤ 9223372036854775807) (hlen : d.fs.length ≤ 1000000) (hus : d.used ≤ 1000000) (hbb : ByteL (readD nm d).1) (HO : Own w0 w [R, Chunk.disk w0.heap.size gd S d]) :
    Calls Tryz.prog 9 #[.pointer (some ⟨gd, 0, none⟩), .string nm] w fun e w' => (e = .returned (.tuple #[.pointer none, .int .i64 (openJ nm d).1.2]) ∧ (openJ nm d).1.2 ≠ 0 ∧ ∃ S', Own w0 w' [R, Chunk.disk w0.heap.size gd S' (openJ nm d).1.1]) ∨ ((openJ nm d).1.2 = 0 ∧ ∃ gj SJ S', e = .returned (.tuple #[.pointer (some ⟨gj, 0, none⟩), .int .i64 0]) ∧ Own w0 w' [R, Chunk.disk w0.heap.size gd S' (openJ nm d).1.1, Chunk.jour w0.heap.size gd gj nm SJ (openJ nm d).2.1 (openJ nm d).2.2]) := by
 have hbl : ((readD nm d).1.length : Int) ≤ 1000000 := Int.le_trans (read_len hw) hus
 refine gw_startO (N := 100) (vs := [.pointer (some ⟨gd, 0, none⟩), .string nm]) Tryz.func9 rfl rfl (by simp) fun a HF => ?_
 refine gR fun K1 hK1 => ?_
 refine V HF (op_assign rfl (ev_c _ _)) ?_
 intro _ H3; clear HF
 refine V H3 (op_assign rfl (ev_c _ _)) ?_
 intro _ H5; clear H3
 refine gE hK1 ?_
 refine gR fun K6 hK6 => ?_
 refine V H5 (op_move rfl (H5.ev rfl)) ?_
 intro _ H8; clear H5
 refine V H8 (op_move rfl (H8.ev rfl)) ?_
 intro _ H10; clear H8
 refine gw_mkmap (K := 2) H10 HO (want_none rfl) rfl (by decide) rfl ?_
 intro g11 _ w13 H14 O15; clear H10 HO
 have O16 : Own w0 w13 [Chunk.lmap Tryz.prog 2 g11 ([] : List (Lit × Value)), R, Chunk.disk w0.heap.size gd S d] := O15
 clear O15
 refine V H14 (op_build (cells := #[.pointer (some ⟨gd, 0, none⟩), .string nm, .map (some g11), J 0]) rfl (pt_cons (H14.ev rfl) (pt_cons (H14.ev rfl) (pt_cons (H14.ev rfl) pt_nil))) (by kernel_rfl)) ?_
 intro _ H18; clear H14
 refine gw_new H18 O16 (want_none rfl) rfl (by decide) (op_box rfl (H18.ev rfl)) ?_
 intro g19 _ w21 H22 O23; clear H18 O16
 have O24 : Own w0 w21 [Bk g19 [.pointer (some ⟨gd, 0, none⟩), .string nm, .map (some g11), J 0] 79, Chunk.lmap Tryz.prog 2 g11 ([] : List (Lit × Value)), R, Chunk.disk w0.heap.size gd S d] := O23
 clear O23
 refine V H22 (op_assign rfl (H22.ev rfl)) ?_
 intro _ H26; clear H22
 have O27 := Own.jrows_nil O24 w0.heap.size
 have O28 : Own w0 w21 [Chunk.jrows w0.heap.size ([]), Bk g19 [.pointer (some ⟨gd, 0, none⟩), .string nm, .map (some g11), J 0] 79, Chunk.lmap Tryz.prog 2 g11 ([] : List (Lit × Value)), R, Chunk.disk w0.heap.size gd S d] := O27
 clear O27
 refine gE hK6 ?_
 refine gR fun K29 hK29 => ?_
 refine V H26 (op_move rfl (H26.ev rfl)) ?_
 intro _ H31; clear H26
 refine V H31 (op_move rfl (H31.ev rfl)) ?_
 intro _ H33; clear H31
 refine gw_call H33 (want_none rfl) rfl (by decide) (op_callL Tryz.func31 (by kernel_rfl) rfl rfl (ar_cons (H33.ev rfl) (ar_cons (H33.ev rfl) ar_nil))) (read_calls w0.heap.size gd S d nm _ (by exact O28.get 4 rfl) hn hw (by first | decide | omega)) ?_
 rintro e37 w38 ⟨A34, c35, S36, rfl, hb39⟩
 refine ⟨_, rfl, fun _ H41 => ?_⟩
 have O42 := O28.fresh hb39
 have hbel43 := O28.below
 clear H33 O28 hb39
 have O44 := O42.lowrow 0 rfl (base' := w0.heap.size) (Below.size hbel43)
 refine V H41 (op_move rfl (H41.ev rfl)) ?_
 intro _ H46; clear H41
 refine V H46 (op_extract rfl (H46.ev rfl) rfl) ?_
 intro _ H48; clear H46
 refine V H48 (op_extract rfl (H48.ev rfl) rfl) ?_
 intro _ H50; clear H48
 refine V H50 (op_assign rfl (H50.ev rfl)) ?_
 intro _ H52; clear H50
 have O53 := O44.row_view 0 rfl
 clear O44
 have O54 : Own w0 w38 [Chunk.view (Kd.int .u8) S36 A34 (((readD nm d).1).length) c35 ((readD nm d).1), Chunk.jrows w0.heap.size ([]), Bk g19 [.pointer (some ⟨gd, 0, none⟩), .string nm, .map (some g11), J 0] 79, Chunk.lmap Tryz.prog 2 g11 ([] : List (Lit × Value)), R, Chunk.disk w0.heap.size gd S d] := O53
 clear O53
 refine V H52 (op_assign rfl (H52.ev rfl)) ?_
 intro _ H56; clear H52
 refine gE hK29 ?_
 refine gw_joinS (fun a_ w_ => ∃ (d1 : PD) (S1 : Nat → Prop) (e8 : Int), Fr 100 a_ [(8, J e8), (0, .pointer (some ⟨gd, 0, none⟩)), (1, .string nm), (4, .pointer none), (5, J 0), (6, .pointer (some ⟨g19, 0, none⟩)), (7, .slice A34 (((readD nm d).1).length) c35)] ∧ Own w0 w_ [Chunk.view (Kd.int .u8) S36 A34 (((readD nm d).1).length) c35 ((readD nm d).1), Chunk.jrows w0.heap.size ([]), Bk g19 [.pointer (some ⟨gd, 0, none⟩), .string nm, .map (some g11), J 0] 79, Chunk.lmap Tryz.prog 2 g11 ([] : List (Lit × Value)), R, Chunk.disk w0.heap.size gd S1 d1] ∧ (wfD d1) ∧ (preJ nm d = (d1, e8))) ?_ ?_
 ·
  refine gR fun K57 hK57 => ?_
  refine V H56 (op_move rfl (H56.ev rfl)) ?_
  intro _ H59; clear H56
  refine V H59 (op_eqi rfl (H59.ev rfl) (ev_c _ _)) ?_
  intro _ H61; clear H59
  refine gE hK57 ?_
  refine gw_cond H61 rfl (fun hb62 => ?_) (fun hb62 => ?_)
  ·
   have H63 := H61.subst_ (d := 28) (b := true) rfl hb62
   clear H61
   (try simp only [decide_eq_true_eq] at hb62)
   have h28 := hb62
   refine wp_region_lit ?_
   refine V H63 (op_move rfl (H63.ev rfl)) ?_
   intro _ H65; clear H63
   refine V H65 (op_move rfl (H65.ev rfl)) ?_
   intro _ H67; clear H65
   have O76 : Own w0 _ [(Chunk.all [Chunk.view (Kd.int .u8) S36 A34 (((readD nm d).1).length) c35 ((readD nm d).1), Chunk.jrows w0.heap.size ([]), Bk g19 [.pointer (some ⟨gd, 0, none⟩), .string nm, .map (some g11), J 0] 79, Chunk.lmap Tryz.prog 2 g11 ([] : List (Lit × Value)), R]), Chunk.disk w0.heap.size gd S d] := Own.bundle (O54.sel [0, 1, 2, 3, 4, 5] (by decide))
   refine gw_call H67 (want_none rfl) rfl (by decide) (op_callL Tryz.func7 (by kernel_rfl) rfl rfl (ar_cons (H67.ev rfl) (ar_cons (H67.ev rfl) ar_nil))) (create_calls w0 _ (Chunk.all [Chunk.view (Kd.int .u8) S36 A34 (((readD nm d).1).length) c35 ((readD nm d).1), Chunk.jrows w0.heap.size ([]), Bk g19 [.pointer (some ⟨gd, 0, none⟩), .string nm, .map (some g11), J 0] 79, Chunk.lmap Tryz.prog 2 g11 ([] : List (Lit × Value)), R]) gd S d nm hw hn (by first | decide | omega) (by exact O76)) ?_
   rintro e70 w71 ⟨rfl, S68, hb72⟩
   refine ⟨_, rfl, fun _ H74 => ?_⟩
   have O75 : Own w0 w71 [Chunk.view (Kd.int .u8) S36 A34 (((readD nm d).1).length) c35 ((readD nm d).1), Chunk.jrows w0.heap.size ([]), Bk g19 [.pointer (some ⟨gd, 0, none⟩), .string nm, .map (some g11), J 0] 79, Chunk.lmap Tryz.prog 2 g11 ([] : List (Lit × Value)), R, Chunk.disk w0.heap.size gd S68 ((createD nm d).1)] := Own.unbundle (hb72.sel [0, 1] (by decide))
   clear O76
   clear H67 O54 hb72
   have hwf69 : wfD ((createD nm d).1) := wf_create hw
   refine V H74 (op_assign rfl (H74.ev rfl)) ?_
   intro _ H79; clear H74
   refine wpList_nil ?_
   refine gw_nx ⟨((createD nm d).1), S68, ((createD nm d).2), (H79.pick (t := 8) rfl (H79.pick (t := 0) rfl (H79.pick (t := 1) rfl (H79.pick (t := 4) rfl (H79.pick (t := 5) rfl (H79.pick (t := 6) rfl (H79.pick (t := 7) rfl H79.nil))))))), O75.sel [0, 1, 2, 3, 4, 5] (by decide), ?_, ?_⟩
   ·
    exact hwf69
   ·
    unfold preJ; first | exact if_pos h28 | exact if_neg h28
  ·
   have H80 := H61.subst_ (d := 28) (b := false) rfl hb62
   clear H61
   (try simp only [decide_eq_false_iff_not] at hb62)
   have h28 := hb62
   refine wp_skip ?_
   refine gw_nx ⟨d, S, ((readD nm d).2), (H80.pick (t := 8) rfl (H80.pick (t := 0) rfl (H80.pick (t := 1) rfl (H80.pick (t := 4) rfl (H80.pick (t := 5) rfl (H80.pick (t := 6) rfl (H80.pick (t := 7) rfl H80.nil))))))), O54.sel [0, 1, 2, 3, 4, 5] (by decide), ?_, ?_⟩
   ·
    exact hw
   ·
    unfold preJ; first | exact if_pos h28 | exact if_neg h28
 ·
  rintro _ w82 ⟨d1, S1, e8, H83, O84, hw1, hpre⟩
  refine gw_seq fun K85 hK85 => ?_
  refine gR fun K86 hK86 => ?_
  refine V H83 (op_move rfl (H83.ev rfl)) ?_
  intro _ H88; clear H83
  refine V H88 (op_nei rfl (H88.ev rfl) (ev_c _ _)) ?_
  intro _ H90; clear H88
  refine gE hK86 ?_
  refine gw_cond H90 rfl (fun hb91 => ?_) (fun hb91 => ?_)
  ·
   have H92 := H90.subst_ (d := 33) (b := true) rfl hb91
   clear H90
   (try simp only [decide_eq_true_eq, ne_eq] at hb91)
   have hne : e8 ≠ 0 := hb91
   refine gR fun K93 hK93 => ?_
   refine V H92 (op_move rfl (H92.ev rfl)) ?_
   intro _ H95; clear H92
   refine V H95 (op_assign rfl (ev_c _ _)) ?_
   intro _ H97; clear H95
   refine V H97 (op_assign rfl (H97.ev rfl)) ?_
   intro _ H99; clear H97
   refine gE hK93 ?_
   refine wp_ret ?_
   refine gw_thr ?_
   refine gw_ret2 H99 rfl rfl rfl ?_
   rw [open1 hpre hne]
   exact .inl ⟨rfl, by first | exact hne | (show _ ≠ _; exact hne), _, O84.sel [4, 5] (by decide)⟩
  ·
   have H100 := H90.subst_ (d := 33) (b := false) rfl hb91
   clear H90
   (try simp only [decide_eq_false_iff_not, ne_eq, Decidable.not_not] at hb91)
   have he8 : e8 = 0 := by omega
   refine wp_skip ?_
   refine gw_nx (hK85 _ _ ?_)
   refine gw_joinS (fun a_ w_ => ∃ (is : List PI) (xs : List XJ) (sz : Int), Fr 100 a_ [(0, .pointer (some ⟨gd, 0, none⟩)), (1, .string nm), (4, .pointer none), (5, J 0), (6, .pointer (some ⟨g19, 0, none⟩)), (7, .slice A34 (((readD nm d).1).length) c35)] ∧ Own w0 w_ [R, Chunk.disk w0.heap.size gd S1 d1, Bk g19 [.pointer (some ⟨gd, 0, none⟩), .string nm, .map (some g11), J sz] 79, Chunk.lmap Tryz.prog 2 g11 (xs.map XJ.ent), Chunk.jrows w0.heap.size xs, Chunk.view (Kd.int .u8) S36 A34 (((readD nm d).1).length) c35 ((readD nm d).1)] ∧ ((xs.map XJ.p).Perm is) ∧ (scanJ (readD nm d).1 = (is, sz)) ∧ (0 ≤ sz ∧ sz ≤ (readD nm d).1.length)) ?_ ?_
   ·
    refine wp_block ?_
    refine gw_loop (fun m_ a_ w_ => ∃ (is : List PI) (xs : List XJ) (sz : Int) (f : Nat), Fr 100 a_ [(0, .pointer (some ⟨gd, 0, none⟩)), (1, .string nm), (4, .pointer none), (5, J 0), (6, .pointer (some ⟨g19, 0, none⟩)), (7, .slice A34 (((readD nm d).1).length) c35)] ∧ Own w0 w_ [R, Chunk.disk w0.heap.size gd S1 d1, Bk g19 [.pointer (some ⟨gd, 0, none⟩), .string nm, .map (some g11), J sz] 79, Chunk.lmap Tryz.prog 2 g11 (xs.map XJ.ent), Chunk.jrows w0.heap.size xs, Chunk.view (Kd.int .u8) S36 A34 (((readD nm d).1).length) c35 ((readD nm d).1)] ∧ ((xs.map XJ.p).Perm is) ∧ (scanS f ((readD nm d).1.drop sz.toNat) is sz = scanJ (readD nm d).1) ∧ (0 ≤ sz ∧ sz ≤ (readD nm d).1.length) ∧ (((readD nm d).1.length : Int) < f + sz) ∧ ((is.length : Int) ≤ sz) ∧ m_ = f) ((((readD nm d).1.length + 1) : Nat)) ?_ ?_
    ·
     refine ⟨[], [], 0, ((readD nm d).1.length + 1), (H100.pick (t := 0) rfl (H100.pick (t := 1) rfl (H100.pick (t := 4) rfl (H100.pick (t := 5) rfl (H100.pick (t := 6) rfl (H100.pick (t := 7) rfl H100.nil)))))), O84.sel [4, 5, 2, 3, 1, 0] (by decide), ?_, ?_, ?_, ?_, ?_, rfl⟩
     ·
      exact List.Perm.refl _
     ·
      rfl
     ·
      exact ⟨by omega, by omega⟩
     ·
      omega
     ·
      simp
    ·
     rintro m102 _ w104 ⟨is, xs, sz, f, H105, O106, hxs, hsc, hsz, hff, hil, hm107⟩
     have hxn := hxs.length_eq
     rw [List.length_map] at hxn
     refine wp_block ?_
     refine gR fun K108 hK108 => ?_
     refine V H105 (op_move rfl (H105.ev rfl)) ?_
     intro _ H110; clear H105
     refine V H110 (op_move rfl (H110.ev rfl)) ?_
     intro _ H112; clear H110
     refine V H112 (op_nil rfl (H112.ev rfl)) ?_
     intro _ H114; clear H112
     refine V H114 (op_field (gwfld79_3 _ _) rfl (H114.ev rfl)) ?_
     intro _ H116; clear H114
     refine V H116 (op_load1 gwagg3 rfl (H116.ev rfl) (blk_at (O106.get 2 rfl) rfl)) ?_
     intro _ H118; clear H116
     obtain ⟨A119, c120, hr121, hc122, hC123, hA124⟩ := cut_lo (P := Tryz.prog) (d := (Kd.int .u8)) (t := 22) (e := 5) Tryz.underlying22 gwsiz5 A34 c35 ((readD nm d).1) (view_le (O106.get 5 rfl)) sz (by omega) (by omega)
     refine V H118 (op_cut Tryz.underlying22 hr121 rfl (H118.ev rfl) (some_ev (H118.ev rfl)) rfl) ?_
     intro _ H126; clear H118
     refine gw_call H126 (want_none rfl) rfl (by decide) (op_callL Tryz.func32 (by kernel_rfl) rfl rfl (ar_cons (H126.ev rfl) ar_nil)) (split_own A119 c120 (((readD nm d).1).drop sz.toNat) _ (hC123 _ (view_C (O106.get 5 rfl))) hc122 (hbb.drop _) (by rw [List.length_drop]; omega)) ?_
     rintro e130 w131 ⟨A127, c128, S129, rfl, hb132⟩
     refine ⟨_, rfl, fun _ H134 => ?_⟩
     have O135 := O106.fresh hb132
     have hbel136 := O106.below
     clear H126 O106 hb132
     have O137 := O135.lowrow 0 rfl (base' := w0.heap.size) (Below.size hbel136)
     refine V H134 (op_move rfl (H134.ev rfl)) ?_
     intro _ H139; clear H134
     refine V H139 (op_extract rfl (H139.ev rfl) rfl) ?_
     intro _ H141; clear H139
     refine V H141 (op_extract rfl (H141.ev rfl) rfl) ?_
     intro _ H143; clear H141
     refine V H143 (op_extract rfl (H143.ev rfl) rfl) ?_
     intro _ H145; clear H143
     refine V H145 (op_assign rfl (H145.ev rfl)) ?_
     intro _ H147; clear H145
     refine V H147 (op_assign rfl (H147.ev rfl)) ?_
     intro _ H149; clear H147
     refine V H149 (op_assign rfl (H149.ev rfl)) ?_
     intro _ H151; clear H149
     refine gE hK108 ?_
     refine gw_seq fun K152 hK152 => ?_
     refine gR fun K153 hK153 => ?_
     refine V H151 (op_move rfl (H151.ev rfl)) ?_
     intro _ H155; clear H151
     refine V H155 (op_not rfl (H155.ev rfl)) ?_
     intro _ H157; clear H155
     refine gE hK153 ?_
     refine gw_cond H157 rfl (fun hb158 => ?_) (fun hb158 => ?_)
     ·
      have H159 := H157.subst_ (d := 47) (b := true) rfl hb158
      clear H157
      (try simp only [Bool.and_eq_true, Bool.and_eq_false_iff, Bool.not_and, Bool.or_eq_true, Bool.or_eq_false_iff, Bool.not_or, Bool.not_not, Bool.not_eq_true', Bool.not_eq_false', Bool.not_eq_true, Bool.not_eq_false] at hb158)
      have hok : (Pure.splitOf ((readD nm d).1.drop sz.toNat)).2.2 = false := by simpa using hb158
      refine wp_exit ?_
      refine gw_thx ?_
      refine gw_out (by decide) ?_
      refine gw_thx ?_
      refine gw_in ?_
      refine gw_nx ⟨is, xs, sz, (H159.pick (t := 0) rfl (H159.pick (t := 1) rfl (H159.pick (t := 4) rfl (H159.pick (t := 5) rfl (H159.pick (t := 6) rfl (H159.pick (t := 7) rfl H159.nil)))))), O137.sel [1, 2, 3, 4, 5, 6] (by decide), ?_, ?_, ?_⟩
      ·
       exact hxs
      ·
       exact hsc.symm.trans (by first | exact scan_stop1 hok | exact scan_stop2 hok hok | exact scan_stop3 hok hok hhas)
      ·
       exact hsz
     ·
      have H160 := H157.subst_ (d := 47) (b := false) rfl hb158
      clear H157
      (try simp only [Bool.and_eq_true, Bool.and_eq_false_iff, Bool.not_and, Bool.or_eq_true, Bool.or_eq_false_iff, Bool.not_or, Bool.not_not, Bool.not_eq_true', Bool.not_eq_false', Bool.not_eq_true, Bool.not_eq_false] at hb158)
      have hok : (Pure.splitOf ((readD nm d).1.drop sz.toNat)).2.2 = true := by simpa using hb158
      have hsi := split_in hok
      have hdl : ((readD nm d).1.drop sz.toNat).length = (readD nm d).1.length - sz.toNat := List.length_drop
      refine wp_skip ?_
      refine gw_nx (hK152 _ _ ?_)
      refine gR fun K161 hK161 => ?_
      refine V H160 (op_move rfl (H160.ev rfl)) ?_
      intro _ H163; clear H160
      have O177 : Own w0 _ [(Chunk.all [Chunk.row (Kd.int .u8) 5 w0.heap.size S129 (.slice A127 (((Pure.splitOf (((readD nm d).1).drop sz.toNat)).1).length) c128) ((Pure.splitOf (((readD nm d).1).drop sz.toNat)).1), R, Chunk.disk w0.heap.size gd S1 d1, Bk g19 [.pointer (some ⟨gd, 0, none⟩), .string nm, .map (some g11), J sz] 79, Chunk.lmap Tryz.prog 2 g11 (xs.map XJ.ent), Chunk.jrows w0.heap.size xs, Chunk.view (Kd.int .u8) S36 A34 (((readD nm d).1).length) c35 ((readD nm d).1)])] := Own.bundle (O137.sel [0, 1, 2, 3, 4, 5, 6] (by decide))
      refine gw_call H163 (want_none rfl) rfl (by decide) (op_callL Tryz.func33 (by kernel_rfl) rfl rfl (ar_cons (H163.ev rfl) ar_nil)) (entry_calls A127 c128 ((Pure.splitOf (((readD nm d).1).drop sz.toNat)).1) _ (Kd.R_reads' (O137.get 0 rfl)).2.2 (row_cap (O137.get 0 rfl)) (split_byte (hbb.drop _)) (by have h_ := split_len ((readD nm d).1.drop sz.toNat); rw [List.length_drop] at h_; omega)) ?_
      rintro e171 w172 (⟨hen168, rfl, hb173⟩ | ⟨kn164, kk165, A166, c167, hen168, rfl, hC169, hc170, hb173⟩)
      ·
       refine ⟨_, rfl, fun _ H175 => ?_⟩
       have O176 : Own w0 w172 [Chunk.row (Kd.int .u8) 5 w0.heap.size S129 (.slice A127 (((Pure.splitOf (((readD nm d).1).drop sz.toNat)).1).length) c128) ((Pure.splitOf (((readD nm d).1).drop sz.toNat)).1), R, Chunk.disk w0.heap.size gd S1 d1, Bk g19 [.pointer (some ⟨gd, 0, none⟩), .string nm, .map (some g11), J sz] 79, Chunk.lmap Tryz.prog 2 g11 (xs.map XJ.ent), Chunk.jrows w0.heap.size xs, Chunk.view (Kd.int .u8) S36 A34 (((readD nm d).1).length) c35 ((readD nm d).1)] := O137.after hb173
       clear O177 hb173
       clear H163 O137
       refine V H175 (op_move rfl (H175.ev rfl)) ?_
       intro _ H179; clear H175
       refine V H179 (op_extract rfl (H179.ev rfl) rfl) ?_
       intro _ H181; clear H179
       refine V H181 (op_extract rfl (H181.ev rfl) rfl) ?_
       intro _ H183; clear H181
       refine V H183 (op_extract rfl (H183.ev rfl) rfl) ?_
       intro _ H185; clear H183
       refine V H185 (op_assign rfl (H185.ev rfl)) ?_
       intro _ H187; clear H185
       refine V H187 (op_assign rfl (H187.ev rfl)) ?_
       intro _ H189; clear H187
       refine V H189 (op_assign rfl (H189.ev rfl)) ?_
       intro _ H191; clear H189
       refine gE hK161 ?_
       refine gw_seq fun K192 hK192 => ?_
       refine gR fun K193 hK193 => ?_
       refine V H191 (op_move rfl (H191.ev rfl)) ?_
       intro _ H195; clear H191
       refine V H195 (op_not rfl (H195.ev rfl)) ?_
       intro _ H197; clear H195
       refine V H197 (op_move rfl (H197.ev rfl)) ?_
       intro _ H199; clear H197
       refine Vo H199 (wn H199 rfl rfl rfl rfl) ?_
       intro _ H201; clear H199
       refine Vo H201 (wn H201 rfl rfl rfl rfl) ?_
       intro _ H203; clear H201
       refine Vo H203 (wn H203 rfl rfl rfl rfl) ?_
       intro _ H205; clear H203
       refine V H205 (op_pick_t rfl (H205.ev rfl) (ev_c _ _)) ?_
       intro _ H207; clear H205
       refine gE hK193 ?_
       refine gw_cond H207 rfl (fun hb208 => ?_) (fun hb208 => ?_)
       rotate_left
       ·
        cases hb208
       refine wp_exit ?_
       refine gw_thx ?_
       refine gw_out (by decide) ?_
       refine gw_thx ?_
       refine gw_in ?_
       refine gw_nx ⟨is, xs, sz, (H207.pick (t := 0) rfl (H207.pick (t := 1) rfl (H207.pick (t := 4) rfl (H207.pick (t := 5) rfl (H207.pick (t := 6) rfl (H207.pick (t := 7) rfl H207.nil)))))), O176.sel [1, 2, 3, 4, 5, 6] (by decide), ?_, ?_, ?_⟩
       ·
        exact hxs
       ·
        exact hsc.symm.trans (by first | exact scan_stop1 hok | exact scan_stop2 hok hen168 | exact scan_stop3 hok hen168 hhas)
       ·
        exact hsz
      ·
       refine ⟨_, rfl, fun _ H175 => ?_⟩
       have O176 : Own w0 w172 [Chunk.row (Kd.int .u8) 5 w0.heap.size S129 (.slice A127 (((Pure.splitOf (((readD nm d).1).drop sz.toNat)).1).length) c128) ((Pure.splitOf (((readD nm d).1).drop sz.toNat)).1), R, Chunk.disk w0.heap.size gd S1 d1, Bk g19 [.pointer (some ⟨gd, 0, none⟩), .string nm, .map (some g11), J sz] 79, Chunk.lmap Tryz.prog 2 g11 (xs.map XJ.ent), Chunk.jrows w0.heap.size xs, Chunk.view (Kd.int .u8) S36 A34 (((readD nm d).1).length) c35 ((readD nm d).1)] := O137.after hb173
       clear O177 hb173
       clear H163 O137
       have hei := entry_in hen168
       refine V H175 (op_move rfl (H175.ev rfl)) ?_
       intro _ H210; clear H175
       refine V H210 (op_extract rfl (H210.ev rfl) rfl) ?_
       intro _ H212; clear H210
       refine V H212 (op_extract rfl (H212.ev rfl) rfl) ?_
       intro _ H214; clear H212
       refine V H214 (op_extract rfl (H214.ev rfl) rfl) ?_
       intro _ H216; clear H214
       refine V H216 (op_assign rfl (H216.ev rfl)) ?_
       intro _ H218; clear H216
       refine V H218 (op_assign rfl (H218.ev rfl)) ?_
       intro _ H220; clear H218
       refine V H220 (op_assign rfl (H220.ev rfl)) ?_
       intro _ H222; clear H220
       refine gE hK161 ?_
       refine gw_seq fun K223 hK223 => ?_
       refine gR fun K224 hK224 => ?_
       refine V H222 (op_move rfl (H222.ev rfl)) ?_
       intro _ H226; clear H222
       refine V H226 (op_not rfl (H226.ev rfl)) ?_
       intro _ H228; clear H226
       refine V H228 (op_move rfl (H228.ev rfl)) ?_
       intro _ H230; clear H228
       refine V2 H230 (want_yes H230 rfl rfl rfl rfl) (op_move rfl (H230.ev rfl)) ?_
       intro _ H232; clear H230
       refine V2 H232 (want_yes H232 rfl rfl rfl rfl) (op_move rfl (H232.ev rfl)) ?_
       intro _ H234; clear H232
       obtain ⟨Sj235, HOj236⟩ := jour_close2 (R := R) (base := w0.heap.size) (xs := xs) hxs (by exact O176.sel [1, 2, 3, 4, 5] (by decide))
       refine gw_call H234 (want_yes H234 rfl rfl rfl rfl) rfl (by decide) (op_callL Tryz.func21 (by kernel_rfl) rfl rfl (ar_cons (H234.ev rfl) (ar_cons (H234.ev rfl) ar_nil))) (has_calls w0.heap.size gd g19 nm Sj235 is sz _ (HOj236.get 2 rfl) kn164 (wf_i64 (by omega))) ?_
       rintro e237 w238 ⟨rfl, hb239⟩
       refine ⟨_, rfl, fun _ H241 => ?_⟩
       have O242 := O176.after hb239
       clear H234 O176 hb239
       refine V H241 (op_pick_f rfl (H241.ev rfl) (H241.ev rfl)) ?_
       intro _ H245; clear H241
       refine gE hK224 ?_
       refine gw_cond H245 rfl (fun hb246 => ?_) (fun hb246 => ?_)
       ·
        have H247 := H245.subst_ (d := 60) (b := true) rfl hb246
        clear H245
        (try simp only [Bool.not_eq_true] at hb246)
        have hhas := hb246
        refine wp_exit ?_
        refine gw_thx ?_
        refine gw_out (by decide) ?_
        refine gw_thx ?_
        refine gw_in ?_
        refine gw_nx ⟨is, xs, sz, (H247.pick (t := 0) rfl (H247.pick (t := 1) rfl (H247.pick (t := 4) rfl (H247.pick (t := 5) rfl (H247.pick (t := 6) rfl (H247.pick (t := 7) rfl H247.nil)))))), O242.sel [1, 2, 3, 4, 5, 6] (by decide), ?_, ?_, ?_⟩
        ·
         exact hxs
        ·
         exact hsc.symm.trans (by first | exact scan_stop1 hok | exact scan_stop2 hok hen168 | exact scan_stop3 hok hen168 hhas)
        ·
         exact hsz
       ·
        have H248 := H245.subst_ (d := 60) (b := false) rfl hb246
        clear H245
        (try simp only [Bool.not_eq_true] at hb246)
        have hhas := hb246
        have hno := none_key hxs hhas
        refine wp_skip ?_
        refine gw_nx (hK223 _ _ ?_)
        refine gw_seq fun K249 hK249 => ?_
        have O250 := O242.pin 6 rfl
        clear O242
        have O251 : Own w0 w238 [Chunk.row (Kd.int .u8) 5 w0.heap.size S129 (.slice A127 (((Pure.splitOf (((readD nm d).1).drop sz.toNat)).1).length) c128) ((Pure.splitOf (((readD nm d).1).drop sz.toNat)).1), R, Chunk.disk w0.heap.size gd S1 d1, Bk g19 [.pointer (some ⟨gd, 0, none⟩), .string nm, .map (some g11), J sz] 79, Chunk.lmap Tryz.prog 2 g11 (xs.map XJ.ent), Chunk.jrows w0.heap.size xs, Chunk.viewAt w238 (Kd.int .u8) S36 A34 (((readD nm d).1).length) c35 ((readD nm d).1)] := O250
        clear O250
        refine gx_draw (M := [Chunk.row (Kd.int .u8) 5 w0.heap.size S129 (.slice A127 (((Pure.splitOf (((readD nm d).1).drop sz.toNat)).1).length) c128) ((Pure.splitOf (((readD nm d).1).drop sz.toNat)).1), R, Chunk.disk w0.heap.size gd S1 d1, Bk g19 [.pointer (some ⟨gd, 0, none⟩), .string nm, .map (some g11), J sz] 79, Chunk.lmap Tryz.prog 2 g11 (xs.map XJ.ent), Chunk.jrows w0.heap.size xs, Chunk.viewAt w238 (Kd.int .u8) S36 A34 (((readD nm d).1).length) c35 ((readD nm d).1)]) (fun j_ => j_ == 7) O251 (by kernel_rfl) fun w252 O253 => ?_
        clear O251
        refine gx_take 0 rfl (by kernel_rfl) H248 (by exact O253.sel [0, 1, 2, 3, 4, 5, 6] (by decide)) (want_none rfl) rfl (by decide) (fun wq HO => (op_move rfl (H248.ev rfl))) ?_
        intro _ H255; clear H248
        refine gx_take 1 rfl (by kernel_rfl) H255 (by exact O253.sel [0, 1, 2, 3, 4, 5, 6] (by decide)) (want_none rfl) rfl (by decide) (fun wq HO => (op_nil rfl (H255.ev rfl))) ?_
        intro _ H257; clear H255
        refine gx_take 2 rfl (by kernel_rfl) H257 (by exact O253.sel [0, 1, 2, 3, 4, 5, 6] (by decide)) (want_none rfl) rfl (by decide) (fun wq HO => (op_field (gwfld79_2 _ _) rfl (H257.ev rfl))) ?_
        intro _ H259; clear H257
        refine gx_take 3 rfl (by kernel_rfl) H259 (by exact O253.sel [0, 1, 2, 3, 4, 5, 6] (by decide)) (want_none rfl) rfl (by decide) (fun wq HO => (op_load1 gwagg77 rfl (H259.ev rfl) (blk_at (HO.get 3 rfl) rfl))) ?_
        intro _ H261; clear H259
        refine gx_take 4 rfl (by kernel_rfl) H261 (by exact O253.sel [0, 1, 2, 3, 4, 5, 6] (by decide)) (want_none rfl) rfl (by decide) (fun wq HO => (op_move rfl (H261.ev rfl))) ?_
        intro _ H263; clear H261
        refine gx_take 5 rfl (by kernel_rfl) H263 (by exact O253.sel [0, 1, 2, 3, 4, 5, 6] (by decide)) (want_none rfl) rfl (by decide) (fun wq HO => (op_move rfl (H263.ev rfl))) ?_
        intro _ H265; clear H263
        refine gx_step 6 rfl (by kernel_rfl) ?_
        refine gw_call H265 (want_none rfl) rfl (by decide) (op_callL Tryz.func34 (by kernel_rfl) rfl rfl (ar_cons (H265.ev rfl) ar_nil)) (clone0 A166 c167 (((Pure.splitOf (((readD nm d).1).drop sz.toNat)).1).drop kk165) _ (hC169 _ (Kd.R_reads' (O253.get 0 rfl)).2.2) hc170 (by have h_ := split_len ((readD nm d).1.drop sz.toNat); simp only [List.length_drop] at *; omega)) ?_
        rintro e269 w270 ⟨A266, c267, S268, rfl, hb271⟩
        refine ⟨_, rfl, fun _ H273 => ?_⟩
        have O274 := O253.fresh hb271
        have hbel275 := O253.below
        clear H265 O253 hb271
        have O276 := O274.lowrow 0 rfl (base' := w0.heap.size) (Below.size hbel275)
        refine gx_on (i := 6) (B := (fun j_ => j_ == 7)) (fun _ => (by exact O276.sel [1, 2, 3, 4, 5, 6, 7] (by decide))) ?_
        refine gx_step 7 rfl (by kernel_rfl) ?_
        refine gw_mput 5 (Go.Maps.int_keyed Tryz.underlying2) Tryz.underlying77 H273 O276 rfl (want_none rfl) rfl rfl (H273.ev rfl) (H273.ev rfl) (H273.ev rfl) (Go.Maps.keyOf_int_mk Tryz.underlying2 (wf_i64 (by omega))) (by rw [List.length_map]; omega) ?_
        intro _ w278 H279 O280; clear H273 O276
        have O281 : Own w0 w278 [Chunk.row (Kd.int .u8) 5 w0.heap.size S268 (.slice A266 ((((Pure.splitOf (((readD nm d).1).drop sz.toNat)).1).drop kk165).length) c267) (((Pure.splitOf (((readD nm d).1).drop sz.toNat)).1).drop kk165), Chunk.row (Kd.int .u8) 5 w0.heap.size S129 (.slice A127 (((Pure.splitOf (((readD nm d).1).drop sz.toNat)).1).length) c128) ((Pure.splitOf (((readD nm d).1).drop sz.toNat)).1), R, Chunk.disk w0.heap.size gd S1 d1, Bk g19 [.pointer (some ⟨gd, 0, none⟩), .string nm, .map (some g11), J sz] 79, Chunk.lmap Tryz.prog 2 g11 (lput (Lit.int .i64 kn164) (.slice A266 ((((Pure.splitOf (((readD nm d).1).drop sz.toNat)).1).drop kk165).length) c267) (xs.map XJ.ent)), Chunk.jrows w0.heap.size xs, Chunk.viewAt w238 (Kd.int .u8) S36 A34 (((readD nm d).1).length) c35 ((readD nm d).1)] := O280
        clear O280
        have elp_ := lput_new (x := (⟨kn164, (Pure.splitOf ((readD nm d).1.drop sz.toNat)).1.drop kk165, A266, c267, S268⟩ : XJ)) (xs := xs) hno
        have O282 : Own w0 w278 [Chunk.row (Kd.int .u8) 5 w0.heap.size S268 (.slice A266 ((((Pure.splitOf (((readD nm d).1).drop sz.toNat)).1).drop kk165).length) c267) (((Pure.splitOf (((readD nm d).1).drop sz.toNat)).1).drop kk165), Chunk.row (Kd.int .u8) 5 w0.heap.size S129 (.slice A127 (((Pure.splitOf (((readD nm d).1).drop sz.toNat)).1).length) c128) ((Pure.splitOf (((readD nm d).1).drop sz.toNat)).1), R, Chunk.disk w0.heap.size gd S1 d1, Bk g19 [.pointer (some ⟨gd, 0, none⟩), .string nm, .map (some g11), J sz] 79, Chunk.lmap Tryz.prog 2 g11 ((insJ (⟨kn164, (Pure.splitOf ((readD nm d).1.drop sz.toNat)).1.drop kk165, A266, c267, S268⟩ : XJ) xs).map XJ.ent), Chunk.jrows w0.heap.size xs, Chunk.viewAt w238 (Kd.int .u8) S36 A34 (((readD nm d).1).length) c35 ((readD nm d).1)] := by have h_ := O281; rw [show lput (Lit.int .i64 kn164) (.slice A266 ((((Pure.splitOf (((readD nm d).1).drop sz.toNat)).1).drop kk165).length) c267) (xs.map XJ.ent) = (insJ (⟨kn164, (Pure.splitOf ((readD nm d).1.drop sz.toNat)).1.drop kk165, A266, c267, S268⟩ : XJ) xs).map XJ.ent from elp_] at h_; exact h_
        refine gx_on (i := 7) (B := (fun j_ => j_ == 7)) (fun h_ => by cases h_) ?_
        refine gx_done (by kernel_rfl) ?_
        refine gw_nx (hK249 _ _ ?_)
        refine wp_region_lit ?_
        refine V H279 (op_move rfl (H279.ev rfl)) ?_
        intro _ H284; clear H279
        refine V H284 (op_nil rfl (H284.ev rfl)) ?_
        intro _ H286; clear H284
        refine V H286 (op_field (gwfld79_3 _ _) rfl (H286.ev rfl)) ?_
        intro _ H288; clear H286
        refine V H288 (op_load1 gwagg3 rfl (H288.ev rfl) (blk_at (O282.get 4 rfl) rfl)) ?_
        intro _ H290; clear H288
        refine V H290 (op_move rfl (H290.ev rfl)) ?_
        intro _ H292; clear H290
        refine V H292 (op_add rfl (H292.ev rfl) (H292.ev rfl) (by omega)) ?_
        intro _ H294; clear H292
        refine V H294 (op_nil rfl (H294.ev rfl)) ?_
        intro _ H296; clear H294
        refine V H296 (op_field (gwfld79_3 _ _) rfl (H296.ev rfl)) ?_
        intro _ H298; clear H296
        refine gw_set 4 H298 O282 rfl (want_none rfl) rfl (op_store1 gwsiz3 rfl (H298.ev rfl) (H298.ev rfl) rfl (blk_at (O282.get 4 rfl) rfl) (blkf (O282.get 4 rfl))) ?_
        intro _ w301 H300 O302; clear H298 O282
        refine wpList_nil ?_
        refine gw_blk ?_
        have O303 := O302.unpin 7 rfl
        clear O302
        have O304 : Own w0 w301 [Chunk.row (Kd.int .u8) 5 w0.heap.size S268 (.slice A266 ((((Pure.splitOf (((readD nm d).1).drop sz.toNat)).1).drop kk165).length) c267) (((Pure.splitOf (((readD nm d).1).drop sz.toNat)).1).drop kk165), Chunk.row (Kd.int .u8) 5 w0.heap.size S129 (.slice A127 (((Pure.splitOf (((readD nm d).1).drop sz.toNat)).1).length) c128) ((Pure.splitOf (((readD nm d).1).drop sz.toNat)).1), R, Chunk.disk w0.heap.size gd S1 d1, Bk g19 [.pointer (some ⟨gd, 0, none⟩), .string nm, .map (some g11), J (sz + ((Pure.splitOf (((readD nm d).1).drop sz.toNat)).2.1))] 79, Chunk.lmap Tryz.prog 2 g11 ((insJ (⟨kn164, (Pure.splitOf ((readD nm d).1.drop sz.toNat)).1.drop kk165, A266, c267, S268⟩ : XJ) xs).map XJ.ent), Chunk.jrows w0.heap.size xs, Chunk.view (Kd.int .u8) S36 A34 (((readD nm d).1).length) c35 ((readD nm d).1)] := O303
        clear O303
        have O305 := Own.jrow_in (x := (⟨kn164, (Pure.splitOf ((readD nm d).1.drop sz.toNat)).1.drop kk165, A266, c267, S268⟩ : XJ)) (xs := xs) (by exact O304.sel [0, 6, 1, 2, 3, 4, 5, 7] (by decide))
        refine gw_nx ⟨_, ?_, (is ++ [(kn164, (Pure.splitOf ((readD nm d).1.drop sz.toNat)).1.drop kk165)]), (insJ (⟨kn164, (Pure.splitOf ((readD nm d).1.drop sz.toNat)).1.drop kk165, A266, c267, S268⟩ : XJ) xs), (sz + (Pure.splitOf ((readD nm d).1.drop sz.toNat)).2.1), (f - 1), (H300.pick (t := 0) rfl (H300.pick (t := 1) rfl (H300.pick (t := 4) rfl (H300.pick (t := 5) rfl (H300.pick (t := 6) rfl (H300.pick (t := 7) rfl H300.nil)))))), O305.sel [2, 3, 4, 5, 0, 6] (by decide), ?_, ?_, ?_, ?_, ?_, rfl⟩
        ·
         rw [hm107]; omega
        ·
         exact ins_items hxs
        ·
         rw [← hsc, scan_go (by omega) hok hen168 hhas, List.drop_drop]; congr 2; omega
        ·
         omega
        ·
         omega
        ·
         rw [List.length_append, List.length_singleton]; omega
   ·
    rintro _ w307 ⟨is, xs, sz, H308, O309, hxs, hsc, hsz⟩
    refine gw_seq fun K310 hK310 => ?_
    refine gR fun K311 hK311 => ?_
    refine V H308 (op_move rfl (H308.ev rfl)) ?_
    intro _ H313; clear H308
    refine V H313 (op_nil rfl (H313.ev rfl)) ?_
    intro _ H315; clear H313
    refine V H315 (op_field (gwfld79_3 _ _) rfl (H315.ev rfl)) ?_
    intro _ H317; clear H315
    refine V H317 (op_load1 gwagg3 rfl (H317.ev rfl) (blk_at (O309.get 2 rfl) rfl)) ?_
    intro _ H319; clear H317
    refine V H319 (op_move rfl (H319.ev rfl)) ?_
    intro _ H321; clear H319
    refine V H321 (op_len Tryz.underlying22 rfl (H321.ev rfl)) ?_
    intro _ H323; clear H321
    refine V H323 (op_lss rfl (H323.ev rfl) (H323.ev rfl)) ?_
    intro _ H325; clear H323
    refine gE hK311 ?_
    refine gw_cond H325 rfl (fun hb326 => ?_) (fun hb326 => ?_)
    ·
     have H327 := H325.subst_ (d := 82) (b := true) rfl hb326
     clear H325
     (try simp only [decide_eq_true_eq] at hb326)
     have hlt := hb326
     refine gR fun K328 hK328 => ?_
     refine V H327 (op_move rfl (H327.ev rfl)) ?_
     intro _ H330; clear H327
     refine V H330 (op_move rfl (H330.ev rfl)) ?_
     intro _ H332; clear H330
     refine V H332 (op_move rfl (H332.ev rfl)) ?_
     intro _ H334; clear H332
     refine V H334 (op_nil rfl (H334.ev rfl)) ?_
     intro _ H336; clear H334
     refine V H336 (op_field (gwfld79_3 _ _) rfl (H336.ev rfl)) ?_
     intro _ H338; clear H336
     refine V H338 (op_load1 gwagg3 rfl (H338.ev rfl) (blk_at (O309.get 2 rfl) rfl)) ?_
     intro _ H340; clear H338
     have O349 : Own w0 _ [(Chunk.all [R, Bk g19 [.pointer (some ⟨gd, 0, none⟩), .string nm, .map (some g11), J sz] 79, Chunk.lmap Tryz.prog 2 g11 (xs.map XJ.ent), Chunk.jrows w0.heap.size xs, Chunk.view (Kd.int .u8) S36 A34 (((readD nm d).1).length) c35 ((readD nm d).1)]), Chunk.disk w0.heap.size gd S1 d1] := Own.bundle (O309.sel [0, 2, 3, 4, 5, 1] (by decide))
     refine gw_call H340 (want_none rfl) rfl (by decide) (op_callL Tryz.func35 (by kernel_rfl) rfl rfl (ar_cons (H340.ev rfl) (ar_cons (H340.ev rfl) (ar_cons (H340.ev rfl) ar_nil)))) (cut_calls w0 _ (Chunk.all [R, Bk g19 [.pointer (some ⟨gd, 0, none⟩), .string nm, .map (some g11), J sz] 79, Chunk.lmap Tryz.prog 2 g11 (xs.map XJ.ent), Chunk.jrows w0.heap.size xs, Chunk.view (Kd.int .u8) S36 A34 (((readD nm d).1).length) c35 ((readD nm d).1)]) gd S1 d1 nm sz hw1 hn (by exact O349)) ?_
     rintro e343 w344 ⟨rfl, S341, hb345⟩
     refine ⟨_, rfl, fun _ H347 => ?_⟩
     have O348 : Own w0 w344 [R, Bk g19 [.pointer (some ⟨gd, 0, none⟩), .string nm, .map (some g11), J sz] 79, Chunk.lmap Tryz.prog 2 g11 (xs.map XJ.ent), Chunk.jrows w0.heap.size xs, Chunk.view (Kd.int .u8) S36 A34 (((readD nm d).1).length) c35 ((readD nm d).1), Chunk.disk w0.heap.size gd S341 ((cutD nm sz d1).1)] := Own.unbundle (hb345.sel [0, 1] (by decide))
     clear O349
     clear H340 O309 hb345
     have hwf342 : wfD ((cutD nm sz d1).1) := wf_cut hw1
     refine V H347 (op_assign rfl (H347.ev rfl)) ?_
     intro _ H352; clear H347
     refine gE hK328 ?_
     refine gR fun K353 hK353 => ?_
     refine V H352 (op_move rfl (H352.ev rfl)) ?_
     intro _ H355; clear H352
     refine V H355 (op_nei rfl (H355.ev rfl) (ev_c _ _)) ?_
     intro _ H357; clear H355
     refine gE hK353 ?_
     refine gw_cond H357 rfl (fun hb358 => ?_) (fun hb358 => ?_)
     ·
      have H359 := H357.subst_ (d := 91) (b := true) rfl hb358
      clear H357
      (try simp only [decide_eq_true_eq, ne_eq] at hb358)
      have hne := hb358
      refine gR fun K360 hK360 => ?_
      refine V H359 (op_move rfl (H359.ev rfl)) ?_
      intro _ H362; clear H359
      refine V H362 (op_assign rfl (ev_c _ _)) ?_
      intro _ H364; clear H362
      refine V H364 (op_assign rfl (H364.ev rfl)) ?_
      intro _ H366; clear H364
      refine gE hK360 ?_
      refine wp_ret ?_
      refine gw_thr ?_
      refine gw_ret2 H366 rfl rfl rfl ?_
      rw [open2 hpre he8 hsc hlt hne]
      exact .inl ⟨rfl, by first | exact hne | (show _ ≠ _; exact hne), _, O348.sel [0, 5] (by decide)⟩
     ·
      have H367 := H357.subst_ (d := 91) (b := false) rfl hb358
      clear H357
      (try simp only [decide_eq_false_iff_not, ne_eq, Decidable.not_not] at hb358)
      have hcu := hb358
      refine wp_skip ?_
      refine gw_nx (hK310 _ _ ?_)
      refine gw_seq fun K368 hK368 => ?_
      refine gR fun K369 hK369 => ?_
      refine V H367 (op_move rfl (H367.ev rfl)) ?_
      intro _ H371; clear H367
      refine V H371 (op_move rfl (H371.ev rfl)) ?_
      intro _ H373; clear H371
      have O382 : Own w0 _ [(Chunk.all [R, Bk g19 [.pointer (some ⟨gd, 0, none⟩), .string nm, .map (some g11), J sz] 79, Chunk.lmap Tryz.prog 2 g11 (xs.map XJ.ent), Chunk.jrows w0.heap.size xs, Chunk.view (Kd.int .u8) S36 A34 (((readD nm d).1).length) c35 ((readD nm d).1)]), Chunk.disk w0.heap.size gd S341 ((cutD nm sz d1).1)] := Own.bundle (O348.sel [0, 1, 2, 3, 4, 5] (by decide))
      refine gw_call H373 (want_none rfl) rfl (by decide) (op_callL Tryz.func36 (by kernel_rfl) rfl rfl (ar_cons (H373.ev rfl) (ar_cons (H373.ev rfl) ar_nil))) (sync_calls w0 _ (Chunk.all [R, Bk g19 [.pointer (some ⟨gd, 0, none⟩), .string nm, .map (some g11), J sz] 79, Chunk.lmap Tryz.prog 2 g11 (xs.map XJ.ent), Chunk.jrows w0.heap.size xs, Chunk.view (Kd.int .u8) S36 A34 (((readD nm d).1).length) c35 ((readD nm d).1)]) gd S341 ((cutD nm sz d1).1) nm hwf342 hn (by exact O382)) ?_
      rintro e376 w377 ⟨rfl, S374, hb378⟩
      refine ⟨_, rfl, fun _ H380 => ?_⟩
      have O381 : Own w0 w377 [R, Bk g19 [.pointer (some ⟨gd, 0, none⟩), .string nm, .map (some g11), J sz] 79, Chunk.lmap Tryz.prog 2 g11 (xs.map XJ.ent), Chunk.jrows w0.heap.size xs, Chunk.view (Kd.int .u8) S36 A34 (((readD nm d).1).length) c35 ((readD nm d).1), Chunk.disk w0.heap.size gd S374 ((syncD nm ((cutD nm sz d1).1)).1)] := Own.unbundle (hb378.sel [0, 1] (by decide))
      clear O382
      clear H373 O348 hb378
      have hwf375 : wfD ((syncD nm ((cutD nm sz d1).1)).1) := wf_sync hwf342
      refine V H380 (op_assign rfl (H380.ev rfl)) ?_
      intro _ H385; clear H380
      refine gE hK369 ?_
      refine gR fun K386 hK386 => ?_
      refine V H385 (op_move rfl (H385.ev rfl)) ?_
      intro _ H388; clear H385
      refine V H388 (op_nei rfl (H388.ev rfl) (ev_c _ _)) ?_
      intro _ H390; clear H388
      refine gE hK386 ?_
      refine gw_cond H390 rfl (fun hb391 => ?_) (fun hb391 => ?_)
      ·
       have H392 := H390.subst_ (d := 97) (b := true) rfl hb391
       clear H390
       (try simp only [decide_eq_true_eq, ne_eq] at hb391)
       have hne := hb391
       refine gR fun K393 hK393 => ?_
       refine V H392 (op_move rfl (H392.ev rfl)) ?_
       intro _ H395; clear H392
       refine V H395 (op_assign rfl (ev_c _ _)) ?_
       intro _ H397; clear H395
       refine V H397 (op_assign rfl (H397.ev rfl)) ?_
       intro _ H399; clear H397
       refine gE hK393 ?_
       refine wp_ret ?_
       refine gw_thr ?_
       refine gw_ret2 H399 rfl rfl rfl ?_
       rw [open3 hpre he8 hsc hlt hcu]
       exact .inl ⟨rfl, by first | exact hne | (show _ ≠ _; exact hne), _, O381.sel [0, 5] (by decide)⟩
      ·
       have H400 := H390.subst_ (d := 97) (b := false) rfl hb391
       clear H390
       (try simp only [decide_eq_false_iff_not, ne_eq, Decidable.not_not] at hb391)
       have hsy := hb391
       refine wp_skip ?_
       refine gw_nx (hK368 _ _ ?_)
       refine gR fun K401 hK401 => ?_
       refine V H400 (op_move rfl (H400.ev rfl)) ?_
       intro _ H403; clear H400
       refine V H403 (op_assign rfl (H403.ev rfl)) ?_
       intro _ H405; clear H403
       refine V H405 (op_assign rfl (ev_c _ _)) ?_
       intro _ H407; clear H405
       refine gE hK401 ?_
       refine wp_ret ?_
       refine gw_ret2 H407 rfl rfl rfl ?_
       obtain ⟨SJ', HOj⟩ := jour_close2 (xs := xs) hxs (by exact O381.sel [0, 5, 1, 2, 3] (by decide))
       rw [open3 hpre he8 hsc hlt hcu]
       exact .inr ⟨hsy, _, SJ', _, rfl, HOj⟩
    ·
     have H408 := H325.subst_ (d := 82) (b := false) rfl hb326
     clear H325
     (try simp only [decide_eq_false_iff_not, Int.not_lt] at hb326)
     have hlt : ¬ sz < ((readD nm d).1.length : Int) := by omega
     refine wp_skip ?_
     refine gw_nx (hK310 _ _ ?_)
     refine gw_seq fun K409 hK409 => ?_
     refine gR fun K410 hK410 => ?_
     refine V H408 (op_move rfl (H408.ev rfl)) ?_
     intro _ H412; clear H408
     refine V H412 (op_move rfl (H412.ev rfl)) ?_
     intro _ H414; clear H412
     have O423 : Own w0 _ [(Chunk.all [R, Bk g19 [.pointer (some ⟨gd, 0, none⟩), .string nm, .map (some g11), J sz] 79, Chunk.lmap Tryz.prog 2 g11 (xs.map XJ.ent), Chunk.jrows w0.heap.size xs, Chunk.view (Kd.int .u8) S36 A34 (((readD nm d).1).length) c35 ((readD nm d).1)]), Chunk.disk w0.heap.size gd S1 d1] := Own.bundle (O309.sel [0, 2, 3, 4, 5, 1] (by decide))
     refine gw_call H414 (want_none rfl) rfl (by decide) (op_callL Tryz.func36 (by kernel_rfl) rfl rfl (ar_cons (H414.ev rfl) (ar_cons (H414.ev rfl) ar_nil))) (sync_calls w0 _ (Chunk.all [R, Bk g19 [.pointer (some ⟨gd, 0, none⟩), .string nm, .map (some g11), J sz] 79, Chunk.lmap Tryz.prog 2 g11 (xs.map XJ.ent), Chunk.jrows w0.heap.size xs, Chunk.view (Kd.int .u8) S36 A34 (((readD nm d).1).length) c35 ((readD nm d).1)]) gd S1 d1 nm hw1 hn (by exact O423)) ?_
     rintro e417 w418 ⟨rfl, S415, hb419⟩
     refine ⟨_, rfl, fun _ H421 => ?_⟩
     have O422 : Own w0 w418 [R, Bk g19 [.pointer (some ⟨gd, 0, none⟩), .string nm, .map (some g11), J sz] 79, Chunk.lmap Tryz.prog 2 g11 (xs.map XJ.ent), Chunk.jrows w0.heap.size xs, Chunk.view (Kd.int .u8) S36 A34 (((readD nm d).1).length) c35 ((readD nm d).1), Chunk.disk w0.heap.size gd S415 ((syncD nm d1).1)] := Own.unbundle (hb419.sel [0, 1] (by decide))
     clear O423
     clear H414 O309 hb419
     have hwf416 : wfD ((syncD nm d1).1) := wf_sync hw1
     refine V H421 (op_assign rfl (H421.ev rfl)) ?_
     intro _ H426; clear H421
     refine gE hK410 ?_
     refine gR fun K427 hK427 => ?_
     refine V H426 (op_move rfl (H426.ev rfl)) ?_
     intro _ H429; clear H426
     refine V H429 (op_nei rfl (H429.ev rfl) (ev_c _ _)) ?_
     intro _ H431; clear H429
     refine gE hK427 ?_
     refine gw_cond H431 rfl (fun hb432 => ?_) (fun hb432 => ?_)
     ·
      have H433 := H431.subst_ (d := 97) (b := true) rfl hb432
      clear H431
      (try simp only [decide_eq_true_eq, ne_eq] at hb432)
      have hne := hb432
      refine gR fun K434 hK434 => ?_
      refine V H433 (op_move rfl (H433.ev rfl)) ?_
      intro _ H436; clear H433
      refine V H436 (op_assign rfl (ev_c _ _)) ?_
      intro _ H438; clear H436
      refine V H438 (op_assign rfl (H438.ev rfl)) ?_
      intro _ H440; clear H438
      refine gE hK434 ?_
      refine wp_ret ?_
      refine gw_thr ?_
      refine gw_ret2 H440 rfl rfl rfl ?_
      rw [open4 hpre he8 hsc hlt]
      exact .inl ⟨rfl, by first | exact hne | (show _ ≠ _; exact hne), _, O422.sel [0, 5] (by decide)⟩
     ·
      have H441 := H431.subst_ (d := 97) (b := false) rfl hb432
      clear H431
      (try simp only [decide_eq_false_iff_not, ne_eq, Decidable.not_not] at hb432)
      have hsy := hb432
      refine wp_skip ?_
      refine gw_nx (hK409 _ _ ?_)
      refine gR fun K442 hK442 => ?_
      refine V H441 (op_move rfl (H441.ev rfl)) ?_
      intro _ H444; clear H441
      refine V H444 (op_assign rfl (H444.ev rfl)) ?_
      intro _ H446; clear H444
      refine V H446 (op_assign rfl (ev_c _ _)) ?_
      intro _ H448; clear H446
      refine gE hK442 ?_
      refine wp_ret ?_
      refine gw_ret2 H448 rfl rfl rfl ?_
      obtain ⟨SJ', HOj⟩ := jour_close2 (xs := xs) hxs (by exact O422.sel [0, 5, 1, 2, 3] (by decide))
      rw [open4 hpre he8 hsc hlt]
      exact .inr ⟨hsy, _, SJ', _, rfl, HOj⟩
end GJour3_
export GJour3_ (open_calls)
end Go.Proofs.YtkdahjnmldeklaaGreat.PA
end
section
namespace Go.Proofs.YtkdahjnmldeklaaGreat.PA
open Go.RowKit Go.Maps Go.Sort Go.Proofs.YtkdahjnmldeklaaGreatW.PrintWords Go.Proofs.YtkdahjnmldeklaaGreatW.PrintLast Go.Proofs.YtkdahjnmldeklaaGreatW.PrintMore
set_option linter.unusedVariables false
set_option linter.unusedSimpArgs false
section
variable {w0 w : World} {R : Chunk} {gd gj : Nat} {S SJ : Nat → Prop} {d d2 : PD} {nm : ByteArray} {is is2 : List PI} {size sz2 c key : Int} {b : List Int}
theorem open_ok (h : openJ nm d = ((d2, 0), (is2, sz2))) (hw : wfD d) (hn : nm.size ≤ 9223372036854775807) (hlen : d.fs.length ≤ 1000000) (hus : d.used ≤ 1000000) (hbb : ByteL (readD nm d).1) (HO : Own w0 w [R, Chunk.disk w0.heap.size gd S d]) :
    Calls Tryz.prog 9 #[.pointer (some ⟨gd, 0, none⟩), .string nm] w fun e w' => ∃ gj SJ S', e = .returned (.tuple #[.pointer (some ⟨gj, 0, none⟩), .int .i64 0]) ∧ Own w0 w' [R, Chunk.disk w0.heap.size gd S' d2, Chunk.jour w0.heap.size gd gj nm SJ is2 sz2] := by
  refine (open_calls w0 w R gd S d nm hw hn hlen hus hbb HO).mono ?_
  rw [h]
  rintro e w' (⟨_, h2, _⟩ | ⟨_, h2⟩)
  · exact absurd rfl h2
  · exact h2
theorem jsync_is (h : syncD nm d = (d2, c)) (hw : wfD d) (hn : nm.size ≤ 9223372036854775807) (HO : Own w0 w [R, Chunk.disk w0.heap.size gd S d, Chunk.jour w0.heap.size gd gj nm SJ is size]) :
    Calls Tryz.prog 17 #[.pointer (some ⟨gj, 0, none⟩)] w fun e w' => e = .returned (.int .i64 c) ∧ ∃ S' SJ', Own w0 w' [R, Chunk.disk w0.heap.size gd S' d2, Chunk.jour w0.heap.size gd gj nm SJ' is size] := by
  have := jsync_calls w0 w R gd gj S SJ d nm is size hw hn HO
  rw [h] at this
  exact this
theorem put_is {Ab : Option Addr} {cb : Nat} (h : putJ nm key b is size d = ((d2, c), (is2, sz2))) (hw : wfD d) (hn : nm.size ≤ 9223372036854775807) (hkw : (Lit.int .i64 key).wf = true) (hy : ∀ w1, Own w0 w1 [R] → Kd.C (Kd.int .u8) w1 Ab b.length b) (hcy : b.length ≤ cb) (hbb : ByteL b) (hbl : b.length ≤ 900000) (hroom : d.used ≤ 1000000) (his : is.length ≤ 1000000) (hsz : 0 ≤ size ∧ size ≤ 140737488355327) (HO : Own w0 w [R, Chunk.disk w0.heap.size gd S d, Chunk.jour w0.heap.size gd gj nm SJ is size]) :
    Calls Tryz.prog 15 #[.pointer (some ⟨gj, 0, none⟩), .int .i64 key, .slice Ab b.length cb] w fun e w' => e = .returned (.int .i64 c) ∧ ∃ S' SJ', Own w0 w' [R, Chunk.disk w0.heap.size gd S' d2, Chunk.jour w0.heap.size gd gj nm SJ' is2 sz2] := by
  have := put_calls w0 w R gd gj S SJ d nm is size hw hn key hkw Ab cb b hy hcy hbb hbl (by have h1 := recI_len (key, b); have h2 := encN_len key; simp only at h1; omega) his hsz HO
  rw [h] at this
  exact this
theorem put_nil (h : putJ nm key [] is size d = ((d2, c), (is2, sz2))) (hw : wfD d) (hn : nm.size ≤ 9223372036854775807) (hkw : (Lit.int .i64 key).wf = true) (hroom : d.used ≤ 1000000) (his : is.length ≤ 1000000) (hsz : 0 ≤ size ∧ size ≤ 140737488355327) (HO : Own w0 w [R, Chunk.disk w0.heap.size gd S d, Chunk.jour w0.heap.size gd gj nm SJ is size]) :
    Calls Tryz.prog 15 #[.pointer (some ⟨gj, 0, none⟩), .int .i64 key, .slice none 0 0] w fun e w' => e = .returned (.int .i64 c) ∧ ∃ S' SJ', Own w0 w' [R, Chunk.disk w0.heap.size gd S' d2, Chunk.jour w0.heap.size gd gj nm SJ' is2 sz2] :=
  put_is (Ab := none) (cb := 0) (b := []) h hw hn hkw (fun w1 _ => Kd.C_nil _ _) (Nat.le_refl _) (fun x hx => by simp at hx) (Nat.zero_le _) hroom his hsz HO
theorem wf_pre (hw : wfD d) : wfD (preJ nm d).1 := by
  unfold preJ
  split
  · exact wf_create hw
  · exact hw
theorem wf_open (hw : wfD d) : wfD (openJ nm d).1.1 := by
  unfold openJ
  split
  · exact wf_pre hw
  · simp only
    have hc : wfD (if (scanJ (readD nm d).1).2 < ((readD nm d).1.length : Int) then cutD nm (scanJ (readD nm d).1).2 (preJ nm d).1 else ((preJ nm d).1, 0)).1 := by
      split
      · exact wf_cut (wf_pre hw)
      · exact wf_pre hw
    generalize (if (scanJ (readD nm d).1).2 < ((readD nm d).1.length : Int) then cutD nm (scanJ (readD nm d).1).2 (preJ nm d).1 else ((preJ nm d).1, 0)) = cc at hc ⊢
    split
    · exact hc
    · exact wf_sync hc
theorem wf_put (hw : wfD d) : wfD (putJ nm key b is size d).1.1 := by
  unfold putJ
  split
  · exact hw
  · split
    · exact hw
    · split
      · exact hw
      · exact wf_append hw
theorem wf_open' (h : openJ nm d = ((d2, c), (is2, sz2))) (hw : wfD d) : wfD d2 := by have := wf_open (nm := nm) hw; rw [h] at this; exact this
theorem wf_put' (h : putJ nm key b is size d = ((d2, c), (is2, sz2))) (hw : wfD d) : wfD d2 := by have := wf_put (nm := nm) (key := key) (b := b) (is := is) (size := size) hw; rw [h] at this; exact this
theorem wf_sync' (h : syncD nm d = (d2, c)) (hw : wfD d) : wfD d2 := by have := wf_sync (nm := nm) hw; rw [h] at this; exact this
end
end Go.Proofs.YtkdahjnmldeklaaGreat.PA
end
section
namespace Go.Proofs.YtkdahjnmldeklaaGreat.PA
open Go.RowKit Go.Maps Go.Proofs.YtkdahjnmldeklaaGreatW.PrintWords Go.Proofs.YtkdahjnmldeklaaGreatW.PrintLast Go.Proofs.YtkdahjnmldeklaaGreatW.PrintMore
set_option linter.unusedVariables false
set_option linter.unusedSimpArgs false
section
variable {w0 w w' wp : World} {P S : Nat → Prop} {A Ai : Option Addr} {c ci : Nat} {files : List SFile} {its : List SItem} {L : List Chunk} {i : Nat}
def Chunk.rj (w0 : World) (P S : Nat → Prop) (A : Option Addr) (c : Nat) (files : List SFile) (Ai : Option Addr) (ci : Nat) (its : List SItem) : Chunk :=
  ⟨S, fun w => (∀ W', (∀ k, P k → W'.heap[k]? = w0.heap[k]?) → (∀ k, S k → W'.heap[k]? = w.heap[k]?) → Kd.C kFile W' A files.length files ∧ Kd.C kItem W' Ai its.length its) ∧ (files.length ≤ c ∧ ∀ ad, A = some ad → P ad.block ∨ S ad.block) ∧ (its.length ≤ ci ∧ ∀ ad, Ai = some ad → P ad.block ∨ S ad.block), fun h hm => ⟨fun W' h1 h2 => h.1 W' h1 fun k hk => (h2 k hk).trans (hm k hk), h.2⟩⟩
theorem rj_both (HO : Own w0 w L) (hP : ∀ k, P k → k < w0.heap.size) (hi : L[i]? = some (Chunk.rj w0 P S A c files Ai ci its)) : Kd.F kFile w (fun k => P k ∨ S k) A files.length files ∧ Kd.F kItem w (fun k => P k ∨ S k) Ai its.length its := by
  have h : ∀ W', (∀ k, (P k ∨ S k) → k < w.heap.size → W'.heap[k]? = w.heap[k]?) → Kd.C kFile W' A files.length files ∧ Kd.C kItem W' Ai its.length its := fun W' hW =>
    (HO.get i hi).1 W' (fun k hk => (hW k (.inl hk) (Nat.lt_of_lt_of_le (hP k hk) HO.below.size)).trans (HO.below.block k (hP k hk))) fun k hk => hW k (.inr hk) (HO.lt i hi hk).2
  exact ⟨fun W' hW => (h W' hW).1, fun W' hW => (h W' hW).2⟩
theorem rj_F (HO : Own w0 w L) (hP : ∀ k, P k → k < w0.heap.size) (hi : L[i]? = some (Chunk.rj w0 P S A c files Ai ci its)) : Kd.F kFile w (fun k => P k ∨ S k) A files.length files := (rj_both HO hP hi).1
theorem rj_FI (HO : Own w0 w L) (hP : ∀ k, P k → k < w0.heap.size) (hi : L[i]? = some (Chunk.rj w0 P S A c files Ai ci its)) : Kd.F kItem w (fun k => P k ∨ S k) Ai its.length its := (rj_both HO hP hi).2
theorem rj_lt (HO : Own w0 w L) (hP : ∀ k, P k → k < w0.heap.size) (hi : L[i]? = some (Chunk.rj w0 P S A c files Ai ci its)) : ∀ k, (P k ∨ S k) → k < w.heap.size := fun k hk => hk.elim (fun h => Nat.lt_of_lt_of_le (hP k h) HO.below.size) fun h => (HO.lt i hi h).2
theorem rj_out (HO : Own w0 w L) (hP : ∀ k, P k → k < w0.heap.size) (hb : Below w.heap.size w w') (hS : ∀ k, S k → k < w.heap.size) (h1 : Led (fun k => P k ∨ S k) w w' kFile A files.length c files) (h2 : Led (fun k => P k ∨ S k) w w' kItem Ai its.length ci its) :
    Out w w' S [Chunk.rj w0 P (fun k => (S k ∨ w.heap.size ≤ k) ∧ k < w'.heap.size) A c files Ai ci its] := by
  have hPw : ∀ k, P k → k < w.heap.size := fun k hk => Nat.lt_of_lt_of_le (hP k hk) HO.below.size
  have hag : ∀ W' : World, (∀ k, P k → W'.heap[k]? = w0.heap[k]?) → (∀ k, (S k ∨ w.heap.size ≤ k) ∧ k < w'.heap.size → W'.heap[k]? = w'.heap[k]?) → ∀ k, ((P k ∨ S k) ∨ w.heap.size ≤ k) → k < w'.heap.size → W'.heap[k]? = w'.heap[k]? := fun W' h1 h2 k hk hlt => by
    rcases hk with (hk | hk) | hk
    · exact (h1 k hk).trans ((hb.block k (hPw k hk)).trans (HO.below.block k (hP k hk))).symm
    · exact h2 k ⟨.inl hk, hlt⟩
    · exact h2 k ⟨.inr hk, hlt⟩
  have had : ∀ ad : Addr, ((P ad.block ∨ S ad.block) ∨ w.heap.size ≤ ad.block) ∧ ad.block < w'.heap.size → P ad.block ∨ ((S ad.block ∨ w.heap.size ≤ ad.block) ∧ ad.block < w'.heap.size) := fun ad h => by
    rcases h.1 with (h3 | h3) | h3
    · exact .inl h3
    · exact .inr ⟨.inl h3, h.2⟩
    · exact .inr ⟨.inr h3, h.2⟩
  exact Out.one (Out.of_below hb _) (c := Chunk.rj w0 P (fun k => (S k ∨ w.heap.size ≤ k) ∧ k < w'.heap.size) A c files Ai ci its) ⟨fun W' q1 q2 => ⟨h1.1 W' (hag W' q1 q2), h2.1 W' (hag W' q1 q2)⟩, ⟨h1.2.1, fun ad e => had ad (h1.2.2 ad e)⟩, h2.2.1, fun ad e => had ad (h2.2.2 ad e)⟩ fun k hk => hk
def Chunk.rjAt (S : Nat → Prop) (wp : World) : Chunk := ⟨S, fun W => ∀ k, S k → W.heap[k]? = wp.heap[k]?, fun h hm k hk => (hm k hk).trans (h k hk)⟩
theorem Own.rj_pin (HO : Own w0 w L) (i : Nat) (hi : L[i]? = some (Chunk.rj w0 P S A c files Ai ci its)) : Own w0 w (L.set i (Chunk.rjAt S w)) :=
  HO.calls (cs := []) i hi (Out.one (Out.refl w _) (c := Chunk.rjAt S w) (fun k hk => rfl) fun k hk => ⟨.inl hk, (HO.lt i hi hk).2⟩)
theorem Own.rj_unpin (HO : Own w0 w L) (i : Nat) (hi : L[i]? = some (Chunk.rjAt S wp)) (hr : (Chunk.rj w0 P S A c files Ai ci its).P wp) : Own w0 w (L.set i (Chunk.rj w0 P S A c files Ai ci its)) :=
  HO.calls (cs := []) i hi (Out.one (Out.refl w _) (c := Chunk.rj w0 P S A c files Ai ci its) ((Chunk.rj w0 P S A c files Ai ci its).move hr (HO.get i hi)) fun k hk => ⟨.inl hk, (HO.lt i hi hk).2⟩)
theorem pin_F {α : Type} {d : Kd α} {n : Nat} {xs : List α} (hB : Below w0.heap.size w0 wp) (HO : Own w0 w L) (hP : ∀ k, P k → k < w0.heap.size) (hi : L[i]? = some (Chunk.rjAt S wp)) (hF : Kd.F d wp (fun k => P k ∨ S k) A n xs) : Kd.F d w (fun k => P k ∨ S k) A n xs :=
  Kd.F_step hF fun k hk _ => hk.elim (fun h => (HO.below.block k (hP k h)).trans (hB.block k (hP k h)).symm) fun h => HO.get i hi k h
theorem pin_back {α : Type} {d : Kd α} {n : Nat} {xs : List α} (hB : Below w0.heap.size w0 wp) (HO : Own w0 w L) (hP : ∀ k, P k → k < w0.heap.size) (hi : L[i]? = some (Chunk.rjAt S wp)) (hF : Kd.F d w (fun k => P k ∨ S k) A n xs) : Kd.F d wp (fun k => P k ∨ S k) A n xs :=
  Kd.F_step hF fun k hk _ => hk.elim (fun h => (hB.block k (hP k h)).trans (HO.below.block k (hP k h)).symm) fun h => (HO.get i hi k h).symm
theorem pin_lt (HO : Own w0 w L) (hP : ∀ k, P k → k < w0.heap.size) (hi : L[i]? = some (Chunk.rjAt S wp)) : ∀ k, (P k ∨ S k) → k < w.heap.size := fun k hk => hk.elim (fun h => Nat.lt_of_lt_of_le (hP k h) HO.below.size) fun h => (HO.lt i hi h).2
end
section
variable {w0 w : World} {P S : Nat → Prop} {L : List Chunk}
theorem open_p (A : Option Addr) (c : Nat) (files : List SFile) (Ai : Option Addr) (ci : Nat) (its : List SItem) (d : PD) (nm : ByteArray) (i : Nat) (hP : ∀ k, P k → k < w0.heap.size) (HO : Own w0 w L) (hi : L[i]? = some (Chunk.rj w0 P S A c files Ai ci its)) (hlf : files.length ≤ 900000) (hd : files.map ofS = d.fs) (hw : wfD d) (hus : d.used ≤ 900000) (hbb : ByteL (readD nm d).1) :
    Calls Tryz.prog 12 #[.agg #[.slice A files.length c, .int .i64 d.most, .int .i64 d.fuse, .bool d.down], .string nm] w fun e w' => ∃ (files' : List SFile) (A' : Option Addr) (c' : Nat) (its' : List SItem) (Ai' : Option Addr) (ci' : Nat) (S' : Nat → Prop), files'.map ofS = (openJ nm d).1.1.fs ∧ ((openJ nm d).1.2 = 0 → its'.map toI = (openJ nm d).2.1) ∧
      e = .returned (.tuple #[.agg #[.slice A' files'.length c', .int .i64 (openJ nm d).1.1.most, .int .i64 (openJ nm d).1.1.fuse, .bool (openJ nm d).1.1.down, .string nm, .slice Ai' its'.length ci'], .int .i64 (openJ nm d).1.2]) ∧ Out w w' S [Chunk.rj w0 P S' A' c' files' Ai' ci' its'] := by
  have hv := HO.get i hi
  refine (open_ref (fun k => P k ∨ S k) A c files d nm w (rj_lt HO hP hi) (rj_F HO hP hi) hv.2.1.1 hv.2.1.2 hlf hd hw hus hbb).mono ?_
  rintro e w' ⟨files', A', c', its', Ai', ci', h1, h2, h3, h4, h5, h6⟩
  exact ⟨files', A', c', its', Ai', ci', _, h1, h2, h3, rj_out HO hP h6 (fun k hk => (HO.lt i hi hk).2) h4 h5⟩
end
section
variable {w0 w wp : World} {P S : Nat → Prop} {L : List Chunk}
theorem get_pin (Ai : Option Addr) (ci : Nat) (its : List SItem) (key : Int) (i : Nat) (hB : Below w0.heap.size w0 wp) (hP : ∀ k, P k → k < w0.heap.size) (HO : Own w0 w L) (hi : L[i]? = some (Chunk.rjAt S wp)) (hF : Kd.F kItem wp (fun k => P k ∨ S k) Ai its.length its) (hc : its.length ≤ ci) (hil : its.length ≤ 1000000) :
    Calls Tryz.prog 43 #[.slice Ai its.length ci, .int .i64 key] w fun e w' => ∃ A' c', e = .returned (.tuple #[.slice A' ((getJ key (its.map toI)).getD []).length c', .bool (hasJ key (its.map toI))]) ∧ Kd.F (Kd.int .u8) wp (fun k => P k ∨ S k) A' ((getJ key (its.map toI)).getD []).length ((getJ key (its.map toI)).getD []) ∧ ((getJ key (its.map toI)).getD []).length ≤ c' ∧ Below w.heap.size w w' := by
  refine (get_refF (fun k => P k ∨ S k) Ai ci its key w (pin_lt HO hP hi) (pin_F hB HO hP hi hF) hc hil).mono ?_
  rintro e w' ⟨A', c', h1, h2, h3, h4⟩
  exact ⟨A', c', h1, pin_back hB HO hP hi h2, h3, h4⟩
theorem read_pin (A : Option Addr) (c : Nat) (files : List SFile) (d : PD) (nm : ByteArray) (i : Nat) (hB : Below w0.heap.size w0 wp) (hP : ∀ k, P k → k < w0.heap.size) (HO : Own w0 w L) (hi : L[i]? = some (Chunk.rjAt S wp)) (hF : Kd.F kFile wp (fun k => P k ∨ S k) A files.length files) (hc : files.length ≤ c) (hlf : files.length ≤ 1000000) (hd : files.map ofS = d.fs) :
    Calls Tryz.prog 37 #[.agg #[.slice A files.length c, .int .i64 d.most, .int .i64 d.fuse, .bool d.down], .string nm] w fun e w' => ∃ A' c', e = .returned (.tuple #[.slice A' (readD nm d).1.length c', .int .i64 (readD nm d).2]) ∧ Kd.F (Kd.int .u8) wp (fun k => P k ∨ S k) A' (readD nm d).1.length (readD nm d).1 ∧ (readD nm d).1.length ≤ c' ∧ Below w.heap.size w w' := by
  refine (read_refF (fun k => P k ∨ S k) A c files d nm w (pin_lt HO hP hi) (pin_F hB HO hP hi hF) hc hlf hd).mono ?_
  rintro e w' ⟨A', c', h1, h2, h3, h4⟩
  exact ⟨A', c', h1, pin_back hB HO hP hi h2, h3, h4⟩
end
theorem key_ok {is : List PI} {ks : List Int} (ho : ∀ x ∈ is, okI x) (hp : ks.Perm (is.map (·.1))) {k : Int} (hk : k ∈ ks) : 0 ≤ k ∧ k ≤ 1099511627776 := by
  obtain ⟨x, hx, rfl⟩ := List.mem_map.1 (hp.mem_iff.1 hk)
  exact (ho x hx).1
theorem key_has {is : List PI} {ks : List Int} (hp : ks.Perm (is.map (·.1))) {k : Int} (hk : k ∈ ks) : hasJ k is = true := by
  obtain ⟨x, hx, rfl⟩ := List.mem_map.1 (hp.mem_iff.1 hk)
  exact hasJ_iff.2 ⟨x, hx, rfl⟩
theorem key_len {is : List PI} (ho : ∀ x ∈ is, okI x) (k : Int) : ((getJ k is).getD []).length ≤ 900000 := by
  unfold getJ
  cases h : is.find? fun x => decide (x.1 = k) with
  | none => exact Nat.zero_le _
  | some x => exact (ho x (List.mem_of_find?_eq_some h)).2.1
end Go.Proofs.YtkdahjnmldeklaaGreat.PA
end
section
namespace Go.Proofs.YtkdahjnmldeklaaGreat.PA
open Go.RowKit Go.Proofs.YtkdahjnmldeklaaGreatW.PrintWords Go.Proofs.YtkdahjnmldeklaaGreatW.PrintLast Go.Proofs.YtkdahjnmldeklaaGreatW.PrintMore
set_option linter.unusedVariables false
set_option linter.unusedSimpArgs false
namespace GRj5_
theorem gwagg2 : ∀ w, (isAgg 2).run Tryz.prog w = .ok false w := fun _ => by kernel_rfl
theorem gwflda54_0 (ad : Addr) : ∀ w, (Instr.fieldAt 54 (.pointer (some ad)) 0).run Tryz.prog w = .ok (.pointer (some (ad.add 0))) w := fun _ => by kernel_rfl
theorem gwinfo2 : (Tryz.prog.info? 2).map (fun i => (i.zero, i.size, i.bytes)) = some (some (.int .i64 0), 1, 8) := by kernel_rfl
theorem gwsiz2 : ∀ w, (sizeOf 2).run Tryz.prog w = .ok 1 w := fun _ => by kernel_rfl
theorem gwsiz54 : ∀ w, (sizeOf 54).run Tryz.prog w = .ok 2 w := fun _ => by kernel_rfl
set_option maxHeartbeats 4000000 in
set_option maxRecDepth 100000 in
theorem keys_ref (Ai : Option Addr) (ci : Nat) (its : List S54) (w : World) (hr : Kd.C k54 w Ai its.length its) (hc : its.length ≤ ci) (hil : its.length ≤ 1000000) (hok : ∀ x ∈ its.map toI, okI x) (hon : onceJ (its.map toI)) :
    Calls Tryz.prog 41 #[.slice Ai its.length ci] w fun e w' => ∃ A c S' ks, ks.Pairwise (fun x y => x < y) ∧ ks.Perm ((its.map toI).map (·.1)) ∧ e = .returned (.slice A ks.length c) ∧ Out w w' (fun _ => False) [Chunk.row (Kd.int .i64) 2 w.heap.size S' (.slice A ks.length c) ks] := by
 refine gw_start (N := 58) (vs := [.slice Ai its.length ci]) Tryz.func41 rfl rfl (by simp) fun a HF HO => ?_
 replace HO : Own w w [] := HO
 refine gR fun K1 hK1 => ?_
 refine V HF (op_assign rfl (ev_c _ _)) ?_
 intro _ H3; clear HF
 refine gE hK1 ?_
 refine gR fun K4 hK4 => ?_
 refine gw_lit (enc := Value.int .i64) (fun _ => rfl) (xs := ([] : List Int)) (e := 2) H3 HO (want_none rfl) rfl (by decide) (op_bslice (by kernel_rfl) rfl pt_nil) (by simp) ?_
 intro A5 S6 _ w8 H9 O10; clear H3 HO
 have O11 : Own w w8 [Chunk.row (Kd.int .i64) 2 w.heap.size S6 (.slice A5 ((([] : List Int)).length) ((([] : List Int)).length)) ([] : List Int)] := O10
 clear O10
 refine V H9 (op_assign rfl (H9.ev rfl)) ?_
 intro _ H13; clear H9
 refine gE hK4 ?_
 refine gw_seq fun K14 hK14 => ?_
 refine wp_block ?_
 refine gw_loop (fun m_ a_ w_ => ∃ (ks : List Int) (Ao : Option Addr) (co : Nat) (Sr : Nat → Prop), Fr 58 a_ [(3, .slice Ao ks.length co), (0, .slice Ai its.length ci), (2, .slice none 0 0)] ∧ Own w w_ [Chunk.row (Kd.int .i64) 2 w.heap.size Sr (.slice Ao ks.length co) ks] ∧ (∃ rest, KeysR its ks rest) ∧ (ks.length ≤ its.length) ∧ m_ = (its.length - ks.length)) ((its.length - ([] : List Int).length)) ?_ ?_
 ·
  refine ⟨[], A5, _, _, (H13.pick (t := 3) rfl (H13.pick (t := 0) rfl (H13.pick (t := 2) rfl H13.nil))), O11.sel [0] (by decide), ?_, ?_, rfl⟩
  ·
   exact ⟨_, keysR0⟩
  ·
   exact Nat.zero_le _
 ·
  rintro m16 _ w18 ⟨ks, Ao, co, Sr, H19, O20, hk, hkl, hm21⟩
  refine gw_seq fun K22 hK22 => ?_
  refine gR fun K23 hK23 => ?_
  refine V H19 (op_move rfl (H19.ev rfl)) ?_
  intro _ H25; clear H19
  refine V H25 (op_len Tryz.underlying67 rfl (H25.ev rfl)) ?_
  intro _ H27; clear H25
  refine V H27 (op_move rfl (H27.ev rfl)) ?_
  intro _ H29; clear H27
  refine V H29 (op_len Tryz.underlying39 rfl (H29.ev rfl)) ?_
  intro _ H31; clear H29
  refine V H31 (op_lss rfl (H31.ev rfl) (H31.ev rfl)) ?_
  intro _ H33; clear H31
  refine gE hK23 ?_
  refine gw_cond H33 rfl (fun hb34 => ?_) (fun hb34 => ?_)
  ·
   have H35 := H33.subst_ (d := 11) (b := true) rfl hb34
   clear H33
   (try simp only [decide_eq_true_eq] at hb34)
   refine wp_skip ?_
   refine gw_nx (hK22 _ _ ?_)
   refine wp_block ?_
   refine gR fun K36 hK36 => ?_
   refine V H35 (op_assign rfl (ev_c _ _)) ?_
   intro _ H38; clear H35
   refine gE hK36 ?_
   refine gw_seq fun K39 hK39 => ?_
   refine gR fun K40 hK40 => ?_
   refine V H38 (op_assign rfl (ev_c _ _)) ?_
   intro _ H42; clear H38
   refine gE hK40 ?_
   refine wp_block ?_
   refine gw_loop (fun m_ a_ w_ => ∃ (i : Int) (best : Int), Fr 58 a_ [(5, J i), (4, J best), (3, .slice Ao ks.length co), (0, .slice Ai its.length ci), (2, .slice none 0 0), (7, .slice Ao ks.length co), (8, J (ks.length : Int)), (9, .slice Ai its.length ci), (10, J (its.length : Int)), (11, .bool true)] ∧ Own w w_ [Chunk.row (Kd.int .i64) 2 w.heap.size Sr (.slice Ao ks.length co) ks] ∧ (0 ≤ i ∧ i ≤ its.length) ∧ (bestK its ks i.toNat best) ∧ m_ = (its.length - i.toNat)) ((its.length - (0 : Int).toNat)) ?_ ?_
   ·
    refine ⟨0, (-1), (H42.pick (t := 5) rfl (H42.pick (t := 4) rfl (H42.pick (t := 3) rfl (H42.pick (t := 0) rfl (H42.pick (t := 2) rfl (H42.pick (t := 7) rfl (H42.pick (t := 8) rfl (H42.pick (t := 9) rfl (H42.pick (t := 10) rfl (H42.pick (t := 11) rfl H42.nil)))))))))), O20.sel [0] (by decide), ?_, ?_, rfl⟩
    ·
     omega
    ·
     exact bestK0
   ·
    rintro m44 _ w46 ⟨i, best, H47, O48, hi, hb, hm49⟩
    refine gw_seq fun K50 hK50 => ?_
    refine gR fun K51 hK51 => ?_
    refine V H47 (op_move rfl (H47.ev rfl)) ?_
    intro _ H53; clear H47
    refine V H53 (op_move rfl (H53.ev rfl)) ?_
    intro _ H55; clear H53
    refine V H55 (op_len Tryz.underlying39 rfl (H55.ev rfl)) ?_
    intro _ H57; clear H55
    refine V H57 (op_lss rfl (H57.ev rfl) (H57.ev rfl)) ?_
    intro _ H59; clear H57
    refine gE hK51 ?_
    refine gw_cond H59 rfl (fun hb60 => ?_) (fun hb60 => ?_)
    ·
     have H61 := H59.subst_ (d := 15) (b := true) rfl hb60
     clear H59
     (try simp only [decide_eq_true_eq] at hb60)
     refine wp_skip ?_
     refine gw_nx (hK50 _ _ ?_)
     refine gw_seq fun K62 hK62 => ?_
     refine wp_block ?_
     refine gw_seq fun K63 hK63 => ?_
     refine gw_drawB O48 (by kernel_rfl) (by kernel_rfl) fun w64 O65 => ?_
     clear O48
     refine gq_ev H61 (want_none rfl) rfl (by decide) (fun wq hq => have HO := O65.after hq; (op_move rfl (H61.ev rfl))) ?_
     intro _ H67; clear H61
     refine gq_ev H67 (want_none rfl) rfl (by decide) (fun wq hq => have HO := O65.after hq; (op_len Tryz.underlying67 rfl (H67.ev rfl))) ?_
     intro _ H69; clear H67
     refine gq_ev H69 (want_none rfl) rfl (by decide) (fun wq hq => have HO := O65.after hq; (op_eqi rfl (H69.ev rfl) (ev_c _ _))) ?_
     intro _ H71; clear H69
     refine gq_ev H71 (want_none rfl) rfl (by decide) (fun wq hq => have HO := O65.after hq; (op_move rfl (H71.ev rfl))) ?_
     intro _ H73; clear H71
     refine gq_evG H73 rfl rfl rfl rfl (on_f _) rfl (by decide) (fun h_ wq hq => have HO := O65.after hq; (op_move rfl (H73.ev rfl))) ?_
     intro _ H75; clear H73
     refine gq_evG H75 rfl rfl rfl rfl (on_f _) rfl (by decide) (fun h_ wq hq => have HO := O65.after hq; (op_move rfl (H75.ev rfl))) ?_
     intro _ H77; clear H75
     obtain ⟨ad81, cs84, hA82, hl85, hK86, hc83⟩ := C_getT hr z54 i (⟨_, k54_mk _ z54 (A1 := none) (c1 := 0) (Nat.le_refl _) (Kd.C_nil _ _)⟩)
     obtain ⟨A87, c88, rfl, hl89, hC90⟩ := k54_open hK86
     clear hl85
     refine gq_evG H77 rfl rfl rfl rfl (on_f _) rfl (by decide) (fun h_ wq hq => have HO := O65.after hq; (op_index Tryz.underlying39 gwsiz54 rfl (ev_gv (H77.ev rfl) h_) (ev_gv (H77.ev rfl) h_) (hA82 ⟨by (try simp only [Bool.and_eq_true, Bool.or_eq_true, Bool.and_eq_false_iff, Bool.or_eq_false_iff, Bool.not_and, Bool.not_or, Bool.not_not, decide_eq_true_eq, decide_eq_false_iff_not, Bool.not_eq_true', Bool.not_eq_false', Bool.not_eq_true, Bool.not_eq_false, ne_eq, Decidable.not_not, Int.not_lt, Int.not_le, not_true_eq_false, not_false_eq_true, bne_iff_ne, beq_iff_eq, bne_eq_false_iff_eq, beq_eq_false_iff_ne] at h_); omega, by (try simp only [Bool.and_eq_true, Bool.or_eq_true, Bool.and_eq_false_iff, Bool.or_eq_false_iff, Bool.not_and, Bool.not_or, Bool.not_not, decide_eq_true_eq, decide_eq_false_iff_not, Bool.not_eq_true', Bool.not_eq_false', Bool.not_eq_true, Bool.not_eq_false, ne_eq, Decidable.not_not, Int.not_lt, Int.not_le, not_true_eq_false, not_false_eq_true, bne_iff_ne, beq_iff_eq, bne_eq_false_iff_eq, beq_eq_false_iff_ne] at h_); omega⟩) (⟨by (try simp only [Bool.and_eq_true, Bool.or_eq_true, Bool.and_eq_false_iff, Bool.or_eq_false_iff, Bool.not_and, Bool.not_or, Bool.not_not, decide_eq_true_eq, decide_eq_false_iff_not, Bool.not_eq_true', Bool.not_eq_false', Bool.not_eq_true, Bool.not_eq_false, ne_eq, Decidable.not_not, Int.not_lt, Int.not_le, not_true_eq_false, not_false_eq_true, bne_iff_ne, beq_iff_eq, bne_eq_false_iff_eq, beq_eq_false_iff_ne] at h_); omega, by (try simp only [Bool.and_eq_true, Bool.or_eq_true, Bool.and_eq_false_iff, Bool.or_eq_false_iff, Bool.not_and, Bool.not_or, Bool.not_not, decide_eq_true_eq, decide_eq_false_iff_not, Bool.not_eq_true', Bool.not_eq_false', Bool.not_eq_true, Bool.not_eq_false, ne_eq, Decidable.not_not, Int.not_lt, Int.not_le, not_true_eq_false, not_false_eq_true, bne_iff_ne, beq_iff_eq, bne_eq_false_iff_eq, beq_eq_false_iff_ne] at h_); omega⟩))) ?_
     intro _ H92; clear H77
     refine gq_evG H92 rfl rfl rfl rfl (on_f _) rfl (by decide) (fun h_ wq hq => have HO := O65.after hq; (op_field (gwflda54_0 _) rfl (ev_gv (H92.ev rfl) h_))) ?_
     intro _ H94; clear H92
     refine gq_evG H94 rfl rfl rfl rfl (on_f _) rfl (by decide) (fun h_ wq hq => have HO := O65.after hq; (op_load1 gwagg2 rfl (ev_gv (H94.ev rfl) h_) ((cells0 HO (hc83 ⟨by (try simp only [Bool.and_eq_true, Bool.or_eq_true, Bool.and_eq_false_iff, Bool.or_eq_false_iff, Bool.not_and, Bool.not_or, Bool.not_not, decide_eq_true_eq, decide_eq_false_iff_not, Bool.not_eq_true', Bool.not_eq_false', Bool.not_eq_true, Bool.not_eq_false, ne_eq, Decidable.not_not, Int.not_lt, Int.not_le, not_true_eq_false, not_false_eq_true, bne_iff_ne, beq_iff_eq, bne_eq_false_iff_eq, beq_eq_false_iff_ne] at h_); omega, by (try simp only [Bool.and_eq_true, Bool.or_eq_true, Bool.and_eq_false_iff, Bool.or_eq_false_iff, Bool.not_and, Bool.not_or, Bool.not_not, decide_eq_true_eq, decide_eq_false_iff_not, Bool.not_eq_true', Bool.not_eq_false', Bool.not_eq_true, Bool.not_eq_false, ne_eq, Decidable.not_not, Int.not_lt, Int.not_le, not_true_eq_false, not_false_eq_true, bne_iff_ne, beq_iff_eq, bne_eq_false_iff_eq, beq_eq_false_iff_ne] at h_); omega⟩) 0 _ rfl)))) ?_
     intro _ H96; clear H94
     refine gq_evG H96 rfl rfl rfl rfl (on_f _) rfl (by decide) (fun h_ wq hq => have HO := O65.after hq; (op_move rfl (H96.ev rfl))) ?_
     intro _ H98; clear H96
     refine gq_evG H98 rfl rfl rfl rfl (on_f _) rfl (by decide) (fun h_ wq hq => have HO := O65.after hq; (op_move rfl (H98.ev rfl))) ?_
     intro _ H100; clear H98
     refine gq_evG H100 rfl rfl rfl rfl (on_f _) rfl (by decide) (fun h_ wq hq => have HO := O65.after hq; (op_len Tryz.underlying67 rfl (ev_gv (H100.ev rfl) h_))) ?_
     intro _ H102; clear H100
     refine gq_evG H102 rfl rfl rfl rfl (on_f _) rfl (by decide) (fun h_ wq hq => have HO := O65.after hq; (op_sub rfl (ev_gv (H102.ev rfl) h_) (ev_c _ _) (by (try simp only [Bool.and_eq_true, Bool.or_eq_true, Bool.and_eq_false_iff, Bool.or_eq_false_iff, Bool.not_and, Bool.not_or, Bool.not_not, decide_eq_true_eq, decide_eq_false_iff_not, Bool.not_eq_true', Bool.not_eq_false', Bool.not_eq_true, Bool.not_eq_false, ne_eq, Decidable.not_not, Int.not_lt, Int.not_le, not_true_eq_false, not_false_eq_true, bne_iff_ne, beq_iff_eq, bne_eq_false_iff_eq, beq_eq_false_iff_ne] at h_); omega))) ?_
     intro _ H104; clear H102
     obtain ⟨ad108, hA109⟩ := row_headT (O65.get 0 rfl) ((ks.length : Int) - 1)
     refine gq_evG H104 rfl rfl rfl rfl (on_f _) rfl (by decide) (fun h_ wq hq => have HO := O65.after hq; (op_index Tryz.underlying67 gwsiz2 rfl (ev_gv (H104.ev rfl) h_) (ev_gv (H104.ev rfl) h_) (hA109 ⟨by (try simp only [Bool.and_eq_true, Bool.or_eq_true, Bool.and_eq_false_iff, Bool.or_eq_false_iff, Bool.not_and, Bool.not_or, Bool.not_not, decide_eq_true_eq, decide_eq_false_iff_not, Bool.not_eq_true', Bool.not_eq_false', Bool.not_eq_true, Bool.not_eq_false, ne_eq, Decidable.not_not, Int.not_lt, Int.not_le, not_true_eq_false, not_false_eq_true, bne_iff_ne, beq_iff_eq, bne_eq_false_iff_eq, beq_eq_false_iff_ne] at h_); omega, by (try simp only [Bool.and_eq_true, Bool.or_eq_true, Bool.and_eq_false_iff, Bool.or_eq_false_iff, Bool.not_and, Bool.not_or, Bool.not_not, decide_eq_true_eq, decide_eq_false_iff_not, Bool.not_eq_true', Bool.not_eq_false', Bool.not_eq_true, Bool.not_eq_false, ne_eq, Decidable.not_not, Int.not_lt, Int.not_le, not_true_eq_false, not_false_eq_true, bne_iff_ne, beq_iff_eq, bne_eq_false_iff_eq, beq_eq_false_iff_ne] at h_); omega⟩) (⟨by (try simp only [Bool.and_eq_true, Bool.or_eq_true, Bool.and_eq_false_iff, Bool.or_eq_false_iff, Bool.not_and, Bool.not_or, Bool.not_not, decide_eq_true_eq, decide_eq_false_iff_not, Bool.not_eq_true', Bool.not_eq_false', Bool.not_eq_true, Bool.not_eq_false, ne_eq, Decidable.not_not, Int.not_lt, Int.not_le, not_true_eq_false, not_false_eq_true, bne_iff_ne, beq_iff_eq, bne_eq_false_iff_eq, beq_eq_false_iff_ne] at h_); omega, by (try simp only [Bool.and_eq_true, Bool.or_eq_true, Bool.and_eq_false_iff, Bool.or_eq_false_iff, Bool.not_and, Bool.not_or, Bool.not_not, decide_eq_true_eq, decide_eq_false_iff_not, Bool.not_eq_true', Bool.not_eq_false', Bool.not_eq_true, Bool.not_eq_false, ne_eq, Decidable.not_not, Int.not_lt, Int.not_le, not_true_eq_false, not_false_eq_true, bne_iff_ne, beq_iff_eq, bne_eq_false_iff_eq, beq_eq_false_iff_ne] at h_); omega⟩))) ?_
     intro _ H112; clear H104
     refine gq_evG H112 rfl rfl rfl rfl (on_f _) rfl (by decide) (fun h_ wq hq => have HO := O65.after hq; (op_load1 gwagg2 rfl (ev_gv (H112.ev rfl) h_) ((row_cellT (HO.get 0 rfl) (hA109 ⟨by (try simp only [Bool.and_eq_true, Bool.or_eq_true, Bool.and_eq_false_iff, Bool.or_eq_false_iff, Bool.not_and, Bool.not_or, Bool.not_not, decide_eq_true_eq, decide_eq_false_iff_not, Bool.not_eq_true', Bool.not_eq_false', Bool.not_eq_true, Bool.not_eq_false, ne_eq, Decidable.not_not, Int.not_lt, Int.not_le, not_true_eq_false, not_false_eq_true, bne_iff_ne, beq_iff_eq, bne_eq_false_iff_eq, beq_eq_false_iff_ne] at h_); omega, by (try simp only [Bool.and_eq_true, Bool.or_eq_true, Bool.and_eq_false_iff, Bool.or_eq_false_iff, Bool.not_and, Bool.not_or, Bool.not_not, decide_eq_true_eq, decide_eq_false_iff_not, Bool.not_eq_true', Bool.not_eq_false', Bool.not_eq_true, Bool.not_eq_false, ne_eq, Decidable.not_not, Int.not_lt, Int.not_le, not_true_eq_false, not_false_eq_true, bne_iff_ne, beq_iff_eq, bne_eq_false_iff_eq, beq_eq_false_iff_ne] at h_); omega⟩) ((ks.length : Int) - 1) (by (try simp only [Bool.and_eq_true, Bool.or_eq_true, Bool.and_eq_false_iff, Bool.or_eq_false_iff, Bool.not_and, Bool.not_or, Bool.not_not, decide_eq_true_eq, decide_eq_false_iff_not, Bool.not_eq_true', Bool.not_eq_false', Bool.not_eq_true, Bool.not_eq_false, ne_eq, Decidable.not_not, Int.not_lt, Int.not_le, not_true_eq_false, not_false_eq_true, bne_iff_ne, beq_iff_eq, bne_eq_false_iff_eq, beq_eq_false_iff_ne] at h_); omega) (by (try simp only [Bool.and_eq_true, Bool.or_eq_true, Bool.and_eq_false_iff, Bool.or_eq_false_iff, Bool.not_and, Bool.not_or, Bool.not_not, decide_eq_true_eq, decide_eq_false_iff_not, Bool.not_eq_true', Bool.not_eq_false', Bool.not_eq_true, Bool.not_eq_false, ne_eq, Decidable.not_not, Int.not_lt, Int.not_le, not_true_eq_false, not_false_eq_true, bne_iff_ne, beq_iff_eq, bne_eq_false_iff_eq, beq_eq_false_iff_ne] at h_); omega))))) ?_
     intro _ H114; clear H112
     refine gq_evG H114 rfl rfl rfl rfl (on_f _) rfl (by decide) (fun h_ wq hq => have HO := O65.after hq; (op_gtr rfl (ev_gv (H114.ev rfl) h_) (ev_gv (H114.ev rfl) h_))) ?_
     intro _ H116; clear H114
     refine gq_ev H116 (want_none rfl) rfl (by decide) (fun wq hq => have HO := O65.after hq; (op_pick_or rfl (H116.ev rfl) (ev_c _ _) (fun hp_ => (ev_gv (H116.ev rfl) (not_t hp_))))) ?_
     intro _ H118; clear H116
     refine gq_ev H118 (want_none rfl) rfl (by decide) (fun wq hq => have HO := O65.after hq; (op_move rfl (H118.ev rfl))) ?_
     intro _ H120; clear H118
     refine gq_evG H120 rfl rfl rfl rfl (on_t _) rfl (by decide) (fun h_ wq hq => have HO := O65.after hq; (op_move rfl (H120.ev rfl))) ?_
     intro _ H122; clear H120
     refine gq_evG H122 rfl rfl rfl rfl (on_t _) rfl (by decide) (fun h_ wq hq => have HO := O65.after hq; (op_lss rfl (ev_gv (H122.ev rfl) h_) (ev_c _ _))) ?_
     intro _ H124; clear H122
     refine gq_evG H124 rfl rfl rfl rfl (on_t _) rfl (by decide) (fun h_ wq hq => have HO := O65.after hq; (op_move rfl (ev_gv (H124.ev rfl) h_))) ?_
     intro _ H126; clear H124
     refine gq_evG H126 rfl rfl rfl rfl (on_gf _ _) rfl (by decide) (fun h_ wq hq => have HO := O65.after hq; (op_move rfl (H126.ev rfl))) ?_
     intro _ H128; clear H126
     refine gq_evG H128 rfl rfl rfl rfl (on_gf _ _) rfl (by decide) (fun h_ wq hq => have HO := O65.after hq; (op_move rfl (H128.ev rfl))) ?_
     intro _ H130; clear H128
     obtain ⟨ad134, cs137, hA135, hl138, hK139, hc136⟩ := C_getT hr z54 i (⟨_, k54_mk _ z54 (A1 := none) (c1 := 0) (Nat.le_refl _) (Kd.C_nil _ _)⟩)
     obtain ⟨A140, c141, rfl, hl142, hC143⟩ := k54_open hK139
     clear hl138
     refine gq_evG H130 rfl rfl rfl rfl (on_gf _ _) rfl (by decide) (fun h_ wq hq => have HO := O65.after hq; (op_index Tryz.underlying39 gwsiz54 rfl (ev_gv (H130.ev rfl) (andi (and1 h_) (and2 h_))) (ev_gv (H130.ev rfl) (andi (and1 h_) (and2 h_))) (hA135 ⟨by (try simp only [Bool.and_eq_true, Bool.or_eq_true, Bool.and_eq_false_iff, Bool.or_eq_false_iff, Bool.not_and, Bool.not_or, Bool.not_not, decide_eq_true_eq, decide_eq_false_iff_not, Bool.not_eq_true', Bool.not_eq_false', Bool.not_eq_true, Bool.not_eq_false, ne_eq, Decidable.not_not, Int.not_lt, Int.not_le, not_true_eq_false, not_false_eq_true, bne_iff_ne, beq_iff_eq, bne_eq_false_iff_eq, beq_eq_false_iff_ne] at h_); omega, by (try simp only [Bool.and_eq_true, Bool.or_eq_true, Bool.and_eq_false_iff, Bool.or_eq_false_iff, Bool.not_and, Bool.not_or, Bool.not_not, decide_eq_true_eq, decide_eq_false_iff_not, Bool.not_eq_true', Bool.not_eq_false', Bool.not_eq_true, Bool.not_eq_false, ne_eq, Decidable.not_not, Int.not_lt, Int.not_le, not_true_eq_false, not_false_eq_true, bne_iff_ne, beq_iff_eq, bne_eq_false_iff_eq, beq_eq_false_iff_ne] at h_); omega⟩) (⟨by (try simp only [Bool.and_eq_true, Bool.or_eq_true, Bool.and_eq_false_iff, Bool.or_eq_false_iff, Bool.not_and, Bool.not_or, Bool.not_not, decide_eq_true_eq, decide_eq_false_iff_not, Bool.not_eq_true', Bool.not_eq_false', Bool.not_eq_true, Bool.not_eq_false, ne_eq, Decidable.not_not, Int.not_lt, Int.not_le, not_true_eq_false, not_false_eq_true, bne_iff_ne, beq_iff_eq, bne_eq_false_iff_eq, beq_eq_false_iff_ne] at h_); omega, by (try simp only [Bool.and_eq_true, Bool.or_eq_true, Bool.and_eq_false_iff, Bool.or_eq_false_iff, Bool.not_and, Bool.not_or, Bool.not_not, decide_eq_true_eq, decide_eq_false_iff_not, Bool.not_eq_true', Bool.not_eq_false', Bool.not_eq_true, Bool.not_eq_false, ne_eq, Decidable.not_not, Int.not_lt, Int.not_le, not_true_eq_false, not_false_eq_true, bne_iff_ne, beq_iff_eq, bne_eq_false_iff_eq, beq_eq_false_iff_ne] at h_); omega⟩))) ?_
     intro _ H145; clear H130
     refine gq_evG H145 rfl rfl rfl rfl (on_gf _ _) rfl (by decide) (fun h_ wq hq => have HO := O65.after hq; (op_field (gwflda54_0 _) rfl (ev_gv (H145.ev rfl) (andi (and1 h_) (and2 h_))))) ?_
     intro _ H147; clear H145
     refine gq_evG H147 rfl rfl rfl rfl (on_gf _ _) rfl (by decide) (fun h_ wq hq => have HO := O65.after hq; (op_load1 gwagg2 rfl (ev_gv (H147.ev rfl) (andi (and1 h_) (and2 h_))) ((cells0 HO (hc136 ⟨by (try simp only [Bool.and_eq_true, Bool.or_eq_true, Bool.and_eq_false_iff, Bool.or_eq_false_iff, Bool.not_and, Bool.not_or, Bool.not_not, decide_eq_true_eq, decide_eq_false_iff_not, Bool.not_eq_true', Bool.not_eq_false', Bool.not_eq_true, Bool.not_eq_false, ne_eq, Decidable.not_not, Int.not_lt, Int.not_le, not_true_eq_false, not_false_eq_true, bne_iff_ne, beq_iff_eq, bne_eq_false_iff_eq, beq_eq_false_iff_ne] at h_); omega, by (try simp only [Bool.and_eq_true, Bool.or_eq_true, Bool.and_eq_false_iff, Bool.or_eq_false_iff, Bool.not_and, Bool.not_or, Bool.not_not, decide_eq_true_eq, decide_eq_false_iff_not, Bool.not_eq_true', Bool.not_eq_false', Bool.not_eq_true, Bool.not_eq_false, ne_eq, Decidable.not_not, Int.not_lt, Int.not_le, not_true_eq_false, not_false_eq_true, bne_iff_ne, beq_iff_eq, bne_eq_false_iff_eq, beq_eq_false_iff_ne] at h_); omega⟩) 0 _ rfl)))) ?_
     intro _ H149; clear H147
     refine gq_evG H149 rfl rfl rfl rfl (on_gf _ _) rfl (by decide) (fun h_ wq hq => have HO := O65.after hq; (op_move rfl (H149.ev rfl))) ?_
     intro _ H151; clear H149
     refine gq_evG H151 rfl rfl rfl rfl (on_gf _ _) rfl (by decide) (fun h_ wq hq => have HO := O65.after hq; (op_lss rfl (ev_gv (H151.ev rfl) (andi (and1 h_) (and2 h_))) (ev_gv (H151.ev rfl) (andi (and1 h_) (and2 h_))))) ?_
     intro _ H153; clear H151
     refine gq_evG H153 rfl rfl rfl rfl (on_t _) rfl (by decide) (fun h_ wq hq => have HO := O65.after hq; (op_pick_or rfl (ev_gv (H153.ev rfl) h_) (ev_c _ _) (fun hp_ => (ev_gv (H153.ev rfl) (andi h_ (not_t hp_)))))) ?_
     intro _ H155; clear H153
     refine gq_ev H155 (want_none rfl) rfl (by decide) (fun wq hq => have HO := O65.after hq; (op_pick_and rfl (H155.ev rfl) (fun hp_ => (ev_gv (H155.ev rfl) hp_)) (ev_c _ _))) ?_
     intro _ H157; clear H155
     refine wpQuiet_nil ?_
     intro w158 hq
     have O159 := O65.after hq
     clear O65 hq
     refine gw_nx (hK63 _ _ ?_)
     refine gw_cond H157 rfl (fun hb160 => ?_) (fun hb160 => ?_)
     ·
      have H161 := H157.subst_ (d := 47) (b := true) rfl hb160
      clear H157
      (try simp only [Bool.and_eq_true, Bool.and_eq_false_iff, Bool.or_eq_true, Bool.or_eq_false_iff, decide_eq_true_eq, decide_eq_false_iff_not, Int.not_lt] at hb160)
      have hk0 : 0 ≤ (its.getD i.toNat z54).f0 := (hok _ (it_mem (i := i.toNat) (by omega))).1.1
      have hcd : cand ks (its.getD i.toNat z54).f0 = true := by unfold cand; rw [Bool.or_eq_true, decide_eq_true_eq, decide_eq_true_eq]; exact hb160.1
      have hlt : best < 0 ∨ (its.getD i.toNat z54).f0 < best := hb160.2
      refine wp_region_lit ?_
      refine V H161 (op_move rfl (H161.ev rfl)) ?_
      intro _ H163; clear H161
      refine V H163 (op_move rfl (H163.ev rfl)) ?_
      intro _ H165; clear H163
      obtain ⟨ad166, cs169, hA167, hl170, hK171, hc168⟩ := Kd.C_get hr z54 i (by omega) (by omega)
      obtain ⟨A172, c173, rfl, hl174, hC175⟩ := k54_open hK171
      clear hl170
      refine V H165 (op_index Tryz.underlying39 gwsiz54 rfl (H165.ev rfl) (H165.ev rfl) hA167 (⟨by omega, by omega⟩)) ?_
      intro _ H177; clear H165
      refine V H177 (op_field (gwflda54_0 _) rfl (H177.ev rfl)) ?_
      intro _ H179; clear H177
      refine V H179 (op_load1 gwagg2 rfl (H179.ev rfl) ((cells0 O159 hc168 0 _ rfl))) ?_
      intro _ H181; clear H179
      refine V H181 (op_assign rfl (H181.ev rfl)) ?_
      intro _ H183; clear H181
      refine wpList_nil ?_
      refine gw_blk ?_
      refine gw_nx (hK62 _ _ ?_)
      refine wp_region_lit ?_
      refine V H183 (op_move rfl (H183.ev rfl)) ?_
      intro _ H185; clear H183
      refine V H185 (op_add rfl (H185.ev rfl) (ev_c _ _) (by omega)) ?_
      intro _ H187; clear H185
      refine V H187 (op_assign rfl (H187.ev rfl)) ?_
      intro _ H189; clear H187
      refine wpList_nil ?_
      refine gw_nx ⟨_, ?_, i + 1, ((its.getD i.toNat z54).f0), (H189.pick (t := 5) rfl (H189.pick (t := 4) rfl (H189.pick (t := 3) rfl (H189.pick (t := 0) rfl (H189.pick (t := 2) rfl (H189.pick (t := 7) rfl (H189.pick (t := 8) rfl (H189.pick (t := 9) rfl (H189.pick (t := 10) rfl (H189.pick (t := 11) rfl H189.nil)))))))))), O159.sel [0] (by decide), ?_, ?_, rfl⟩
      ·
       rw [hm49]; omega
      ·
       omega
      ·
       rw [show (i + 1).toNat = i.toNat + 1 by omega]; exact bestK_yes hb (by omega) hk0 hcd hlt
     ·
      have H190 := H157.subst_ (d := 47) (b := false) rfl hb160
      clear H157
      (try simp only [Bool.and_eq_true, Bool.and_eq_false_iff, Bool.or_eq_true, Bool.or_eq_false_iff, decide_eq_true_eq, decide_eq_false_iff_not, Int.not_lt] at hb160)
      have hno : cand ks (its.getD i.toNat z54).f0 = false ∨ (0 ≤ best ∧ best ≤ (its.getD i.toNat z54).f0) := by unfold cand; rw [Bool.or_eq_false_iff, decide_eq_false_iff_not, decide_eq_false_iff_not]; omega
      refine wp_skip ?_
      refine gw_blk ?_
      refine gw_nx (hK62 _ _ ?_)
      refine wp_region_lit ?_
      refine V H190 (op_move rfl (H190.ev rfl)) ?_
      intro _ H192; clear H190
      refine V H192 (op_add rfl (H192.ev rfl) (ev_c _ _) (by omega)) ?_
      intro _ H194; clear H192
      refine V H194 (op_assign rfl (H194.ev rfl)) ?_
      intro _ H196; clear H194
      refine wpList_nil ?_
      refine gw_nx ⟨_, ?_, i + 1, best, (H196.pick (t := 5) rfl (H196.pick (t := 4) rfl (H196.pick (t := 3) rfl (H196.pick (t := 0) rfl (H196.pick (t := 2) rfl (H196.pick (t := 7) rfl (H196.pick (t := 8) rfl (H196.pick (t := 9) rfl (H196.pick (t := 10) rfl (H196.pick (t := 11) rfl H196.nil)))))))))), O159.sel [0] (by decide), ?_, ?_, rfl⟩
      ·
       rw [hm49]; omega
      ·
       omega
      ·
       rw [show (i + 1).toNat = i.toNat + 1 by omega]; exact bestK_no hb hno
    ·
     have H197 := H59.subst_ (d := 15) (b := false) rfl hb60
     clear H59
     (try simp only [decide_eq_false_iff_not, Int.not_lt] at hb60)
     refine wp_exit ?_
     refine gw_thx ?_
     refine gw_thx ?_
     refine gw_in ?_
     refine gw_nx (hK39 _ _ ?_)
     refine wp_region_lit ?_
     refine V H197 (op_move rfl (H197.ev rfl)) ?_
     intro _ H199; clear H197
     refine V H199 (op_move rfl (H199.ev rfl)) ?_
     intro _ H201; clear H199
     refine gw_lit (enc := Value.int .i64) (fun _ => rfl) (xs := [best]) (e := 2) H201 O48 (want_none rfl) rfl (by decide) (op_bslice (by kernel_rfl) rfl (pt_cons (H201.ev rfl) pt_nil)) (by simp) ?_
     intro A202 S203 _ w205 H206 O207; clear H201 O48
     have O208 : Own w w205 [Chunk.row (Kd.int .i64) 2 w.heap.size S203 (.slice A202 (([best]).length) (([best]).length)) ([best]), Chunk.row (Kd.int .i64) 2 w.heap.size Sr (.slice Ao ks.length co) ks] := O207
     clear O207
     refine gw_append (Kd.int .i64) 1 H206 O208 (want_none rfl) rfl (by decide) rfl Tryz.underlying67 gwinfo2 rfl (by decide) (by decide) rfl (H206.ev rfl) (H206.ev rfl) (Kd.R_reads' (O208.get 0 rfl)).2.2 (fun _ _ h => h) O208.below.size (by first | omega | (simp; omega)) ?_
     intro A209 c210 S211 _ w213 H214 O215; clear H206 O208
     have O216 : Own w w213 [Chunk.row (Kd.int .i64) 2 w.heap.size S203 (.slice A202 (([best]).length) (([best]).length)) ([best]), Chunk.row (Kd.int .i64) 2 w.heap.size S211 (.slice A209 ((ks ++ [best]).length) c210) (ks ++ [best])] := O215
     clear O215
     refine V H214 (op_assign rfl (H214.ev rfl)) ?_
     intro _ H218; clear H214
     refine wpList_nil ?_
     refine gw_blk ?_
     refine gw_nx ⟨_, ?_, (ks ++ [best]), A209, c210, _, (H218.pick (t := 3) rfl (H218.pick (t := 0) rfl (H218.pick (t := 2) rfl H218.nil))), O216.sel [1] (by decide), ?_, ?_, rfl⟩
     ·
      rw [hm21]; rw [List.length_append, List.length_singleton]; omega
     ·
      obtain ⟨r_, hr_⟩ := hk; exact keysR_step hr_ (keys_nodup hon) (by omega) (by rw [show its.length = i.toNat by omega]; exact hb)
     ·
      rw [List.length_append, List.length_singleton]; omega
  ·
   have H219 := H33.subst_ (d := 11) (b := false) rfl hb34
   clear H33
   (try simp only [decide_eq_false_iff_not, Int.not_lt] at hb34)
   refine wp_exit ?_
   refine gw_thx ?_
   refine gw_thx ?_
   refine gw_in ?_
   refine gw_nx (hK14 _ _ ?_)
   refine gR fun K220 hK220 => ?_
   refine V H219 (op_move rfl (H219.ev rfl)) ?_
   intro _ H222; clear H219
   refine V H222 (op_assign rfl (H222.ev rfl)) ?_
   intro _ H224; clear H222
   refine gE hK220 ?_
   refine wp_ret ?_
   refine gw_ret1 H224 rfl rfl ?_
   obtain ⟨r_, hr_⟩ := hk
   exact ⟨_, _, _, ks, hr_.2.1, by rw [keysOf_is]; exact keysR_done hr_ (by omega), rfl, (O20.sel [0] (by decide)).out⟩
end GRj5_
export GRj5_ (keys_ref)
end Go.Proofs.YtkdahjnmldeklaaGreat.PA
end
section
namespace Go.Proofs.YtkdahjnmldeklaaGreat.PA
open Go.RowKit Go.Proofs.YtkdahjnmldeklaaGreatW.PrintWords Go.Proofs.YtkdahjnmldeklaaGreatW.PrintLast Go.Proofs.YtkdahjnmldeklaaGreatW.PrintMore
set_option linter.unusedVariables false
set_option linter.unusedSimpArgs false
namespace GJAlive_
attribute [local irreducible] recI
set_option maxHeartbeats 4000000 in
set_option maxRecDepth 100000 in
theorem alive_calls (w : World) :
    Calls Tryz.prog 6 #[] w fun e w' => e = .returned (.bool true) ∧ Below w.heap.size w w' := by
 have hrx := recI_len (3, [120])
 have hry := recI_len (1, [])
 rw [show (encN (3, [120]).1).length = 1 from enc_small (k := 3) (by decide)] at hrx
 rw [show (encN (1, []).1).length = 1 from enc_small (k := 1) (by decide)] at hry
 simp only [List.length_cons, List.length_nil] at hrx hry
 have hok2 : ∀ x_ ∈ ([(3, [120]), (1, [])] : List PI), okI x_ := by intro x_ hx_; rcases List.mem_cons.1 hx_ with rfl | hx_; (· exact ⟨show (0 : Int) ≤ 3 ∧ (3 : Int) ≤ 1099511627776 by decide, by (try simp only [List.length_cons, List.length_nil]); omega, (by unfold ByteL; decide)⟩); (· obtain rfl := List.mem_singleton.1 hx_; exact ⟨show (0 : Int) ≤ 1 ∧ (1 : Int) ≤ 1099511627776 by decide, by (try simp only [List.length_cons, List.length_nil]); omega, (by unfold ByteL; decide)⟩)
 have hok1 : ∀ x_ ∈ ([(3, [120])] : List PI), okI x_ := fun x_ hx_ => hok2 x_ (by obtain rfl := List.mem_singleton.1 hx_; simp)
 have hon2 : onceJ ([(3, [120]), (1, [])] : List PI) := by simp [onceJ]
 have h00 : ((totF [] : Nat) : Int) = 0 := rfl
 refine gw_start (N := 89) (vs := []) Tryz.func6 rfl rfl (by simp) fun a HF HO => ?_
 replace HO : Own w w [] := HO
 refine gR fun K1 hK1 => ?_
 refine V HF (op_assign rfl (ev_c _ _)) ?_
 intro _ H3; clear HF
 refine gE hK1 ?_
 refine gR fun K4 hK4 => ?_
 have O14 : Own w _ [(Chunk.all [])] := Own.bundle (HO.sel [] (by decide))
 refine gw_call H3 (want_none rfl) rfl (by decide) (op_callL Tryz.func5 (by kernel_rfl) rfl rfl (ar_cons (ev_c _ _) ar_nil)) (new_own w _ (Chunk.all []) 1000 (by exact O14)) ?_
 rintro e8 w9 ⟨gd5, S6, rfl, hb10⟩
 refine ⟨_, rfl, fun _ H12 => ?_⟩
 have O13 : Own w w9 [Chunk.disk w.heap.size gd5 S6 (newD 1000)] := Own.unbundle (hb10.sel [0, 1] (by decide))
 clear O14
 clear H3 HO hb10
 have hwf7 : wfD (newD 1000) := wf_new (by decide)
 refine V H12 (op_assign rfl (H12.ev rfl)) ?_
 intro _ H17; clear H12
 refine gE hK4 ?_
 refine gw_seq fun K18 hK18 => ?_
 refine gR fun K19 hK19 => ?_
 refine V H17 (op_move rfl (H17.ev rfl)) ?_
 intro _ H21; clear H17
 refine V H21 (op_eqp_nil Tryz.underlying23 rfl (H21.ev rfl)) ?_
 intro _ H23; clear H21
 refine gE hK19 ?_
 refine gw_cond H23 rfl (fun hb24 => ?_) (fun hb24 => ?_)
 skip
 ·
  cases hb24
 refine wp_skip ?_
 refine gw_nx (hK18 _ _ ?_)
 refine gR fun K25 hK25 => ?_
 refine V H23 (op_move rfl (H23.ev rfl)) ?_
 intro _ H27; clear H23
 have heq32 : openJ (⟨#[106]⟩ : ByteArray) (newD 1000) = (((jdk (⟨#[106]⟩ : ByteArray) (recsJ []) 0 [] 1000), 0), (([] : List PI), 0)) := open_new (by decide) (by decide)
 have O39 : Own w _ [(Chunk.all []), Chunk.disk w.heap.size gd5 S6 (newD 1000)] := Own.bundle (O13.sel [0] (by decide))
 refine gw_call H27 (want_none rfl) rfl (by decide) (op_callL Tryz.func9 (by kernel_rfl) rfl rfl (ar_cons (H27.ev rfl) (ar_cons (ev_c _ _) ar_nil))) (open_ok heq32 hwf7 (by decide) (by decide) (by decide) (by unfold ByteL; decide +kernel) (by exact O39)) ?_
 rintro e33 w34 ⟨gj28, SJ29, S30, rfl, hb35⟩
 refine ⟨_, rfl, fun _ H37 => ?_⟩
 have O38 : Own w w34 [Chunk.disk w.heap.size gd5 S30 (jdk (⟨#[106]⟩ : ByteArray) (recsJ []) 0 [] 1000), Chunk.jour w.heap.size gd5 gj28 (⟨#[106]⟩ : ByteArray) SJ29 ([] : List PI) 0] := Own.unbundle (hb35.sel [0, 1, 2] (by decide))
 clear O39
 clear H27 O13 hb35
 have hwf31 : wfD (jdk (⟨#[106]⟩ : ByteArray) (recsJ []) 0 [] 1000) := wf_open' heq32 hwf7
 refine V H37 (op_move rfl (H37.ev rfl)) ?_
 intro _ H42; clear H37
 refine V H42 (op_extract rfl (H42.ev rfl) rfl) ?_
 intro _ H44; clear H42
 refine V H44 (op_extract rfl (H44.ev rfl) rfl) ?_
 intro _ H46; clear H44
 refine V H46 (op_assign rfl (H46.ev rfl)) ?_
 intro _ H48; clear H46
 refine V H48 (op_assign rfl (H48.ev rfl)) ?_
 intro _ H50; clear H48
 refine gE hK25 ?_
 refine gw_seq fun K51 hK51 => ?_
 refine gR fun K52 hK52 => ?_
 refine V H50 (op_move rfl (H50.ev rfl)) ?_
 intro _ H54; clear H50
 refine V H54 (op_nei rfl (H54.ev rfl) (ev_c _ _)) ?_
 intro _ H56; clear H54
 have H57 := H56.lit (b := false) (by decide)
 clear H56
 refine V H57 (op_move rfl (H57.ev rfl)) ?_
 intro _ H59; clear H57
 refine V2 H59 (want_yes H59 rfl rfl rfl rfl) (op_move rfl (H59.ev rfl)) ?_
 intro _ H61; clear H59
 refine V2 H61 (want_yes H61 rfl rfl rfl rfl) (op_eqp_nil Tryz.underlying29 rfl (H61.ev rfl)) ?_
 intro _ H63; clear H61
 refine V H63 (op_pick_f rfl (H63.ev rfl) (H63.ev rfl)) ?_
 intro _ H65; clear H63
 refine V H65 (op_move rfl (H65.ev rfl)) ?_
 intro _ H67; clear H65
 refine V2 H67 (want_yes H67 rfl rfl rfl rfl) (op_move rfl (H67.ev rfl)) ?_
 intro _ H69; clear H67
 refine gw_bytes (xs := [120]) Tryz.underlying22 Tryz.underlying5 H69 O38 (want_yes H69 rfl rfl rfl rfl) rfl (by decide) (op_bslice (by kernel_rfl) rfl (pt_cons (ev_c _ _) pt_nil)) (fun a_ HF_ => (want_yes HF_ rfl rfl rfl rfl)) rfl (by decide) rfl ?_
 intro g70 _ w72 H73 O74; clear H69 O38
 have O75 : Own w w72 [Chunk.blk g70 (.cells (nums .u8 [120]).toArray 5 (([120]).length, ([120]).length + 1)), Chunk.disk w.heap.size gd5 S30 (jdk (⟨#[106]⟩ : ByteArray) (recsJ []) 0 [] 1000), Chunk.jour w.heap.size gd5 gj28 (⟨#[106]⟩ : ByteArray) SJ29 ([] : List PI) 0] := O74
 clear O74
 have heq79 : putJ (⟨#[106]⟩ : ByteArray) 3 ([120]) ([] : List PI) 0 (jdk (⟨#[106]⟩ : ByteArray) (recsJ []) 0 [] 1000) = (((jdk (⟨#[106]⟩ : ByteArray) (recsJ ([(3, [120])] : List PI)) 0 [] 1000), 0), (([(3, [120])] : List PI), (0 + ((recI (3, [120])).length : Int)))) := jd_put (is := []) (fun g_ hg_ => by simp at hg_) (by decide) (by (try simp only [List.length_cons, List.length_nil]); omega) rfl (by rw [show (recsJ []).length = 0 from rfl, h00]; omega)
 have O86 : Own w _ [(Chunk.all [Chunk.blk g70 (.cells (nums .u8 [120]).toArray 5 (([120]).length, ([120]).length + 1))]), Chunk.disk w.heap.size gd5 S30 (jdk (⟨#[106]⟩ : ByteArray) (recsJ []) 0 [] 1000), Chunk.jour w.heap.size gd5 gj28 (⟨#[106]⟩ : ByteArray) SJ29 ([] : List PI) 0] := Own.bundle (O75.sel [0, 1, 2] (by decide))
 refine gw_call H73 (want_yes H73 rfl rfl rfl rfl) rfl (by decide) (op_callL Tryz.func15 (by kernel_rfl) rfl rfl (ar_cons (H73.ev rfl) (ar_cons (ev_c _ _) (ar_cons (H73.ev rfl) ar_nil)))) (put_is heq79 hwf31 (by decide) (by decide) (fun w_ h_ => (blkC ((Own.unbundle (A := [Chunk.blk g70 (.cells (nums .u8 [120]).toArray 5 (([120]).length, ([120]).length + 1))]) (L := []) h_).get 0 rfl) (by simp))) (Nat.le_refl _) (by unfold ByteL; decide) (by (try simp only [List.length_cons, List.length_nil]); omega) (used_le (by decide)) (by show 0 ≤ 1000000; decide) (by omega) (by exact O86)) ?_
 rintro e80 w81 ⟨rfl, S77, SJ76, hb82⟩
 refine ⟨_, rfl, fun _ H84 => ?_⟩
 have O85 : Own w w81 [Chunk.blk g70 (.cells (nums .u8 [120]).toArray 5 (([120]).length, ([120]).length + 1)), Chunk.disk w.heap.size gd5 S77 (jdk (⟨#[106]⟩ : ByteArray) (recsJ ([(3, [120])] : List PI)) 0 [] 1000), Chunk.jour w.heap.size gd5 gj28 (⟨#[106]⟩ : ByteArray) SJ76 ([(3, [120])] : List PI) (0 + ((recI (3, [120])).length : Int))] := Own.unbundle (hb82.sel [0, 1, 2] (by decide))
 clear O86
 clear H73 O75 hb82
 have hwf78 : wfD (jdk (⟨#[106]⟩ : ByteArray) (recsJ ([(3, [120])] : List PI)) 0 [] 1000) := wf_put' heq79 hwf31
 refine V2 H84 (want_yes H84 rfl rfl rfl rfl) (op_nei rfl (H84.ev rfl) (ev_c _ _)) ?_
 intro _ H89; clear H84
 have H90 := H89.lit (b := false) (by decide)
 clear H89
 refine V H90 (op_pick_f rfl (H90.ev rfl) (H90.ev rfl)) ?_
 intro _ H92; clear H90
 refine V H92 (op_move rfl (H92.ev rfl)) ?_
 intro _ H94; clear H92
 refine V2 H94 (want_yes H94 rfl rfl rfl rfl) (op_move rfl (H94.ev rfl)) ?_
 intro _ H96; clear H94
 have heq100 : syncD (⟨#[106]⟩ : ByteArray) (jdk (⟨#[106]⟩ : ByteArray) (recsJ ([(3, [120])] : List PI)) 0 [] 1000) = ((jdk (⟨#[106]⟩ : ByteArray) (recsJ ([(3, [120])] : List PI)) ((recsJ ([(3, [120])] : List PI)).length : Int) [] 1000), 0) := jd_sync (fun g_ hg_ => by simp at hg_)
 have O107 : Own w _ [(Chunk.all [Chunk.blk g70 (.cells (nums .u8 [120]).toArray 5 (([120]).length, ([120]).length + 1))]), Chunk.disk w.heap.size gd5 S77 (jdk (⟨#[106]⟩ : ByteArray) (recsJ ([(3, [120])] : List PI)) 0 [] 1000), Chunk.jour w.heap.size gd5 gj28 (⟨#[106]⟩ : ByteArray) SJ76 ([(3, [120])] : List PI) (0 + ((recI (3, [120])).length : Int))] := Own.bundle (O85.sel [0, 1, 2] (by decide))
 refine gw_call H96 (want_yes H96 rfl rfl rfl rfl) rfl (by decide) (op_callL Tryz.func17 (by kernel_rfl) rfl rfl (ar_cons (H96.ev rfl) ar_nil)) (jsync_is heq100 hwf78 (by decide) (by exact O107)) ?_
 rintro e101 w102 ⟨rfl, S98, SJ97, hb103⟩
 refine ⟨_, rfl, fun _ H105 => ?_⟩
 have O106 : Own w w102 [Chunk.blk g70 (.cells (nums .u8 [120]).toArray 5 (([120]).length, ([120]).length + 1)), Chunk.disk w.heap.size gd5 S98 (jdk (⟨#[106]⟩ : ByteArray) (recsJ ([(3, [120])] : List PI)) ((recsJ ([(3, [120])] : List PI)).length : Int) [] 1000), Chunk.jour w.heap.size gd5 gj28 (⟨#[106]⟩ : ByteArray) SJ97 ([(3, [120])] : List PI) (0 + ((recI (3, [120])).length : Int))] := Own.unbundle (hb103.sel [0, 1, 2] (by decide))
 clear O107
 clear H96 O85 hb103
 have hwf99 : wfD (jdk (⟨#[106]⟩ : ByteArray) (recsJ ([(3, [120])] : List PI)) ((recsJ ([(3, [120])] : List PI)).length : Int) [] 1000) := wf_sync' heq100 hwf78
 refine V2 H105 (want_yes H105 rfl rfl rfl rfl) (op_nei rfl (H105.ev rfl) (ev_c _ _)) ?_
 intro _ H110; clear H105
 have H111 := H110.lit (b := false) (by decide)
 clear H110
 refine V H111 (op_pick_f rfl (H111.ev rfl) (H111.ev rfl)) ?_
 intro _ H113; clear H111
 refine V H113 (op_move rfl (H113.ev rfl)) ?_
 intro _ H115; clear H113
 refine V2 H115 (want_yes H115 rfl rfl rfl rfl) (op_move rfl (H115.ev rfl)) ?_
 intro _ H117; clear H115
 have heq121 : putJ (⟨#[106]⟩ : ByteArray) 1 ([] : List Int) ([(3, [120])] : List PI) (0 + ((recI (3, [120])).length : Int)) (jdk (⟨#[106]⟩ : ByteArray) (recsJ ([(3, [120])] : List PI)) ((recsJ ([(3, [120])] : List PI)).length : Int) [] 1000) = (((jdk (⟨#[106]⟩ : ByteArray) (recsJ ([(3, [120]), (1, [])] : List PI)) ((recsJ ([(3, [120])] : List PI)).length : Int) [] 1000), 0), (([(3, [120]), (1, [])] : List PI), (0 + ((recI (3, [120])).length : Int) + ((recI (1, [])).length : Int)))) := jd_put (is := ([(3, [120])] : List PI)) (fun g_ hg_ => by simp at hg_) (by decide) (by (try simp only [List.length_cons, List.length_nil]); omega) rfl (by rw [recs_one, h00]; omega)
 have O128 : Own w _ [(Chunk.all [Chunk.blk g70 (.cells (nums .u8 [120]).toArray 5 (([120]).length, ([120]).length + 1))]), Chunk.disk w.heap.size gd5 S98 (jdk (⟨#[106]⟩ : ByteArray) (recsJ ([(3, [120])] : List PI)) ((recsJ ([(3, [120])] : List PI)).length : Int) [] 1000), Chunk.jour w.heap.size gd5 gj28 (⟨#[106]⟩ : ByteArray) SJ97 ([(3, [120])] : List PI) (0 + ((recI (3, [120])).length : Int))] := Own.bundle (O106.sel [0, 1, 2] (by decide))
 refine gw_call H117 (want_yes H117 rfl rfl rfl rfl) rfl (by decide) (op_callL Tryz.func15 (by kernel_rfl) rfl rfl (ar_cons (H117.ev rfl) (ar_cons (ev_c _ _) (ar_cons (ev_c _ _) ar_nil)))) (put_nil heq121 hwf99 (by decide) (by decide) (used_le (by rw [recs_one]; omega)) (by show 1 ≤ 1000000; decide) (by omega) (by exact O128)) ?_
 rintro e122 w123 ⟨rfl, S119, SJ118, hb124⟩
 refine ⟨_, rfl, fun _ H126 => ?_⟩
 have O127 : Own w w123 [Chunk.blk g70 (.cells (nums .u8 [120]).toArray 5 (([120]).length, ([120]).length + 1)), Chunk.disk w.heap.size gd5 S119 (jdk (⟨#[106]⟩ : ByteArray) (recsJ ([(3, [120]), (1, [])] : List PI)) ((recsJ ([(3, [120])] : List PI)).length : Int) [] 1000), Chunk.jour w.heap.size gd5 gj28 (⟨#[106]⟩ : ByteArray) SJ118 ([(3, [120]), (1, [])] : List PI) (0 + ((recI (3, [120])).length : Int) + ((recI (1, [])).length : Int))] := Own.unbundle (hb124.sel [0, 1, 2] (by decide))
 clear O128
 clear H117 O106 hb124
 have hwf120 : wfD (jdk (⟨#[106]⟩ : ByteArray) (recsJ ([(3, [120]), (1, [])] : List PI)) ((recsJ ([(3, [120])] : List PI)).length : Int) [] 1000) := wf_put' heq121 hwf99
 refine V2 H126 (want_yes H126 rfl rfl rfl rfl) (op_nei rfl (H126.ev rfl) (ev_c _ _)) ?_
 intro _ H131; clear H126
 have H132 := H131.lit (b := false) (by decide)
 clear H131
 refine V H132 (op_pick_f rfl (H132.ev rfl) (H132.ev rfl)) ?_
 intro _ H134; clear H132
 refine V H134 (op_move rfl (H134.ev rfl)) ?_
 intro _ H136; clear H134
 refine V2 H136 (want_yes H136 rfl rfl rfl rfl) (op_move rfl (H136.ev rfl)) ?_
 intro _ H138; clear H136
 have heq142 : putJ (⟨#[106]⟩ : ByteArray) 3 ([] : List Int) ([(3, [120]), (1, [])] : List PI) (0 + ((recI (3, [120])).length : Int) + ((recI (1, [])).length : Int)) (jdk (⟨#[106]⟩ : ByteArray) (recsJ ([(3, [120]), (1, [])] : List PI)) ((recsJ ([(3, [120])] : List PI)).length : Int) [] 1000) = (((jdk (⟨#[106]⟩ : ByteArray) (recsJ ([(3, [120]), (1, [])] : List PI)) ((recsJ ([(3, [120])] : List PI)).length : Int) [] 1000), 5), (([(3, [120]), (1, [])] : List PI), (0 + ((recI (3, [120])).length : Int) + ((recI (1, [])).length : Int)))) := put_twice (by decide) (by decide) rfl
 have O149 : Own w _ [(Chunk.all [Chunk.blk g70 (.cells (nums .u8 [120]).toArray 5 (([120]).length, ([120]).length + 1))]), Chunk.disk w.heap.size gd5 S119 (jdk (⟨#[106]⟩ : ByteArray) (recsJ ([(3, [120]), (1, [])] : List PI)) ((recsJ ([(3, [120])] : List PI)).length : Int) [] 1000), Chunk.jour w.heap.size gd5 gj28 (⟨#[106]⟩ : ByteArray) SJ118 ([(3, [120]), (1, [])] : List PI) (0 + ((recI (3, [120])).length : Int) + ((recI (1, [])).length : Int))] := Own.bundle (O127.sel [0, 1, 2] (by decide))
 refine gw_call H138 (want_yes H138 rfl rfl rfl rfl) rfl (by decide) (op_callL Tryz.func15 (by kernel_rfl) rfl rfl (ar_cons (H138.ev rfl) (ar_cons (ev_c _ _) (ar_cons (ev_c _ _) ar_nil)))) (put_nil heq142 hwf120 (by decide) (by decide) (used_le (by rw [recs_two]; omega)) (by show 2 ≤ 1000000; decide) (by omega) (by exact O149)) ?_
 rintro e143 w144 ⟨rfl, S140, SJ139, hb145⟩
 refine ⟨_, rfl, fun _ H147 => ?_⟩
 have O148 : Own w w144 [Chunk.blk g70 (.cells (nums .u8 [120]).toArray 5 (([120]).length, ([120]).length + 1)), Chunk.disk w.heap.size gd5 S140 (jdk (⟨#[106]⟩ : ByteArray) (recsJ ([(3, [120]), (1, [])] : List PI)) ((recsJ ([(3, [120])] : List PI)).length : Int) [] 1000), Chunk.jour w.heap.size gd5 gj28 (⟨#[106]⟩ : ByteArray) SJ139 ([(3, [120]), (1, [])] : List PI) (0 + ((recI (3, [120])).length : Int) + ((recI (1, [])).length : Int))] := Own.unbundle (hb145.sel [0, 1, 2] (by decide))
 clear O149
 clear H138 O127 hb145
 have hwf141 : wfD (jdk (⟨#[106]⟩ : ByteArray) (recsJ ([(3, [120]), (1, [])] : List PI)) ((recsJ ([(3, [120])] : List PI)).length : Int) [] 1000) := wf_put' heq142 hwf120
 refine V2 H147 (want_yes H147 rfl rfl rfl rfl) (op_nei rfl (H147.ev rfl) (ev_c _ _)) ?_
 intro _ H152; clear H147
 have H153 := H152.lit (b := false) (by decide)
 clear H152
 refine V H153 (op_pick_f rfl (H153.ev rfl) (H153.ev rfl)) ?_
 intro _ H155; clear H153
 refine gE hK52 ?_
 refine gw_cond H155 rfl (fun hb156 => ?_) (fun hb156 => ?_)
 skip
 ·
  cases hb156
 refine wp_skip ?_
 refine gw_nx (hK51 _ _ ?_)
 refine gR fun K157 hK157 => ?_
 refine V H155 (op_move rfl (H155.ev rfl)) ?_
 intro _ H159; clear H155
 refine gw_lit (enc := Value.int .i64) (fun _ => rfl) (xs := [5]) (e := 3) H159 O148 (want_none rfl) rfl (by decide) (op_bslice (by kernel_rfl) rfl (pt_cons (ev_c _ _) pt_nil)) (by simp) ?_
 intro A160 S161 _ w163 H164 O165; clear H159 O148
 have O166 : Own w w163 [Chunk.row (Kd.int .i64) 3 w.heap.size S161 (.slice A160 (([5]).length) (([5]).length)) ([5]), Chunk.blk g70 (.cells (nums .u8 [120]).toArray 5 (([120]).length, ([120]).length + 1)), Chunk.disk w.heap.size gd5 S140 (jdk (⟨#[106]⟩ : ByteArray) (recsJ ([(3, [120]), (1, [])] : List PI)) ((recsJ ([(3, [120])] : List PI)).length : Int) [] 1000), Chunk.jour w.heap.size gd5 gj28 (⟨#[106]⟩ : ByteArray) SJ139 ([(3, [120]), (1, [])] : List PI) (0 + ((recI (3, [120])).length : Int) + ((recI (1, [])).length : Int))] := O165
 clear O165
 obtain ⟨m, hm1, hm2, hm4, hmc⟩ := jd_crash (nm := (⟨#[106]⟩ : ByteArray)) (mst := 1000) (all := recsJ ([(3, [120]), (1, [])] : List PI)) (sf := ((recsJ ([(3, [120])] : List PI)).length : Int)) (by rw [recs_one, recs_two]; omega) 5
 have hm3 : (recI (3, [120])).length ≤ m := by rw [recs_one] at hm4; omega
 have hml : ((recsJ ([(3, [120]), (1, [])] : List PI)).take m).length = m := by rw [List.length_take]; omega
 rw [recs_two, recs_one] at hm1
 have O175 : Own w _ [(Chunk.all [Chunk.row (Kd.int .i64) 3 w.heap.size S161 (.slice A160 (([5]).length) (([5]).length)) ([5]), Chunk.blk g70 (.cells (nums .u8 [120]).toArray 5 (([120]).length, ([120]).length + 1)), Chunk.jour w.heap.size gd5 gj28 (⟨#[106]⟩ : ByteArray) SJ139 ([(3, [120]), (1, [])] : List PI) (0 + ((recI (3, [120])).length : Int) + ((recI (1, [])).length : Int))]), Chunk.disk w.heap.size gd5 S140 (jdk (⟨#[106]⟩ : ByteArray) (recsJ ([(3, [120]), (1, [])] : List PI)) ((recsJ ([(3, [120])] : List PI)).length : Int) [] 1000)] := Own.bundle (O166.sel [0, 1, 3, 2] (by decide))
 refine gw_call H164 (want_none rfl) rfl (by decide) (op_callL Tryz.func14 (by kernel_rfl) rfl rfl (ar_cons (H164.ev rfl) (ar_cons (H164.ev rfl) ar_nil))) ((by have h_ := crash_calls w _ (Chunk.all [Chunk.row (Kd.int .i64) 3 w.heap.size S161 (.slice A160 (([5]).length) (([5]).length)) ([5]), Chunk.blk g70 (.cells (nums .u8 [120]).toArray 5 (([120]).length, ([120]).length + 1)), Chunk.jour w.heap.size gd5 gj28 (⟨#[106]⟩ : ByteArray) SJ139 ([(3, [120]), (1, [])] : List PI) (0 + ((recI (3, [120])).length : Int) + ((recI (1, [])).length : Int))]) gd5 S140 (jdk (⟨#[106]⟩ : ByteArray) (recsJ ([(3, [120]), (1, [])] : List PI)) ((recsJ ([(3, [120])] : List PI)).length : Int) [] 1000) A160 (([5]).length) ([5]) (fun w_ h_ => (Kd.R_reads' ((Own.unbundle (A := [Chunk.row (Kd.int .i64) 3 w.heap.size S161 (.slice A160 (([5]).length) (([5]).length)) ([5]), Chunk.blk g70 (.cells (nums .u8 [120]).toArray 5 (([120]).length, ([120]).length + 1)), Chunk.jour w.heap.size gd5 gj28 (⟨#[106]⟩ : ByteArray) SJ139 ([(3, [120]), (1, [])] : List PI) (0 + ((recI (3, [120])).length : Int) + ((recI (1, [])).length : Int))]) (L := []) h_).get 0 rfl)).2.2) (row_cap (O166.get 0 rfl)) hwf141 (by show 1 ≤ 1000000; decide) (by exact O175); rw [show (crashD ([5]) (jdk (⟨#[106]⟩ : ByteArray) (recsJ ([(3, [120]), (1, [])] : List PI)) ((recsJ ([(3, [120])] : List PI)).length : Int) [] 1000)) = (jdk (⟨#[106]⟩ : ByteArray) ((recsJ ([(3, [120]), (1, [])] : List PI)).take m) (m : Int) [] 1000) from hmc] at h_; (try dsimp only at h_); exact h_)) ?_
 rintro e169 w170 ⟨rfl, S167, hb171⟩
 refine ⟨_, rfl, fun _ H173 => ?_⟩
 have O174 : Own w w170 [Chunk.row (Kd.int .i64) 3 w.heap.size S161 (.slice A160 (([5]).length) (([5]).length)) ([5]), Chunk.blk g70 (.cells (nums .u8 [120]).toArray 5 (([120]).length, ([120]).length + 1)), Chunk.jour w.heap.size gd5 gj28 (⟨#[106]⟩ : ByteArray) SJ139 ([(3, [120]), (1, [])] : List PI) (0 + ((recI (3, [120])).length : Int) + ((recI (1, [])).length : Int)), Chunk.disk w.heap.size gd5 S167 (jdk (⟨#[106]⟩ : ByteArray) ((recsJ ([(3, [120]), (1, [])] : List PI)).take m) (m : Int) [] 1000)] := Own.unbundle (hb171.sel [0, 1] (by decide))
 clear O175
 clear H164 O166 hb171
 have hwf168 : wfD (jdk (⟨#[106]⟩ : ByteArray) ((recsJ ([(3, [120]), (1, [])] : List PI)).take m) (m : Int) [] 1000) := by have h_ := wf_crash (keep := ([5])) hwf141; rw [show (crashD ([5]) (jdk (⟨#[106]⟩ : ByteArray) (recsJ ([(3, [120]), (1, [])] : List PI)) ((recsJ ([(3, [120])] : List PI)).length : Int) [] 1000)) = (jdk (⟨#[106]⟩ : ByteArray) ((recsJ ([(3, [120]), (1, [])] : List PI)).take m) (m : Int) [] 1000) from hmc] at h_; exact h_
 refine gE hK157 ?_
 refine gR fun K177 hK177 => ?_
 refine V H173 (op_move rfl (H173.ev rfl)) ?_
 intro _ H179; clear H173
 obtain ⟨q, hq1, hqo, hq3, hq4⟩ := jd_reopen (nm := (⟨#[106]⟩ : ByteArray)) (ext := []) (mst := 1000) (fun g_ hg_ => by simp at hg_) hok2 hon2 hm2
 have hTW := two_cut hq1 hq3 hq4 hm3 hm2
 have hq : q = 1 := by rcases hTW with ⟨h_, _⟩ | ⟨_, h_⟩; (· exact h_); (· exfalso; unfold mn mx at hm1; (repeat' split at hm1) <;> omega)
 have hokT : ∀ x_ ∈ (([(3, [120]), (1, [])] : List PI).take q), okI x_ := fun x_ hx_ => hok2 x_ (List.mem_of_mem_take hx_)
 have heq184 : openJ (⟨#[106]⟩ : ByteArray) (jdk (⟨#[106]⟩ : ByteArray) ((recsJ ([(3, [120]), (1, [])] : List PI)).take m) (m : Int) [] 1000) = (((jdk (⟨#[106]⟩ : ByteArray) (recsJ (([(3, [120]), (1, [])] : List PI).take q)) ((recsJ (([(3, [120]), (1, [])] : List PI).take q)).length : Int) [] 1000), 0), ((([(3, [120]), (1, [])] : List PI).take q), ((recsJ (([(3, [120]), (1, [])] : List PI).take q)).length : Int))) := hqo
 have O191 : Own w _ [(Chunk.all [Chunk.row (Kd.int .i64) 3 w.heap.size S161 (.slice A160 (([5]).length) (([5]).length)) ([5]), Chunk.blk g70 (.cells (nums .u8 [120]).toArray 5 (([120]).length, ([120]).length + 1)), Chunk.jour w.heap.size gd5 gj28 (⟨#[106]⟩ : ByteArray) SJ139 ([(3, [120]), (1, [])] : List PI) (0 + ((recI (3, [120])).length : Int) + ((recI (1, [])).length : Int))]), Chunk.disk w.heap.size gd5 S167 (jdk (⟨#[106]⟩ : ByteArray) ((recsJ ([(3, [120]), (1, [])] : List PI)).take m) (m : Int) [] 1000)] := Own.bundle (O174.sel [0, 1, 2, 3] (by decide))
 refine gw_call H179 (want_none rfl) rfl (by decide) (op_callL Tryz.func9 (by kernel_rfl) rfl rfl (ar_cons (H179.ev rfl) (ar_cons (ev_c _ _) ar_nil))) (open_ok heq184 hwf168 (by decide) (by show 1 ≤ 1000000; decide) (used_le (by rw [hml]; rw [recs_two] at hm2; omega)) (jd_byte (take_byte (recs_byte hok2) m)) (by exact O191)) ?_
 rintro e185 w186 ⟨gj180, SJ181, S182, rfl, hb187⟩
 refine ⟨_, rfl, fun _ H189 => ?_⟩
 have O190 : Own w w186 [Chunk.row (Kd.int .i64) 3 w.heap.size S161 (.slice A160 (([5]).length) (([5]).length)) ([5]), Chunk.blk g70 (.cells (nums .u8 [120]).toArray 5 (([120]).length, ([120]).length + 1)), Chunk.jour w.heap.size gd5 gj28 (⟨#[106]⟩ : ByteArray) SJ139 ([(3, [120]), (1, [])] : List PI) (0 + ((recI (3, [120])).length : Int) + ((recI (1, [])).length : Int)), Chunk.disk w.heap.size gd5 S182 (jdk (⟨#[106]⟩ : ByteArray) (recsJ (([(3, [120]), (1, [])] : List PI).take q)) ((recsJ (([(3, [120]), (1, [])] : List PI).take q)).length : Int) [] 1000), Chunk.jour w.heap.size gd5 gj180 (⟨#[106]⟩ : ByteArray) SJ181 (([(3, [120]), (1, [])] : List PI).take q) ((recsJ (([(3, [120]), (1, [])] : List PI).take q)).length : Int)] := Own.unbundle (hb187.sel [0, 1, 2] (by decide))
 clear O191
 clear H179 O174 hb187
 have hwf183 : wfD (jdk (⟨#[106]⟩ : ByteArray) (recsJ (([(3, [120]), (1, [])] : List PI).take q)) ((recsJ (([(3, [120]), (1, [])] : List PI).take q)).length : Int) [] 1000) := wf_open' heq184 hwf168
 refine V H189 (op_move rfl (H189.ev rfl)) ?_
 intro _ H194; clear H189
 refine V H194 (op_extract rfl (H194.ev rfl) rfl) ?_
 intro _ H196; clear H194
 refine V H196 (op_extract rfl (H196.ev rfl) rfl) ?_
 intro _ H198; clear H196
 refine V H198 (op_assign rfl (H198.ev rfl)) ?_
 intro _ H200; clear H198
 refine V H200 (op_assign rfl (H200.ev rfl)) ?_
 intro _ H202; clear H200
 refine gE hK177 ?_
 refine gw_seq fun K203 hK203 => ?_
 refine gR fun K204 hK204 => ?_
 refine V H202 (op_move rfl (H202.ev rfl)) ?_
 intro _ H206; clear H202
 refine V H206 (op_nei rfl (H206.ev rfl) (ev_c _ _)) ?_
 intro _ H208; clear H206
 have H209 := H208.lit (b := false) (by decide)
 clear H208
 refine V H209 (op_move rfl (H209.ev rfl)) ?_
 intro _ H211; clear H209
 refine V2 H211 (want_yes H211 rfl rfl rfl rfl) (op_move rfl (H211.ev rfl)) ?_
 intro _ H213; clear H211
 refine V2 H213 (want_yes H213 rfl rfl rfl rfl) (op_eqp_nil Tryz.underlying29 rfl (H213.ev rfl)) ?_
 intro _ H215; clear H213
 refine V H215 (op_pick_f rfl (H215.ev rfl) (H215.ev rfl)) ?_
 intro _ H217; clear H215
 refine V H217 (op_move rfl (H217.ev rfl)) ?_
 intro _ H219; clear H217
 refine V2 H219 (want_yes H219 rfl rfl rfl rfl) (op_move rfl (H219.ev rfl)) ?_
 intro _ H221; clear H219
 refine gw_call H221 (want_yes H221 rfl rfl rfl rfl) rfl (by decide) (op_callL Tryz.func21 (by kernel_rfl) rfl rfl (ar_cons (H221.ev rfl) (ar_cons (ev_c _ _) ar_nil))) ((by have h_ := has_calls w.heap.size gd5 gj180 (⟨#[106]⟩ : ByteArray) SJ181 (([(3, [120]), (1, [])] : List PI).take q) ((recsJ (([(3, [120]), (1, [])] : List PI).take q)).length : Int) _ (O190.get 4 rfl) 3 (by decide); rw [show hasJ 3 (([(3, [120]), (1, [])] : List PI).take q) = true from (by rcases hTW with ⟨h_, _⟩ | ⟨h_, _⟩ <;> rw [h_] <;> rfl)] at h_; exact h_)) ?_
 rintro e222 w223 ⟨rfl, hb224⟩
 refine ⟨_, rfl, fun _ H226 => ?_⟩
 have O227 := O190.after hb224
 clear H221 O190 hb224
 refine V2 H226 (want_yes H226 rfl rfl rfl rfl) (op_not rfl (H226.ev rfl)) ?_
 intro _ H230; clear H226
 refine V H230 (op_pick_f rfl (H230.ev rfl) (H230.ev rfl)) ?_
 intro _ H232; clear H230
 refine V H232 (op_move rfl (H232.ev rfl)) ?_
 intro _ H234; clear H232
 refine V2 H234 (want_yes H234 rfl rfl rfl rfl) (op_move rfl (H234.ev rfl)) ?_
 intro _ H236; clear H234
 refine gw_call H236 (want_yes H236 rfl rfl rfl rfl) rfl (by decide) (op_callL Tryz.func21 (by kernel_rfl) rfl rfl (ar_cons (H236.ev rfl) (ar_cons (ev_c _ _) ar_nil))) ((by have h_ := has_calls w.heap.size gd5 gj180 (⟨#[106]⟩ : ByteArray) SJ181 (([(3, [120]), (1, [])] : List PI).take q) ((recsJ (([(3, [120]), (1, [])] : List PI).take q)).length : Int) _ (O227.get 4 rfl) 1 (by decide); rw [show hasJ 1 (([(3, [120]), (1, [])] : List PI).take q) = false from (by rw [hq]; rfl)] at h_; exact h_)) ?_
 rintro e237 w238 ⟨rfl, hb239⟩
 refine ⟨_, rfl, fun _ H241 => ?_⟩
 have O242 := O227.after hb239
 clear H236 O227 hb239
 refine V H241 (op_pick_f rfl (H241.ev rfl) (H241.ev rfl)) ?_
 intro _ H245; clear H241
 refine gE hK204 ?_
 refine gw_cond H245 rfl (fun hb246 => ?_) (fun hb246 => ?_)
 skip
 ·
  cases hb246
 refine wp_skip ?_
 refine gw_nx (hK203 _ _ ?_)
 refine gR fun K247 hK247 => ?_
 refine V H245 (op_move rfl (H245.ev rfl)) ?_
 intro _ H249; clear H245
 refine gw_call H249 (want_none rfl) rfl (by decide) (op_callL Tryz.func23 (by kernel_rfl) rfl rfl (ar_cons (H249.ev rfl) (ar_cons (ev_c _ _) ar_nil))) ((by have h_ := get_calls w.heap.size gd5 gj180 (⟨#[106]⟩ : ByteArray) SJ181 (([(3, [120]), (1, [])] : List PI).take q) ((recsJ (([(3, [120]), (1, [])] : List PI).take q)).length : Int) _ (O242.get 4 rfl) 3 (by decide) (fun x_ hx_ => by have h_ := (hokT x_ hx_).2.1; omega); rw [show hasJ 3 (([(3, [120]), (1, [])] : List PI).take q) = true from (by rcases hTW with ⟨h_, _⟩ | ⟨h_, _⟩ <;> rw [h_] <;> rfl), show (getJ 3 (([(3, [120]), (1, [])] : List PI).take q)).getD [] = [120] from (by rcases hTW with ⟨h_, _⟩ | ⟨h_, _⟩ <;> rw [h_] <;> rfl)] at h_; exact h_)) ?_
 rintro e253 w254 ⟨A250, c251, S252, rfl, hb255⟩
 refine ⟨_, rfl, fun _ H257 => ?_⟩
 have O258 := O242.fresh hb255
 have hbel259 := O242.below
 clear H249 O242 hb255
 have O260 := O258.lowrow 0 rfl (base' := w.heap.size) (Below.size hbel259)
 refine V H257 (op_move rfl (H257.ev rfl)) ?_
 intro _ H262; clear H257
 refine V H262 (op_extract rfl (H262.ev rfl) rfl) ?_
 intro _ H264; clear H262
 refine V H264 (op_extract rfl (H264.ev rfl) rfl) ?_
 intro _ H266; clear H264
 refine V H266 (op_assign rfl (H266.ev rfl)) ?_
 intro _ H268; clear H266
 refine V H268 (op_assign rfl (H268.ev rfl)) ?_
 intro _ H270; clear H268
 refine gE hK247 ?_
 refine gR fun K271 hK271 => ?_
 refine V H270 (op_move rfl (H270.ev rfl)) ?_
 intro _ H273; clear H270
 refine V H273 (op_move rfl (H273.ev rfl)) ?_
 intro _ H275; clear H273
 refine V2 H275 (want_yes H275 rfl rfl rfl rfl) (op_move rfl (H275.ev rfl)) ?_
 intro _ H277; clear H275
 refine V2 H277 (want_yes H277 rfl rfl rfl rfl) (op_conv_str Tryz.underlying22 Tryz.underlying5 Tryz.underlying9 (Kd.R_reads' (O260.get 0 rfl)).2.2 rfl (H277.ev rfl)) ?_
 intro _ H279; clear H277
 refine V2 H279 (want_yes H279 rfl rfl rfl rfl) (op_eqs rfl (H279.ev rfl) (ev_c _ _)) ?_
 intro _ H281; clear H279
 have H282 := H281.lit (b := true) (by decide +kernel)
 clear H281
 refine V H282 (op_pick_t rfl (H282.ev rfl) (H282.ev rfl)) ?_
 intro _ H284; clear H282
 refine V H284 (op_move rfl (H284.ev rfl)) ?_
 intro _ H286; clear H284
 refine V2 H286 (want_yes H286 rfl rfl rfl rfl) (op_move rfl (H286.ev rfl)) ?_
 intro _ H288; clear H286
 refine gw_call H288 (want_yes H288 rfl rfl rfl rfl) rfl (by decide) (op_callL Tryz.func24 (by kernel_rfl) rfl rfl (ar_cons (H288.ev rfl) ar_nil)) (keys_calls w.heap.size gd5 gj180 (⟨#[106]⟩ : ByteArray) SJ181 (([(3, [120]), (1, [])] : List PI).take q) ((recsJ (([(3, [120]), (1, [])] : List PI).take q)).length : Int) _ (by exact O260.get 5 rfl) (by rw [List.length_take]; show min q 2 ≤ 1000000; omega)) ?_
 rintro e295 w296 ⟨A289, c290, S291, ks292, hkr293, hkp294, rfl, hb297⟩
 refine ⟨_, rfl, fun _ H299 => ?_⟩
 have O300 := O260.fresh hb297
 have hbel301 := O260.below
 clear H288 O260 hb297
 have O302 := O300.lowrow 0 rfl (base' := w.heap.size) (Below.size hbel301)
 have hkl_ks292 := hkp294.length_eq
 rw [List.length_map] at hkl_ks292
 have KS := hkl_ks292
 refine V2 H299 (want_yes H299 rfl rfl rfl rfl) (op_len Tryz.underlying67 rfl (H299.ev rfl)) ?_
 intro _ H304; clear H299
 refine V2 H304 (want_yes H304 rfl rfl rfl rfl) (op_eqi rfl (H304.ev rfl) (ev_c _ _)) ?_
 intro _ H306; clear H304
 have H307 := H306.lit (b := true) (by rw [decide_eq_true_eq, KS, hq]; rfl)
 clear H306
 refine V H307 (op_pick_t rfl (H307.ev rfl) (H307.ev rfl)) ?_
 intro _ H309; clear H307
 refine V H309 (op_move rfl (H309.ev rfl)) ?_
 intro _ H311; clear H309
 refine V2 H311 (want_yes H311 rfl rfl rfl rfl) (op_move rfl (H311.ev rfl)) ?_
 intro _ H313; clear H311
 refine gw_call H313 (want_yes H313 rfl rfl rfl rfl) rfl (by decide) (op_callL Tryz.func25 (by kernel_rfl) rfl rfl (ar_cons (H313.ev rfl) ar_nil)) (size_calls w.heap.size gd5 gj180 (⟨#[106]⟩ : ByteArray) SJ181 (([(3, [120]), (1, [])] : List PI).take q) ((recsJ (([(3, [120]), (1, [])] : List PI).take q)).length : Int) _ (O302.get 6 rfl)) ?_
 rintro e314 w315 ⟨rfl, hb316⟩
 refine ⟨_, rfl, fun _ H318 => ?_⟩
 have O319 := O302.after hb316
 clear H313 O302 hb316
 refine V2 H318 (want_yes H318 rfl rfl rfl rfl) (op_eqi rfl (H318.ev rfl) (ev_c _ _)) ?_
 intro _ H322; clear H318
 have H323 := H322.lit (b := true) (by rw [decide_eq_true_eq, hq, show (([(3, [120]), (1, [])] : List PI) : List PI).take 1 = [(3, [120])] from rfl, recs_one]; omega)
 clear H322
 refine V H323 (op_pick_t rfl (H323.ev rfl) (H323.ev rfl)) ?_
 intro _ H325; clear H323
 refine V H325 (op_assign rfl (H325.ev rfl)) ?_
 intro _ H327; clear H325
 refine gE hK271 ?_
 refine wp_ret ?_
 refine gw_ret1 H327 rfl rfl ?_
 exact ⟨rfl, O319.below⟩
end GJAlive_
export GJAlive_ (alive_calls)
end Go.Proofs.YtkdahjnmldeklaaGreat.PA
end
section
namespace Go.Proofs.YtkdahjnmldeklaaGreat.PA
open Go.RowKit Go.Proofs.YtkdahjnmldeklaaGreatW.PrintWords Go.Proofs.YtkdahjnmldeklaaGreatW.PrintLast Go.Proofs.YtkdahjnmldeklaaGreatW.PrintMore
set_option linter.unusedVariables false
set_option linter.unusedSimpArgs false
namespace GRj6_
theorem gwagg2 : ∀ w, (isAgg 2).run Tryz.prog w = .ok false w := fun _ => by kernel_rfl
theorem gwagg34 : ∀ w, (isAgg 34).run Tryz.prog w = .ok true w := fun _ => by kernel_rfl
theorem gwagg39 : ∀ w, (isAgg 39).run Tryz.prog w = .ok false w := fun _ => by kernel_rfl
theorem gwagg4 : ∀ w, (isAgg 4).run Tryz.prog w = .ok false w := fun _ => by kernel_rfl
theorem gwfld34_3 (g off : Nat) : ∀ w, (Instr.fieldAt 34 (.pointer (some ⟨g, off, none⟩)) 3).run Tryz.prog w = .ok (.pointer (some ⟨g, off + 3, none⟩)) w := fun _ => by kernel_rfl
theorem gwfld41_0 (g off : Nat) : ∀ w, (Instr.fieldAt 41 (.pointer (some ⟨g, off, none⟩)) 0).run Tryz.prog w = .ok (.pointer (some ⟨g, off + 0, none⟩)) w := fun _ => by kernel_rfl
theorem gwfld41_2 (g off : Nat) : ∀ w, (Instr.fieldAt 41 (.pointer (some ⟨g, off, none⟩)) 2).run Tryz.prog w = .ok (.pointer (some ⟨g, off + 5, none⟩)) w := fun _ => by kernel_rfl
theorem gwsiz2 : ∀ w, (sizeOf 2).run Tryz.prog w = .ok 1 w := fun _ => by kernel_rfl
theorem gwsiz34 : ∀ w, (sizeOf 34).run Tryz.prog w = .ok 4 w := fun _ => by kernel_rfl
theorem gwsiz5 : ∀ w, (sizeOf 5).run Tryz.prog w = .ok 1 w := fun _ => by kernel_rfl
set_option maxHeartbeats 4000000 in
set_option maxRecDepth 100000 in
theorem alike_calls (w0 w : World) (R : Chunk) (gd gj : Nat) (S SJ : Nat → Prop) (d : PD) (P Sm : Nat → Prop) (Am : Option Addr) (cm : Nat) (files : List S38) (Ai : Option Addr) (ci : Nat) (its : List S54) (hP : ∀ k, P k → k < w0.heap.size) (hw : wfD d) (hd : files.map ofS = d.fs) (hlf : files.length ≤ 1000000) (hil : its.length ≤ 1000000) (hok : ∀ x ∈ its.map toI, okI x) (hon : onceJ (its.map toI)) (hlen : d.fs.length ≤ 1000000) (hus : d.used ≤ 1000000) (hsz : (recsJ (its.map toI)).length ≤ 140737488355327) (HO : Own w0 w [R, Chunk.disk w0.heap.size gd S d, Chunk.jour w0.heap.size gd gj (⟨#[106]⟩ : ByteArray) SJ (its.map toI) ((recsJ (its.map toI)).length : Int), Chunk.rj w0 P Sm Am cm files Ai ci its]) :
    Calls Tryz.prog 13 #[.pointer (some ⟨gd, 0, none⟩), .pointer (some ⟨gj, 0, none⟩), .agg #[.slice Am files.length cm, .int .i64 d.most, .int .i64 d.fuse, .bool d.down, .string (⟨#[106]⟩ : ByteArray), .slice Ai its.length ci]] w fun e w' => e = .returned (.bool true) ∧ Own w0 w' [R, Chunk.disk w0.heap.size gd S d, Chunk.jour w0.heap.size gd gj (⟨#[106]⟩ : ByteArray) SJ (its.map toI) ((recsJ (its.map toI)).length : Int), Chunk.rj w0 P Sm Am cm files Ai ci its] := by
 have hFf := rj_F (i := 3) HO hP rfl
 have hFi := rj_FI (i := 3) HO hP rfl
 have hB0 := HO.below
 have hrj := HO.get 3 rfl
 replace HO : Own w0 w [R, Chunk.disk w0.heap.size gd S d, Chunk.jour w0.heap.size gd gj (⟨#[106]⟩ : ByteArray) SJ (its.map toI) ((recsJ (its.map toI)).length : Int), Chunk.rjAt Sm w] := HO.rj_pin 3 rfl
 refine gw_startO (N := 126) (vs := [.pointer (some ⟨gd, 0, none⟩), .pointer (some ⟨gj, 0, none⟩), .agg #[.slice Am files.length cm, J d.most, J d.fuse, .bool d.down, .string (⟨#[106]⟩ : ByteArray), .slice Ai its.length ci]]) Tryz.func13 rfl rfl (by simp) fun a HF => ?_
 refine gR fun K1 hK1 => ?_
 refine gw_new HF HO (want_none rfl) rfl (by decide) (op_box rfl (HF.ev rfl)) ?_
 intro g2 _ w4 H5 O6; clear HF HO
 have O7 : Own w0 w4 [Bk g2 [.slice Am files.length cm, J d.most, J d.fuse, .bool d.down, .string (⟨#[106]⟩ : ByteArray), .slice Ai its.length ci] 41, R, Chunk.disk w0.heap.size gd S d, Chunk.jour w0.heap.size gd gj (⟨#[106]⟩ : ByteArray) SJ (its.map toI) ((recsJ (its.map toI)).length : Int), Chunk.rjAt Sm w] := O6
 clear O6
 refine V H5 (op_assign rfl (ev_c _ _)) ?_
 intro _ H9; clear H5
 refine gE hK1 ?_
 refine gw_seq fun K10 hK10 => ?_
 refine gx_draw (M := [Bk g2 [.slice Am files.length cm, J d.most, J d.fuse, .bool d.down, .string (⟨#[106]⟩ : ByteArray), .slice Ai its.length ci] 41, R, Chunk.disk w0.heap.size gd S d, Chunk.jour w0.heap.size gd gj (⟨#[106]⟩ : ByteArray) SJ (its.map toI) ((recsJ (its.map toI)).length : Int), Chunk.rjAt Sm w]) (fun j_ => false) O7 (by kernel_rfl) fun w11 O12 => ?_
 clear O7
 refine gx_take 0 rfl (by kernel_rfl) H9 (by exact O12.sel [0, 1, 2, 3, 4] (by decide)) (want_none rfl) rfl (by decide) (fun wq HO => (op_move rfl (H9.ev rfl))) ?_
 intro _ H14; clear H9
 refine gx_take 2 rfl (by kernel_rfl) H14 (by exact O12.sel [0, 1, 2, 3, 4] (by decide)) (want_none rfl) rfl (by decide) (fun wq HO => (op_field (gwfld41_2 _ _) rfl (H14.ev rfl))) ?_
 intro _ H16; clear H14
 refine gx_take 3 rfl (by kernel_rfl) H16 (by exact O12.sel [0, 1, 2, 3, 4] (by decide)) (want_none rfl) rfl (by decide) (fun wq HO => (op_load1 gwagg39 rfl (H16.ev rfl) (blk_at (HO.get 0 rfl) rfl))) ?_
 intro _ H18; clear H16
 refine gx_step 1 rfl (by kernel_rfl) ?_
 refine gw_call H18 (want_none rfl) rfl (by decide) (op_callL Tryz.func24 (by kernel_rfl) rfl rfl (ar_cons (H18.ev rfl) ar_nil)) (keys_calls w0.heap.size gd gj (⟨#[106]⟩ : ByteArray) SJ (its.map toI) ((recsJ (its.map toI)).length : Int) _ (by exact O12.get 3 rfl) (by rw [List.length_map]; omega)) ?_
 rintro e25 w26 ⟨A19, c20, S21, ks22, hkr23, hkp24, rfl, hb27⟩
 refine ⟨_, rfl, fun _ H29 => ?_⟩
 have O30 := O12.fresh hb27
 have hbel31 := O12.below
 clear H18 O12 hb27
 have O32 := O30.lowrow 0 rfl (base' := w0.heap.size) (Below.size hbel31)
 have hkl_ks22 := hkp24.length_eq
 rw [List.length_map] at hkl_ks22
 refine gx_on (i := 1) (B := (fun j_ => false)) (fun _ => (by exact O32.sel [1, 2, 3, 4, 5] (by decide))) ?_
 refine gx_step 4 rfl (by kernel_rfl) ?_
 refine gw_call H29 (want_none rfl) rfl (by decide) (op_callL Tryz.func41 (by kernel_rfl) rfl rfl (ar_cons (H29.ev rfl) ar_nil)) (keys_ref Ai ci its _ (Kd.F_now (pin_F (i := 5) hB0 O32 hP rfl hFi)) hrj.2.2.1 hil hok hon) ?_
 rintro e39 w40 ⟨A33, c34, S35, qs36, hqr37, hqp38, rfl, hb41⟩
 refine ⟨_, rfl, fun _ H43 => ?_⟩
 have O44 := O32.fresh hb41
 have hbel45 := O32.below
 clear H29 O32 hb41
 have O46 := O44.lowrow 0 rfl (base' := w0.heap.size) (Below.size hbel45)
 refine gx_on (i := 4) (B := (fun j_ => false)) (fun _ => (by exact O46.sel [2, 3, 4, 5, 6] (by decide))) ?_
 refine gx_take 5 rfl (by kernel_rfl) H43 (by exact O46.sel [2, 3, 4, 5, 6] (by decide)) (want_none rfl) rfl (by decide) (fun wq HO => (op_assign rfl (H43.ev rfl))) ?_
 intro _ H48; clear H43
 refine gx_take 6 rfl (by kernel_rfl) H48 (by exact O46.sel [2, 3, 4, 5, 6] (by decide)) (want_none rfl) rfl (by decide) (fun wq HO => (op_assign rfl (H48.ev rfl))) ?_
 intro _ H50; clear H48
 refine gx_done (by kernel_rfl) ?_
 have O51 := O46.row_view 1 rfl
 clear O46
 have O52 : Own w0 w40 [Chunk.row (Kd.int .i64) 2 w0.heap.size S35 (.slice A33 qs36.length c34) qs36, Chunk.view (Kd.int .i64) S21 A19 ks22.length c20 ks22, Bk g2 [.slice Am files.length cm, J d.most, J d.fuse, .bool d.down, .string (⟨#[106]⟩ : ByteArray), .slice Ai its.length ci] 41, R, Chunk.disk w0.heap.size gd S d, Chunk.jour w0.heap.size gd gj (⟨#[106]⟩ : ByteArray) SJ (its.map toI) ((recsJ (its.map toI)).length : Int), Chunk.rjAt Sm w] := O51
 clear O51
 have O53 := O52.row_view 0 rfl
 clear O52
 have O54 : Own w0 w40 [Chunk.view (Kd.int .i64) S35 A33 qs36.length c34 qs36, Chunk.view (Kd.int .i64) S21 A19 ks22.length c20 ks22, Bk g2 [.slice Am files.length cm, J d.most, J d.fuse, .bool d.down, .string (⟨#[106]⟩ : ByteArray), .slice Ai its.length ci] 41, R, Chunk.disk w0.heap.size gd S d, Chunk.jour w0.heap.size gd gj (⟨#[106]⟩ : ByteArray) SJ (its.map toI) ((recsJ (its.map toI)).length : Int), Chunk.rjAt Sm w] := O53
 clear O53
 have hqs : qs36 = ks22 := keys_same hqr37 hqp38 hkr23 hkp24
 have hkok : ∀ k_ ∈ ks22, 0 ≤ k_ ∧ k_ ≤ 1099511627776 := fun k_ hk_ => key_ok hok hkp24 hk_
 have hkha : ∀ k_ ∈ ks22, hasJ k_ (its.map toI) = true := fun k_ hk_ => key_has hkp24 hk_
 have hkl : ks22.length = its.length := by have h_ := hkp24.length_eq; rw [List.length_map, List.length_map] at h_; exact h_
 have hql : qs36.length = ks22.length := by rw [hqs]
 refine gw_nx (hK10 _ _ ?_)
 refine gw_seq fun K55 hK55 => ?_
 refine gw_seq fun K56 hK56 => ?_
 refine gw_drawB O54 (by kernel_rfl) (by kernel_rfl) fun w57 O58 => ?_
 clear O54
 refine gq_ev H50 (want_none rfl) rfl (by decide) (fun wq hq => have HO := O58.after hq; (op_move rfl (H50.ev rfl))) ?_
 intro _ H60; clear H50
 refine gq_ev H60 (want_none rfl) rfl (by decide) (fun wq hq => have HO := O58.after hq; (op_len Tryz.underlying67 rfl (H60.ev rfl))) ?_
 intro _ H62; clear H60
 refine gq_ev H62 (want_none rfl) rfl (by decide) (fun wq hq => have HO := O58.after hq; (op_move rfl (H62.ev rfl))) ?_
 intro _ H64; clear H62
 refine gq_ev H64 (want_none rfl) rfl (by decide) (fun wq hq => have HO := O58.after hq; (op_len Tryz.underlying67 rfl (H64.ev rfl))) ?_
 intro _ H66; clear H64
 refine gq_ev H66 (want_none rfl) rfl (by decide) (fun wq hq => have HO := O58.after hq; (op_nei rfl (H66.ev rfl) (H66.ev rfl))) ?_
 intro _ H68; clear H66
 have H69 := H68.lit (b := false) (by rw [decide_eq_false_iff_not, hql]; simp)
 clear H68
 refine gq_ev H69 (want_none rfl) rfl (by decide) (fun wq hq => have HO := O58.after hq; (op_move rfl (H69.ev rfl))) ?_
 intro _ H71; clear H69
 refine gq_ev H71 (want_yes H71 rfl rfl rfl rfl) rfl (by decide) (fun wq hq => have HO := O58.after hq; (op_move rfl (H71.ev rfl))) ?_
 intro _ H73; clear H71
 refine gq_call H73 (want_yes H73 rfl rfl rfl rfl) rfl (by decide) (fun wq hq => have HO := O58.after hq; (op_callL Tryz.func25 (by kernel_rfl) rfl rfl (ar_cons (H73.ev rfl) ar_nil))) (fun wq hq => have HO := O58.after hq; (size_calls w0.heap.size gd gj (⟨#[106]⟩ : ByteArray) SJ (its.map toI) ((recsJ (its.map toI)).length : Int) _ (HO.get 5 rfl)).mono fun e w' h => ⟨h.1, below_then hq h.2⟩) ?_
 intro _ H75; clear H73
 refine gq_ev H75 (want_yes H75 rfl rfl rfl rfl) rfl (by decide) (fun wq hq => have HO := O58.after hq; (op_field (gwfld41_2 _ _) rfl (H75.ev rfl))) ?_
 intro _ H77; clear H75
 refine gq_ev H77 (want_yes H77 rfl rfl rfl rfl) rfl (by decide) (fun wq hq => have HO := O58.after hq; (op_load1 gwagg39 rfl (H77.ev rfl) (blk_at (HO.get 2 rfl) rfl))) ?_
 intro _ H79; clear H77
 refine gq_call H79 (want_yes H79 rfl rfl rfl rfl) rfl (by decide) (fun wq hq => have HO := O58.after hq; (op_callL Tryz.func40 (by kernel_rfl) rfl rfl (ar_cons (H79.ev rfl) ar_nil))) (fun wq hq => have HO := O58.after hq; (size_ref Ai ci its  _ (Kd.F_now (pin_F (i := 6) hB0 HO hP rfl hFi)) hrj.2.2.1 hil hok hsz).mono fun e w' h => ⟨h.1, below_then hq h.2⟩) ?_
 intro _ H81; clear H79
 refine gq_ev H81 (want_yes H81 rfl rfl rfl rfl) rfl (by decide) (fun wq hq => have HO := O58.after hq; (op_nei rfl (H81.ev rfl) (H81.ev rfl))) ?_
 intro _ H83; clear H81
 have H84 := H83.lit (b := false) (by simp)
 clear H83
 refine gq_ev H84 (want_none rfl) rfl (by decide) (fun wq hq => have HO := O58.after hq; (op_pick_f rfl (H84.ev rfl) (H84.ev rfl))) ?_
 intro _ H86; clear H84
 refine gq_ev H86 (want_none rfl) rfl (by decide) (fun wq hq => have HO := O58.after hq; (op_move rfl (H86.ev rfl))) ?_
 intro _ H88; clear H86
 refine gq_ev H88 (want_yes H88 rfl rfl rfl rfl) rfl (by decide) (fun wq hq => have HO := O58.after hq; (op_move rfl (H88.ev rfl))) ?_
 intro _ H90; clear H88
 refine gq_call H90 (want_yes H90 rfl rfl rfl rfl) rfl (by decide) (fun wq hq => have HO := O58.after hq; (op_callL Tryz.func42 (by kernel_rfl) rfl rfl (ar_cons (H90.ev rfl) ar_nil))) (fun wq hq => have HO := O58.after hq; (down_calls w0.heap.size gd S d _ (HO.get 4 rfl)).mono fun e w' h => ⟨h.1, below_then hq h.2⟩) ?_
 intro _ H92; clear H90
 refine gq_ev H92 (want_yes H92 rfl rfl rfl rfl) rfl (by decide) (fun wq hq => have HO := O58.after hq; (op_field (gwfld41_0 _ _) rfl (H92.ev rfl))) ?_
 intro _ H94; clear H92
 refine gq_ev H94 (want_yes H94 rfl rfl rfl rfl) rfl (by decide) (fun wq hq => have HO := O58.after hq; (op_field (gwfld34_3 _ _) rfl (H94.ev rfl))) ?_
 intro _ H96; clear H94
 refine gq_ev H96 (want_yes H96 rfl rfl rfl rfl) rfl (by decide) (fun wq hq => have HO := O58.after hq; (op_load1 gwagg4 rfl (H96.ev rfl) (blk_at (HO.get 2 rfl) rfl))) ?_
 intro _ H98; clear H96
 refine gq_ev H98 (want_yes H98 rfl rfl rfl rfl) rfl (by decide) (fun wq hq => have HO := O58.after hq; (op_neb Tryz.underlying4 rfl (H98.ev rfl) (H98.ev rfl))) ?_
 intro _ H100; clear H98
 have H101 := H100.lit (b := false) (by simp)
 clear H100
 refine gq_ev H101 (want_none rfl) rfl (by decide) (fun wq hq => have HO := O58.after hq; (op_pick_f rfl (H101.ev rfl) (H101.ev rfl))) ?_
 intro _ H103; clear H101
 refine wpQuiet_nil ?_
 intro w104 hq
 have O105 := O58.after hq
 clear O58 hq
 refine gw_nx (hK56 _ _ ?_)
 refine gw_cond H103 rfl (fun hb106 => ?_) (fun hb106 => ?_)
 skip
 ·
  cases hb106
 refine wp_skip ?_
 refine gw_nx (hK55 _ _ ?_)
 refine gw_seq fun K107 hK107 => ?_
 refine gR fun K108 hK108 => ?_
 refine V H103 (op_move rfl (H103.ev rfl)) ?_
 intro _ H110; clear H103
 refine V H110 (op_len Tryz.underlying67 rfl (H110.ev rfl)) ?_
 intro _ H112; clear H110
 refine V H112 (op_move rfl (ev_c _ _)) ?_
 intro _ H114; clear H112
 refine gE hK108 ?_
 refine wp_block ?_
 refine gw_loop (fun m_ a_ w_ => ∃ (p : Int), Fr 126 a_ [(47, J p), (0, .pointer (some ⟨gd, 0, none⟩)), (1, .pointer (some ⟨gj, 0, none⟩)), (5, .pointer (some ⟨g2, 0, none⟩)), (7, .slice A19 ks22.length c20), (8, .slice A33 qs36.length c34), (46, J (ks22.length : Int))] ∧ Own w0 w_ [Chunk.view (Kd.int .i64) S35 A33 qs36.length c34 qs36, Chunk.view (Kd.int .i64) S21 A19 ks22.length c20 ks22, Bk g2 [.slice Am files.length cm, J d.most, J d.fuse, .bool d.down, .string (⟨#[106]⟩ : ByteArray), .slice Ai its.length ci] 41, R, Chunk.disk w0.heap.size gd S d, Chunk.jour w0.heap.size gd gj (⟨#[106]⟩ : ByteArray) SJ (its.map toI) ((recsJ (its.map toI)).length : Int), Chunk.rjAt Sm w] ∧ (0 ≤ p ∧ p ≤ ks22.length) ∧ m_ = (ks22.length - p.toNat)) ((ks22.length - (0 : Int).toNat)) ?_ ?_
 ·
  refine ⟨0, (H114.pick (t := 47) rfl (H114.pick (t := 0) rfl (H114.pick (t := 1) rfl (H114.pick (t := 5) rfl (H114.pick (t := 7) rfl (H114.pick (t := 8) rfl (H114.pick (t := 46) rfl H114.nil))))))), O105.sel [0, 1, 2, 3, 4, 5, 6] (by decide), ?_, rfl⟩
  ·
   omega
 ·
  rintro m116 _ w118 ⟨p, H119, O120, hp, hm121⟩
  refine gR fun K122 hK122 => ?_
  refine V H119 (op_lss rfl (H119.ev rfl) (H119.ev rfl)) ?_
  intro _ H124; clear H119
  refine gE hK122 ?_
  refine gw_seq fun K125 hK125 => ?_
  refine gw_cond H124 rfl (fun hb126 => ?_) (fun hb126 => ?_)
  ·
   have H127 := H124.subst_ (d := 48) (b := true) rfl hb126
   clear H124
   (try simp only [decide_eq_true_eq] at hb126)
   have hKm := getD_mem (z := (0 : Int)) ks22 p.toNat (by omega)
   have hK := hkok _ hKm
   have hhas := hkha _ hKm
   have hKl := key_len hok (ks22.getD p.toNat (0 : Int))
   refine wp_skip ?_
   refine gw_nx (hK125 _ _ ?_)
   refine gw_seq fun K128 hK128 => ?_
   refine wp_block ?_
   refine gR fun K129 hK129 => ?_
   refine V H127 (op_move rfl (H127.ev rfl)) ?_
   intro _ H131; clear H127
   refine V H131 (op_assign rfl (H131.ev rfl)) ?_
   intro _ H133; clear H131
   refine gE hK129 ?_
   refine gR fun K134 hK134 => ?_
   refine V H133 (op_move rfl (H133.ev rfl)) ?_
   intro _ H136; clear H133
   refine V H136 (op_move rfl (H136.ev rfl)) ?_
   intro _ H138; clear H136
   refine V H138 (op_move rfl (H138.ev rfl)) ?_
   intro _ H140; clear H138
   have O147 := O120.pin 1 rfl
   clear O120
   have O148 : Own w0 w118 [Chunk.view (Kd.int .i64) S35 A33 qs36.length c34 qs36, Chunk.viewAt w118 (Kd.int .i64) S21 A19 ks22.length c20 ks22, Bk g2 [.slice Am files.length cm, J d.most, J d.fuse, .bool d.down, .string (⟨#[106]⟩ : ByteArray), .slice Ai its.length ci] 41, R, Chunk.disk w0.heap.size gd S d, Chunk.jour w0.heap.size gd gj (⟨#[106]⟩ : ByteArray) SJ (its.map toI) ((recsJ (its.map toI)).length : Int), Chunk.rjAt Sm w] := O147
   clear O147
   obtain ⟨ad141, cs144, hA142, hl145, hK146, hc143, _⟩ := Kd.F_get (viewAt_F (O148.get 1 rfl)) (0 : Int) p (by omega) (by omega)
   obtain rfl := int_openF hK146
   clear hl145
   refine V H140 (op_index Tryz.underlying67 gwsiz2 rfl (H140.ev rfl) (H140.ev rfl) hA142 (⟨by omega, by omega⟩)) ?_
   intro _ H150; clear H140
   refine V H150 (op_load1 gwagg2 rfl (H150.ev rfl) (((pin_cells (O148.get 1 rfl) hA142 hc143) 0 _ rfl))) ?_
   intro _ H152; clear H150
   refine gw_call H152 (want_none rfl) rfl (by decide) (op_callL Tryz.func23 (by kernel_rfl) rfl rfl (ar_cons (H152.ev rfl) (ar_cons (H152.ev rfl) ar_nil))) (get_calls w0.heap.size gd gj (⟨#[106]⟩ : ByteArray) SJ (its.map toI) ((recsJ (its.map toI)).length : Int) _ (O148.get 5 rfl) (ks22.getD p.toNat (0 : Int)) (wf_i64 (by omega)) (fun x_ hx_ => Nat.le_trans (hok x_ hx_).2.1 (by decide))) ?_
   rintro e156 w157 ⟨A153, c154, S155, rfl, hb158⟩
   refine ⟨_, rfl, fun _ H160 => ?_⟩
   have O161 := O148.fresh hb158
   have hbel162 := O148.below
   clear H152 O148 hb158
   have O163 := O161.lowrow 0 rfl (base' := w0.heap.size) (Below.size hbel162)
   refine V H160 (op_move rfl (H160.ev rfl)) ?_
   intro _ H165; clear H160
   refine V H165 (op_extract rfl (H165.ev rfl) rfl) ?_
   intro _ H167; clear H165
   refine V H167 (op_extract rfl (H167.ev rfl) rfl) ?_
   intro _ H169; clear H167
   refine V H169 (op_assign rfl (H169.ev rfl)) ?_
   intro _ H171; clear H169
   refine V H171 (op_assign rfl (H171.ev rfl)) ?_
   intro _ H173; clear H171
   refine gE hK134 ?_
   refine gw_seq fun K174 hK174 => ?_
   have O175 := O163.pin 1 rfl
   clear O163
   have O176 : Own w0 w157 [Chunk.row (Kd.int .u8) 5 w0.heap.size S155 (.slice A153 (((getJ (ks22.getD p.toNat (0 : Int)) (its.map toI)).getD []).length) c154) ((getJ (ks22.getD p.toNat (0 : Int)) (its.map toI)).getD []), Chunk.viewAt w157 (Kd.int .i64) S35 A33 qs36.length c34 qs36, Chunk.viewAt w118 (Kd.int .i64) S21 A19 ks22.length c20 ks22, Bk g2 [.slice Am files.length cm, J d.most, J d.fuse, .bool d.down, .string (⟨#[106]⟩ : ByteArray), .slice Ai its.length ci] 41, R, Chunk.disk w0.heap.size gd S d, Chunk.jour w0.heap.size gd gj (⟨#[106]⟩ : ByteArray) SJ (its.map toI) ((recsJ (its.map toI)).length : Int), Chunk.rjAt Sm w] := O175
   clear O175
   refine gx_draw (M := [Chunk.row (Kd.int .u8) 5 w0.heap.size S155 (.slice A153 (((getJ (ks22.getD p.toNat (0 : Int)) (its.map toI)).getD []).length) c154) ((getJ (ks22.getD p.toNat (0 : Int)) (its.map toI)).getD []), Chunk.viewAt w157 (Kd.int .i64) S35 A33 qs36.length c34 qs36, Chunk.viewAt w118 (Kd.int .i64) S21 A19 ks22.length c20 ks22, Bk g2 [.slice Am files.length cm, J d.most, J d.fuse, .bool d.down, .string (⟨#[106]⟩ : ByteArray), .slice Ai its.length ci] 41, R, Chunk.disk w0.heap.size gd S d, Chunk.jour w0.heap.size gd gj (⟨#[106]⟩ : ByteArray) SJ (its.map toI) ((recsJ (its.map toI)).length : Int), Chunk.rjAt Sm w]) (fun j_ => false) O176 (by kernel_rfl) fun w177 O178 => ?_
   clear O176
   refine gx_take 0 rfl (by kernel_rfl) H173 (by exact O178.sel [0, 1, 2, 3, 4, 5, 6, 7] (by decide)) (want_none rfl) rfl (by decide) (fun wq HO => (op_field (gwfld41_2 _ _) rfl (H173.ev rfl))) ?_
   intro _ H180; clear H173
   refine gx_take 1 rfl (by kernel_rfl) H180 (by exact O178.sel [0, 1, 2, 3, 4, 5, 6, 7] (by decide)) (want_none rfl) rfl (by decide) (fun wq HO => (op_load1 gwagg39 rfl (H180.ev rfl) (blk_at (HO.get 3 rfl) rfl))) ?_
   intro _ H182; clear H180
   refine gx_take 2 rfl (by kernel_rfl) H182 (by exact O178.sel [0, 1, 2, 3, 4, 5, 6, 7] (by decide)) (want_none rfl) rfl (by decide) (fun wq HO => (op_move rfl (H182.ev rfl))) ?_
   intro _ H184; clear H182
   refine gx_take 3 rfl (by kernel_rfl) H184 (by exact O178.sel [0, 1, 2, 3, 4, 5, 6, 7] (by decide)) (want_none rfl) rfl (by decide) (fun wq HO => (op_move rfl (H184.ev rfl))) ?_
   intro _ H186; clear H184
   obtain ⟨ad187, cs190, hA188, hl191, hK192, hc189, _⟩ := Kd.F_get (viewAt_F (O178.get 1 rfl)) (0 : Int) p (by omega) (by omega)
   obtain rfl := int_openF hK192
   clear hl191
   refine gx_take 4 rfl (by kernel_rfl) H186 (by exact O178.sel [0, 1, 2, 3, 4, 5, 6, 7] (by decide)) (want_none rfl) rfl (by decide) (fun wq HO => (op_index Tryz.underlying67 gwsiz2 rfl (H186.ev rfl) (H186.ev rfl) hA188 (⟨by omega, by omega⟩))) ?_
   intro _ H194; clear H186
   refine gx_take 5 rfl (by kernel_rfl) H194 (by exact O178.sel [0, 1, 2, 3, 4, 5, 6, 7] (by decide)) (want_none rfl) rfl (by decide) (fun wq HO => (op_load1 gwagg2 rfl (H194.ev rfl) (((pin_cells (HO.get 1 rfl) hA188 hc189) 0 _ rfl)))) ?_
   intro _ H196; clear H194
   have H197 := H196.conv (v' := J (ks22.getD p.toNat (0 : Int))) (congrArg (Value.int .i64) (by rw [hqs]))
   clear H196
   refine gx_step 6 rfl (by kernel_rfl) ?_
   refine gw_call H197 (want_none rfl) rfl (by decide) (op_callL Tryz.func43 (by kernel_rfl) rfl rfl (ar_cons (H197.ev rfl) (ar_cons (H197.ev rfl) ar_nil))) (get_pin Ai ci its (ks22.getD p.toNat (0 : Int)) 7 hB0 hP O178 rfl hFi hrj.2.2.1 hil) ?_
   rintro e202 w203 ⟨A198, c199, rfl, hC200, hc201, hb204⟩
   refine ⟨_, rfl, fun _ H206 => ?_⟩
   have O207 := O178.after hb204
   clear H197 O178 hb204
   refine gx_on (i := 6) (B := (fun j_ => false)) (fun _ => (by exact O207.sel [0, 1, 2, 3, 4, 5, 6, 7] (by decide))) ?_
   refine gx_take 7 rfl (by kernel_rfl) H206 (by exact O207.sel [0, 1, 2, 3, 4, 5, 6, 7] (by decide)) (want_none rfl) rfl (by decide) (fun wq HO => (op_move rfl (H206.ev rfl))) ?_
   intro _ H210; clear H206
   refine gx_take 8 rfl (by kernel_rfl) H210 (by exact O207.sel [0, 1, 2, 3, 4, 5, 6, 7] (by decide)) (want_none rfl) rfl (by decide) (fun wq HO => (op_extract rfl (H210.ev rfl) rfl)) ?_
   intro _ H212; clear H210
   refine gx_take 9 rfl (by kernel_rfl) H212 (by exact O207.sel [0, 1, 2, 3, 4, 5, 6, 7] (by decide)) (want_none rfl) rfl (by decide) (fun wq HO => (op_extract rfl (H212.ev rfl) rfl)) ?_
   intro _ H214; clear H212
   refine gx_take 10 rfl (by kernel_rfl) H214 (by exact O207.sel [0, 1, 2, 3, 4, 5, 6, 7] (by decide)) (want_none rfl) rfl (by decide) (fun wq HO => (op_assign rfl (H214.ev rfl))) ?_
   intro _ H216; clear H214
   refine gx_take 11 rfl (by kernel_rfl) H216 (by exact O207.sel [0, 1, 2, 3, 4, 5, 6, 7] (by decide)) (want_none rfl) rfl (by decide) (fun wq HO => (op_assign rfl (H216.ev rfl))) ?_
   intro _ H218; clear H216
   refine gx_done (by kernel_rfl) ?_
   refine gw_nx (hK174 _ _ ?_)
   refine gw_seq fun K219 hK219 => ?_
   refine gw_seq fun K220 hK220 => ?_
   refine gw_drawB O207 (by kernel_rfl) (by kernel_rfl) fun w221 O222 => ?_
   clear O207
   refine gq_ev H218 (want_none rfl) rfl (by decide) (fun wq hq => have HO := O222.after hq; (op_move rfl (H218.ev rfl))) ?_
   intro _ H224; clear H218
   refine gq_ev H224 (want_none rfl) rfl (by decide) (fun wq hq => have HO := O222.after hq; (op_move rfl (H224.ev rfl))) ?_
   intro _ H226; clear H224
   obtain ⟨ad227, cs230, hA228, hl231, hK232, hc229, _⟩ := Kd.F_get (viewAt_F (O222.get 2 rfl)) (0 : Int) p (by omega) (by omega)
   obtain rfl := int_openF hK232
   clear hl231
   refine gq_ev H226 (want_none rfl) rfl (by decide) (fun wq hq => have HO := O222.after hq; (op_index Tryz.underlying67 gwsiz2 rfl (H226.ev rfl) (H226.ev rfl) hA228 (⟨by omega, by omega⟩))) ?_
   intro _ H234; clear H226
   refine gq_ev H234 (want_none rfl) rfl (by decide) (fun wq hq => have HO := O222.after hq; (op_load1 gwagg2 rfl (H234.ev rfl) (((pin_cells (HO.get 2 rfl) hA228 hc229) 0 _ rfl)))) ?_
   intro _ H236; clear H234
   refine gq_ev H236 (want_none rfl) rfl (by decide) (fun wq hq => have HO := O222.after hq; (op_move rfl (H236.ev rfl))) ?_
   intro _ H238; clear H236
   refine gq_ev H238 (want_none rfl) rfl (by decide) (fun wq hq => have HO := O222.after hq; (op_move rfl (H238.ev rfl))) ?_
   intro _ H240; clear H238
   obtain ⟨ad241, cs244, hA242, hl245, hK246, hc243, _⟩ := Kd.F_get (viewAt_F (O222.get 1 rfl)) (0 : Int) p (by omega) (by omega)
   obtain rfl := int_openF hK246
   clear hl245
   refine gq_ev H240 (want_none rfl) rfl (by decide) (fun wq hq => have HO := O222.after hq; (op_index Tryz.underlying67 gwsiz2 rfl (H240.ev rfl) (H240.ev rfl) hA242 (⟨by omega, by omega⟩))) ?_
   intro _ H248; clear H240
   refine gq_ev H248 (want_none rfl) rfl (by decide) (fun wq hq => have HO := O222.after hq; (op_load1 gwagg2 rfl (H248.ev rfl) (((pin_cells (HO.get 1 rfl) hA242 hc243) 0 _ rfl)))) ?_
   intro _ H250; clear H248
   have H251 := H250.conv (v' := J (ks22.getD p.toNat (0 : Int))) (congrArg (Value.int .i64) (by rw [hqs]))
   clear H250
   refine gq_ev H251 (want_none rfl) rfl (by decide) (fun wq hq => have HO := O222.after hq; (op_nei rfl (H251.ev rfl) (H251.ev rfl))) ?_
   intro _ H253; clear H251
   have H254 := H253.lit (b := false) (by simp)
   clear H253
   refine gq_ev H254 (want_none rfl) rfl (by decide) (fun wq hq => have HO := O222.after hq; (op_move rfl (H254.ev rfl))) ?_
   intro _ H256; clear H254
   refine gq_ev H256 (want_yes H256 rfl rfl rfl rfl) rfl (by decide) (fun wq hq => have HO := O222.after hq; (op_move rfl (H256.ev rfl))) ?_
   intro _ H258; clear H256
   refine gq_ev H258 (want_yes H258 rfl rfl rfl rfl) rfl (by decide) (fun wq hq => have HO := O222.after hq; (op_not rfl (H258.ev rfl))) ?_
   intro _ H260; clear H258
   have H261 := H260.lit (b := false) (by rw [hhas]; rfl)
   clear H260
   refine gq_ev H261 (want_none rfl) rfl (by decide) (fun wq hq => have HO := O222.after hq; (op_pick_f rfl (H261.ev rfl) (H261.ev rfl))) ?_
   intro _ H263; clear H261
   refine gq_ev H263 (want_none rfl) rfl (by decide) (fun wq hq => have HO := O222.after hq; (op_move rfl (H263.ev rfl))) ?_
   intro _ H265; clear H263
   refine gq_ev H265 (want_yes H265 rfl rfl rfl rfl) rfl (by decide) (fun wq hq => have HO := O222.after hq; (op_move rfl (H265.ev rfl))) ?_
   intro _ H267; clear H265
   refine gq_ev H267 (want_yes H267 rfl rfl rfl rfl) rfl (by decide) (fun wq hq => have HO := O222.after hq; (op_move rfl (H267.ev rfl))) ?_
   intro _ H269; clear H267
   refine gq_ev H269 (want_yes H269 rfl rfl rfl rfl) rfl (by decide) (fun wq hq => have HO := O222.after hq; (op_move rfl (H269.ev rfl))) ?_
   intro _ H271; clear H269
   obtain ⟨ad272, cs275, hA273, hl276, hK277, hc274, _⟩ := Kd.F_get (viewAt_F (O222.get 2 rfl)) (0 : Int) p (by omega) (by omega)
   obtain rfl := int_openF hK277
   clear hl276
   refine gq_ev H271 (want_yes H271 rfl rfl rfl rfl) rfl (by decide) (fun wq hq => have HO := O222.after hq; (op_index Tryz.underlying67 gwsiz2 rfl (H271.ev rfl) (H271.ev rfl) hA273 (⟨by omega, by omega⟩))) ?_
   intro _ H279; clear H271
   refine gq_ev H279 (want_yes H279 rfl rfl rfl rfl) rfl (by decide) (fun wq hq => have HO := O222.after hq; (op_load1 gwagg2 rfl (H279.ev rfl) (((pin_cells (HO.get 2 rfl) hA273 hc274) 0 _ rfl)))) ?_
   intro _ H281; clear H279
   refine gq_call H281 (want_yes H281 rfl rfl rfl rfl) rfl (by decide) (fun wq hq => have HO := O222.after hq; (op_callL Tryz.func21 (by kernel_rfl) rfl rfl (ar_cons (H281.ev rfl) (ar_cons (H281.ev rfl) ar_nil)))) (fun wq hq => have HO := O222.after hq; (has_calls w0.heap.size gd gj (⟨#[106]⟩ : ByteArray) SJ (its.map toI) ((recsJ (its.map toI)).length : Int) _ (HO.get 6 rfl) (ks22.getD p.toNat (0 : Int)) (wf_i64 (by omega))).mono fun e w' h => ⟨h.1, below_then hq h.2⟩) ?_
   intro _ H283; clear H281
   refine gq_ev H283 (want_yes H283 rfl rfl rfl rfl) rfl (by decide) (fun wq hq => have HO := O222.after hq; (op_not rfl (H283.ev rfl))) ?_
   intro _ H285; clear H283
   have H286 := H285.lit (b := false) (by rw [hhas]; rfl)
   clear H285
   refine gq_ev H286 (want_none rfl) rfl (by decide) (fun wq hq => have HO := O222.after hq; (op_pick_f rfl (H286.ev rfl) (H286.ev rfl))) ?_
   intro _ H288; clear H286
   refine gq_ev H288 (want_none rfl) rfl (by decide) (fun wq hq => have HO := O222.after hq; (op_move rfl (H288.ev rfl))) ?_
   intro _ H290; clear H288
   refine gq_ev H290 (want_yes H290 rfl rfl rfl rfl) rfl (by decide) (fun wq hq => have HO := O222.after hq; (op_move rfl (H290.ev rfl))) ?_
   intro _ H292; clear H290
   refine gq_ev H292 (want_yes H292 rfl rfl rfl rfl) rfl (by decide) (fun wq hq => have HO := O222.after hq; (op_move rfl (H292.ev rfl))) ?_
   intro _ H294; clear H292
   refine gq_call H294 (want_yes H294 rfl rfl rfl rfl) rfl (by decide) (fun wq hq => have HO := O222.after hq; (op_callL Tryz.func44 (by kernel_rfl) rfl rfl (ar_cons (H294.ev rfl) (ar_cons (H294.ev rfl) ar_nil)))) (fun wq hq => have HO := O222.after hq; (same_calls A153 c154 ((getJ (ks22.getD p.toNat (0 : Int)) (its.map toI)).getD []) A198 c199 ((getJ (ks22.getD p.toNat (0 : Int)) (its.map toI)).getD []) _ (Kd.R_reads' (HO.get 0 rfl)).2.2 (row_cap (HO.get 0 rfl)) (Kd.F_now (pin_F (i := 7) hB0 HO hP rfl hC200)) hc201 (by first | omega | (have h1_ := readlen hw (⟨#[106]⟩ : ByteArray); omega))).mono fun e w' h => ⟨h.1, below_then hq h.2⟩) ?_
   intro _ H296; clear H294
   have H297 := H296.lit (b := true) (by simp)
   clear H296
   refine gq_ev H297 (want_yes H297 rfl rfl rfl rfl) rfl (by decide) (fun wq hq => have HO := O222.after hq; (op_not rfl (H297.ev rfl))) ?_
   intro _ H299; clear H297
   refine gq_ev H299 (want_none rfl) rfl (by decide) (fun wq hq => have HO := O222.after hq; (op_pick_f rfl (H299.ev rfl) (H299.ev rfl))) ?_
   intro _ H301; clear H299
   refine wpQuiet_nil ?_
   intro w302 hq
   have O303 := O222.after hq
   clear O222 hq
   refine gw_nx (hK220 _ _ ?_)
   refine gw_cond H301 rfl (fun hb304 => ?_) (fun hb304 => ?_)
   skip
   ·
    cases hb304
   refine wp_skip ?_
   refine gw_nx (hK219 _ _ ?_)
   refine gR fun K305 hK305 => ?_
   refine V H301 (op_move rfl (H301.ev rfl)) ?_
   intro _ H307; clear H301
   refine V H307 (op_len Tryz.underlying22 rfl (H307.ev rfl)) ?_
   intro _ H309; clear H307
   refine V H309 (op_move rfl (ev_c _ _)) ?_
   intro _ H311; clear H309
   refine gE hK305 ?_
   refine wp_block ?_
   have O312 := O303.unpin 1 rfl
   clear O303
   have O313 : Own w0 w302 [Chunk.row (Kd.int .u8) 5 w0.heap.size S155 (.slice A153 (((getJ (ks22.getD p.toNat (0 : Int)) (its.map toI)).getD []).length) c154) ((getJ (ks22.getD p.toNat (0 : Int)) (its.map toI)).getD []), Chunk.view (Kd.int .i64) S35 A33 qs36.length c34 qs36, Chunk.viewAt w118 (Kd.int .i64) S21 A19 ks22.length c20 ks22, Bk g2 [.slice Am files.length cm, J d.most, J d.fuse, .bool d.down, .string (⟨#[106]⟩ : ByteArray), .slice Ai its.length ci] 41, R, Chunk.disk w0.heap.size gd S d, Chunk.jour w0.heap.size gd gj (⟨#[106]⟩ : ByteArray) SJ (its.map toI) ((recsJ (its.map toI)).length : Int), Chunk.rjAt Sm w] := O312
   clear O312
   have O314 := O313.unpin 2 rfl
   clear O313
   have O315 : Own w0 w302 [Chunk.row (Kd.int .u8) 5 w0.heap.size S155 (.slice A153 (((getJ (ks22.getD p.toNat (0 : Int)) (its.map toI)).getD []).length) c154) ((getJ (ks22.getD p.toNat (0 : Int)) (its.map toI)).getD []), Chunk.view (Kd.int .i64) S35 A33 qs36.length c34 qs36, Chunk.view (Kd.int .i64) S21 A19 ks22.length c20 ks22, Bk g2 [.slice Am files.length cm, J d.most, J d.fuse, .bool d.down, .string (⟨#[106]⟩ : ByteArray), .slice Ai its.length ci] 41, R, Chunk.disk w0.heap.size gd S d, Chunk.jour w0.heap.size gd gj (⟨#[106]⟩ : ByteArray) SJ (its.map toI) ((recsJ (its.map toI)).length : Int), Chunk.rjAt Sm w] := O314
   clear O314
   refine gw_loop (fun m_ a_ w_ => ∃ (p317 : Int) (X316 : List Int), Fr 126 a_ [(99, J p317), (47, J p), (0, .pointer (some ⟨gd, 0, none⟩)), (1, .pointer (some ⟨gj, 0, none⟩)), (5, .pointer (some ⟨g2, 0, none⟩)), (7, .slice A19 ks22.length c20), (8, .slice A33 qs36.length c34), (46, J (ks22.length : Int)), (48, .bool true), (49, J p), (9, J p), (51, .pointer (some ⟨gj, 0, none⟩)), (52, .slice A19 ks22.length c20), (53, J p), (54, .pointer (some (ad141.add (p.toNat * 1)))), (55, J (ks22.getD p.toNat (0 : Int))), (56, .tuple #[.slice A153 (((getJ (ks22.getD p.toNat (0 : Int)) (its.map toI)).getD []).length) c154, .bool (hasJ (ks22.getD p.toNat (0 : Int)) (its.map toI))]), (50, .tuple #[.slice A153 (((getJ (ks22.getD p.toNat (0 : Int)) (its.map toI)).getD []).length) c154, .bool (hasJ (ks22.getD p.toNat (0 : Int)) (its.map toI))]), (57, .slice A153 (((getJ (ks22.getD p.toNat (0 : Int)) (its.map toI)).getD []).length) c154), (58, .bool (hasJ (ks22.getD p.toNat (0 : Int)) (its.map toI))), (10, .slice A153 (((getJ (ks22.getD p.toNat (0 : Int)) (its.map toI)).getD []).length) c154), (11, .bool (hasJ (ks22.getD p.toNat (0 : Int)) (its.map toI))), (60, .pointer (some ⟨g2, 5, none⟩)), (61, .slice Ai its.length ci), (62, .slice A33 qs36.length c34), (63, J p), (64, .pointer (some (ad187.add (p.toNat * 1)))), (65, J (ks22.getD p.toNat (0 : Int))), (66, .tuple #[.slice A198 (((getJ (ks22.getD p.toNat (0 : Int)) (its.map toI)).getD []).length) c199, .bool (hasJ (ks22.getD p.toNat (0 : Int)) (its.map toI))]), (59, .tuple #[.slice A198 (((getJ (ks22.getD p.toNat (0 : Int)) (its.map toI)).getD []).length) c199, .bool (hasJ (ks22.getD p.toNat (0 : Int)) (its.map toI))]), (67, .slice A198 (((getJ (ks22.getD p.toNat (0 : Int)) (its.map toI)).getD []).length) c199), (68, .bool (hasJ (ks22.getD p.toNat (0 : Int)) (its.map toI))), (12, .slice A198 (((getJ (ks22.getD p.toNat (0 : Int)) (its.map toI)).getD []).length) c199), (69, .slice A19 ks22.length c20), (70, J p), (71, .pointer (some (ad227.add (p.toNat * 1)))), (72, J (ks22.getD p.toNat (0 : Int))), (73, .slice A33 qs36.length c34), (74, J p), (75, .pointer (some (ad241.add (p.toNat * 1)))), (76, J (ks22.getD p.toNat (0 : Int))), (77, .bool false), (78, .bool false), (79, .bool (hasJ (ks22.getD p.toNat (0 : Int)) (its.map toI))), (80, .bool false), (81, .bool false), (82, .bool false), (83, .pointer (some ⟨gj, 0, none⟩)), (84, .slice A19 ks22.length c20), (85, J p), (86, .pointer (some (ad272.add (p.toNat * 1)))), (87, J (ks22.getD p.toNat (0 : Int))), (88, .bool (hasJ (ks22.getD p.toNat (0 : Int)) (its.map toI))), (89, .bool false), (90, .bool false), (91, .bool false), (92, .slice A153 (((getJ (ks22.getD p.toNat (0 : Int)) (its.map toI)).getD []).length) c154), (93, .slice A198 (((getJ (ks22.getD p.toNat (0 : Int)) (its.map toI)).getD []).length) c199), (94, .bool true), (95, .bool false), (96, .bool false), (97, .slice A153 (((getJ (ks22.getD p.toNat (0 : Int)) (its.map toI)).getD []).length) c154), (98, J ((((getJ (ks22.getD p.toNat (0 : Int)) (its.map toI)).getD []).length) : Int))] ∧ Own w0 w_ [Chunk.row (Kd.int .u8) 5 w0.heap.size S155 (.slice A153 (((getJ (ks22.getD p.toNat (0 : Int)) (its.map toI)).getD []).length) c154) X316, Chunk.view (Kd.int .i64) S35 A33 qs36.length c34 qs36, Chunk.view (Kd.int .i64) S21 A19 ks22.length c20 ks22, Bk g2 [.slice Am files.length cm, J d.most, J d.fuse, .bool d.down, .string (⟨#[106]⟩ : ByteArray), .slice Ai its.length ci] 41, R, Chunk.disk w0.heap.size gd S d, Chunk.jour w0.heap.size gd gj (⟨#[106]⟩ : ByteArray) SJ (its.map toI) ((recsJ (its.map toI)).length : Int), Chunk.rjAt Sm w] ∧ (0 ≤ p317 ∧ p317 ≤ (((getJ (ks22.getD p.toNat (0 : Int)) (its.map toI)).getD []).length : Int)) ∧ (X316.length = ((getJ (ks22.getD p.toNat (0 : Int)) (its.map toI)).getD []).length) ∧ m_ = (((getJ (ks22.getD p.toNat (0 : Int)) (its.map toI)).getD []).length - p317.toNat)) ((((getJ (ks22.getD p.toNat (0 : Int)) (its.map toI)).getD []).length - (0 : Int).toNat)) ?_ ?_
   ·
    refine ⟨0, ((getJ (ks22.getD p.toNat (0 : Int)) (its.map toI)).getD []), (H311.pick (t := 99) rfl (H311.pick (t := 47) rfl (H311.pick (t := 0) rfl (H311.pick (t := 1) rfl (H311.pick (t := 5) rfl (H311.pick (t := 7) rfl (H311.pick (t := 8) rfl (H311.pick (t := 46) rfl (H311.pick (t := 48) rfl (H311.pick (t := 49) rfl (H311.pick (t := 9) rfl (H311.pick (t := 51) rfl (H311.pick (t := 52) rfl (H311.pick (t := 53) rfl (H311.pick (t := 54) rfl (H311.pick (t := 55) rfl (H311.pick (t := 56) rfl (H311.pick (t := 50) rfl (H311.pick (t := 57) rfl (H311.pick (t := 58) rfl (H311.pick (t := 10) rfl (H311.pick (t := 11) rfl (H311.pick (t := 60) rfl (H311.pick (t := 61) rfl (H311.pick (t := 62) rfl (H311.pick (t := 63) rfl (H311.pick (t := 64) rfl (H311.pick (t := 65) rfl (H311.pick (t := 66) rfl (H311.pick (t := 59) rfl (H311.pick (t := 67) rfl (H311.pick (t := 68) rfl (H311.pick (t := 12) rfl (H311.pick (t := 69) rfl (H311.pick (t := 70) rfl (H311.pick (t := 71) rfl (H311.pick (t := 72) rfl (H311.pick (t := 73) rfl (H311.pick (t := 74) rfl (H311.pick (t := 75) rfl (H311.pick (t := 76) rfl (H311.pick (t := 77) rfl (H311.pick (t := 78) rfl (H311.pick (t := 79) rfl (H311.pick (t := 80) rfl (H311.pick (t := 81) rfl (H311.pick (t := 82) rfl (H311.pick (t := 83) rfl (H311.pick (t := 84) rfl (H311.pick (t := 85) rfl (H311.pick (t := 86) rfl (H311.pick (t := 87) rfl (H311.pick (t := 88) rfl (H311.pick (t := 89) rfl (H311.pick (t := 90) rfl (H311.pick (t := 91) rfl (H311.pick (t := 92) rfl (H311.pick (t := 93) rfl (H311.pick (t := 94) rfl (H311.pick (t := 95) rfl (H311.pick (t := 96) rfl (H311.pick (t := 97) rfl (H311.pick (t := 98) rfl H311.nil))))))))))))))))))))))))))))))))))))))))))))))))))))))))))))))), O315.sel [0, 1, 2, 3, 4, 5, 6, 7] (by decide), ?_, ?_, rfl⟩
    ·
     omega
    ·
     rfl
   ·
    rintro m321 _ w323 ⟨p317, X316, H324, O325, hp319, hX318, hm326⟩
    refine gR fun K327 hK327 => ?_
    refine V H324 (op_lss rfl (H324.ev rfl) (H324.ev rfl)) ?_
    intro _ H329; clear H324
    refine gE hK327 ?_
    refine gw_seq fun K330 hK330 => ?_
    refine gw_cond H329 rfl (fun hb331 => ?_) (fun hb331 => ?_)
    ·
     have H332 := H329.subst_ (d := 100) (b := true) rfl hb331
     clear H329
     (try simp only [decide_eq_true_eq] at hb331)
     refine wp_skip ?_
     refine gw_nx (hK330 _ _ ?_)
     refine gw_seq fun K333 hK333 => ?_
     refine wp_block ?_
     refine gR fun K334 hK334 => ?_
     refine V H332 (op_move rfl (H332.ev rfl)) ?_
     intro _ H336; clear H332
     refine V H336 (op_assign rfl (H336.ev rfl)) ?_
     intro _ H338; clear H336
     refine gE hK334 ?_
     refine wp_region_lit ?_
     refine V H338 (op_move rfl (H338.ev rfl)) ?_
     intro _ H340; clear H338
     refine V H340 (op_move rfl (H340.ev rfl)) ?_
     intro _ H342; clear H340
     obtain ⟨ad343, hA344⟩ := row_head (O325.get 0 rfl) p317 (by omega) (by omega)
     subst hA344
     refine V H342 (op_index Tryz.underlying22 gwsiz5 rfl (H342.ev rfl) (H342.ev rfl) rfl (⟨by omega, by omega⟩)) ?_
     intro _ H347; clear H342
     refine gw_row 0 H347 O325 rfl (want_none rfl) rfl gwsiz5 (by omega) (by omega) rfl (H347.ev rfl) (ev_c _ _) ?_
     intro _ w350 H349 O351; clear H347 O325
     have O352 : Own w0 w350 [Chunk.row (Kd.int .u8) 5 w0.heap.size S155 (.slice (some ad343) (((getJ (ks22.getD p.toNat (0 : Int)) (its.map toI)).getD []).length) c154) (X316.set p317.toNat 99), Chunk.view (Kd.int .i64) S35 A33 qs36.length c34 qs36, Chunk.view (Kd.int .i64) S21 A19 ks22.length c20 ks22, Bk g2 [.slice Am files.length cm, J d.most, J d.fuse, .bool d.down, .string (⟨#[106]⟩ : ByteArray), .slice Ai its.length ci] 41, R, Chunk.disk w0.heap.size gd S d, Chunk.jour w0.heap.size gd gj (⟨#[106]⟩ : ByteArray) SJ (its.map toI) ((recsJ (its.map toI)).length : Int), Chunk.rjAt Sm w] := O351
     clear O351
     refine wpList_nil ?_
     refine gw_blk ?_
     refine gw_nx (hK333 _ _ ?_)
     refine wp_region_lit ?_
     refine V H349 (op_add rfl (H349.ev rfl) (ev_c _ _) (by omega)) ?_
     intro _ H354; clear H349
     refine V H354 (op_move rfl (H354.ev rfl)) ?_
     intro _ H356; clear H354
     refine wpList_nil ?_
     refine gw_nx ⟨_, ?_, p317 + 1, (X316.set p317.toNat 99), (H356.pick (t := 99) rfl (H356.pick (t := 47) rfl (H356.pick (t := 0) rfl (H356.pick (t := 1) rfl (H356.pick (t := 5) rfl (H356.pick (t := 7) rfl (H356.pick (t := 8) rfl (H356.pick (t := 46) rfl (H356.pick (t := 48) rfl (H356.pick (t := 49) rfl (H356.pick (t := 9) rfl (H356.pick (t := 51) rfl (H356.pick (t := 52) rfl (H356.pick (t := 53) rfl (H356.pick (t := 54) rfl (H356.pick (t := 55) rfl (H356.pick (t := 56) rfl (H356.pick (t := 50) rfl (H356.pick (t := 57) rfl (H356.pick (t := 58) rfl (H356.pick (t := 10) rfl (H356.pick (t := 11) rfl (H356.pick (t := 60) rfl (H356.pick (t := 61) rfl (H356.pick (t := 62) rfl (H356.pick (t := 63) rfl (H356.pick (t := 64) rfl (H356.pick (t := 65) rfl (H356.pick (t := 66) rfl (H356.pick (t := 59) rfl (H356.pick (t := 67) rfl (H356.pick (t := 68) rfl (H356.pick (t := 12) rfl (H356.pick (t := 69) rfl (H356.pick (t := 70) rfl (H356.pick (t := 71) rfl (H356.pick (t := 72) rfl (H356.pick (t := 73) rfl (H356.pick (t := 74) rfl (H356.pick (t := 75) rfl (H356.pick (t := 76) rfl (H356.pick (t := 77) rfl (H356.pick (t := 78) rfl (H356.pick (t := 79) rfl (H356.pick (t := 80) rfl (H356.pick (t := 81) rfl (H356.pick (t := 82) rfl (H356.pick (t := 83) rfl (H356.pick (t := 84) rfl (H356.pick (t := 85) rfl (H356.pick (t := 86) rfl (H356.pick (t := 87) rfl (H356.pick (t := 88) rfl (H356.pick (t := 89) rfl (H356.pick (t := 90) rfl (H356.pick (t := 91) rfl (H356.pick (t := 92) rfl (H356.pick (t := 93) rfl (H356.pick (t := 94) rfl (H356.pick (t := 95) rfl (H356.pick (t := 96) rfl (H356.pick (t := 97) rfl (H356.pick (t := 98) rfl H356.nil))))))))))))))))))))))))))))))))))))))))))))))))))))))))))))))), O352.sel [0, 1, 2, 3, 4, 5, 6, 7] (by decide), ?_, ?_, rfl⟩
     ·
      rw [hm326]; omega
     ·
      omega
     ·
      rw [List.length_set]; exact hX318
    ·
     have H357 := H329.subst_ (d := 100) (b := false) rfl hb331
     clear H329
     (try simp only [decide_eq_false_iff_not, Int.not_lt] at hb331)
     refine wp_exit ?_
     refine gw_thx ?_
     refine gw_thx ?_
     refine gw_in ?_
     refine gw_blk ?_
     refine gw_nx (hK128 _ _ ?_)
     refine wp_region_lit ?_
     refine V H357 (op_add rfl (H357.ev rfl) (ev_c _ _) (by omega)) ?_
     intro _ H359; clear H357
     refine V H359 (op_move rfl (H359.ev rfl)) ?_
     intro _ H361; clear H359
     refine wpList_nil ?_
     refine gw_nx ⟨_, ?_, p + 1, (H361.pick (t := 47) rfl (H361.pick (t := 0) rfl (H361.pick (t := 1) rfl (H361.pick (t := 5) rfl (H361.pick (t := 7) rfl (H361.pick (t := 8) rfl (H361.pick (t := 46) rfl H361.nil))))))), O325.sel [1, 2, 3, 4, 5, 6, 7] (by decide), ?_, rfl⟩
     ·
      rw [hm121]; omega
     ·
      omega
  ·
   have H362 := H124.subst_ (d := 48) (b := false) rfl hb126
   clear H124
   (try simp only [decide_eq_false_iff_not, Int.not_lt] at hb126)
   refine wp_exit ?_
   refine gw_thx ?_
   refine gw_thx ?_
   refine gw_in ?_
   refine gw_nx (hK107 _ _ ?_)
   refine gR fun K363 hK363 => ?_
   refine V H362 (op_move rfl (H362.ev rfl)) ?_
   intro _ H365; clear H362
   refine gw_call H365 (want_none rfl) rfl (by decide) (op_callL Tryz.func31 (by kernel_rfl) rfl rfl (ar_cons (H365.ev rfl) (ar_cons (ev_c _ _) ar_nil))) (read_calls w0.heap.size gd S d (⟨#[106]⟩ : ByteArray) _ (by exact O120.get 4 rfl) (by decide) hw (by omega)) ?_
   rintro e369 w370 ⟨A366, c367, S368, rfl, hb371⟩
   refine ⟨_, rfl, fun _ H373 => ?_⟩
   have O374 := O120.fresh hb371
   have hbel375 := O120.below
   clear H365 O120 hb371
   have O376 := O374.lowrow 0 rfl (base' := w0.heap.size) (Below.size hbel375)
   refine V H373 (op_move rfl (H373.ev rfl)) ?_
   intro _ H378; clear H373
   refine V H378 (op_extract rfl (H378.ev rfl) rfl) ?_
   intro _ H380; clear H378
   refine V H380 (op_extract rfl (H380.ev rfl) rfl) ?_
   intro _ H382; clear H380
   refine V H382 (op_assign rfl (H382.ev rfl)) ?_
   intro _ H384; clear H382
   refine V H384 (op_assign rfl (H384.ev rfl)) ?_
   intro _ H386; clear H384
   refine gE hK363 ?_
   refine gR fun K387 hK387 => ?_
   refine V H386 (op_field (gwfld41_0 _ _) rfl (H386.ev rfl)) ?_
   intro _ H389; clear H386
   refine V H389 (op_loadn gwagg34 gwsiz34 rfl (H389.ev rfl) (O376.get 3 rfl) rfl rfl) ?_
   intro _ H391; clear H389
   refine gw_call H391 (want_none rfl) rfl (by decide) (op_callL Tryz.func37 (by kernel_rfl) rfl rfl (ar_cons (H391.ev rfl) (ar_cons (ev_c _ _) ar_nil))) (read_pin Am cm files d (⟨#[106]⟩ : ByteArray) 7 hB0 hP O376 rfl hFf hrj.2.1.1 hlf hd) ?_
   rintro e396 w397 ⟨A392, c393, rfl, hC394, hc395, hb398⟩
   refine ⟨_, rfl, fun _ H400 => ?_⟩
   have O401 := O376.after hb398
   clear H391 O376 hb398
   refine V H400 (op_move rfl (H400.ev rfl)) ?_
   intro _ H404; clear H400
   refine V H404 (op_extract rfl (H404.ev rfl) rfl) ?_
   intro _ H406; clear H404
   refine V H406 (op_extract rfl (H406.ev rfl) rfl) ?_
   intro _ H408; clear H406
   refine V H408 (op_assign rfl (H408.ev rfl)) ?_
   intro _ H410; clear H408
   refine V H410 (op_assign rfl (H410.ev rfl)) ?_
   intro _ H412; clear H410
   refine gE hK387 ?_
   refine gR fun K413 hK413 => ?_
   refine V H412 (op_move rfl (H412.ev rfl)) ?_
   intro _ H415; clear H412
   refine V H415 (op_move rfl (H415.ev rfl)) ?_
   intro _ H417; clear H415
   refine V H417 (op_eqi rfl (H417.ev rfl) (H417.ev rfl)) ?_
   intro _ H419; clear H417
   have H420 := H419.lit (b := true) (by simp)
   clear H419
   refine V H420 (op_move rfl (H420.ev rfl)) ?_
   intro _ H422; clear H420
   refine V2 H422 (want_yes H422 rfl rfl rfl rfl) (op_move rfl (H422.ev rfl)) ?_
   intro _ H424; clear H422
   refine V2 H424 (want_yes H424 rfl rfl rfl rfl) (op_move rfl (H424.ev rfl)) ?_
   intro _ H426; clear H424
   refine gw_call H426 (want_yes H426 rfl rfl rfl rfl) rfl (by decide) (op_callL Tryz.func44 (by kernel_rfl) rfl rfl (ar_cons (H426.ev rfl) (ar_cons (H426.ev rfl) ar_nil))) (same_calls A366 c367 ((readD (⟨#[106]⟩ : ByteArray) d).1) A392 c393 ((readD (⟨#[106]⟩ : ByteArray) d).1) _ (Kd.R_reads' (O401.get 0 rfl)).2.2 (row_cap (O401.get 0 rfl)) (Kd.F_now (pin_F (i := 7) hB0 O401 hP rfl hC394)) hc395 (by first | omega | (have h1_ := readlen hw (⟨#[106]⟩ : ByteArray); omega))) ?_
   rintro e427 w428 ⟨rfl, hb429⟩
   refine ⟨_, rfl, fun _ H431 => ?_⟩
   have O432 := O401.after hb429
   clear H426 O401 hb429
   have H434 := H431.lit (b := true) (by simp)
   clear H431
   refine V H434 (op_pick_t rfl (H434.ev rfl) (H434.ev rfl)) ?_
   intro _ H436; clear H434
   refine V H436 (op_assign rfl (H436.ev rfl)) ?_
   intro _ H438; clear H436
   refine gE hK413 ?_
   refine wp_ret ?_
   refine gw_ret1 H438 rfl rfl ?_
   exact ⟨rfl, Own.rj_unpin (L := [R, Chunk.disk w0.heap.size gd S d, Chunk.jour w0.heap.size gd gj (⟨#[106]⟩ : ByteArray) SJ (its.map toI) ((recsJ (its.map toI)).length : Int), Chunk.rjAt Sm w]) (by exact O432.sel [4, 5, 6, 7] (by decide)) 3 rfl hrj⟩
end GRj6_
export GRj6_ (alike_calls)
end Go.Proofs.YtkdahjnmldeklaaGreat.PA
end
section
namespace Go.Proofs.YtkdahjnmldeklaaGreat.PA
open Go.RowKit Go.Maps Go.Proofs.YtkdahjnmldeklaaGreatW.PrintWords Go.Proofs.YtkdahjnmldeklaaGreatW.PrintLast Go.Proofs.YtkdahjnmldeklaaGreatW.PrintMore
set_option linter.unusedVariables false
set_option linter.unusedSimpArgs false
theorem split_take {b : List Int} {m : Nat} (h : (Pure.splitOf b).2.2 = true) (hm : (Pure.splitOf b).1.length + 8 ≤ m) : Pure.splitOf (b.take m) = Pure.splitOf b := by
  obtain ⟨h1, h2, h3, h4⟩ := Pure.split_bool _ h
  have h5 : (Pure.splitOf b).1.length = Pure.num4 b := by rw [h4]; simp only [List.length_take, List.length_drop]; omega
  have h6 : Pure.num4 b ≤ 1073741824 := by
    by_cases hg : 1073741824 < Pure.num4 b
    · rw [split_no (.inr (.inl hg))] at h
      simp at h
    · omega
  have e1 : Pure.num4 (b.take m) = Pure.num4 b := Pure.num4_take b m (by omega)
  have e2 : ((b.take m).drop 8).take (Pure.num4 b) = (b.drop 8).take (Pure.num4 b) := by
    rw [List.drop_take, List.take_take, Nat.min_eq_left (by omega)]
  have e3 : Pure.num4 ((b.take m).drop 4) = Pure.num4 (b.drop 4) := by
    rw [List.drop_take]
    exact Pure.num4_take _ _ (by omega)
  have hl : (b.take m).length = min m b.length := List.length_take
  rw [split_yes (b := b.take m) (by omega) (by rw [e1]; omega) (by rw [e1]; omega) (by rw [e1, e2, e3]; exact h3), e1, e2, h4]
theorem scan_fuel : ∀ (f g : Nat) (b : List Int) (is : List PI) (sz : Int), b.length < f → b.length < g → scanS f b is sz = scanS g b is sz
  | 0, _, _, _, _, h, _ => by omega
  | f + 1, 0, _, _, _, _, h => by omega
  | f + 1, g + 1, b, is, sz, hf, hg => by
    cases hs : (Pure.splitOf b).2.2
    · rw [scan_stop1 hs, scan_stop1 hs]
    · cases he : entryP (Pure.splitOf b).1 with
      | none => rw [scan_stop2 hs he, scan_stop2 hs he]
      | some p =>
        obtain ⟨n, k⟩ := p
        cases hh : hasJ n is
        · rw [scan_go (by omega) hs he hh, scan_go (by omega) hs he hh]
          have h7 := split_in hs
          exact scan_fuel f g _ _ _ (by rw [List.length_drop]; omega) (by rw [List.length_drop]; omega)
        · rw [scan_stop3 hs he hh, scan_stop3 hs he hh]
theorem scan_mono : ∀ (f : Nat) (b : List Int) (is : List PI) (sz : Int), sz ≤ (scanS f b is sz).2
  | 0, b, is, sz => Int.le_refl _
  | f + 1, b, is, sz => by
    cases hs : (Pure.splitOf b).2.2
    · rw [scan_stop1 hs]; exact Int.le_refl _
    · cases he : entryP (Pure.splitOf b).1 with
      | none => rw [scan_stop2 hs he]; exact Int.le_refl _
      | some p =>
        obtain ⟨n, k⟩ := p
        cases hh : hasJ n is
        · rw [scan_go (by omega) hs he hh]
          have h7 := split_in hs
          have := scan_mono f (b.drop (Pure.splitOf b).2.1.toNat) (is ++ [(n, (Pure.splitOf b).1.drop k)]) (sz + (Pure.splitOf b).2.1)
          refine Int.le_trans (by omega) this
        · rw [scan_stop3 hs he hh]; exact Int.le_refl _
theorem scan_nil (f : Nat) (is : List PI) (sz : Int) : scanS f [] is sz = (is, sz) := scan_stop1 split_nil
theorem scan_pre : ∀ (f : Nat) (b : List Int) (is : List PI) (sz : Int) (m : Nat), (m : Int) = (scanS f b is sz).2 - sz → scanS f (b.take m) is sz = scanS f b is sz
  | 0, b, is, sz, m, _ => rfl
  | f + 1, b, is, sz, m, hm => by
    have stop : scanS (f + 1) b is sz = (is, sz) → scanS (f + 1) (b.take m) is sz = scanS (f + 1) b is sz := fun h => by
      rw [h] at hm ⊢
      have : m = 0 := by simp only at hm; omega
      rw [this, List.take_zero, scan_nil]
    cases hs : (Pure.splitOf b).2.2
    · exact stop (scan_stop1 hs)
    · cases he : entryP (Pure.splitOf b).1 with
      | none => exact stop (scan_stop2 hs he)
      | some p =>
        obtain ⟨n, k⟩ := p
        cases hh : hasJ n is
        · have hg := scan_go (f := f + 1) (sz := sz) (by omega) hs he hh
          have h7 := split_in hs
          rw [hg] at hm
          have h8 := scan_mono f (b.drop (Pure.splitOf b).2.1.toNat) (is ++ [(n, (Pure.splitOf b).1.drop k)]) (sz + (Pure.splitOf b).2.1)
          have hm' : (m : Int) = (scanS f (b.drop (Pure.splitOf b).2.1.toNat) (is ++ [(n, (Pure.splitOf b).1.drop k)]) (sz + (Pure.splitOf b).2.1)).2 - sz := hm
          have hst := split_take (m := m) hs (by omega)
          have ih := scan_pre f (b.drop (Pure.splitOf b).2.1.toNat) (is ++ [(n, (Pure.splitOf b).1.drop k)]) (sz + (Pure.splitOf b).2.1) (m - (Pure.splitOf b).2.1.toNat) (by omega)
          rw [hg, scan_go (f := f + 1) (b := b.take m) (n := n) (k := k) (by omega) (by rw [hst]; exact hs) (by rw [hst]; exact he) hh, hst]
          show scanS f ((b.take m).drop (Pure.splitOf b).2.1.toNat) _ _ = scanS f (b.drop (Pure.splitOf b).2.1.toNat) _ _
          rw [List.drop_take]
          exact ih
        · exact stop (scan_stop3 hs he hh)
section
variable {b : List Int} {nm : ByteArray} {mst : Int} {all : List Int} {sf : Int}
theorem scan_again (hb : ByteL b) (hl : b.length ≤ 900000) : scanJ (b.take (recsJ (scanJ b).1).length) = ((scanJ b).1, ((recsJ (scanJ b).1).length : Int)) := by
  have h1 := scanJ_size hb
  have h2 := (scan_small hb hl).1
  have h3 := scan_pre (b.length + 1) b [] 0 (recsJ (scanJ b).1).length (by rw [← h1]; show _ = (scanJ b).2 - 0; omega)
  have h4 : scanJ (b.take (recsJ (scanJ b).1).length) = scanS (b.length + 1) (b.take (recsJ (scanJ b).1).length) [] 0 := scan_fuel _ _ _ _ _ (by omega) (by rw [List.length_take]; omega)
  rw [h4, h3]
  exact Prod.ext rfl h1
theorem raw_open (hb : ByteL b) (hl : b.length ≤ 900000) : openJ nm (jdk nm b 0 [] mst) = ((jdk nm (b.take (recsJ (scanJ b).1).length) (recsJ (scanJ b).1).length [] mst, 0), ((scanJ b).1, ((recsJ (scanJ b).1).length : Int))) :=
  jd_open (fun g hg => by simp at hg) ⟨by omega, by omega⟩ (Prod.ext rfl (scanJ_size hb)) (by have := (scan_small hb hl).1; rw [scanJ_size hb] at this; omega)
theorem raw_len (hb : ByteL b) (hl : b.length ≤ 900000) : (b.take (recsJ (scanJ b).1).length).length = (recsJ (scanJ b).1).length := by
  have := (scan_small hb hl).1
  rw [scanJ_size hb] at this
  rw [List.length_take]
  omega
theorem raw_open2 (hb : ByteL b) (hl : b.length ≤ 900000) : openJ nm (jdk nm (b.take (recsJ (scanJ b).1).length) (recsJ (scanJ b).1).length [] mst) = ((jdk nm (b.take (recsJ (scanJ b).1).length) (recsJ (scanJ b).1).length [] mst, 0), ((scanJ b).1, ((recsJ (scanJ b).1).length : Int))) := by
  have h := raw_len hb hl
  have h2 := jd_open (nm := nm) (ext := []) (mst := mst) (all := b.take (recsJ (scanJ b).1).length) (sf := ((recsJ (scanJ b).1).length : Int)) (fun g hg => by simp at hg) ⟨by omega, by omega⟩ (scan_again hb hl) (by omega)
  rw [h2]
  rw [List.take_of_length_le (by omega)]
theorem jd_crash0 (h : (all.length : Int) = sf) (kl : List Int) : crashD kl (jdk nm all sf [] mst) = jdk nm all sf [] mst := by
  unfold crashD jdk
  rw [crash_keep (f := ⟨nm, all, sf⟩) (by show (all.length : Int) - sf = 0; omega), crash_nil]
  show PD.mk _ mst ((all.length : Int) + (totF [] : Int) - 0) 0 false = _
  rw [Int.sub_zero]
theorem raw1 (h : 0 ≤ mst) (hb : namedB nm = true) : createD nm (newD mst) = (jdk nm [] 0 [] mst, 0) := by
  rw [newD_lit h, create_go rfl hb rfl, step_on (show (0 : Int) ≠ 1 by decide) (Int.le_refl _)]
  rfl
end
theorem with_j {w0 w : World} {P : Nat → Prop} {L : List Chunk} (most fuse : Int) (down : Bool) (f0 : ByteArray) (Ab : Option Addr) (cb : Nat) (fb : List Int) (fsf : Int) (hP : ∀ k, P k → k < w0.heap.size) (HO : Own w0 w L) (hB : Kd.F (Kd.int .u8) w0 P Ab fb.length fb) (hcb : fb.length ≤ cb) :
    Calls Tryz.prog 10 #[.agg #[.slice none 0 0, .int .i64 most, .int .i64 fuse, .bool down], .agg #[.string f0, .slice Ab fb.length cb, .int .i64 fsf]] w fun e w' => ∃ (A' : Option Addr) (c' : Nat) (S' : Nat → Prop), e = .returned (.agg #[.slice A' ([⟨f0, fb, fsf⟩] : List SFile).length c', .int .i64 most, .int .i64 fuse, .bool down]) ∧ Out w w' (fun _ => False) [Chunk.rj w0 P S' A' c' [⟨f0, fb, fsf⟩] none 0 []] := by
  have hPw : ∀ k, P k → k < w.heap.size := fun k hk => Nat.lt_of_lt_of_le (hP k hk) HO.below.size
  refine (with_calls P none 0 [] most fuse down f0 Ab cb fb fsf w hPw (Kd.F_nil _ _ _) (Nat.le_refl _) (Kd.F_step hB fun k hk _ => HO.below.block k (hP k hk)) hcb (by decide)).mono ?_
  rintro e w' ⟨A', c', h1, h2, h3⟩
  obtain ⟨_, hle, hF⟩ := Kd.V_at (Kd.N_V (base' := 0) h2)
  refine ⟨A', c', _, h1, rj_out (S := fun _ => False) HO hP h3 (fun k hk => hk.elim) ⟨Kd.F_mono hF fun k hk => hk.elim (fun h => .inl (.inl h)) .inr, hle, fun ad e2 => ?_⟩ ⟨Kd.F_nil _ _ _, Nat.le_refl _, fun ad e => by cases e⟩⟩
  subst e2
  exact ⟨.inr (Kd.N_base h2 ad.block rfl), Kd.N_lt h2 ad.block rfl⟩
end Go.Proofs.YtkdahjnmldeklaaGreat.PA
end
section
namespace Go.Proofs.YtkdahjnmldeklaaGreat.PA
open Go.RowKit Go.Proofs.YtkdahjnmldeklaaGreatW.PrintWords Go.Proofs.YtkdahjnmldeklaaGreatW.PrintLast Go.Proofs.YtkdahjnmldeklaaGreatW.PrintMore
set_option linter.unusedVariables false
set_option linter.unusedSimpArgs false
namespace GRj7_
theorem gwagg34 : ∀ w, (isAgg 34).run Tryz.prog w = .ok true w := fun _ => by kernel_rfl
theorem gwagg41 : ∀ w, (isAgg 41).run Tryz.prog w = .ok true w := fun _ => by kernel_rfl
theorem gwfld41_0 (g off : Nat) : ∀ w, (Instr.fieldAt 41 (.pointer (some ⟨g, off, none⟩)) 0).run Tryz.prog w = .ok (.pointer (some ⟨g, off + 0, none⟩)) w := fun _ => by kernel_rfl
theorem gwsiz34 : ∀ w, (sizeOf 34).run Tryz.prog w = .ok 4 w := fun _ => by kernel_rfl
theorem gwsiz41 : ∀ w, (sizeOf 41).run Tryz.prog w = .ok 6 w := fun _ => by kernel_rfl
theorem gwzer41 : ∀ w, (zeroValue 41).run Tryz.prog w = .ok (.agg #[.slice none 0 0, .int .i64 0, .int .i64 0, .bool false, .string (⟨#[]⟩ : ByteArray), .slice none 0 0]) w := fun _ => by kernel_rfl
set_option maxHeartbeats 4000000 in
set_option maxRecDepth 100000 in
theorem JournalRaw_walk (A0 : Option Addr) (c0 : Nat) (b : List Int) (w : World) (hr0 : Kd.C (Kd.int .u8) w A0 b.length b) (hc0 : b.length ≤ c0) (hbb : ByteL b) :
    Calls Tryz.prog 3 #[.slice A0 b.length c0] w fun e w' => e = .returned (.bool true) ∧ Below w.heap.size w w' := by
 refine gw_start (N := 79) (vs := [.slice A0 b.length c0]) Tryz.func3 rfl rfl (by simp) fun a HF HO => ?_
 replace HO : Own w w [] := HO
 refine gR fun K1 hK1 => ?_
 refine V HF (op_assign rfl (ev_c _ _)) ?_
 intro _ H3; clear HF
 refine gE hK1 ?_
 refine gR fun K4 hK4 => ?_
 have O14 : Own w _ [(Chunk.all [])] := Own.bundle (HO.sel [] (by decide))
 refine gw_call H3 (want_none rfl) rfl (by decide) (op_callL Tryz.func5 (by kernel_rfl) rfl rfl (ar_cons (ev_c _ _) ar_nil)) (new_own w _ (Chunk.all []) 5000 (by exact O14)) ?_
 rintro e8 w9 ⟨gd5, S6, rfl, hb10⟩
 refine ⟨_, rfl, fun _ H12 => ?_⟩
 have O13 : Own w w9 [Chunk.disk w.heap.size gd5 S6 (newD 5000)] := Own.unbundle (hb10.sel [0, 1] (by decide))
 clear O14
 clear H3 HO hb10
 have hwf7 : wfD (newD 5000) := wf_new (by decide)
 refine V H12 (op_assign rfl (H12.ev rfl)) ?_
 intro _ H17; clear H12
 refine gE hK4 ?_
 refine gw_seq fun K18 hK18 => ?_
 refine gR fun K19 hK19 => ?_
 refine V H17 (op_move rfl (H17.ev rfl)) ?_
 intro _ H21; clear H17
 refine V H21 (op_eqp_nil Tryz.underlying23 rfl (H21.ev rfl)) ?_
 intro _ H23; clear H21
 refine V H23 (op_move rfl (H23.ev rfl)) ?_
 intro _ H25; clear H23
 refine gw_call H25 (want_yes H25 rfl rfl rfl rfl) rfl (by decide) (op_callL Tryz.func6 (by kernel_rfl) rfl rfl ar_nil) (alive_calls _) ?_
 rintro e26 w27 ⟨rfl, hb28⟩
 refine ⟨_, rfl, fun _ H30 => ?_⟩
 have O31 := O13.after hb28
 clear H25 O13 hb28
 refine V2 H30 (want_yes H30 rfl rfl rfl rfl) (op_not rfl (H30.ev rfl)) ?_
 intro _ H34; clear H30
 refine V H34 (op_pick_f rfl (H34.ev rfl) (H34.ev rfl)) ?_
 intro _ H36; clear H34
 refine gE hK19 ?_
 refine gw_cond H36 rfl (fun hb37 => ?_) (fun hb37 => ?_)
 skip
 ·
  cases hb37
 refine wp_skip ?_
 refine gw_nx (hK18 _ _ ?_)
 refine gw_seq fun K38 hK38 => ?_
 refine gR fun K39 hK39 => ?_
 refine V H36 (op_move rfl (H36.ev rfl)) ?_
 intro _ H41; clear H36
 refine V H41 (op_len Tryz.underlying22 rfl (H41.ev rfl)) ?_
 intro _ H43; clear H41
 refine V H43 (op_gtr rfl (H43.ev rfl) (ev_c _ _)) ?_
 intro _ H45; clear H43
 refine gE hK39 ?_
 refine gw_cond H45 rfl (fun hb46 => ?_) (fun hb46 => ?_)
 ·
  have H47 := H45.subst_ (d := 19) (b := true) rfl hb46
  clear H45
  (try simp only [decide_eq_true_eq] at hb46)
  refine gR fun K48 hK48 => ?_
  refine V H47 (op_assign rfl (ev_c _ _)) ?_
  intro _ H50; clear H47
  refine gE hK48 ?_
  refine wp_ret ?_
  refine gw_thr ?_
  refine gw_ret1 H50 rfl rfl ?_
  exact ⟨rfl, O31.below⟩
 ·
  have H51 := H45.subst_ (d := 19) (b := false) rfl hb46
  clear H45
  (try simp only [decide_eq_false_iff_not, Int.not_lt] at hb46)
  have hbl : b.length ≤ 3000 := by omega
  have hso := scan_ok (b.length + 1) b [] 0 hbb (by omega) (fun x_ hx_ => by simp at hx_) List.Pairwise.nil
  have hwD1 : wfD (jdk (⟨#[106]⟩ : ByteArray) b 0 [] 5000) := jd_wf (by decide) ⟨by decide, by omega⟩ ⟨by omega, by decide⟩
  have hrl := raw_len hbb (show b.length ≤ 900000 by omega)
  have hwD2 : wfD (jdk (⟨#[106]⟩ : ByteArray) (b.take (recsJ (scanJ b).1).length) (((recsJ (scanJ b).1).length : Nat) : Int) [] 5000) := jd_wf (by decide) ⟨by omega, by omega⟩ ⟨by rw [List.length_take]; omega, by decide⟩
  have hFb : Kd.F (Kd.int .u8) w (fun k_ => k_ < w.heap.size) A0 b.length b := Kd.C_F (Kd.heap_int _) hr0
  refine wp_skip ?_
  refine gw_nx (hK38 _ _ ?_)
  refine gw_seq fun K52 hK52 => ?_
  refine gR fun K53 hK53 => ?_
  refine V H51 (op_move rfl (H51.ev rfl)) ?_
  intro _ H55; clear H51
  have O64 : Own w _ [(Chunk.all []), Chunk.disk w.heap.size gd5 S6 (newD 5000)] := Own.bundle (O31.sel [0] (by decide))
  refine gw_call H55 (want_none rfl) rfl (by decide) (op_callL Tryz.func7 (by kernel_rfl) rfl rfl (ar_cons (H55.ev rfl) (ar_cons (ev_c _ _) ar_nil))) ((by have h_ := create_calls w _ (Chunk.all []) gd5 S6 (newD 5000) (⟨#[106]⟩ : ByteArray) hwf7 (by decide) (by show 0 ≤ 1000000; decide) (by exact O64); rw [show (createD (⟨#[106]⟩ : ByteArray) (newD 5000)) = ((jdk (⟨#[106]⟩ : ByteArray) ([]) 0 [] 5000), 0) from (raw1 (by decide) (by decide))] at h_; (try dsimp only at h_); exact h_)) ?_
  rintro e58 w59 ⟨rfl, S56, hb60⟩
  refine ⟨_, rfl, fun _ H62 => ?_⟩
  have O63 : Own w w59 [Chunk.disk w.heap.size gd5 S56 (jdk (⟨#[106]⟩ : ByteArray) ([]) 0 [] 5000)] := Own.unbundle (hb60.sel [0, 1] (by decide))
  clear O64
  clear H55 O31 hb60
  have hwf57 : wfD (jdk (⟨#[106]⟩ : ByteArray) ([]) 0 [] 5000) := by have h_ : wfD (createD (⟨#[106]⟩ : ByteArray) (newD 5000)).1 := wf_create hwf7; rw [show (createD (⟨#[106]⟩ : ByteArray) (newD 5000)) = ((jdk (⟨#[106]⟩ : ByteArray) ([]) 0 [] 5000), 0) from (raw1 (by decide) (by decide))] at h_; exact h_
  refine V H62 (op_nei rfl (H62.ev rfl) (ev_c _ _)) ?_
  intro _ H67; clear H62
  have H68 := H67.lit (b := false) (by decide)
  clear H67
  refine V H68 (op_move rfl (H68.ev rfl)) ?_
  intro _ H70; clear H68
  refine V2 H70 (want_yes H70 rfl rfl rfl rfl) (op_move rfl (H70.ev rfl)) ?_
  intro _ H72; clear H70
  refine V2 H72 (want_yes H72 rfl rfl rfl rfl) (op_move rfl (H72.ev rfl)) ?_
  intro _ H74; clear H72
  have O83 : Own w _ [(Chunk.all []), Chunk.disk w.heap.size gd5 S56 (jdk (⟨#[106]⟩ : ByteArray) ([]) 0 [] 5000)] := Own.bundle (O63.sel [0] (by decide))
  refine gw_call H74 (want_yes H74 rfl rfl rfl rfl) rfl (by decide) (op_callL Tryz.func8 (by kernel_rfl) rfl rfl (ar_cons (H74.ev rfl) (ar_cons (ev_c _ _) (ar_cons (H74.ev rfl) ar_nil)))) ((by have h_ := append_calls w _ (Chunk.all []) gd5 S56 (jdk (⟨#[106]⟩ : ByteArray) ([]) 0 [] 5000) (⟨#[106]⟩ : ByteArray) A0 c0 b (fun w_ h_ => Kd.C_below hr0 h_.below) hc0 hwf57 (by decide) (by show ((0 : Nat) : Int) + ((0 : Nat) : Int) + (b.length : Int) ≤ _; omega) (by exact O83); rw [show (appendD (⟨#[106]⟩ : ByteArray) b (jdk (⟨#[106]⟩ : ByteArray) ([]) 0 [] 5000)) = ((jdk (⟨#[106]⟩ : ByteArray) b 0 [] 5000), 0) from (jd_append (fun g_ hg_ => by simp at hg_) (by show ((0 : Nat) : Int) + ((0 : Nat) : Int) + (b.length : Int) ≤ 5000; omega))] at h_; (try dsimp only at h_); exact h_)) ?_
  rintro e77 w78 ⟨rfl, S75, hb79⟩
  refine ⟨_, rfl, fun _ H81 => ?_⟩
  have O82 : Own w w78 [Chunk.disk w.heap.size gd5 S75 (jdk (⟨#[106]⟩ : ByteArray) b 0 [] 5000)] := Own.unbundle (hb79.sel [0, 1] (by decide))
  clear O83
  clear H74 O63 hb79
  have hwf76 : wfD (jdk (⟨#[106]⟩ : ByteArray) b 0 [] 5000) := by have h_ : wfD (appendD (⟨#[106]⟩ : ByteArray) b (jdk (⟨#[106]⟩ : ByteArray) ([]) 0 [] 5000)).1 := wf_append hwf57; rw [show (appendD (⟨#[106]⟩ : ByteArray) b (jdk (⟨#[106]⟩ : ByteArray) ([]) 0 [] 5000)) = ((jdk (⟨#[106]⟩ : ByteArray) b 0 [] 5000), 0) from (jd_append (fun g_ hg_ => by simp at hg_) (by show ((0 : Nat) : Int) + ((0 : Nat) : Int) + (b.length : Int) ≤ 5000; omega))] at h_; exact h_
  refine V2 H81 (want_yes H81 rfl rfl rfl rfl) (op_nei rfl (H81.ev rfl) (ev_c _ _)) ?_
  intro _ H86; clear H81
  have H87 := H86.lit (b := false) (by decide)
  clear H86
  refine V H87 (op_pick_f rfl (H87.ev rfl) (H87.ev rfl)) ?_
  intro _ H89; clear H87
  refine gE hK53 ?_
  refine gw_cond H89 rfl (fun hb90 => ?_) (fun hb90 => ?_)
  skip
  ·
   cases hb90
  refine wp_skip ?_
  refine gw_nx (hK52 _ _ ?_)
  refine gR fun K91 hK91 => ?_
  refine V H89 (op_move rfl (H89.ev rfl)) ?_
  intro _ H93; clear H89
  have heq98 : openJ (⟨#[106]⟩ : ByteArray) (jdk (⟨#[106]⟩ : ByteArray) b 0 [] 5000) = (((jdk (⟨#[106]⟩ : ByteArray) (b.take (recsJ (scanJ b).1).length) (((recsJ (scanJ b).1).length : Nat) : Int) [] 5000), 0), ((scanJ b).1, (((recsJ (scanJ b).1).length : Nat) : Int))) := raw_open hbb (by omega)
  have O105 : Own w _ [(Chunk.all []), Chunk.disk w.heap.size gd5 S75 (jdk (⟨#[106]⟩ : ByteArray) b 0 [] 5000)] := Own.bundle (O82.sel [0] (by decide))
  refine gw_call H93 (want_none rfl) rfl (by decide) (op_callL Tryz.func9 (by kernel_rfl) rfl rfl (ar_cons (H93.ev rfl) (ar_cons (ev_c _ _) ar_nil))) (open_ok heq98 hwf76 (by decide) (by show 1 ≤ 1000000; decide) (used_le (by first | omega | (rw [List.length_take]; omega))) (jd_byte (by first | exact hbb | exact take_byte hbb _)) (by exact O105)) ?_
  rintro e99 w100 ⟨gj94, SJ95, S96, rfl, hb101⟩
  refine ⟨_, rfl, fun _ H103 => ?_⟩
  have O104 : Own w w100 [Chunk.disk w.heap.size gd5 S96 (jdk (⟨#[106]⟩ : ByteArray) (b.take (recsJ (scanJ b).1).length) (((recsJ (scanJ b).1).length : Nat) : Int) [] 5000), Chunk.jour w.heap.size gd5 gj94 (⟨#[106]⟩ : ByteArray) SJ95 ((scanJ b).1) (((recsJ (scanJ b).1).length : Nat) : Int)] := Own.unbundle (hb101.sel [0, 1, 2] (by decide))
  clear O105
  clear H93 O82 hb101
  have hwf97 : wfD (jdk (⟨#[106]⟩ : ByteArray) (b.take (recsJ (scanJ b).1).length) (((recsJ (scanJ b).1).length : Nat) : Int) [] 5000) := wf_open' heq98 hwf76
  refine V H103 (op_move rfl (H103.ev rfl)) ?_
  intro _ H108; clear H103
  refine V H108 (op_extract rfl (H108.ev rfl) rfl) ?_
  intro _ H110; clear H108
  refine V H110 (op_extract rfl (H110.ev rfl) rfl) ?_
  intro _ H112; clear H110
  refine V H112 (op_assign rfl (H112.ev rfl)) ?_
  intro _ H114; clear H112
  refine V H114 (op_assign rfl (H114.ev rfl)) ?_
  intro _ H116; clear H114
  refine gE hK91 ?_
  refine gw_seq fun K117 hK117 => ?_
  refine gR fun K118 hK118 => ?_
  refine V H116 (op_move rfl (H116.ev rfl)) ?_
  intro _ H120; clear H116
  refine V H120 (op_nei rfl (H120.ev rfl) (ev_c _ _)) ?_
  intro _ H122; clear H120
  have H123 := H122.lit (b := false) (by decide)
  clear H122
  refine V H123 (op_move rfl (H123.ev rfl)) ?_
  intro _ H125; clear H123
  refine V2 H125 (want_yes H125 rfl rfl rfl rfl) (op_move rfl (H125.ev rfl)) ?_
  intro _ H127; clear H125
  refine V2 H127 (want_yes H127 rfl rfl rfl rfl) (op_eqp_nil Tryz.underlying29 rfl (H127.ev rfl)) ?_
  intro _ H129; clear H127
  refine V H129 (op_pick_f rfl (H129.ev rfl) (H129.ev rfl)) ?_
  intro _ H131; clear H129
  refine gE hK118 ?_
  refine gw_cond H131 rfl (fun hb132 => ?_) (fun hb132 => ?_)
  skip
  ·
   cases hb132
  refine wp_skip ?_
  refine gw_nx (hK117 _ _ ?_)
  refine gR fun K133 hK133 => ?_
  refine gw_call H131 (want_none rfl) rfl (by decide) (op_callL Tryz.func11 (by kernel_rfl) rfl rfl (ar_cons (ev_c _ _) ar_nil)) ((by have h_ := new_ref 5000 w100; rw [show (newD 5000).most = 5000 from rfl] at h_; exact h_)) ?_
  rintro e134 w135 ⟨rfl, hb136⟩
  refine ⟨_, rfl, fun _ H138 => ?_⟩
  have O139 := O104.after hb136
  clear H131 O104 hb136
  refine V H138 (op_move rfl (H138.ev rfl)) ?_
  intro _ H142; clear H138
  refine V H142 (op_build (cells := #[.string (⟨#[106]⟩ : ByteArray), .slice A0 b.length c0, J 0]) rfl (pt_cons (ev_c _ _) (pt_cons (H142.ev rfl) pt_nil)) (by kernel_rfl)) ?_
  intro _ H144; clear H142
  refine gw_call H144 (want_none rfl) rfl (by decide) (op_callL Tryz.func10 (by kernel_rfl) rfl rfl (ar_cons (H144.ev rfl) (ar_cons (H144.ev rfl) ar_nil))) (with_j 5000 0 false (⟨#[106]⟩ : ByteArray) A0 c0 b 0 (fun _ h_ => h_) O139 hFb hc0) ?_
  rintro e148 w149 ⟨A145, c146, S147, rfl, hb150⟩
  refine ⟨_, rfl, fun _ H152 => ?_⟩
  have O153 := O139.fresh hb150
  clear H144 O139 hb150
  refine V H152 (op_build (cells := #[.slice A145 (([⟨(⟨#[106]⟩ : ByteArray), b, 0⟩] : List S38).length) c146, J 5000, J 0, .bool false, .string (⟨#[]⟩ : ByteArray), .slice none 0 0]) rfl (pt_cons (H152.ev rfl) pt_nil) (by kernel_rfl)) ?_
  intro _ H156; clear H152
  refine gw_new H156 O153 (want_none rfl) rfl (by decide) (op_alloc gwzer41 rfl) ?_
  intro g157 _ w159 H160 O161; clear H156 O153
  have O162 : Own w w159 [Bk g157 [.slice none 0 0, J 0, J 0, .bool false, .string (⟨#[]⟩ : ByteArray), .slice none 0 0] 41, Chunk.rj w (fun k_ => k_ < w.heap.size) S147 A145 c146 ([⟨(⟨#[106]⟩ : ByteArray), b, 0⟩] : List S38) none 0 ([] : List S54), Chunk.disk w.heap.size gd5 S96 (jdk (⟨#[106]⟩ : ByteArray) (b.take (recsJ (scanJ b).1).length) (((recsJ (scanJ b).1).length : Nat) : Int) [] 5000), Chunk.jour w.heap.size gd5 gj94 (⟨#[106]⟩ : ByteArray) SJ95 ((scanJ b).1) (((recsJ (scanJ b).1).length : Nat) : Int)] := O161
  clear O161
  refine gw_setn 0 H160 O162 rfl (want_none rfl) rfl (op_storen gwsiz41 rfl (H160.ev rfl) (H160.ev rfl) (O162.get 0 rfl) rfl (by simp) (by simp [Value.oneCell'])) ?_
  intro _ w165 H164 O166; clear H160 O162
  refine gE hK133 ?_
  refine gR fun K167 hK167 => ?_
  refine V H164 (op_field (gwfld41_0 _ _) rfl (H164.ev rfl)) ?_
  intro _ H169; clear H164
  refine V H169 (op_loadn gwagg34 gwsiz34 rfl (H169.ev rfl) (O166.get 0 rfl) rfl rfl) ?_
  intro _ H171; clear H169
  refine gw_call H171 (want_none rfl) rfl (by decide) (op_callL Tryz.func12 (by kernel_rfl) rfl rfl (ar_cons (H171.ev rfl) (ar_cons (ev_c _ _) ar_nil))) ((by have h_ := open_p A145 c146 ([⟨(⟨#[106]⟩ : ByteArray), b, 0⟩] : List S38) none 0 ([] : List S54) (jdk (⟨#[106]⟩ : ByteArray) b 0 [] 5000) (⟨#[106]⟩ : ByteArray) 1 (fun _ h_ => h_) O166 rfl (show 1 ≤ 900000 by decide) rfl hwD1 (show (b.length : Int) + ((0 : Nat) : Int) ≤ 900000 by omega) (jd_byte hbb); rw [raw_open hbb (by omega)] at h_; (try dsimp only at h_); exact h_)) ?_
  rintro e181 w182 ⟨files172, A173, c174, its175, Ai176, ci177, S178, hd179, hs180, rfl, hb183⟩
  refine ⟨_, rfl, fun _ H185 => ?_⟩
  have O186 := O166.calls 1 rfl hb183
  clear H171 O166 hb183
  have hsi : its175.map toI = (scanJ b).1 := hs180 rfl
  refine V H185 (op_move rfl (H185.ev rfl)) ?_
  intro _ H189; clear H185
  refine V H189 (op_extract rfl (H189.ev rfl) rfl) ?_
  intro _ H191; clear H189
  refine V H191 (op_extract rfl (H191.ev rfl) rfl) ?_
  intro _ H193; clear H191
  refine gw_setn 0 H193 O186 rfl (want_none rfl) rfl (op_storen gwsiz41 rfl (H193.ev rfl) (H193.ev rfl) (O186.get 0 rfl) rfl (by simp) (by simp [Value.oneCell'])) ?_
  intro _ w196 H195 O197; clear H193 O186
  refine V H195 (op_assign rfl (H195.ev rfl)) ?_
  intro _ H199; clear H195
  refine gE hK167 ?_
  refine gw_seq fun K200 hK200 => ?_
  refine gR fun K201 hK201 => ?_
  refine V H199 (op_move rfl (H199.ev rfl)) ?_
  intro _ H203; clear H199
  refine V H203 (op_nei rfl (H203.ev rfl) (ev_c _ _)) ?_
  intro _ H205; clear H203
  have H206 := H205.lit (b := false) (by decide)
  clear H205
  refine V H206 (op_move rfl (H206.ev rfl)) ?_
  intro _ H208; clear H206
  refine V2 H208 (want_yes H208 rfl rfl rfl rfl) (op_move rfl (H208.ev rfl)) ?_
  intro _ H210; clear H208
  refine V2 H210 (want_yes H210 rfl rfl rfl rfl) (op_move rfl (H210.ev rfl)) ?_
  intro _ H212; clear H210
  refine V2 H212 (want_yes H212 rfl rfl rfl rfl) (op_loadn gwagg41 gwsiz41 rfl (H212.ev rfl) (O197.get 0 rfl) rfl rfl) ?_
  intro _ H214; clear H212
  have O221 : Own w _ [(Chunk.all [Bk g157 [.slice A173 files172.length c174, J ((jdk (⟨#[106]⟩ : ByteArray) (b.take (recsJ (scanJ b).1).length) (((recsJ (scanJ b).1).length : Nat) : Int) [] 5000).most), J ((jdk (⟨#[106]⟩ : ByteArray) (b.take (recsJ (scanJ b).1).length) (((recsJ (scanJ b).1).length : Nat) : Int) [] 5000).fuse), .bool ((jdk (⟨#[106]⟩ : ByteArray) (b.take (recsJ (scanJ b).1).length) (((recsJ (scanJ b).1).length : Nat) : Int) [] 5000).down), .string (⟨#[106]⟩ : ByteArray), .slice Ai176 its175.length ci177] 41]), Chunk.disk w.heap.size gd5 S96 (jdk (⟨#[106]⟩ : ByteArray) (b.take (recsJ (scanJ b).1).length) (((recsJ (scanJ b).1).length : Nat) : Int) [] 5000), Chunk.jour w.heap.size gd5 gj94 (⟨#[106]⟩ : ByteArray) SJ95 ((scanJ b).1) (((recsJ (scanJ b).1).length : Nat) : Int), Chunk.rj w (fun k_ => k_ < w.heap.size) S178 A173 c174 files172 Ai176 ci177 its175] := Own.bundle (O197.sel [0, 2, 3, 1] (by decide))
  refine gw_call H214 (want_yes H214 rfl rfl rfl rfl) rfl (by decide) (op_callL Tryz.func13 (by kernel_rfl) rfl rfl (ar_cons (H214.ev rfl) (ar_cons (H214.ev rfl) (ar_cons (H214.ev rfl) ar_nil)))) ((by have h_ := alike_calls w _ (Chunk.all [Bk g157 [.slice A173 files172.length c174, J ((jdk (⟨#[106]⟩ : ByteArray) (b.take (recsJ (scanJ b).1).length) (((recsJ (scanJ b).1).length : Nat) : Int) [] 5000).most), J ((jdk (⟨#[106]⟩ : ByteArray) (b.take (recsJ (scanJ b).1).length) (((recsJ (scanJ b).1).length : Nat) : Int) [] 5000).fuse), .bool ((jdk (⟨#[106]⟩ : ByteArray) (b.take (recsJ (scanJ b).1).length) (((recsJ (scanJ b).1).length : Nat) : Int) [] 5000).down), .string (⟨#[106]⟩ : ByteArray), .slice Ai176 its175.length ci177] 41]) gd5 gj94 S96 SJ95 (jdk (⟨#[106]⟩ : ByteArray) (b.take (recsJ (scanJ b).1).length) (((recsJ (scanJ b).1).length : Nat) : Int) [] 5000) (fun k_ => k_ < w.heap.size) S178 A173 c174 files172 Ai176 ci177 its175 (fun _ h_ => h_) hwD2 hd179 (by have h_ := congrArg List.length hd179; rw [List.length_map] at h_; rw [h_]; show 1 ≤ 1000000; decide) (by have h_ := congrArg List.length hsi; rw [List.length_map] at h_; have h2_ := (scan_small hbb (by omega)).2; omega) (by rw [hsi]; exact hso.1) (by rw [hsi]; exact hso.2) (show 1 ≤ 1000000 by decide) (show ((b.take (recsJ (scanJ b).1).length).length : Int) + ((0 : Nat) : Int) ≤ 1000000 by rw [List.length_take]; omega) (by rw [hsi]; have h_ := (scan_small hbb (by omega)).1; rw [scanJ_size hbb] at h_; omega) (by rw [hsi]; exact O221); rw [hsi] at h_; exact h_)) ?_
  rintro e215 w216 ⟨rfl, hb217⟩
  refine ⟨_, rfl, fun _ H219 => ?_⟩
  have O220 : Own w w216 [Bk g157 [.slice A173 files172.length c174, J ((jdk (⟨#[106]⟩ : ByteArray) (b.take (recsJ (scanJ b).1).length) (((recsJ (scanJ b).1).length : Nat) : Int) [] 5000).most), J ((jdk (⟨#[106]⟩ : ByteArray) (b.take (recsJ (scanJ b).1).length) (((recsJ (scanJ b).1).length : Nat) : Int) [] 5000).fuse), .bool ((jdk (⟨#[106]⟩ : ByteArray) (b.take (recsJ (scanJ b).1).length) (((recsJ (scanJ b).1).length : Nat) : Int) [] 5000).down), .string (⟨#[106]⟩ : ByteArray), .slice Ai176 its175.length ci177] 41, Chunk.disk w.heap.size gd5 S96 (jdk (⟨#[106]⟩ : ByteArray) (b.take (recsJ (scanJ b).1).length) (((recsJ (scanJ b).1).length : Nat) : Int) [] 5000), Chunk.jour w.heap.size gd5 gj94 (⟨#[106]⟩ : ByteArray) SJ95 ((scanJ b).1) (((recsJ (scanJ b).1).length : Nat) : Int), Chunk.rj w (fun k_ => k_ < w.heap.size) S178 A173 c174 files172 Ai176 ci177 its175] := Own.unbundle (hb217.sel [0, 1, 2, 3] (by decide))
  clear O221
  clear H214 O197 hb217
  refine V2 H219 (want_yes H219 rfl rfl rfl rfl) (op_not rfl (H219.ev rfl)) ?_
  intro _ H224; clear H219
  refine V H224 (op_pick_f rfl (H224.ev rfl) (H224.ev rfl)) ?_
  intro _ H226; clear H224
  refine gE hK201 ?_
  refine gw_cond H226 rfl (fun hb227 => ?_) (fun hb227 => ?_)
  skip
  ·
   cases hb227
  refine wp_skip ?_
  refine gw_nx (hK200 _ _ ?_)
  refine gR fun K228 hK228 => ?_
  refine V H226 (op_move rfl (H226.ev rfl)) ?_
  intro _ H230; clear H226
  have O239 : Own w _ [(Chunk.all [Bk g157 [.slice A173 files172.length c174, J ((jdk (⟨#[106]⟩ : ByteArray) (b.take (recsJ (scanJ b).1).length) (((recsJ (scanJ b).1).length : Nat) : Int) [] 5000).most), J ((jdk (⟨#[106]⟩ : ByteArray) (b.take (recsJ (scanJ b).1).length) (((recsJ (scanJ b).1).length : Nat) : Int) [] 5000).fuse), .bool ((jdk (⟨#[106]⟩ : ByteArray) (b.take (recsJ (scanJ b).1).length) (((recsJ (scanJ b).1).length : Nat) : Int) [] 5000).down), .string (⟨#[106]⟩ : ByteArray), .slice Ai176 its175.length ci177] 41, Chunk.jour w.heap.size gd5 gj94 (⟨#[106]⟩ : ByteArray) SJ95 ((scanJ b).1) (((recsJ (scanJ b).1).length : Nat) : Int), Chunk.rj w (fun k_ => k_ < w.heap.size) S178 A173 c174 files172 Ai176 ci177 its175]), Chunk.disk w.heap.size gd5 S96 (jdk (⟨#[106]⟩ : ByteArray) (b.take (recsJ (scanJ b).1).length) (((recsJ (scanJ b).1).length : Nat) : Int) [] 5000)] := Own.bundle (O220.sel [0, 2, 3, 1] (by decide))
  refine gw_call H230 (want_none rfl) rfl (by decide) (op_callL Tryz.func14 (by kernel_rfl) rfl rfl (ar_cons (H230.ev rfl) (ar_cons (ev_c _ _) ar_nil))) ((by have h_ := crash_calls w _ (Chunk.all [Bk g157 [.slice A173 files172.length c174, J ((jdk (⟨#[106]⟩ : ByteArray) (b.take (recsJ (scanJ b).1).length) (((recsJ (scanJ b).1).length : Nat) : Int) [] 5000).most), J ((jdk (⟨#[106]⟩ : ByteArray) (b.take (recsJ (scanJ b).1).length) (((recsJ (scanJ b).1).length : Nat) : Int) [] 5000).fuse), .bool ((jdk (⟨#[106]⟩ : ByteArray) (b.take (recsJ (scanJ b).1).length) (((recsJ (scanJ b).1).length : Nat) : Int) [] 5000).down), .string (⟨#[106]⟩ : ByteArray), .slice Ai176 its175.length ci177] 41, Chunk.jour w.heap.size gd5 gj94 (⟨#[106]⟩ : ByteArray) SJ95 ((scanJ b).1) (((recsJ (scanJ b).1).length : Nat) : Int), Chunk.rj w (fun k_ => k_ < w.heap.size) S178 A173 c174 files172 Ai176 ci177 its175]) gd5 S96 (jdk (⟨#[106]⟩ : ByteArray) (b.take (recsJ (scanJ b).1).length) (((recsJ (scanJ b).1).length : Nat) : Int) [] 5000) none 0 ([] : List Int) (fun w_ h_ => (Kd.C_nil _ _)) (Nat.le_refl _) hwf97 (by show 1 ≤ 1000000; decide) (by exact O239); rw [show (crashD ([] : List Int) (jdk (⟨#[106]⟩ : ByteArray) (b.take (recsJ (scanJ b).1).length) (((recsJ (scanJ b).1).length : Nat) : Int) [] 5000)) = (jdk (⟨#[106]⟩ : ByteArray) (b.take (recsJ (scanJ b).1).length) (((recsJ (scanJ b).1).length : Nat) : Int) [] 5000) from (jd_crash0 (by rw [raw_len hbb (by omega)]) _)] at h_; (try dsimp only at h_); exact h_)) ?_
  rintro e233 w234 ⟨rfl, S231, hb235⟩
  refine ⟨_, rfl, fun _ H237 => ?_⟩
  have O238 : Own w w234 [Bk g157 [.slice A173 files172.length c174, J ((jdk (⟨#[106]⟩ : ByteArray) (b.take (recsJ (scanJ b).1).length) (((recsJ (scanJ b).1).length : Nat) : Int) [] 5000).most), J ((jdk (⟨#[106]⟩ : ByteArray) (b.take (recsJ (scanJ b).1).length) (((recsJ (scanJ b).1).length : Nat) : Int) [] 5000).fuse), .bool ((jdk (⟨#[106]⟩ : ByteArray) (b.take (recsJ (scanJ b).1).length) (((recsJ (scanJ b).1).length : Nat) : Int) [] 5000).down), .string (⟨#[106]⟩ : ByteArray), .slice Ai176 its175.length ci177] 41, Chunk.jour w.heap.size gd5 gj94 (⟨#[106]⟩ : ByteArray) SJ95 ((scanJ b).1) (((recsJ (scanJ b).1).length : Nat) : Int), Chunk.rj w (fun k_ => k_ < w.heap.size) S178 A173 c174 files172 Ai176 ci177 its175, Chunk.disk w.heap.size gd5 S231 (jdk (⟨#[106]⟩ : ByteArray) (b.take (recsJ (scanJ b).1).length) (((recsJ (scanJ b).1).length : Nat) : Int) [] 5000)] := Own.unbundle (hb235.sel [0, 1] (by decide))
  clear O239
  clear H230 O220 hb235
  have hwf232 : wfD (jdk (⟨#[106]⟩ : ByteArray) (b.take (recsJ (scanJ b).1).length) (((recsJ (scanJ b).1).length : Nat) : Int) [] 5000) := by have h_ := wf_crash (keep := ([])) hwf97; rw [show (crashD ([] : List Int) (jdk (⟨#[106]⟩ : ByteArray) (b.take (recsJ (scanJ b).1).length) (((recsJ (scanJ b).1).length : Nat) : Int) [] 5000)) = (jdk (⟨#[106]⟩ : ByteArray) (b.take (recsJ (scanJ b).1).length) (((recsJ (scanJ b).1).length : Nat) : Int) [] 5000) from (jd_crash0 (by rw [raw_len hbb (by omega)]) _)] at h_; exact h_
  refine gE hK228 ?_
  refine gR fun K241 hK241 => ?_
  refine V H237 (op_move rfl (H237.ev rfl)) ?_
  intro _ H243; clear H237
  have heq248 : openJ (⟨#[106]⟩ : ByteArray) (jdk (⟨#[106]⟩ : ByteArray) (b.take (recsJ (scanJ b).1).length) (((recsJ (scanJ b).1).length : Nat) : Int) [] 5000) = (((jdk (⟨#[106]⟩ : ByteArray) (b.take (recsJ (scanJ b).1).length) (((recsJ (scanJ b).1).length : Nat) : Int) [] 5000), 0), ((scanJ b).1, (((recsJ (scanJ b).1).length : Nat) : Int))) := raw_open2 hbb (by omega)
  have O255 : Own w _ [(Chunk.all [Bk g157 [.slice A173 files172.length c174, J ((jdk (⟨#[106]⟩ : ByteArray) (b.take (recsJ (scanJ b).1).length) (((recsJ (scanJ b).1).length : Nat) : Int) [] 5000).most), J ((jdk (⟨#[106]⟩ : ByteArray) (b.take (recsJ (scanJ b).1).length) (((recsJ (scanJ b).1).length : Nat) : Int) [] 5000).fuse), .bool ((jdk (⟨#[106]⟩ : ByteArray) (b.take (recsJ (scanJ b).1).length) (((recsJ (scanJ b).1).length : Nat) : Int) [] 5000).down), .string (⟨#[106]⟩ : ByteArray), .slice Ai176 its175.length ci177] 41, Chunk.jour w.heap.size gd5 gj94 (⟨#[106]⟩ : ByteArray) SJ95 ((scanJ b).1) (((recsJ (scanJ b).1).length : Nat) : Int), Chunk.rj w (fun k_ => k_ < w.heap.size) S178 A173 c174 files172 Ai176 ci177 its175]), Chunk.disk w.heap.size gd5 S231 (jdk (⟨#[106]⟩ : ByteArray) (b.take (recsJ (scanJ b).1).length) (((recsJ (scanJ b).1).length : Nat) : Int) [] 5000)] := Own.bundle (O238.sel [0, 1, 2, 3] (by decide))
  refine gw_call H243 (want_none rfl) rfl (by decide) (op_callL Tryz.func9 (by kernel_rfl) rfl rfl (ar_cons (H243.ev rfl) (ar_cons (ev_c _ _) ar_nil))) (open_ok heq248 hwf232 (by decide) (by show 1 ≤ 1000000; decide) (used_le (by first | omega | (rw [List.length_take]; omega))) (jd_byte (by first | exact hbb | exact take_byte hbb _)) (by exact O255)) ?_
  rintro e249 w250 ⟨gj244, SJ245, S246, rfl, hb251⟩
  refine ⟨_, rfl, fun _ H253 => ?_⟩
  have O254 : Own w w250 [Bk g157 [.slice A173 files172.length c174, J ((jdk (⟨#[106]⟩ : ByteArray) (b.take (recsJ (scanJ b).1).length) (((recsJ (scanJ b).1).length : Nat) : Int) [] 5000).most), J ((jdk (⟨#[106]⟩ : ByteArray) (b.take (recsJ (scanJ b).1).length) (((recsJ (scanJ b).1).length : Nat) : Int) [] 5000).fuse), .bool ((jdk (⟨#[106]⟩ : ByteArray) (b.take (recsJ (scanJ b).1).length) (((recsJ (scanJ b).1).length : Nat) : Int) [] 5000).down), .string (⟨#[106]⟩ : ByteArray), .slice Ai176 its175.length ci177] 41, Chunk.jour w.heap.size gd5 gj94 (⟨#[106]⟩ : ByteArray) SJ95 ((scanJ b).1) (((recsJ (scanJ b).1).length : Nat) : Int), Chunk.rj w (fun k_ => k_ < w.heap.size) S178 A173 c174 files172 Ai176 ci177 its175, Chunk.disk w.heap.size gd5 S246 (jdk (⟨#[106]⟩ : ByteArray) (b.take (recsJ (scanJ b).1).length) (((recsJ (scanJ b).1).length : Nat) : Int) [] 5000), Chunk.jour w.heap.size gd5 gj244 (⟨#[106]⟩ : ByteArray) SJ245 ((scanJ b).1) (((recsJ (scanJ b).1).length : Nat) : Int)] := Own.unbundle (hb251.sel [0, 1, 2] (by decide))
  clear O255
  clear H243 O238 hb251
  have hwf247 : wfD (jdk (⟨#[106]⟩ : ByteArray) (b.take (recsJ (scanJ b).1).length) (((recsJ (scanJ b).1).length : Nat) : Int) [] 5000) := wf_open' heq248 hwf232
  refine V H253 (op_move rfl (H253.ev rfl)) ?_
  intro _ H258; clear H253
  refine V H258 (op_extract rfl (H258.ev rfl) rfl) ?_
  intro _ H260; clear H258
  refine V H260 (op_extract rfl (H260.ev rfl) rfl) ?_
  intro _ H262; clear H260
  refine V H262 (op_assign rfl (H262.ev rfl)) ?_
  intro _ H264; clear H262
  refine V H264 (op_assign rfl (H264.ev rfl)) ?_
  intro _ H266; clear H264
  refine gE hK241 ?_
  refine gR fun K267 hK267 => ?_
  refine V H266 (op_move rfl (H266.ev rfl)) ?_
  intro _ H269; clear H266
  refine V H269 (op_eqi rfl (H269.ev rfl) (ev_c _ _)) ?_
  intro _ H271; clear H269
  have H272 := H271.lit (b := true) (by decide)
  clear H271
  refine V H272 (op_move rfl (H272.ev rfl)) ?_
  intro _ H274; clear H272
  refine V2 H274 (want_yes H274 rfl rfl rfl rfl) (op_move rfl (H274.ev rfl)) ?_
  intro _ H276; clear H274
  refine V2 H276 (want_yes H276 rfl rfl rfl rfl) (op_nep_nil Tryz.underlying29 rfl (H276.ev rfl)) ?_
  intro _ H278; clear H276
  refine V H278 (op_pick_t rfl (H278.ev rfl) (H278.ev rfl)) ?_
  intro _ H280; clear H278
  refine V H280 (op_move rfl (H280.ev rfl)) ?_
  intro _ H282; clear H280
  refine V2 H282 (want_yes H282 rfl rfl rfl rfl) (op_move rfl (H282.ev rfl)) ?_
  intro _ H284; clear H282
  refine V2 H284 (want_yes H284 rfl rfl rfl rfl) (op_move rfl (H284.ev rfl)) ?_
  intro _ H286; clear H284
  refine V2 H286 (want_yes H286 rfl rfl rfl rfl) (op_loadn gwagg41 gwsiz41 rfl (H286.ev rfl) (O254.get 0 rfl) rfl rfl) ?_
  intro _ H288; clear H286
  have O295 : Own w _ [(Chunk.all [Bk g157 [.slice A173 files172.length c174, J ((jdk (⟨#[106]⟩ : ByteArray) (b.take (recsJ (scanJ b).1).length) (((recsJ (scanJ b).1).length : Nat) : Int) [] 5000).most), J ((jdk (⟨#[106]⟩ : ByteArray) (b.take (recsJ (scanJ b).1).length) (((recsJ (scanJ b).1).length : Nat) : Int) [] 5000).fuse), .bool ((jdk (⟨#[106]⟩ : ByteArray) (b.take (recsJ (scanJ b).1).length) (((recsJ (scanJ b).1).length : Nat) : Int) [] 5000).down), .string (⟨#[106]⟩ : ByteArray), .slice Ai176 its175.length ci177] 41, Chunk.jour w.heap.size gd5 gj94 (⟨#[106]⟩ : ByteArray) SJ95 ((scanJ b).1) (((recsJ (scanJ b).1).length : Nat) : Int)]), Chunk.disk w.heap.size gd5 S246 (jdk (⟨#[106]⟩ : ByteArray) (b.take (recsJ (scanJ b).1).length) (((recsJ (scanJ b).1).length : Nat) : Int) [] 5000), Chunk.jour w.heap.size gd5 gj244 (⟨#[106]⟩ : ByteArray) SJ245 ((scanJ b).1) (((recsJ (scanJ b).1).length : Nat) : Int), Chunk.rj w (fun k_ => k_ < w.heap.size) S178 A173 c174 files172 Ai176 ci177 its175] := Own.bundle (O254.sel [0, 1, 3, 4, 2] (by decide))
  refine gw_call H288 (want_yes H288 rfl rfl rfl rfl) rfl (by decide) (op_callL Tryz.func13 (by kernel_rfl) rfl rfl (ar_cons (H288.ev rfl) (ar_cons (H288.ev rfl) (ar_cons (H288.ev rfl) ar_nil)))) ((by have h_ := alike_calls w _ (Chunk.all [Bk g157 [.slice A173 files172.length c174, J ((jdk (⟨#[106]⟩ : ByteArray) (b.take (recsJ (scanJ b).1).length) (((recsJ (scanJ b).1).length : Nat) : Int) [] 5000).most), J ((jdk (⟨#[106]⟩ : ByteArray) (b.take (recsJ (scanJ b).1).length) (((recsJ (scanJ b).1).length : Nat) : Int) [] 5000).fuse), .bool ((jdk (⟨#[106]⟩ : ByteArray) (b.take (recsJ (scanJ b).1).length) (((recsJ (scanJ b).1).length : Nat) : Int) [] 5000).down), .string (⟨#[106]⟩ : ByteArray), .slice Ai176 its175.length ci177] 41, Chunk.jour w.heap.size gd5 gj94 (⟨#[106]⟩ : ByteArray) SJ95 ((scanJ b).1) (((recsJ (scanJ b).1).length : Nat) : Int)]) gd5 gj244 S246 SJ245 (jdk (⟨#[106]⟩ : ByteArray) (b.take (recsJ (scanJ b).1).length) (((recsJ (scanJ b).1).length : Nat) : Int) [] 5000) (fun k_ => k_ < w.heap.size) S178 A173 c174 files172 Ai176 ci177 its175 (fun _ h_ => h_) hwD2 hd179 (by have h_ := congrArg List.length hd179; rw [List.length_map] at h_; rw [h_]; show 1 ≤ 1000000; decide) (by have h_ := congrArg List.length hsi; rw [List.length_map] at h_; have h2_ := (scan_small hbb (by omega)).2; omega) (by rw [hsi]; exact hso.1) (by rw [hsi]; exact hso.2) (show 1 ≤ 1000000 by decide) (show ((b.take (recsJ (scanJ b).1).length).length : Int) + ((0 : Nat) : Int) ≤ 1000000 by rw [List.length_take]; omega) (by rw [hsi]; have h_ := (scan_small hbb (by omega)).1; rw [scanJ_size hbb] at h_; omega) (by rw [hsi]; exact O295); rw [hsi] at h_; exact h_)) ?_
  rintro e289 w290 ⟨rfl, hb291⟩
  refine ⟨_, rfl, fun _ H293 => ?_⟩
  have O294 : Own w w290 [Bk g157 [.slice A173 files172.length c174, J ((jdk (⟨#[106]⟩ : ByteArray) (b.take (recsJ (scanJ b).1).length) (((recsJ (scanJ b).1).length : Nat) : Int) [] 5000).most), J ((jdk (⟨#[106]⟩ : ByteArray) (b.take (recsJ (scanJ b).1).length) (((recsJ (scanJ b).1).length : Nat) : Int) [] 5000).fuse), .bool ((jdk (⟨#[106]⟩ : ByteArray) (b.take (recsJ (scanJ b).1).length) (((recsJ (scanJ b).1).length : Nat) : Int) [] 5000).down), .string (⟨#[106]⟩ : ByteArray), .slice Ai176 its175.length ci177] 41, Chunk.jour w.heap.size gd5 gj94 (⟨#[106]⟩ : ByteArray) SJ95 ((scanJ b).1) (((recsJ (scanJ b).1).length : Nat) : Int), Chunk.disk w.heap.size gd5 S246 (jdk (⟨#[106]⟩ : ByteArray) (b.take (recsJ (scanJ b).1).length) (((recsJ (scanJ b).1).length : Nat) : Int) [] 5000), Chunk.jour w.heap.size gd5 gj244 (⟨#[106]⟩ : ByteArray) SJ245 ((scanJ b).1) (((recsJ (scanJ b).1).length : Nat) : Int), Chunk.rj w (fun k_ => k_ < w.heap.size) S178 A173 c174 files172 Ai176 ci177 its175] := Own.unbundle (hb291.sel [0, 1, 2, 3] (by decide))
  clear O295
  clear H288 O254 hb291
  refine V H293 (op_pick_t rfl (H293.ev rfl) (H293.ev rfl)) ?_
  intro _ H298; clear H293
  refine V H298 (op_assign rfl (H298.ev rfl)) ?_
  intro _ H300; clear H298
  refine gE hK267 ?_
  refine wp_ret ?_
  refine gw_ret1 H300 rfl rfl ?_
  exact ⟨rfl, O294.below⟩
end GRj7_
export GRj7_ (JournalRaw_walk)
open Classical in
noncomputable def colloquylaw09_JournalRaw.f (l0 : List Int) : Option Bool := if (ByteL l0) then some true else none
theorem colloquylaw09_JournalRaw.calls (A0 : Option Addr) (c0 : Nat) (l0 : List Int) (r : Bool) (w : World) (hr0 : Kd.C (Kd.int .u8) w A0 l0.length l0) (hc0 : l0.length ≤ c0) (h : colloquylaw09_JournalRaw.f l0 = some r) :
    Calls Tryz.prog 3 #[(.slice A0 l0.length c0)] w fun e w' => e = .returned (.bool r) ∧ Below w.heap.size w w' := by
  unfold colloquylaw09_JournalRaw.f at h
  split at h
  · cases h; rename_i hh; exact JournalRaw_walk A0 c0 l0 w hr0 hc0 hh
  · cases h
end Go.Proofs.YtkdahjnmldeklaaGreat.PA
end
section
namespace Go.Proofs.YtkdahjnmldeklaaGreat.PA
open Go.RowKit Go.Proofs.YtkdahjnmldeklaaGreatW.PrintWords Go.Proofs.YtkdahjnmldeklaaGreatW.PrintLast Go.Proofs.YtkdahjnmldeklaaGreatW.PrintMore
structure Opens {α : Type} (P : Program) (t : TypeId) (d : Kd α) (good : α → Prop) (wt : α → Nat) (sz : α → Prop) : Prop where
  run : ∀ {H : Type} (enc : TypeId × Value → H) (w : World) (spare : Nat → Bool) (held : Bool) (fuel : Nat) (cs : List Value) (x : DataW H × List MemPlace),
    DataW.trod enc P w 0 spare held fuel t cs = some x → ∃ y : α, d.K w y cs ∧ good y ∧ wt y ≤ Rows.uptoBulk x.1 ∧ ((∀ n ∈ x.1.weights P t, n ≤ reachBytes) → sz y)
structure OpensF {α : Type} (P : Program) (fs : List Field) (off : Nat) (d : Kd α) (good : α → Prop) (wt : α → Nat) (sz : α → Prop) : Prop where
  run : ∀ {H : Type} (enc : TypeId × Value → H) (w : World) (spare : Nat → Bool) (held : Bool) (fuel : Nat) (cs : List Value) (xs : List (DataW H × List MemPlace)),
    (fs.mapM fun f => DataW.trod enc P w 0 spare held fuel f.type ((cs.drop f.offset).take (P.cellsOf f.type))) = some xs →
      ∃ y : α, d.K w y ((cs.drop off).take d.sz) ∧ good y ∧ wt y ≤ Rows.uptoBulkAll (xs.map (·.1)) ∧ ((∀ n ∈ DataW.weightsEach P (fs.map (·.type)) (xs.map (·.1)), n ≤ reachBytes) → sz y)
section
variable {P : Program} {t e : TypeId}
theorem bulk_pos {H : Type} (d : DataW H) : 1 ≤ Rows.uptoBulk d := by
  cases d with
  | lit l => cases l <;> simp [Rows.uptoBulk]
  | nil => simp [Rows.uptoBulk]
  | ptr d => simp [Rows.uptoBulk]
  | slice elems spare => simp [Rows.uptoBulk]
  | agg parts => simp [Rows.uptoBulk]
  | iface t d => simp [Rows.uptoBulk]
  | map entries => simp [Rows.uptoBulk]
  | held h => simp [Rows.uptoBulk]
theorem opens_int {k : IntKind} (ht : P.underlying t = some (.int k)) : Opens P t (Kd.int k) (fun y => (Lit.int k y).wf = true) (fun _ => 1) (fun _ => True) :=
  ⟨fun enc w spare held fuel cs x h => by
    obtain ⟨n, rfl, rfl, hw⟩ := DataW.trod_int ht h
    exact ⟨n, rfl, hw, bulk_pos _, fun _ => trivial⟩⟩
theorem bulkAll_map {H : Type} {α : Type} (wt : α → Nat) : ∀ (ds : List (DataW H)) (xs : List α), xs.length = ds.length → (∀ (i : Nat) (x : α) (d : DataW H), xs[i]? = some x → ds[i]? = some d → wt x ≤ Rows.uptoBulk d) → (xs.map wt).sum ≤ Rows.uptoBulkAll ds
  | [], [], _, _ => by simp
  | [], _ :: _, hl, _ => by simp at hl
  | _ :: _, [], hl, _ => by simp at hl
  | d :: ds, x :: xs, hl, h => by
    have h0 := h 0 x d rfl rfl
    have ih := bulkAll_map wt ds xs (by simpa using hl) (fun i x' d' h1 h2 => h (i + 1) x' d' (by simpa using h1) (by simpa using h2))
    simp only [List.map_cons, List.sum_cons, Rows.uptoBulkAll]
    omega
theorem cells_list {w : World} {base : Nat} {a : Addr} {n : Nat} {cs : List Value} (h : w.cells? base a n = some cs) : cs.length = n ∧ ∀ i u, cs[i]? = some u → w.cell? (a.add i) = some u := by
  unfold World.cells? at h
  split at h
  · have hl := mapM_some_length h
    rw [List.length_range] at hl
    refine ⟨hl, fun i u hu => ?_⟩
    have hi : i < n := by
      have := (List.getElem?_eq_some_iff.1 hu).1
      omega
    have := mapM_some_get h i i (by rw [List.getElem?_range hi])
    rw [this]
    exact hu
  · cases h
theorem mem_weightsAll {H : Type} {n : Nat} {d : DataW H} : ∀ {ds : List (DataW H)}, d ∈ ds → n ∈ d.weights P e → n ∈ DataW.weightsAll P e ds
  | [], h, _ => by cases h
  | c :: ds, h, hn => by
    simp only [DataW.weightsAll, List.mem_append]
    rcases List.mem_cons.1 h with rfl | h
    · exact .inl hn
    · exact .inr (mem_weightsAll h hn)
theorem opens_slice {α : Type} [Inhabited α] {d : Kd α} {good : α → Prop} {wt : α → Nat} {sz : α → Prop} {b : Nat} (hby : P.bytesOf e = b) (ht : P.underlying t = some (.slice e)) (hsz : P.cellsOf e = d.sz) (ho : Opens P e d good wt sz) :
    Opens P t (Kd.slice e d) (fun xs => xs.length ≤ maxLen ∧ ∀ x ∈ xs, good x) (fun xs => (xs.map wt).sum + 1) (fun xs => xs.length * b ≤ reachBytes ∧ ∀ x ∈ xs, sz x) :=
  ⟨fun enc w spare held fuel cs x h => by
    rcases Deep.open_slice ht h with ⟨rfl, rfl⟩ | ⟨a, len, cap, m, n, D, Pl, rfl, hb, hl, hm, hmm, rfl, hx⟩
    · refine ⟨[], ⟨none, 0, rfl, Nat.le_refl _, rfl, Nat.zero_le _, fun h => absurd h (by simp)⟩, ⟨by simp [maxLen], fun x hx => by cases hx⟩, by simpa using bulk_pos _, fun _ => ⟨by simp, fun x hx => by cases hx⟩⟩
    · have hlm : len ≤ m := by rw [hmm]; split <;> omega
      have hel : ∀ i : Nat, ∃ y : α, i < len → ∃ cs', w.cells? 0 (a.add (i * P.cellsOf e)) (P.cellsOf e) = some cs' ∧ d.K w y cs' ∧ good y ∧ wt y ≤ Rows.uptoBulk (D i) ∧ ((∀ n ∈ (D i).weights P e, n ≤ reachBytes) → sz y) := by
        intro i
        by_cases hi : i < len
        · obtain ⟨cs', h1, h2⟩ := hx i (by omega)
          obtain ⟨y, hk, hg, hw, hz⟩ := ho.run enc w spare held n cs' _ h2
          exact ⟨y, fun _ => ⟨cs', h1, hk, hg, hw, hz⟩⟩
        · exact ⟨default, fun h => absurd h hi⟩
      obtain ⟨f, hf⟩ := Classical.axiomOfChoice hel
      have hget : ∀ (j : Nat) (p : α), ((List.range len).map f)[j]? = some p → j < len ∧ f j = p := by
        intro j p hj
        have hj' := (List.getElem?_eq_some_iff.1 hj).1
        rw [List.length_map, List.length_range] at hj'
        rw [List.getElem?_map, List.getElem?_range hj'] at hj
        exact ⟨hj', by simpa using hj⟩
      have hlen : ((List.range len).map f).length = len := by rw [List.length_map, List.length_range]
      have hmax : maxLen = 9223372036854775807 := rfl
      refine ⟨(List.range len).map f, ⟨some a, cap, by rw [hlen], by rw [hlen]; exact hl, rfl, by rw [hlen]; omega, fun _ => ⟨a, rfl, fun j p hj => ?_⟩⟩, ⟨by rw [hlen]; omega, fun x hx' => ?_⟩, ?_, fun hn => ⟨?_, fun x hx' => ?_⟩⟩
      · obtain ⟨hj', rfl⟩ := hget j p hj
        obtain ⟨cs', h1, hk, _⟩ := hf j hj'
        obtain ⟨hcl, hcc⟩ := cells_list h1
        refine ⟨cs', by rw [hcl, hsz], hk, fun i u hu => ?_⟩
        have := hcc i u hu
        rwa [Addr.add_add, hsz] at this
      · obtain ⟨i, hi, rfl⟩ := List.mem_map.1 hx'
        obtain ⟨_, _, _, hg, _⟩ := hf i (List.mem_range.1 hi)
        exact hg
      · simp only [Rows.uptoBulk]
        have := bulkAll_map wt ((List.range len).map D) ((List.range len).map f) (by simp) (fun i x' d' h1 h2 => by
          obtain ⟨hi, rfl⟩ := hget i x' h1
          have hd : D i = d' := by
            rw [List.getElem?_map, List.getElem?_range hi] at h2
            simpa using h2
          subst hd
          obtain ⟨_, _, _, _, hw, _⟩ := hf i hi
          exact hw)
        omega
      · simp only [DataW.weights, ht] at hn
        have h1 := hn _ (List.mem_cons_self ..)
        rw [List.length_map, List.length_range, hby] at h1
        rw [hlen]
        exact Nat.le_trans (Nat.mul_le_mul_right b (Nat.le_add_right _ _)) h1
      · simp only [DataW.weights, ht] at hn
        obtain ⟨i, hi, rfl⟩ := List.mem_map.1 hx'
        obtain ⟨_, _, _, _, _, hz⟩ := hf i (List.mem_range.1 hi)
        exact hz fun n hn' => hn n (List.mem_cons_of_mem _ (List.mem_append_left _ (mem_weightsAll (List.mem_map.2 ⟨i, hi, rfl⟩) hn')))⟩
end
end Go.Proofs.YtkdahjnmldeklaaGreat.PA
end
section
namespace Go.Proofs.YtkdahjnmldeklaaGreat.PA
open Go.RowKit Go.Proofs.YtkdahjnmldeklaaGreatW.PrintWords Go.Proofs.YtkdahjnmldeklaaGreatW.PrintLast Go.Proofs.YtkdahjnmldeklaaGreatW.PrintMore
set_option linter.unusedVariables false
def colloquylaw09_JournalRaw.PureU : Prop := ∀ (x0 : List (Int)), ((x0).length ≤ maxLen ∧ ∀ y ∈ x0, (Lit.int .u8 (y)).wf = true) → ((x0).length * 1 ≤ reachBytes ∧ ∀ y ∈ x0, True) → ∃ _ : Nat, colloquylaw09_JournalRaw.f (x0) = some true
end Go.Proofs.YtkdahjnmldeklaaGreat.PA
end
section
namespace Go.Proofs.YtkdahjnmldeklaaGreat.Pure
open Go.RowKit Go.Proofs.YtkdahjnmldeklaaGreat.PA
set_option linter.unusedVariables false in
theorem JournalRaw : colloquylaw09_JournalRaw.PureU := by
  intro x0 g0
  have hB : ∀ l : List Int, (∀ y ∈ l, (Lit.int .u8 (y)).wf = true) → ByteL l := fun l h y hy => by
    have := wf_byte (h y hy)
    unfold Byte at this
    omega
  intros
  exact ⟨0, if_pos (hB x0 g0.2)⟩
end Go.Proofs.YtkdahjnmldeklaaGreat.Pure
end
section
namespace Go.Proofs.YtkdahjnmldeklaaGreat.journalRaw
open Go.ChangeShapes Go.WideShapes Go.ChangeAt Go.RowKit
open Go.ChangeMaps (open_string shut_string)
open Go.RowKit Go.Proofs.YtkdahjnmldeklaaGreatW.PrintWords Go.Proofs.YtkdahjnmldeklaaGreatW.PrintLast Go.Proofs.YtkdahjnmldeklaaGreatW.PrintMore Go.Proofs.YtkdahjnmldeklaaGreat.PA
set_option linter.unusedVariables false
set_option linter.unusedSimpArgs false
theorem own : ownKnob Tryz.prog.godebug = none := by kernel_rfl
theorem laidOut : laidOutB Tryz.prog = true := by kernel_rfl
set_option maxRecDepth 100000 in
theorem contract (H : Type) (enc : TypeId × Value → H) (W : World) (base : Nat) (args : Array Value) (ds gs : List (DataW H)) (before : List MemPlace)
    (hval0 : ∀ (j : Nat) t v, Tryz.f3.params[j]? = some t → args[j]? = some v → Value.okWide Tryz.prog W .any base t v)
    (hW : DataW.Whole enc Tryz.prog Tryz.f3.params.toList Rows.journalRawSpec.vars false W args.toList ds gs before)
    (hsz0 : (DataW.weightsEach Tryz.prog (Tryz.f3.params.toList ++ Rows.journalRawSpec.plain.varTypes Tryz.prog) (ds ++ gs)).all (· ≤ reachBytes) = true) :
    Calls Tryz.prog 3 args W fun e W' => ∃ v, e = .returned v ∧ Rows.journalRawSpec.post enc Tryz.prog Tryz.f3 false true false false W args v W' := by
  have hsz : (DataW.weightsEach Tryz.prog (Tryz.f3.params.toList ++ Rows.journalRawSpec.plain.varTypes Tryz.prog) (ds ++ gs)).all (· ≤ reachBytes) = true := hsz0
  have hval : ∀ (j : Nat) t v, Tryz.f3.params[j]? = some t → args[j]? = some v → Value.okWide Tryz.prog W .any base t v := hval0
  have hW' := hW
  obtain ⟨p, q, hA0, hV, rfl, hfz, hnd⟩ := hW
  have hA : DataW.TrodAll enc Tryz.prog W 0 (fun _ => true) true Tryz.f3.params.toList args.toList ds p := hA0
  rw [Tryz.params3] at hA hval hsz
  obtain ⟨v0, vs0, d0, ds0, p0, q0, hargs, rfl, rfl, h0, r0⟩ := trodAll_cons hA
  obtain ⟨rfl, rfl, rfl⟩ := trodAll_nil r0
  obtain rfl : args = #[v0] := by cases args; simp_all
  obtain ⟨rfl, rfl⟩ := trodVars_none hV
  have k0 := h0
  have lt0 : ∀ x ∈ p0, x.block < W.heap.size := by obtain ⟨m, hm⟩ := k0; exact DataW.trod_lt m _ _ _ hm
  obtain ⟨fuel0, hf0⟩ := h0
  obtain ⟨x0, hK0, g0, z0, s00⟩ := (opens_slice (b := 1) (by kernel_rfl) Tryz.underlying22 (by kernel_rfl) (opens_int Tryz.underlying5)).run enc W _ _ fuel0 _ _ hf0
  have s0 := s00 (fun n hn => by have := List.all_eq_true.1 hsz n (DataW.weights_mem_each (j := 0) (t := 22) rfl rfl n hn); simpa using this)
  obtain ⟨a0, len0, cap0, rfl⟩ := okWide_slice Tryz.underlying22 (hval 0 22 v0 rfl rfl)
  obtain ⟨A0, c0, hcs0, hc0, hr0⟩ := hK0
  obtain ⟨rfl, rfl, rfl⟩ : a0 = A0 ∧ len0 = x0.length ∧ cap0 = c0 := by
    have hcs' : [Value.slice a0 len0 cap0] = [Value.slice A0 x0.length c0] := hcs0
    injection hcs' with e1 _
    injection e1 with e1 e2 e3
    exact ⟨e1, e2, e3⟩
  obtain ⟨k, h⟩ := Pure.JournalRaw x0 g0 s0
  refine (PA.colloquylaw09_JournalRaw.calls (A0 := a0) (c0 := cap0) (l0 := x0) (r := true) (w := W) (hr0 := hr0) (hc0 := hc0) (h := h)).mono fun e W' ⟨he, hb⟩ => ?_
  have bel : Below W.heap.size W W' := by first | exact hb | exact Drawn0.below hb
  subst he
  exact ⟨_, rfl, _, _, _, [], _, [], hW', trodAll_mk1 (shut_bool Tryz.underlying4 _), (trodAll_cons_mk (Below.trod laidOut (by kernel_rfl) (of_decide_eq_true (by kernel_rfl)) k0 bel lt0) trodAll_mk0), rfl, bel.frame _, fun h => by cases h⟩
set_option maxRecDepth 100000 in
theorem lifted (os : Os) (started : os.Started) (H : Type) (enc : TypeId × Value → H) :
    ReturnsInHanded {} Tryz.checked os 3 .any (Rows.journalRawSpec.pre6 enc Tryz.prog Tryz.f3 Rows.journalRawRow.domain false) (Rows.journalRawSpec.post enc Tryz.prog Tryz.f3 false true false false) := by
  refine returnsInHanded_of_change_sized (C := Tryz.checked) own started (by kernel_rfl) Tryz.func3
    (ChangeSpec.witness6 (enc := enc) (C := Tryz.checked) false ⟨#[], #[.slice none 0 0], []⟩ 8 (by kernel_rfl) (by kernel_rfl) (by kernel_rfl) (by kernel_rfl)) ?_
  intro W base args ds gs before hval hW _ hsz _
  exact contract H enc W base args ds gs before hval hW hsz
theorem proved : Rows.JournalRawSaid :=
  OpenClaim.holds_of_wide 3 Tryz.f3 rfl rfl rfl rfl rfl rfl rfl ⟨rfl, rfl, rfl, rfl, rfl⟩ rfl rfl rfl rfl rfl (by kernel_rfl) Tryz.func3 (by kernel_rfl)
    (of_decide_eq_true (by kernel_rfl)) (by unfold Func.isWrapper; first | (rw [if_pos (by decide +kernel)]; kernel_rfl) | (rw [if_neg (by decide +kernel)]; exact ⟨rfl, rfl⟩))
    (fun os started H enc _ => lifted os started H enc)
#print axioms proved
end Go.Proofs.YtkdahjnmldeklaaGreat.journalRaw
namespace Go.Proofs.YtkdahjnmldeklaaGreat
theorem journalRaw_holds : Rows.JournalRawSaid := journalRaw.proved
end Go.Proofs.YtkdahjnmldeklaaGreat
end
