/- What this claim uses of this session's own texts, put together by a program: GJour3 HJLaw HRj3 GRj5 GJAlive GRj6 HRj5 HKinds GRj8. -/
import Derived.Test.YtkdahjnmldeklaaGreatKJournalPlays3
import Derived.Test.YtkdahjnmldeklaaGreatProg
import Derived.Test.YtkdahjnmldeklaaGreatRows
namespace Go.Proofs.YtkdahjnmldeklaaGreat.PA
open Go.RowKit Go.Proofs.YtkdahjnmldeklaaGreatW.PrintWords Go.Proofs.YtkdahjnmldeklaaGreatW.PrintLast Go.Proofs.YtkdahjnmldeklaaGreatW.PrintMore
set_option linter.unusedVariables false
set_option linter.unusedSimpArgs false
set_option maxRecDepth 100000
set_option maxHeartbeats 8000000
namespace GJour3_
theorem open_calls (w0 w : World) (R : Chunk) (gd : Nat) (S : Nat → Prop) (d : PD) (nm : ByteArray) (hw : wfD d) (hn : nm.size ≤ 9223372036854775807) (hlen : d.fs.length ≤ 1000000) (hus : d.used ≤ 1000000) (hbb : ByteL (readD nm d).1) (HO : Own w0 w [R, Chunk.disk w0.heap.size gd S d]) :
    Calls Tryz.prog 9 #[.pointer (some ⟨gd, 0, none⟩), .string nm] w fun e w' => (e = .returned (.tuple #[.pointer none, .int .i64 (openJ nm d).1.2]) ∧ (openJ nm d).1.2 ≠ 0 ∧ ∃ S', Own w0 w' [R, Chunk.disk w0.heap.size gd S' (openJ nm d).1.1]) ∨ ((openJ nm d).1.2 = 0 ∧ ∃ gj SJ S', e = .returned (.tuple #[.pointer (some ⟨gj, 0, none⟩), .int .i64 0]) ∧ Own w0 w' [R, Chunk.disk w0.heap.size gd S' (openJ nm d).1.1, Chunk.jour w0.heap.size gd gj nm SJ (openJ nm d).2.1 (openJ nm d).2.2]) := by
 have hbl : ((readD nm d).1.length : Int) ≤ 1000000 := Int.le_trans (read_len hw) hus
 refine gw_startO (N := 100) (vs := [.pointer (some ⟨gd, 0, none⟩), .string nm]) Tryz.func9 rfl rfl (by simp) fun a HF => ?_
 refine gR fun K1 hK1 => ?_
 refine Vc HF ?_
 intro _ H3; clear HF
 refine Vc H3 fun _ H5 => ?_
 refine gE hK1 ?_
 refine gR fun K6 hK6 => ?_
 refine Vm H5 fun _ H8 => ?_
 refine Vm H8 fun _ H10 => ?_
 clear H3 H5 H8
 refine gw_mkmap (K := 2) H10 HO (want_none rfl) rfl (by decide) rfl ?_
 intro g11 _ w13 H14 O15; clear H10 HO
 have O16 : Own w0 w13 [Chunk.lmap Tryz.prog 2 g11 ([] : List (Lit × Value)), R, Chunk.disk w0.heap.size gd S d] := O15
 clear O15
 refine V H14 (op_build (cells := #[.pointer (some ⟨gd, 0, none⟩), .string nm, .map (some g11), J 0]) rfl (pt_cons (H14.ev rfl) (pt_cons (H14.ev rfl) (pt_cons (H14.ev rfl) pt_nil))) (by kernel_rfl)) fun _ H18 => ?_
 clear H14
 refine gw_new H18 O16 (want_none rfl) rfl (by decide) (op_box rfl (H18.ev rfl)) ?_
 intro g19 _ w21 H22 O23; clear H18 O16
 have O24 : Own w0 w21 [Bk g19 [.pointer (some ⟨gd, 0, none⟩), .string nm, .map (some g11), J 0] 79, Chunk.lmap Tryz.prog 2 g11 ([] : List (Lit × Value)), R, Chunk.disk w0.heap.size gd S d] := O23
 clear O23
 refine Va H22 fun _ H26 => ?_
 clear H22
 have O27 := Own.jrows_nil O24 w0.heap.size
 have O28 : Own w0 w21 [Chunk.jrows w0.heap.size ([]), Bk g19 [.pointer (some ⟨gd, 0, none⟩), .string nm, .map (some g11), J 0] 79, Chunk.lmap Tryz.prog 2 g11 ([] : List (Lit × Value)), R, Chunk.disk w0.heap.size gd S d] := O27
 clear O27
 refine gE hK6 ?_
 refine gR fun K29 hK29 => ?_
 refine Vm H26 fun _ H31 => ?_
 refine Vm H31 fun _ H33 => ?_
 clear H26 H31
 refine Wk H33 Tryz.func31 rfl (ar_cons (H33.ev rfl) (ar_cons (H33.ev rfl) ar_nil)) (read_calls w0.heap.size gd S d nm _ (by exact O28.get 4 rfl) hn hw (by first | decide | omega)) ?_
 rintro e37 w38 ⟨A34, c35, S36, rfl, hb39⟩
 refine ⟨_, rfl, fun _ H41 => ?_⟩
 have O42 := O28.fresh hb39
 have hbel43 := O28.below
 clear H33 O28 hb39
 have O44 := O42.lowrow 0 rfl (base' := w0.heap.size) (Below.size hbel43)
 refine Vm H41 fun _ H46 => ?_
 refine Vx H46 fun _ H48 => ?_
 refine Vx H48 fun _ H50 => ?_
 refine Va H50 fun _ H52 => ?_
 clear H41 H46 H48 H50
 have O53 := O44.row_view 0 rfl
 clear O44
 have O54 : Own w0 w38 [Chunk.view (Kd.int .u8) S36 A34 (((readD nm d).1).length) c35 ((readD nm d).1), Chunk.jrows w0.heap.size ([]), Bk g19 [.pointer (some ⟨gd, 0, none⟩), .string nm, .map (some g11), J 0] 79, Chunk.lmap Tryz.prog 2 g11 ([] : List (Lit × Value)), R, Chunk.disk w0.heap.size gd S d] := O53
 clear O53
 refine Va H52 fun _ H56 => ?_
 refine gE hK29 ?_
 clear H52
 refine gw_joinS (fun a_ w_ => ∃ (d1 : PD) (S1 : Nat → Prop) (e8 : Int), Fr 100 a_ [(8, J e8), (0, .pointer (some ⟨gd, 0, none⟩)), (1, .string nm), (4, .pointer none), (5, J 0), (6, .pointer (some ⟨g19, 0, none⟩)), (7, .slice A34 (((readD nm d).1).length) c35)] ∧ Own w0 w_ [Chunk.view (Kd.int .u8) S36 A34 (((readD nm d).1).length) c35 ((readD nm d).1), Chunk.jrows w0.heap.size ([]), Bk g19 [.pointer (some ⟨gd, 0, none⟩), .string nm, .map (some g11), J 0] 79, Chunk.lmap Tryz.prog 2 g11 ([] : List (Lit × Value)), R, Chunk.disk w0.heap.size gd S1 d1] ∧ (wfD d1) ∧ (preJ nm d = (d1, e8))) ?_ ?_
 ·
  refine gR fun K57 hK57 => ?_
  refine Vm H56 fun _ H59 => ?_
  refine V H59 (op_eqi rfl (H59.ev rfl) (ev_c _ _)) fun _ H61 => ?_
  refine gE hK57 ?_
  clear H56 H59
  refine gw_cond H61 rfl (fun hb62 => ?_) (fun hb62 => ?_)
  ·
   have H63 := H61.subst_ (d := 28) (b := true) rfl hb62
   clear H61
   (try simp only [decide_eq_true_eq] at hb62)
   have h28 := hb62
   refine wp_region_lit ?_
   refine Vm H63 fun _ H65 => ?_
   refine Vm H65 fun _ H67 => ?_
   clear H63 H65
   have O76 : Own w0 _ [(Chunk.all [Chunk.view (Kd.int .u8) S36 A34 (((readD nm d).1).length) c35 ((readD nm d).1), Chunk.jrows w0.heap.size ([]), Bk g19 [.pointer (some ⟨gd, 0, none⟩), .string nm, .map (some g11), J 0] 79, Chunk.lmap Tryz.prog 2 g11 ([] : List (Lit × Value)), R]), Chunk.disk w0.heap.size gd S d] := Own.bundle (O54.sel [0, 1, 2, 3, 4, 5] (by decide))
   refine Wk H67 Tryz.func7 rfl (ar_cons (H67.ev rfl) (ar_cons (H67.ev rfl) ar_nil)) (create_calls w0 _ (Chunk.all [Chunk.view (Kd.int .u8) S36 A34 (((readD nm d).1).length) c35 ((readD nm d).1), Chunk.jrows w0.heap.size ([]), Bk g19 [.pointer (some ⟨gd, 0, none⟩), .string nm, .map (some g11), J 0] 79, Chunk.lmap Tryz.prog 2 g11 ([] : List (Lit × Value)), R]) gd S d nm hw hn (by first | decide | omega) (by exact O76)) ?_
   rintro e70 w71 ⟨rfl, S68, hb72⟩
   refine ⟨_, rfl, fun _ H74 => ?_⟩
   have O75 : Own w0 w71 [Chunk.view (Kd.int .u8) S36 A34 (((readD nm d).1).length) c35 ((readD nm d).1), Chunk.jrows w0.heap.size ([]), Bk g19 [.pointer (some ⟨gd, 0, none⟩), .string nm, .map (some g11), J 0] 79, Chunk.lmap Tryz.prog 2 g11 ([] : List (Lit × Value)), R, Chunk.disk w0.heap.size gd S68 ((createD nm d).1)] := Own.unbundle (hb72.sel [0, 1] (by decide))
   clear O76
   clear H67 O54 hb72
   have hwf69 : wfD ((createD nm d).1) := wf_create hw
   refine Va H74 fun _ H79 => ?_
   clear H74
   refine wpList_nil ?_
   refine gw_nx ⟨((createD nm d).1), S68, ((createD nm d).2), (H79.pick (t := 8) rfl (H79.pick (t := 0) rfl (H79.pick (t := 1) rfl (H79.pick (t := 4) rfl (H79.pick (t := 5) rfl (H79.pick (t := 6) rfl (H79.pick (t := 7) rfl H79.nil))))))), O75.sel [0, 1, 2, 3, 4, 5] (by decide), ?_, ?_⟩
   ·
    exact hwf69
   unfold preJ; first | exact if_pos h28 | exact if_neg h28
  have H80 := H61.subst_ (d := 28) (b := false) rfl hb62
  clear H61
  (try simp only [decide_eq_false_iff_not] at hb62)
  have h28 := hb62
  refine wp_skip ?_
  refine gw_nx ⟨d, S, ((readD nm d).2), (H80.pick (t := 8) rfl (H80.pick (t := 0) rfl (H80.pick (t := 1) rfl (H80.pick (t := 4) rfl (H80.pick (t := 5) rfl (H80.pick (t := 6) rfl (H80.pick (t := 7) rfl H80.nil))))))), O54.sel [0, 1, 2, 3, 4, 5] (by decide), ?_, ?_⟩
  ·
   exact hw
  unfold preJ; first | exact if_pos h28 | exact if_neg h28
 rintro _ w82 ⟨d1, S1, e8, H83, O84, hw1, hpre⟩
 refine gw_seq fun K85 hK85 => ?_
 refine gR fun K86 hK86 => ?_
 refine Vm H83 fun _ H88 => ?_
 refine V H88 (op_nei rfl (H88.ev rfl) (ev_c _ _)) fun _ H90 => ?_
 refine gE hK86 ?_
 clear H83 H88
 refine gw_cond H90 rfl (fun hb91 => ?_) (fun hb91 => ?_)
 ·
  have H92 := H90.subst_ (d := 33) (b := true) rfl hb91
  clear H90
  (try simp only [decide_eq_true_eq, ne_eq] at hb91)
  have hne : e8 ≠ 0 := hb91
  refine gR fun K93 hK93 => ?_
  refine Vm H92 fun _ H95 => ?_
  refine Vc H95 fun _ H97 => ?_
  refine Va H97 fun _ H99 => ?_
  refine gE hK93 ?_
  refine wp_ret ?_
  clear H92 H95 H97
  refine gw_thr ?_
  refine gw_ret2 H99 rfl rfl rfl ?_
  rw [open1 hpre hne]
  exact .inl ⟨rfl, by first | exact hne | (show _ ≠ _; exact hne), _, O84.sel [4, 5] (by decide)⟩
 have H100 := H90.subst_ (d := 33) (b := false) rfl hb91
 clear H90
 (try simp only [decide_eq_false_iff_not, ne_eq, Decidable.not_not] at hb91)
 have he8 : e8 = 0 := by omega
 refine gS hK85 ?_
 refine gw_joinS (fun a_ w_ => ∃ (is : List PI) (xs : List XJ) (sz : Int), Fr 100 a_ [(0, .pointer (some ⟨gd, 0, none⟩)), (1, .string nm), (4, .pointer none), (5, J 0), (6, .pointer (some ⟨g19, 0, none⟩)), (7, .slice A34 (((readD nm d).1).length) c35)] ∧ Own w0 w_ [R, Chunk.disk w0.heap.size gd S1 d1, Bk g19 [.pointer (some ⟨gd, 0, none⟩), .string nm, .map (some g11), J sz] 79, Chunk.lmap Tryz.prog 2 g11 (xs.map XJ.ent), Chunk.jrows w0.heap.size xs, Chunk.view (Kd.int .u8) S36 A34 (((readD nm d).1).length) c35 ((readD nm d).1)] ∧ ((xs.map XJ.p).Perm is) ∧ (scanJ (readD nm d).1 = (is, sz)) ∧ (0 ≤ sz ∧ sz ≤ (readD nm d).1.length)) ?_ ?_
 ·
  refine wp_block ?_
  refine gw_loop (fun m_ a_ w_ => ∃ (is : List PI) (xs : List XJ) (sz : Int) (f : Nat), Fr 100 a_ [(0, .pointer (some ⟨gd, 0, none⟩)), (1, .string nm), (4, .pointer none), (5, J 0), (6, .pointer (some ⟨g19, 0, none⟩)), (7, .slice A34 (((readD nm d).1).length) c35)] ∧ Own w0 w_ [R, Chunk.disk w0.heap.size gd S1 d1, Bk g19 [.pointer (some ⟨gd, 0, none⟩), .string nm, .map (some g11), J sz] 79, Chunk.lmap Tryz.prog 2 g11 (xs.map XJ.ent), Chunk.jrows w0.heap.size xs, Chunk.view (Kd.int .u8) S36 A34 (((readD nm d).1).length) c35 ((readD nm d).1)] ∧ ((xs.map XJ.p).Perm is) ∧ (scanS f ((readD nm d).1.drop sz.toNat) is sz = scanJ (readD nm d).1) ∧ (0 ≤ sz ∧ sz ≤ (readD nm d).1.length) ∧ (((readD nm d).1.length : Int) < f + sz) ∧ ((is.length : Int) ≤ sz) ∧ m_ = f) ((((readD nm d).1.length + 1) : Nat)) ?_ ?_
  ·
   refine ⟨[], [], 0, ((readD nm d).1.length + 1), (H100.pick (t := 0) rfl (H100.pick (t := 1) rfl (H100.pick (t := 4) rfl (H100.pick (t := 5) rfl (H100.pick (t := 6) rfl (H100.pick (t := 7) rfl H100.nil)))))), O84.sel [4, 5, 2, 3, 1, 0] (by decide), ?_, ?_, ?_, ?_, ?_, rfl⟩
   ·
    exact List.Perm.refl _
   ·
    rfl
   ·
    exact ⟨by omega, by omega⟩
   ·
    omega
   simp
  rintro m102 _ w104 ⟨is, xs, sz, f, H105, O106, hxs, hsc, hsz, hff, hil, hm107⟩
  have hxn := hxs.length_eq
  rw [List.length_map] at hxn
  refine wp_block ?_
  refine gR fun K108 hK108 => ?_
  refine Vm H105 fun _ H110 => ?_
  refine Vm H110 fun _ H112 => ?_
  refine Vz H112 fun _ H114 => ?_
  refine Vf H114 (gwfld79_3 _ _) fun _ H116 => ?_
  refine Vl H116 gwagg3 (O106.get 2 rfl) fun _ H118 => ?_
  clear H105 H110 H112 H114 H116
  obtain ⟨A119, c120, hr121, hc122, hC123, hA124⟩ := cut_lo (P := Tryz.prog) (d := (Kd.int .u8)) (t := 22) (e := 5) Tryz.underlying22 gwsiz5 A34 c35 ((readD nm d).1) (view_le (O106.get 5 rfl)) sz (by omega) (by omega)
  refine V H118 (op_cut Tryz.underlying22 hr121 rfl (H118.ev rfl) (some_ev (H118.ev rfl)) rfl) fun _ H126 => ?_
  clear H118
  refine Wk H126 Tryz.func32 rfl (ar_cons (H126.ev rfl) ar_nil) (split_own A119 c120 (((readD nm d).1).drop sz.toNat) _ (hC123 _ (view_C (O106.get 5 rfl))) hc122 (hbb.drop _) (by rw [List.length_drop]; omega)) ?_
  rintro e130 w131 ⟨A127, c128, S129, rfl, hb132⟩
  refine ⟨_, rfl, fun _ H134 => ?_⟩
  have O135 := O106.fresh hb132
  have hbel136 := O106.below
  clear H126 O106 hb132
  have O137 := O135.lowrow 0 rfl (base' := w0.heap.size) (Below.size hbel136)
  refine Vm H134 fun _ H139 => ?_
  refine Vx H139 fun _ H141 => ?_
  refine Vx H141 fun _ H143 => ?_
  refine Vx H143 fun _ H145 => ?_
  refine Va H145 fun _ H147 => ?_
  refine Va H147 fun _ H149 => ?_
  refine Va H149 fun _ H151 => ?_
  refine gE hK108 ?_
  refine gw_seq fun K152 hK152 => ?_
  refine gR fun K153 hK153 => ?_
  refine Vm H151 fun _ H155 => ?_
  clear H134 H139 H141 H143 H145 H147 H149 H151
  refine V H155 (op_not rfl (H155.ev rfl)) fun _ H157 => ?_
  refine gE hK153 ?_
  clear H155
  refine gw_cond H157 rfl (fun hb158 => ?_) (fun hb158 => ?_)
  ·
   have H159 := H157.subst_ (d := 47) (b := true) rfl hb158
   clear H157
   (try simp only [Bool.and_eq_true, Bool.and_eq_false_iff, Bool.not_and, Bool.or_eq_true, Bool.or_eq_false_iff, Bool.not_or, Bool.not_not, Bool.not_eq_true', Bool.not_eq_false', Bool.not_eq_true, Bool.not_eq_false] at hb158)
   have hok : (Pure.splitOf ((readD nm d).1.drop sz.toNat)).2.2 = false := by simpa using hb158
   refine wp_exit ?_
   refine gw_thx ?_
   refine gw_out (by decide) ?_
   refine gw_thx ?_
   refine gw_in ?_
   refine gw_nx ⟨is, xs, sz, (H159.pick (t := 0) rfl (H159.pick (t := 1) rfl (H159.pick (t := 4) rfl (H159.pick (t := 5) rfl (H159.pick (t := 6) rfl (H159.pick (t := 7) rfl H159.nil)))))), O137.sel [1, 2, 3, 4, 5, 6] (by decide), ?_, ?_, ?_⟩
   ·
    exact hxs
   ·
    exact hsc.symm.trans (by first | exact scan_stop1 hok | exact scan_stop2 hok hok | exact scan_stop3 hok hok hhas)
   exact hsz
  have H160 := H157.subst_ (d := 47) (b := false) rfl hb158
  clear H157
  (try simp only [Bool.and_eq_true, Bool.and_eq_false_iff, Bool.not_and, Bool.or_eq_true, Bool.or_eq_false_iff, Bool.not_or, Bool.not_not, Bool.not_eq_true', Bool.not_eq_false', Bool.not_eq_true, Bool.not_eq_false] at hb158)
  have hok : (Pure.splitOf ((readD nm d).1.drop sz.toNat)).2.2 = true := by simpa using hb158
  have hsi := split_in hok
  have hdl : ((readD nm d).1.drop sz.toNat).length = (readD nm d).1.length - sz.toNat := List.length_drop
  refine gS hK152 ?_
  refine gR fun K161 hK161 => ?_
  refine Vm H160 fun _ H163 => ?_
  clear H160
  have O177 : Own w0 _ [(Chunk.all [Chunk.row (Kd.int .u8) 5 w0.heap.size S129 (.slice A127 (((Pure.splitOf (((readD nm d).1).drop sz.toNat)).1).length) c128) ((Pure.splitOf (((readD nm d).1).drop sz.toNat)).1), R, Chunk.disk w0.heap.size gd S1 d1, Bk g19 [.pointer (some ⟨gd, 0, none⟩), .string nm, .map (some g11), J sz] 79, Chunk.lmap Tryz.prog 2 g11 (xs.map XJ.ent), Chunk.jrows w0.heap.size xs, Chunk.view (Kd.int .u8) S36 A34 (((readD nm d).1).length) c35 ((readD nm d).1)])] := Own.bundle (O137.sel [0, 1, 2, 3, 4, 5, 6] (by decide))
  refine Wk H163 Tryz.func33 rfl (ar_cons (H163.ev rfl) ar_nil) (entry_calls A127 c128 ((Pure.splitOf (((readD nm d).1).drop sz.toNat)).1) _ (Kd.R_reads' (O137.get 0 rfl)).2.2 (row_cap (O137.get 0 rfl)) (split_byte (hbb.drop _)) (by have h_ := split_len ((readD nm d).1.drop sz.toNat); rw [List.length_drop] at h_; omega)) ?_
  rintro e171 w172 (⟨hen168, rfl, hb173⟩ | ⟨kn164, kk165, A166, c167, hen168, rfl, hC169, hc170, hb173⟩)
  ·
   refine ⟨_, rfl, fun _ H175 => ?_⟩
   have O176 : Own w0 w172 [Chunk.row (Kd.int .u8) 5 w0.heap.size S129 (.slice A127 (((Pure.splitOf (((readD nm d).1).drop sz.toNat)).1).length) c128) ((Pure.splitOf (((readD nm d).1).drop sz.toNat)).1), R, Chunk.disk w0.heap.size gd S1 d1, Bk g19 [.pointer (some ⟨gd, 0, none⟩), .string nm, .map (some g11), J sz] 79, Chunk.lmap Tryz.prog 2 g11 (xs.map XJ.ent), Chunk.jrows w0.heap.size xs, Chunk.view (Kd.int .u8) S36 A34 (((readD nm d).1).length) c35 ((readD nm d).1)] := O137.after hb173
   clear O177 hb173
   clear H163 O137
   refine Vm H175 fun _ H179 => ?_
   refine Vx H179 fun _ H181 => ?_
   refine Vx H181 fun _ H183 => ?_
   refine Vx H183 fun _ H185 => ?_
   refine Va H185 fun _ H187 => ?_
   refine Va H187 fun _ H189 => ?_
   refine Va H189 fun _ H191 => ?_
   refine gE hK161 ?_
   refine gw_seq fun K192 hK192 => ?_
   refine gR fun K193 hK193 => ?_
   refine Vm H191 fun _ H195 => ?_
   clear H175 H179 H181 H183 H185 H187 H189 H191
   refine V H195 (op_not rfl (H195.ev rfl)) fun _ H197 => ?_
   refine Vm H197 fun _ H199 => ?_
   refine Vo H199 (wn H199 rfl rfl rfl rfl) fun _ H201 => ?_
   refine Vo H201 (wn H201 rfl rfl rfl rfl) fun _ H203 => ?_
   refine Vo H203 (wn H203 rfl rfl rfl rfl) fun _ H205 => ?_
   refine V H205 (op_pick_t rfl (H205.ev rfl) (ev_c _ _)) fun _ H207 => ?_
   refine gE hK193 ?_
   clear H195 H197 H199 H201 H203 H205
   refine gw_cond H207 rfl (fun hb208 => ?_) (fun hb208 => ?_)
   rotate_left
   ·
    cases hb208
   refine wp_exit ?_
   refine gw_thx ?_
   refine gw_out (by decide) ?_
   refine gw_thx ?_
   refine gw_in ?_
   refine gw_nx ⟨is, xs, sz, (H207.pick (t := 0) rfl (H207.pick (t := 1) rfl (H207.pick (t := 4) rfl (H207.pick (t := 5) rfl (H207.pick (t := 6) rfl (H207.pick (t := 7) rfl H207.nil)))))), O176.sel [1, 2, 3, 4, 5, 6] (by decide), ?_, ?_, ?_⟩
   ·
    exact hxs
   ·
    exact hsc.symm.trans (by first | exact scan_stop1 hok | exact scan_stop2 hok hen168 | exact scan_stop3 hok hen168 hhas)
   exact hsz
  refine ⟨_, rfl, fun _ H175 => ?_⟩
  have O176 : Own w0 w172 [Chunk.row (Kd.int .u8) 5 w0.heap.size S129 (.slice A127 (((Pure.splitOf (((readD nm d).1).drop sz.toNat)).1).length) c128) ((Pure.splitOf (((readD nm d).1).drop sz.toNat)).1), R, Chunk.disk w0.heap.size gd S1 d1, Bk g19 [.pointer (some ⟨gd, 0, none⟩), .string nm, .map (some g11), J sz] 79, Chunk.lmap Tryz.prog 2 g11 (xs.map XJ.ent), Chunk.jrows w0.heap.size xs, Chunk.view (Kd.int .u8) S36 A34 (((readD nm d).1).length) c35 ((readD nm d).1)] := O137.after hb173
  clear O177 hb173
  clear H163 O137
  have hei := entry_in hen168
  refine Vm H175 fun _ H210 => ?_
  refine Vx H210 fun _ H212 => ?_
  refine Vx H212 fun _ H214 => ?_
  refine Vx H214 fun _ H216 => ?_
  refine Va H216 fun _ H218 => ?_
  refine Va H218 fun _ H220 => ?_
  refine Va H220 fun _ H222 => ?_
  refine gE hK161 ?_
  refine gw_seq fun K223 hK223 => ?_
  refine gR fun K224 hK224 => ?_
  refine Vm H222 fun _ H226 => ?_
  clear H175 H210 H212 H214 H216 H218 H220 H222
  refine V H226 (op_not rfl (H226.ev rfl)) fun _ H228 => ?_
  refine Vm H228 fun _ H230 => ?_
  refine V2 H230 (want_yes H230 rfl rfl rfl rfl) (op_move rfl (H230.ev rfl)) fun _ H232 => ?_
  refine V2 H232 (want_yes H232 rfl rfl rfl rfl) (op_move rfl (H232.ev rfl)) fun _ H234 => ?_
  clear H226 H228 H230 H232
  obtain ⟨Sj235, HOj236⟩ := jour_close2 (R := R) (base := w0.heap.size) (xs := xs) hxs (by exact O176.sel [1, 2, 3, 4, 5] (by decide))
  refine gw_call H234 (want_yes H234 rfl rfl rfl rfl) rfl (by decide) (op_callL Tryz.func21 (by kernel_rfl) rfl rfl (ar_cons (H234.ev rfl) (ar_cons (H234.ev rfl) ar_nil))) (has_calls w0.heap.size gd g19 nm Sj235 is sz _ (HOj236.get 2 rfl) kn164 (wf_i64 (by omega))) ?_
  rintro e237 w238 ⟨rfl, hb239⟩
  refine ⟨_, rfl, fun _ H241 => ?_⟩
  have O242 := O176.after hb239
  clear H234 O176 hb239
  refine V H241 (op_pick_f rfl (H241.ev rfl) (H241.ev rfl)) fun _ H245 => ?_
  refine gE hK224 ?_
  clear H241
  refine gw_cond H245 rfl (fun hb246 => ?_) (fun hb246 => ?_)
  ·
   have H247 := H245.subst_ (d := 60) (b := true) rfl hb246
   clear H245
   (try simp only [Bool.not_eq_true] at hb246)
   have hhas := hb246
   refine wp_exit ?_
   refine gw_thx ?_
   refine gw_out (by decide) ?_
   refine gw_thx ?_
   refine gw_in ?_
   refine gw_nx ⟨is, xs, sz, (H247.pick (t := 0) rfl (H247.pick (t := 1) rfl (H247.pick (t := 4) rfl (H247.pick (t := 5) rfl (H247.pick (t := 6) rfl (H247.pick (t := 7) rfl H247.nil)))))), O242.sel [1, 2, 3, 4, 5, 6] (by decide), ?_, ?_, ?_⟩
   ·
    exact hxs
   ·
    exact hsc.symm.trans (by first | exact scan_stop1 hok | exact scan_stop2 hok hen168 | exact scan_stop3 hok hen168 hhas)
   exact hsz
  have H248 := H245.subst_ (d := 60) (b := false) rfl hb246
  clear H245
  (try simp only [Bool.not_eq_true] at hb246)
  have hhas := hb246
  have hno := none_key hxs hhas
  refine gS hK223 ?_
  refine gw_seq fun K249 hK249 => ?_
  have O250 := O242.pin 6 rfl
  clear O242
  have O251 : Own w0 w238 [Chunk.row (Kd.int .u8) 5 w0.heap.size S129 (.slice A127 (((Pure.splitOf (((readD nm d).1).drop sz.toNat)).1).length) c128) ((Pure.splitOf (((readD nm d).1).drop sz.toNat)).1), R, Chunk.disk w0.heap.size gd S1 d1, Bk g19 [.pointer (some ⟨gd, 0, none⟩), .string nm, .map (some g11), J sz] 79, Chunk.lmap Tryz.prog 2 g11 (xs.map XJ.ent), Chunk.jrows w0.heap.size xs, Chunk.viewAt w238 (Kd.int .u8) S36 A34 (((readD nm d).1).length) c35 ((readD nm d).1)] := O250
  clear O250
  refine gx_draw (M := [Chunk.row (Kd.int .u8) 5 w0.heap.size S129 (.slice A127 (((Pure.splitOf (((readD nm d).1).drop sz.toNat)).1).length) c128) ((Pure.splitOf (((readD nm d).1).drop sz.toNat)).1), R, Chunk.disk w0.heap.size gd S1 d1, Bk g19 [.pointer (some ⟨gd, 0, none⟩), .string nm, .map (some g11), J sz] 79, Chunk.lmap Tryz.prog 2 g11 (xs.map XJ.ent), Chunk.jrows w0.heap.size xs, Chunk.viewAt w238 (Kd.int .u8) S36 A34 (((readD nm d).1).length) c35 ((readD nm d).1)]) (fun j_ => j_ == 7) O251 (by kernel_rfl) fun w252 O253 => ?_
  clear O251
  refine gx_take 0 rfl (by kernel_rfl) H248 (by exact O253.sel [0, 1, 2, 3, 4, 5, 6] (by decide)) (want_none rfl) rfl (by decide) (fun wq HO => (op_move rfl (H248.ev rfl))) ?_
  intro _ H255; clear H248
  refine gx_take 1 rfl (by kernel_rfl) H255 (by exact O253.sel [0, 1, 2, 3, 4, 5, 6] (by decide)) (want_none rfl) rfl (by decide) (fun wq HO => (op_nil rfl (H255.ev rfl))) ?_
  intro _ H257; clear H255
  refine gx_take 2 rfl (by kernel_rfl) H257 (by exact O253.sel [0, 1, 2, 3, 4, 5, 6] (by decide)) (want_none rfl) rfl (by decide) (fun wq HO => (op_field (gwfld79_2 _ _) rfl (H257.ev rfl))) ?_
  intro _ H259; clear H257
  refine gx_take 3 rfl (by kernel_rfl) H259 (by exact O253.sel [0, 1, 2, 3, 4, 5, 6] (by decide)) (want_none rfl) rfl (by decide) (fun wq HO => (op_load1 gwagg77 rfl (H259.ev rfl) (blk_at (HO.get 3 rfl) rfl))) ?_
  intro _ H261; clear H259
  refine gx_take 4 rfl (by kernel_rfl) H261 (by exact O253.sel [0, 1, 2, 3, 4, 5, 6] (by decide)) (want_none rfl) rfl (by decide) (fun wq HO => (op_move rfl (H261.ev rfl))) ?_
  intro _ H263; clear H261
  refine gx_take 5 rfl (by kernel_rfl) H263 (by exact O253.sel [0, 1, 2, 3, 4, 5, 6] (by decide)) (want_none rfl) rfl (by decide) (fun wq HO => (op_move rfl (H263.ev rfl))) ?_
  intro _ H265; clear H263
  refine gx_step 6 rfl (by kernel_rfl) ?_
  refine Wk H265 Tryz.func34 rfl (ar_cons (H265.ev rfl) ar_nil) (clone0 A166 c167 (((Pure.splitOf (((readD nm d).1).drop sz.toNat)).1).drop kk165) _ (hC169 _ (Kd.R_reads' (O253.get 0 rfl)).2.2) hc170 (by have h_ := split_len ((readD nm d).1.drop sz.toNat); simp only [List.length_drop] at *; omega)) ?_
  rintro e269 w270 ⟨A266, c267, S268, rfl, hb271⟩
  refine ⟨_, rfl, fun _ H273 => ?_⟩
  have O274 := O253.fresh hb271
  have hbel275 := O253.below
  clear H265 O253 hb271
  have O276 := O274.lowrow 0 rfl (base' := w0.heap.size) (Below.size hbel275)
  refine gx_on (i := 6) (B := (fun j_ => j_ == 7)) (fun _ => (by exact O276.sel [1, 2, 3, 4, 5, 6, 7] (by decide))) ?_
  refine gx_step 7 rfl (by kernel_rfl) ?_
  refine gw_mput 5 (Go.Maps.int_keyed Tryz.underlying2) Tryz.underlying77 H273 O276 rfl (want_none rfl) rfl rfl (H273.ev rfl) (H273.ev rfl) (H273.ev rfl) (Go.Maps.keyOf_int_mk Tryz.underlying2 (wf_i64 (by omega))) (by rw [List.length_map]; omega) ?_
  intro _ w278 H279 O280; clear H273 O276
  have O281 : Own w0 w278 [Chunk.row (Kd.int .u8) 5 w0.heap.size S268 (.slice A266 ((((Pure.splitOf (((readD nm d).1).drop sz.toNat)).1).drop kk165).length) c267) (((Pure.splitOf (((readD nm d).1).drop sz.toNat)).1).drop kk165), Chunk.row (Kd.int .u8) 5 w0.heap.size S129 (.slice A127 (((Pure.splitOf (((readD nm d).1).drop sz.toNat)).1).length) c128) ((Pure.splitOf (((readD nm d).1).drop sz.toNat)).1), R, Chunk.disk w0.heap.size gd S1 d1, Bk g19 [.pointer (some ⟨gd, 0, none⟩), .string nm, .map (some g11), J sz] 79, Chunk.lmap Tryz.prog 2 g11 (lput (Lit.int .i64 kn164) (.slice A266 ((((Pure.splitOf (((readD nm d).1).drop sz.toNat)).1).drop kk165).length) c267) (xs.map XJ.ent)), Chunk.jrows w0.heap.size xs, Chunk.viewAt w238 (Kd.int .u8) S36 A34 (((readD nm d).1).length) c35 ((readD nm d).1)] := O280
  clear O280
  have elp_ := lput_new (x := (⟨kn164, (Pure.splitOf ((readD nm d).1.drop sz.toNat)).1.drop kk165, A266, c267, S268⟩ : XJ)) (xs := xs) hno
  have O282 : Own w0 w278 [Chunk.row (Kd.int .u8) 5 w0.heap.size S268 (.slice A266 ((((Pure.splitOf (((readD nm d).1).drop sz.toNat)).1).drop kk165).length) c267) (((Pure.splitOf (((readD nm d).1).drop sz.toNat)).1).drop kk165), Chunk.row (Kd.int .u8) 5 w0.heap.size S129 (.slice A127 (((Pure.splitOf (((readD nm d).1).drop sz.toNat)).1).length) c128) ((Pure.splitOf (((readD nm d).1).drop sz.toNat)).1), R, Chunk.disk w0.heap.size gd S1 d1, Bk g19 [.pointer (some ⟨gd, 0, none⟩), .string nm, .map (some g11), J sz] 79, Chunk.lmap Tryz.prog 2 g11 ((insJ (⟨kn164, (Pure.splitOf ((readD nm d).1.drop sz.toNat)).1.drop kk165, A266, c267, S268⟩ : XJ) xs).map XJ.ent), Chunk.jrows w0.heap.size xs, Chunk.viewAt w238 (Kd.int .u8) S36 A34 (((readD nm d).1).length) c35 ((readD nm d).1)] := by have h_ := O281; rw [show lput (Lit.int .i64 kn164) (.slice A266 ((((Pure.splitOf (((readD nm d).1).drop sz.toNat)).1).drop kk165).length) c267) (xs.map XJ.ent) = (insJ (⟨kn164, (Pure.splitOf ((readD nm d).1.drop sz.toNat)).1.drop kk165, A266, c267, S268⟩ : XJ) xs).map XJ.ent from elp_] at h_; exact h_
  refine gx_on (i := 7) (B := (fun j_ => j_ == 7)) (fun h_ => by cases h_) ?_
  refine gx_done (by kernel_rfl) ?_
  refine gw_nx (hK249 _ _ ?_)
  refine wp_region_lit ?_
  refine Vm H279 fun _ H284 => ?_
  refine Vz H284 fun _ H286 => ?_
  refine Vf H286 (gwfld79_3 _ _) fun _ H288 => ?_
  refine Vl H288 gwagg3 (O282.get 4 rfl) fun _ H290 => ?_
  refine Vm H290 fun _ H292 => ?_
  refine V H292 (op_add rfl (H292.ev rfl) (H292.ev rfl) (by omega)) fun _ H294 => ?_
  refine Vz H294 fun _ H296 => ?_
  refine Vf H296 (gwfld79_3 _ _) fun _ H298 => ?_
  clear H279 H284 H286 H288 H290 H292 H294 H296
  refine gw_set 4 H298 O282 rfl (want_none rfl) rfl (op_store1 gwsiz3 rfl (H298.ev rfl) (H298.ev rfl) rfl (blk_at (O282.get 4 rfl) rfl) (blkf (O282.get 4 rfl))) ?_
  intro _ w301 H300 O302; clear H298 O282
  refine wpList_nil ?_
  refine gw_blk ?_
  have O303 := O302.unpin 7 rfl
  clear O302
  have O304 : Own w0 w301 [Chunk.row (Kd.int .u8) 5 w0.heap.size S268 (.slice A266 ((((Pure.splitOf (((readD nm d).1).drop sz.toNat)).1).drop kk165).length) c267) (((Pure.splitOf (((readD nm d).1).drop sz.toNat)).1).drop kk165), Chunk.row (Kd.int .u8) 5 w0.heap.size S129 (.slice A127 (((Pure.splitOf (((readD nm d).1).drop sz.toNat)).1).length) c128) ((Pure.splitOf (((readD nm d).1).drop sz.toNat)).1), R, Chunk.disk w0.heap.size gd S1 d1, Bk g19 [.pointer (some ⟨gd, 0, none⟩), .string nm, .map (some g11), J (sz + ((Pure.splitOf (((readD nm d).1).drop sz.toNat)).2.1))] 79, Chunk.lmap Tryz.prog 2 g11 ((insJ (⟨kn164, (Pure.splitOf ((readD nm d).1.drop sz.toNat)).1.drop kk165, A266, c267, S268⟩ : XJ) xs).map XJ.ent), Chunk.jrows w0.heap.size xs, Chunk.view (Kd.int .u8) S36 A34 (((readD nm d).1).length) c35 ((readD nm d).1)] := O303
  clear O303
  have O305 := Own.jrow_in (x := (⟨kn164, (Pure.splitOf ((readD nm d).1.drop sz.toNat)).1.drop kk165, A266, c267, S268⟩ : XJ)) (xs := xs) (by exact O304.sel [0, 6, 1, 2, 3, 4, 5, 7] (by decide))
  refine gw_nx ⟨_, ?_, (is ++ [(kn164, (Pure.splitOf ((readD nm d).1.drop sz.toNat)).1.drop kk165)]), (insJ (⟨kn164, (Pure.splitOf ((readD nm d).1.drop sz.toNat)).1.drop kk165, A266, c267, S268⟩ : XJ) xs), (sz + (Pure.splitOf ((readD nm d).1.drop sz.toNat)).2.1), (f - 1), (H300.pick (t := 0) rfl (H300.pick (t := 1) rfl (H300.pick (t := 4) rfl (H300.pick (t := 5) rfl (H300.pick (t := 6) rfl (H300.pick (t := 7) rfl H300.nil)))))), O305.sel [2, 3, 4, 5, 0, 6] (by decide), ?_, ?_, ?_, ?_, ?_, rfl⟩
  ·
   rw [hm107]; omega
  ·
   exact ins_items hxs
  ·
   rw [← hsc, scan_go (by omega) hok hen168 hhas, List.drop_drop]; congr 2; omega
  ·
   omega
  ·
   omega
  rw [List.length_append, List.length_singleton]; omega
 rintro _ w307 ⟨is, xs, sz, H308, O309, hxs, hsc, hsz⟩
 refine gw_seq fun K310 hK310 => ?_
 refine gR fun K311 hK311 => ?_
 refine Vm H308 fun _ H313 => ?_
 refine Vz H313 fun _ H315 => ?_
 refine Vf H315 (gwfld79_3 _ _) fun _ H317 => ?_
 refine Vl H317 gwagg3 (O309.get 2 rfl) fun _ H319 => ?_
 refine Vm H319 fun _ H321 => ?_
 refine V H321 (op_len Tryz.underlying22 rfl (H321.ev rfl)) fun _ H323 => ?_
 refine V H323 (op_lss rfl (H323.ev rfl) (H323.ev rfl)) fun _ H325 => ?_
 refine gE hK311 ?_
 clear H308 H313 H315 H317 H319 H321 H323
 refine gw_cond H325 rfl (fun hb326 => ?_) (fun hb326 => ?_)
 ·
  have H327 := H325.subst_ (d := 82) (b := true) rfl hb326
  clear H325
  (try simp only [decide_eq_true_eq] at hb326)
  have hlt := hb326
  refine gR fun K328 hK328 => ?_
  refine Vm H327 fun _ H330 => ?_
  refine Vm H330 fun _ H332 => ?_
  refine Vm H332 fun _ H334 => ?_
  refine Vz H334 fun _ H336 => ?_
  refine Vf H336 (gwfld79_3 _ _) fun _ H338 => ?_
  refine Vl H338 gwagg3 (O309.get 2 rfl) fun _ H340 => ?_
  clear H327 H330 H332 H334 H336 H338
  have O349 : Own w0 _ [(Chunk.all [R, Bk g19 [.pointer (some ⟨gd, 0, none⟩), .string nm, .map (some g11), J sz] 79, Chunk.lmap Tryz.prog 2 g11 (xs.map XJ.ent), Chunk.jrows w0.heap.size xs, Chunk.view (Kd.int .u8) S36 A34 (((readD nm d).1).length) c35 ((readD nm d).1)]), Chunk.disk w0.heap.size gd S1 d1] := Own.bundle (O309.sel [0, 2, 3, 4, 5, 1] (by decide))
  refine Wk H340 Tryz.func35 rfl (ar_cons (H340.ev rfl) (ar_cons (H340.ev rfl) (ar_cons (H340.ev rfl) ar_nil))) (cut_calls w0 _ (Chunk.all [R, Bk g19 [.pointer (some ⟨gd, 0, none⟩), .string nm, .map (some g11), J sz] 79, Chunk.lmap Tryz.prog 2 g11 (xs.map XJ.ent), Chunk.jrows w0.heap.size xs, Chunk.view (Kd.int .u8) S36 A34 (((readD nm d).1).length) c35 ((readD nm d).1)]) gd S1 d1 nm sz hw1 hn (by exact O349)) ?_
  rintro e343 w344 ⟨rfl, S341, hb345⟩
  refine ⟨_, rfl, fun _ H347 => ?_⟩
  have O348 : Own w0 w344 [R, Bk g19 [.pointer (some ⟨gd, 0, none⟩), .string nm, .map (some g11), J sz] 79, Chunk.lmap Tryz.prog 2 g11 (xs.map XJ.ent), Chunk.jrows w0.heap.size xs, Chunk.view (Kd.int .u8) S36 A34 (((readD nm d).1).length) c35 ((readD nm d).1), Chunk.disk w0.heap.size gd S341 ((cutD nm sz d1).1)] := Own.unbundle (hb345.sel [0, 1] (by decide))
  clear O349
  clear H340 O309 hb345
  have hwf342 : wfD ((cutD nm sz d1).1) := wf_cut hw1
  refine Va H347 fun _ H352 => ?_
  refine gE hK328 ?_
  refine gR fun K353 hK353 => ?_
  refine Vm H352 fun _ H355 => ?_
  refine V H355 (op_nei rfl (H355.ev rfl) (ev_c _ _)) fun _ H357 => ?_
  refine gE hK353 ?_
  clear H347 H352 H355
  refine gw_cond H357 rfl (fun hb358 => ?_) (fun hb358 => ?_)
  ·
   have H359 := H357.subst_ (d := 91) (b := true) rfl hb358
   clear H357
   (try simp only [decide_eq_true_eq, ne_eq] at hb358)
   have hne := hb358
   refine gR fun K360 hK360 => ?_
   refine Vm H359 fun _ H362 => ?_
   refine Vc H362 fun _ H364 => ?_
   refine Va H364 fun _ H366 => ?_
   refine gE hK360 ?_
   refine wp_ret ?_
   clear H359 H362 H364
   refine gw_thr ?_
   refine gw_ret2 H366 rfl rfl rfl ?_
   rw [open2 hpre he8 hsc hlt hne]
   exact .inl ⟨rfl, by first | exact hne | (show _ ≠ _; exact hne), _, O348.sel [0, 5] (by decide)⟩
  have H367 := H357.subst_ (d := 91) (b := false) rfl hb358
  clear H357
  (try simp only [decide_eq_false_iff_not, ne_eq, Decidable.not_not] at hb358)
  have hcu := hb358
  refine gS hK310 ?_
  refine gw_seq fun K368 hK368 => ?_
  refine gR fun K369 hK369 => ?_
  refine Vm H367 fun _ H371 => ?_
  refine Vm H371 fun _ H373 => ?_
  clear H367 H371
  have O382 : Own w0 _ [(Chunk.all [R, Bk g19 [.pointer (some ⟨gd, 0, none⟩), .string nm, .map (some g11), J sz] 79, Chunk.lmap Tryz.prog 2 g11 (xs.map XJ.ent), Chunk.jrows w0.heap.size xs, Chunk.view (Kd.int .u8) S36 A34 (((readD nm d).1).length) c35 ((readD nm d).1)]), Chunk.disk w0.heap.size gd S341 ((cutD nm sz d1).1)] := Own.bundle (O348.sel [0, 1, 2, 3, 4, 5] (by decide))
  refine Wk H373 Tryz.func36 rfl (ar_cons (H373.ev rfl) (ar_cons (H373.ev rfl) ar_nil)) (sync_calls w0 _ (Chunk.all [R, Bk g19 [.pointer (some ⟨gd, 0, none⟩), .string nm, .map (some g11), J sz] 79, Chunk.lmap Tryz.prog 2 g11 (xs.map XJ.ent), Chunk.jrows w0.heap.size xs, Chunk.view (Kd.int .u8) S36 A34 (((readD nm d).1).length) c35 ((readD nm d).1)]) gd S341 ((cutD nm sz d1).1) nm hwf342 hn (by exact O382)) ?_
  rintro e376 w377 ⟨rfl, S374, hb378⟩
  refine ⟨_, rfl, fun _ H380 => ?_⟩
  have O381 : Own w0 w377 [R, Bk g19 [.pointer (some ⟨gd, 0, none⟩), .string nm, .map (some g11), J sz] 79, Chunk.lmap Tryz.prog 2 g11 (xs.map XJ.ent), Chunk.jrows w0.heap.size xs, Chunk.view (Kd.int .u8) S36 A34 (((readD nm d).1).length) c35 ((readD nm d).1), Chunk.disk w0.heap.size gd S374 ((syncD nm ((cutD nm sz d1).1)).1)] := Own.unbundle (hb378.sel [0, 1] (by decide))
  clear O382
  clear H373 O348 hb378
  have hwf375 : wfD ((syncD nm ((cutD nm sz d1).1)).1) := wf_sync hwf342
  refine Va H380 fun _ H385 => ?_
  refine gE hK369 ?_
  refine gR fun K386 hK386 => ?_
  refine Vm H385 fun _ H388 => ?_
  refine V H388 (op_nei rfl (H388.ev rfl) (ev_c _ _)) fun _ H390 => ?_
  refine gE hK386 ?_
  clear H380 H385 H388
  refine gw_cond H390 rfl (fun hb391 => ?_) (fun hb391 => ?_)
  ·
   have H392 := H390.subst_ (d := 97) (b := true) rfl hb391
   clear H390
   (try simp only [decide_eq_true_eq, ne_eq] at hb391)
   have hne := hb391
   refine gR fun K393 hK393 => ?_
   refine Vm H392 fun _ H395 => ?_
   refine Vc H395 fun _ H397 => ?_
   refine Va H397 fun _ H399 => ?_
   refine gE hK393 ?_
   refine wp_ret ?_
   clear H392 H395 H397
   refine gw_thr ?_
   refine gw_ret2 H399 rfl rfl rfl ?_
   rw [open3 hpre he8 hsc hlt hcu]
   exact .inl ⟨rfl, by first | exact hne | (show _ ≠ _; exact hne), _, O381.sel [0, 5] (by decide)⟩
  have H400 := H390.subst_ (d := 97) (b := false) rfl hb391
  clear H390
  (try simp only [decide_eq_false_iff_not, ne_eq, Decidable.not_not] at hb391)
  have hsy := hb391
  refine gS hK368 ?_
  refine gR fun K401 hK401 => ?_
  refine Vm H400 fun _ H403 => ?_
  refine Va H403 fun _ H405 => ?_
  refine Vc H405 fun _ H407 => ?_
  refine gE hK401 ?_
  refine wp_ret ?_
  clear H400 H403 H405
  refine gw_ret2 H407 rfl rfl rfl ?_
  obtain ⟨SJ', HOj⟩ := jour_close2 (xs := xs) hxs (by exact O381.sel [0, 5, 1, 2, 3] (by decide))
  rw [open3 hpre he8 hsc hlt hcu]
  exact .inr ⟨hsy, _, SJ', _, rfl, HOj⟩
 have H408 := H325.subst_ (d := 82) (b := false) rfl hb326
 clear H325
 (try simp only [decide_eq_false_iff_not, Int.not_lt] at hb326)
 have hlt : ¬ sz < ((readD nm d).1.length : Int) := by omega
 refine gS hK310 ?_
 refine gw_seq fun K409 hK409 => ?_
 refine gR fun K410 hK410 => ?_
 refine Vm H408 fun _ H412 => ?_
 refine Vm H412 fun _ H414 => ?_
 clear H408 H412
 have O423 : Own w0 _ [(Chunk.all [R, Bk g19 [.pointer (some ⟨gd, 0, none⟩), .string nm, .map (some g11), J sz] 79, Chunk.lmap Tryz.prog 2 g11 (xs.map XJ.ent), Chunk.jrows w0.heap.size xs, Chunk.view (Kd.int .u8) S36 A34 (((readD nm d).1).length) c35 ((readD nm d).1)]), Chunk.disk w0.heap.size gd S1 d1] := Own.bundle (O309.sel [0, 2, 3, 4, 5, 1] (by decide))
 refine Wk H414 Tryz.func36 rfl (ar_cons (H414.ev rfl) (ar_cons (H414.ev rfl) ar_nil)) (sync_calls w0 _ (Chunk.all [R, Bk g19 [.pointer (some ⟨gd, 0, none⟩), .string nm, .map (some g11), J sz] 79, Chunk.lmap Tryz.prog 2 g11 (xs.map XJ.ent), Chunk.jrows w0.heap.size xs, Chunk.view (Kd.int .u8) S36 A34 (((readD nm d).1).length) c35 ((readD nm d).1)]) gd S1 d1 nm hw1 hn (by exact O423)) ?_
 rintro e417 w418 ⟨rfl, S415, hb419⟩
 refine ⟨_, rfl, fun _ H421 => ?_⟩
 have O422 : Own w0 w418 [R, Bk g19 [.pointer (some ⟨gd, 0, none⟩), .string nm, .map (some g11), J sz] 79, Chunk.lmap Tryz.prog 2 g11 (xs.map XJ.ent), Chunk.jrows w0.heap.size xs, Chunk.view (Kd.int .u8) S36 A34 (((readD nm d).1).length) c35 ((readD nm d).1), Chunk.disk w0.heap.size gd S415 ((syncD nm d1).1)] := Own.unbundle (hb419.sel [0, 1] (by decide))
 clear O423
 clear H414 O309 hb419
 have hwf416 : wfD ((syncD nm d1).1) := wf_sync hw1
 refine Va H421 fun _ H426 => ?_
 refine gE hK410 ?_
 refine gR fun K427 hK427 => ?_
 refine Vm H426 fun _ H429 => ?_
 refine V H429 (op_nei rfl (H429.ev rfl) (ev_c _ _)) fun _ H431 => ?_
 refine gE hK427 ?_
 clear H421 H426 H429
 refine gw_cond H431 rfl (fun hb432 => ?_) (fun hb432 => ?_)
 ·
  have H433 := H431.subst_ (d := 97) (b := true) rfl hb432
  clear H431
  (try simp only [decide_eq_true_eq, ne_eq] at hb432)
  have hne := hb432
  refine gR fun K434 hK434 => ?_
  refine Vm H433 fun _ H436 => ?_
  refine Vc H436 fun _ H438 => ?_
  refine Va H438 fun _ H440 => ?_
  refine gE hK434 ?_
  refine wp_ret ?_
  clear H433 H436 H438
  refine gw_thr ?_
  refine gw_ret2 H440 rfl rfl rfl ?_
  rw [open4 hpre he8 hsc hlt]
  exact .inl ⟨rfl, by first | exact hne | (show _ ≠ _; exact hne), _, O422.sel [0, 5] (by decide)⟩
 have H441 := H431.subst_ (d := 97) (b := false) rfl hb432
 clear H431
 (try simp only [decide_eq_false_iff_not, ne_eq, Decidable.not_not] at hb432)
 have hsy := hb432
 refine gS hK409 ?_
 refine gR fun K442 hK442 => ?_
 refine Vm H441 fun _ H444 => ?_
 refine Va H444 fun _ H446 => ?_
 refine Vc H446 fun _ H448 => ?_
 refine gE hK442 ?_
 refine wp_ret ?_
 clear H441 H444 H446
 refine gw_ret2 H448 rfl rfl rfl ?_
 obtain ⟨SJ', HOj⟩ := jour_close2 (xs := xs) hxs (by exact O422.sel [0, 5, 1, 2, 3] (by decide))
 rw [open4 hpre he8 hsc hlt]
 exact .inr ⟨hsy, _, SJ', _, rfl, HOj⟩
end GJour3_
export GJour3_ (open_calls)
section
open Go.Maps Go.Sort
section
variable {w0 w : World} {R : Chunk} {gd gj : Nat} {S SJ : Nat → Prop} {d d2 : PD} {nm : ByteArray} {is is2 : List PI} {size sz2 c key : Int} {b : List Int}
theorem open_ok (h : openJ nm d = ((d2, 0), (is2, sz2))) (hw : wfD d) (hn : nm.size ≤ 9223372036854775807) (hlen : d.fs.length ≤ 1000000) (hus : d.used ≤ 1000000) (hbb : ByteL (readD nm d).1) (HO : Own w0 w [R, Chunk.disk w0.heap.size gd S d]) :
    Calls Tryz.prog 9 #[.pointer (some ⟨gd, 0, none⟩), .string nm] w fun e w' => ∃ gj SJ S', e = .returned (.tuple #[.pointer (some ⟨gj, 0, none⟩), .int .i64 0]) ∧ Own w0 w' [R, Chunk.disk w0.heap.size gd S' d2, Chunk.jour w0.heap.size gd gj nm SJ is2 sz2] := by
  refine (open_calls w0 w R gd S d nm hw hn hlen hus hbb HO).mono ?_
  rw [h]
  rintro e w' (⟨_, h2, _⟩ | ⟨_, h2⟩)
  · exact absurd rfl h2
  · exact h2
theorem jsync_is (h : syncD nm d = (d2, c)) (hw : wfD d) (hn : nm.size ≤ 9223372036854775807) (HO : Own w0 w [R, Chunk.disk w0.heap.size gd S d, Chunk.jour w0.heap.size gd gj nm SJ is size]) :
    Calls Tryz.prog 17 #[.pointer (some ⟨gj, 0, none⟩)] w fun e w' => e = .returned (.int .i64 c) ∧ ∃ S' SJ', Own w0 w' [R, Chunk.disk w0.heap.size gd S' d2, Chunk.jour w0.heap.size gd gj nm SJ' is size] := by
  have := jsync_calls w0 w R gd gj S SJ d nm is size hw hn HO
  rw [h] at this
  exact this
theorem put_is {Ab : Option Addr} {cb : Nat} (h : putJ nm key b is size d = ((d2, c), (is2, sz2))) (hw : wfD d) (hn : nm.size ≤ 9223372036854775807) (hkw : (Lit.int .i64 key).wf = true) (hy : ∀ w1, Own w0 w1 [R] → Kd.C (Kd.int .u8) w1 Ab b.length b) (hcy : b.length ≤ cb) (hbb : ByteL b) (hbl : b.length ≤ 900000) (hroom : d.used ≤ 1000000) (his : is.length ≤ 1000000) (hsz : 0 ≤ size ∧ size ≤ 140737488355327) (HO : Own w0 w [R, Chunk.disk w0.heap.size gd S d, Chunk.jour w0.heap.size gd gj nm SJ is size]) :
    Calls Tryz.prog 15 #[.pointer (some ⟨gj, 0, none⟩), .int .i64 key, .slice Ab b.length cb] w fun e w' => e = .returned (.int .i64 c) ∧ ∃ S' SJ', Own w0 w' [R, Chunk.disk w0.heap.size gd S' d2, Chunk.jour w0.heap.size gd gj nm SJ' is2 sz2] := by
  have := put_calls w0 w R gd gj S SJ d nm is size hw hn key hkw Ab cb b hy hcy hbb hbl (by have h1 := recI_len (key, b); have h2 := encN_len key; simp only at h1; omega) his hsz HO
  rw [h] at this
  exact this
theorem put_nil (h : putJ nm key [] is size d = ((d2, c), (is2, sz2))) (hw : wfD d) (hn : nm.size ≤ 9223372036854775807) (hkw : (Lit.int .i64 key).wf = true) (hroom : d.used ≤ 1000000) (his : is.length ≤ 1000000) (hsz : 0 ≤ size ∧ size ≤ 140737488355327) (HO : Own w0 w [R, Chunk.disk w0.heap.size gd S d, Chunk.jour w0.heap.size gd gj nm SJ is size]) :
    Calls Tryz.prog 15 #[.pointer (some ⟨gj, 0, none⟩), .int .i64 key, .slice none 0 0] w fun e w' => e = .returned (.int .i64 c) ∧ ∃ S' SJ', Own w0 w' [R, Chunk.disk w0.heap.size gd S' d2, Chunk.jour w0.heap.size gd gj nm SJ' is2 sz2] :=
  put_is (Ab := none) (cb := 0) (b := []) h hw hn hkw (fun w1 _ => Kd.C_nil _ _) (Nat.le_refl _) (fun x hx => by simp at hx) (Nat.zero_le _) hroom his hsz HO
theorem wf_pre (hw : wfD d) : wfD (preJ nm d).1 := by
  unfold preJ
  split
  · exact wf_create hw
  · exact hw
theorem wf_open (hw : wfD d) : wfD (openJ nm d).1.1 := by
  unfold openJ
  split
  · exact wf_pre hw
  · simp only
    have hc : wfD (if (scanJ (readD nm d).1).2 < ((readD nm d).1.length : Int) then cutD nm (scanJ (readD nm d).1).2 (preJ nm d).1 else ((preJ nm d).1, 0)).1 := by
      split
      · exact wf_cut (wf_pre hw)
      · exact wf_pre hw
    generalize (if (scanJ (readD nm d).1).2 < ((readD nm d).1.length : Int) then cutD nm (scanJ (readD nm d).1).2 (preJ nm d).1 else ((preJ nm d).1, 0)) = cc at hc ⊢
    split
    · exact hc
    · exact wf_sync hc
theorem wf_put (hw : wfD d) : wfD (putJ nm key b is size d).1.1 := by
  unfold putJ
  split
  · exact hw
  · split
    · exact hw
    · split
      · exact hw
      · exact wf_append hw
theorem wf_open' (h : openJ nm d = ((d2, c), (is2, sz2))) (hw : wfD d) : wfD d2 := by have := wf_open (nm := nm) hw; rw [h] at this; exact this
theorem wf_put' (h : putJ nm key b is size d = ((d2, c), (is2, sz2))) (hw : wfD d) : wfD d2 := by have := wf_put (nm := nm) (key := key) (b := b) (is := is) (size := size) hw; rw [h] at this; exact this
theorem wf_sync' (h : syncD nm d = (d2, c)) (hw : wfD d) : wfD d2 := by have := wf_sync (nm := nm) hw; rw [h] at this; exact this
end
end
section
open Go.Maps
section
variable {w0 w w' wp : World} {P S : Nat → Prop} {A Ai : Option Addr} {c ci : Nat} {files : List SFile} {its : List SItem} {L : List Chunk} {i : Nat}
def Chunk.rj (w0 : World) (P S : Nat → Prop) (A : Option Addr) (c : Nat) (files : List SFile) (Ai : Option Addr) (ci : Nat) (its : List SItem) : Chunk :=
  ⟨S, fun w => (∀ W', (∀ k, P k → W'.heap[k]? = w0.heap[k]?) → (∀ k, S k → W'.heap[k]? = w.heap[k]?) → Kd.C kFile W' A files.length files ∧ Kd.C kItem W' Ai its.length its) ∧ (files.length ≤ c ∧ ∀ ad, A = some ad → P ad.block ∨ S ad.block) ∧ (its.length ≤ ci ∧ ∀ ad, Ai = some ad → P ad.block ∨ S ad.block), fun h hm => ⟨fun W' h1 h2 => h.1 W' h1 fun k hk => (h2 k hk).trans (hm k hk), h.2⟩⟩
theorem rj_both (HO : Own w0 w L) (hP : ∀ k, P k → k < w0.heap.size) (hi : L[i]? = some (Chunk.rj w0 P S A c files Ai ci its)) : Kd.F kFile w (fun k => P k ∨ S k) A files.length files ∧ Kd.F kItem w (fun k => P k ∨ S k) Ai its.length its := by
  have h : ∀ W', (∀ k, (P k ∨ S k) → k < w.heap.size → W'.heap[k]? = w.heap[k]?) → Kd.C kFile W' A files.length files ∧ Kd.C kItem W' Ai its.length its := fun W' hW =>
    (HO.get i hi).1 W' (fun k hk => (hW k (.inl hk) (Nat.lt_of_lt_of_le (hP k hk) HO.below.size)).trans (HO.below.block k (hP k hk))) fun k hk => hW k (.inr hk) (HO.lt i hi hk).2
  exact ⟨fun W' hW => (h W' hW).1, fun W' hW => (h W' hW).2⟩
theorem rj_F (HO : Own w0 w L) (hP : ∀ k, P k → k < w0.heap.size) (hi : L[i]? = some (Chunk.rj w0 P S A c files Ai ci its)) : Kd.F kFile w (fun k => P k ∨ S k) A files.length files := (rj_both HO hP hi).1
theorem rj_FI (HO : Own w0 w L) (hP : ∀ k, P k → k < w0.heap.size) (hi : L[i]? = some (Chunk.rj w0 P S A c files Ai ci its)) : Kd.F kItem w (fun k => P k ∨ S k) Ai its.length its := (rj_both HO hP hi).2
theorem rj_lt (HO : Own w0 w L) (hP : ∀ k, P k → k < w0.heap.size) (hi : L[i]? = some (Chunk.rj w0 P S A c files Ai ci its)) : ∀ k, (P k ∨ S k) → k < w.heap.size := fun k hk => hk.elim (fun h => Nat.lt_of_lt_of_le (hP k h) HO.below.size) fun h => (HO.lt i hi h).2
theorem Own.rj_nil (HO : Own w0 w L) (P : Nat → Prop) : Own w0 w (Chunk.rj w0 P (fun _ => False) none 0 [] none 0 [] :: L) :=
  HO.fresh (cs := [_]) (Out.one (Out.refl w _) (c := Chunk.rj w0 P (fun _ => False) none 0 [] none 0 []) ⟨fun W' _ _ => ⟨Kd.C_nil _ _, Kd.C_nil _ _⟩, ⟨Nat.le_refl _, fun ad e => by cases e⟩, Nat.le_refl _, fun ad e => by cases e⟩ fun k hk => hk.elim)
theorem rj_out (HO : Own w0 w L) (hP : ∀ k, P k → k < w0.heap.size) (hb : Below w.heap.size w w') (hS : ∀ k, S k → k < w.heap.size) (h1 : Led (fun k => P k ∨ S k) w w' kFile A files.length c files) (h2 : Led (fun k => P k ∨ S k) w w' kItem Ai its.length ci its) :
    Out w w' S [Chunk.rj w0 P (fun k => (S k ∨ w.heap.size ≤ k) ∧ k < w'.heap.size) A c files Ai ci its] := by
  have hPw : ∀ k, P k → k < w.heap.size := fun k hk => Nat.lt_of_lt_of_le (hP k hk) HO.below.size
  have hag : ∀ W' : World, (∀ k, P k → W'.heap[k]? = w0.heap[k]?) → (∀ k, (S k ∨ w.heap.size ≤ k) ∧ k < w'.heap.size → W'.heap[k]? = w'.heap[k]?) → ∀ k, ((P k ∨ S k) ∨ w.heap.size ≤ k) → k < w'.heap.size → W'.heap[k]? = w'.heap[k]? := fun W' h1 h2 k hk hlt => by
    rcases hk with (hk | hk) | hk
    · exact (h1 k hk).trans ((hb.block k (hPw k hk)).trans (HO.below.block k (hP k hk))).symm
    · exact h2 k ⟨.inl hk, hlt⟩
    · exact h2 k ⟨.inr hk, hlt⟩
  have had : ∀ ad : Addr, ((P ad.block ∨ S ad.block) ∨ w.heap.size ≤ ad.block) ∧ ad.block < w'.heap.size → P ad.block ∨ ((S ad.block ∨ w.heap.size ≤ ad.block) ∧ ad.block < w'.heap.size) := fun ad h => by
    rcases h.1 with (h3 | h3) | h3
    · exact .inl h3
    · exact .inr ⟨.inl h3, h.2⟩
    · exact .inr ⟨.inr h3, h.2⟩
  exact Out.one (Out.of_below hb _) (c := Chunk.rj w0 P (fun k => (S k ∨ w.heap.size ≤ k) ∧ k < w'.heap.size) A c files Ai ci its) ⟨fun W' q1 q2 => ⟨h1.1 W' (hag W' q1 q2), h2.1 W' (hag W' q1 q2)⟩, ⟨h1.2.1, fun ad e => had ad (h1.2.2 ad e)⟩, h2.2.1, fun ad e => had ad (h2.2.2 ad e)⟩ fun k hk => hk
def Chunk.rjAt (S : Nat → Prop) (wp : World) : Chunk := ⟨S, fun W => ∀ k, S k → W.heap[k]? = wp.heap[k]?, fun h hm k hk => (hm k hk).trans (h k hk)⟩
theorem Own.rj_pin (HO : Own w0 w L) (i : Nat) (hi : L[i]? = some (Chunk.rj w0 P S A c files Ai ci its)) : Own w0 w (L.set i (Chunk.rjAt S w)) :=
  HO.calls (cs := []) i hi (Out.one (Out.refl w _) (c := Chunk.rjAt S w) (fun k hk => rfl) fun k hk => ⟨.inl hk, (HO.lt i hi hk).2⟩)
theorem Own.rj_unpin (HO : Own w0 w L) (i : Nat) (hi : L[i]? = some (Chunk.rjAt S wp)) (hr : (Chunk.rj w0 P S A c files Ai ci its).P wp) : Own w0 w (L.set i (Chunk.rj w0 P S A c files Ai ci its)) :=
  HO.calls (cs := []) i hi (Out.one (Out.refl w _) (c := Chunk.rj w0 P S A c files Ai ci its) ((Chunk.rj w0 P S A c files Ai ci its).move hr (HO.get i hi)) fun k hk => ⟨.inl hk, (HO.lt i hi hk).2⟩)
theorem pin_F {α : Type} {d : Kd α} {n : Nat} {xs : List α} (hB : Below w0.heap.size w0 wp) (HO : Own w0 w L) (hP : ∀ k, P k → k < w0.heap.size) (hi : L[i]? = some (Chunk.rjAt S wp)) (hF : Kd.F d wp (fun k => P k ∨ S k) A n xs) : Kd.F d w (fun k => P k ∨ S k) A n xs :=
  Kd.F_step hF fun k hk _ => hk.elim (fun h => (HO.below.block k (hP k h)).trans (hB.block k (hP k h)).symm) fun h => HO.get i hi k h
theorem pin_back {α : Type} {d : Kd α} {n : Nat} {xs : List α} (hB : Below w0.heap.size w0 wp) (HO : Own w0 w L) (hP : ∀ k, P k → k < w0.heap.size) (hi : L[i]? = some (Chunk.rjAt S wp)) (hF : Kd.F d w (fun k => P k ∨ S k) A n xs) : Kd.F d wp (fun k => P k ∨ S k) A n xs :=
  Kd.F_step hF fun k hk _ => hk.elim (fun h => (hB.block k (hP k h)).trans (HO.below.block k (hP k h)).symm) fun h => (HO.get i hi k h).symm
theorem pin_lt (HO : Own w0 w L) (hP : ∀ k, P k → k < w0.heap.size) (hi : L[i]? = some (Chunk.rjAt S wp)) : ∀ k, (P k ∨ S k) → k < w.heap.size := fun k hk => hk.elim (fun h => Nat.lt_of_lt_of_le (hP k h) HO.below.size) fun h => (HO.lt i hi h).2
end
section
variable {w0 w : World} {P S : Nat → Prop} {L : List Chunk}
theorem open_p (A : Option Addr) (c : Nat) (files : List SFile) (Ai : Option Addr) (ci : Nat) (its : List SItem) (d : PD) (nm : ByteArray) (i : Nat) (hP : ∀ k, P k → k < w0.heap.size) (HO : Own w0 w L) (hi : L[i]? = some (Chunk.rj w0 P S A c files Ai ci its)) (hlf : files.length ≤ 900000) (hd : files.map ofS = d.fs) (hw : wfD d) (hus : d.used ≤ 900000) (hbb : ByteL (readD nm d).1) :
    Calls Tryz.prog 12 #[.agg #[.slice A files.length c, .int .i64 d.most, .int .i64 d.fuse, .bool d.down], .string nm] w fun e w' => ∃ (files' : List SFile) (A' : Option Addr) (c' : Nat) (its' : List SItem) (Ai' : Option Addr) (ci' : Nat) (S' : Nat → Prop), files'.map ofS = (openJ nm d).1.1.fs ∧ ((openJ nm d).1.2 = 0 → its'.map toI = (openJ nm d).2.1) ∧
      e = .returned (.tuple #[.agg #[.slice A' files'.length c', .int .i64 (openJ nm d).1.1.most, .int .i64 (openJ nm d).1.1.fuse, .bool (openJ nm d).1.1.down, .string nm, .slice Ai' its'.length ci'], .int .i64 (openJ nm d).1.2]) ∧ Out w w' S [Chunk.rj w0 P S' A' c' files' Ai' ci' its'] := by
  have hv := HO.get i hi
  refine (open_ref (fun k => P k ∨ S k) A c files d nm w (rj_lt HO hP hi) (rj_F HO hP hi) hv.2.1.1 hv.2.1.2 hlf hd hw hus hbb).mono ?_
  rintro e w' ⟨files', A', c', its', Ai', ci', h1, h2, h3, h4, h5, h6⟩
  exact ⟨files', A', c', its', Ai', ci', _, h1, h2, h3, rj_out HO hP h6 (fun k hk => (HO.lt i hi hk).2) h4 h5⟩
theorem put_p (A : Option Addr) (c : Nat) (files : List SFile) (Ai : Option Addr) (ci : Nat) (its : List SItem) (d : PD) (nm : ByteArray) (kk : Int) (Ab : Option Addr) (cb : Nat) (b : List Int) (i : Nat) (hP : ∀ k, P k → k < w0.heap.size) (HO : Own w0 w L) (hi : L[i]? = some (Chunk.rj w0 P S A c files Ai ci its)) (hlf : files.length ≤ 1000000) (hil : its.length ≤ 1000000) (hd : files.map ofS = d.fs) (hw : wfD d) (hus : d.used ≤ 100000000)
    (hFb : Kd.F (Kd.int .u8) w0 P Ab b.length b) (hcb : b.length ≤ cb) (hb : ByteL b) (hl : b.length ≤ 900000) :
    Calls Tryz.prog 16 #[.agg #[.slice A files.length c, .int .i64 d.most, .int .i64 d.fuse, .bool d.down, .string nm, .slice Ai its.length ci], .agg #[.int .i64 kk, .slice Ab b.length cb]] w fun e w' => ∃ (files' : List SFile) (A' : Option Addr) (c' : Nat) (its' : List SItem) (Ai' : Option Addr) (ci' : Nat) (S' : Nat → Prop), files'.map ofS = (putJ nm kk b (its.map toI) 0 d).1.1.fs ∧ its'.map toI = (putJ nm kk b (its.map toI) 0 d).2.1 ∧
      e = .returned (.tuple #[.agg #[.slice A' files'.length c', .int .i64 (putJ nm kk b (its.map toI) 0 d).1.1.most, .int .i64 (putJ nm kk b (its.map toI) 0 d).1.1.fuse, .bool (putJ nm kk b (its.map toI) 0 d).1.1.down, .string nm, .slice Ai' its'.length ci'], .int .i64 (putJ nm kk b (its.map toI) 0 d).1.2]) ∧ Out w w' S [Chunk.rj w0 P S' A' c' files' Ai' ci' its'] := by
  have hv := HO.get i hi
  refine (put_ref (fun k => P k ∨ S k) A c files Ai ci its d nm w (rj_lt HO hP hi) (rj_F HO hP hi) hv.2.1.1 hv.2.1.2 (rj_FI HO hP hi) hv.2.2.1 hv.2.2.2 hlf hil hd hw hus kk Ab cb b (Kd.F_mono (Kd.F_step hFb fun k hk _ => HO.below.block k (hP k hk)) fun k hk => .inl hk) hcb hb hl).mono ?_
  rintro e w' ⟨files', A', c', its', Ai', ci', h1, h2, h3, h4, h5, h6⟩
  exact ⟨files', A', c', its', Ai', ci', _, h1, h2, h3, rj_out HO hP h6 (fun k hk => (HO.lt i hi hk).2) h4 h5⟩
theorem led_up {α : Type} {d : Kd α} {w w' : World} {P : Nat → Prop} {A : Option Addr} {n c : Nat} {xs : List α} (hP : ∀ k, P k → k < w.heap.size) (hF : Kd.F d w P A n xs) (hc : n ≤ c) (hA : ∀ ad, A = some ad → P ad.block) (hb : Below w.heap.size w w') : Led P w w' d A n c xs :=
  ⟨Kd.F_mono (Kd.F_step hF fun k hk _ => hb.block k (hP k hk)) fun k hk => .inl hk, hc, fun ad e => ⟨.inl (hA ad e), Nat.lt_of_lt_of_le (hP _ (hA ad e)) hb.size⟩⟩
theorem sync_j (A : Option Addr) (c : Nat) (files : List SFile) (Ai : Option Addr) (ci : Nat) (its : List SItem) (d : PD) (nm : ByteArray) (i : Nat) (hP : ∀ k, P k → k < w0.heap.size) (HO : Own w0 w L) (hi : L[i]? = some (Chunk.rj w0 P S A c files Ai ci its)) (hlf : files.length ≤ 1000000) (hd : files.map ofS = d.fs) (hw : wfD d) (hus : d.used ≤ 100000000) :
    Calls Tryz.prog 18 #[.agg #[.slice A files.length c, .int .i64 d.most, .int .i64 d.fuse, .bool d.down, .string nm, .slice Ai its.length ci]] w fun e w' => ∃ (files' : List SFile) (A' : Option Addr) (c' : Nat) (S' : Nat → Prop), files'.map ofS = (syncD nm d).1.fs ∧
      e = .returned (.tuple #[.agg #[.slice A' files'.length c', .int .i64 (syncD nm d).1.most, .int .i64 (syncD nm d).1.fuse, .bool (syncD nm d).1.down, .string nm, .slice Ai its.length ci], .int .i64 (syncD nm d).2]) ∧ Out w w' S [Chunk.rj w0 P S' A' c' files' Ai ci its] := by
  have hv := HO.get i hi
  refine (sync_ref (fun k => P k ∨ S k) A c files Ai its.length ci d nm w (rj_lt HO hP hi) (rj_F HO hP hi) hv.2.1.1 hv.2.1.2 hlf hd hw hus).mono ?_
  rintro e w' ⟨files', A', c', h1, h2, h3, h4⟩
  exact ⟨files', A', c', _, h1, h2, rj_out HO hP h4 (fun k hk => (HO.lt i hi hk).2) h3 (led_up (rj_lt HO hP hi) (rj_FI HO hP hi) hv.2.2.1 hv.2.2.2 h4)⟩
theorem crash_j (A : Option Addr) (c : Nat) (files : List SFile) (Ai : Option Addr) (ci : Nat) (its : List SItem) (d : PD) (Ak : Option Addr) (ck : Nat) (keep : List Int) (i : Nat) (hP : ∀ k, P k → k < w0.heap.size) (HO : Own w0 w L) (hi : L[i]? = some (Chunk.rj w0 P S A c files Ai ci its)) (hlf : files.length ≤ 1000000) (hd : files.map ofS = d.fs) (hw : wfD d) (hus : d.used ≤ 100000000)
    (hk : Kd.C (Kd.int .i64) w Ak keep.length keep) (hck : keep.length ≤ ck) :
    Calls Tryz.prog 20 #[.agg #[.slice A files.length c, .int .i64 d.most, .int .i64 d.fuse, .bool d.down], .slice Ak keep.length ck] w fun e w' => ∃ (files' : List SFile) (A' : Option Addr) (c' : Nat) (S' : Nat → Prop), files'.map ofS = (crashD keep d).fs ∧
      e = .returned (.agg #[.slice A' files'.length c', .int .i64 (crashD keep d).most, .int .i64 (crashD keep d).fuse, .bool (crashD keep d).down]) ∧ Out w w' S [Chunk.rj w0 P S' A' c' files' Ai ci its] := by
  have hv := HO.get i hi
  refine (crash_ref (fun k => P k ∨ S k) A c files d.most d.fuse d.down Ak ck keep w (rj_lt HO hP hi) (rj_F HO hP hi) hv.2.1.1 hlf hk hck fun x hx => ?_).mono ?_
  · have hm : ofS x ∈ d.fs := by rw [← hd]; exact List.mem_map_of_mem hx
    have h1 : 0 ≤ x.f2 ∧ x.f2 ≤ x.f1.length := hw.sf _ hm
    have h2 : (x.f1.length : Int) ≤ d.used := wf_len hw hm
    exact ⟨h1.1, h1.2, by omega⟩
  · rintro e w' ⟨files', A', c', h1, h2, h3, h4, h5⟩
    rw [hd] at h1
    obtain ⟨_, hle, hF⟩ := Kd.V_at h3
    exact ⟨files', A', c', _, h1, h2, rj_out HO hP h4 (fun k hk => (HO.lt i hi hk).2) ⟨hF, hle, h5⟩ (led_up (rj_lt HO hP hi) (rj_FI HO hP hi) hv.2.2.1 hv.2.2.2 h4)⟩
end
section
variable {w0 w wp : World} {P S : Nat → Prop} {L : List Chunk}
theorem get_pin (Ai : Option Addr) (ci : Nat) (its : List SItem) (key : Int) (i : Nat) (hB : Below w0.heap.size w0 wp) (hP : ∀ k, P k → k < w0.heap.size) (HO : Own w0 w L) (hi : L[i]? = some (Chunk.rjAt S wp)) (hF : Kd.F kItem wp (fun k => P k ∨ S k) Ai its.length its) (hc : its.length ≤ ci) (hil : its.length ≤ 1000000) :
    Calls Tryz.prog 43 #[.slice Ai its.length ci, .int .i64 key] w fun e w' => ∃ A' c', e = .returned (.tuple #[.slice A' ((getJ key (its.map toI)).getD []).length c', .bool (hasJ key (its.map toI))]) ∧ Kd.F (Kd.int .u8) wp (fun k => P k ∨ S k) A' ((getJ key (its.map toI)).getD []).length ((getJ key (its.map toI)).getD []) ∧ ((getJ key (its.map toI)).getD []).length ≤ c' ∧ Below w.heap.size w w' := by
  refine (get_refF (fun k => P k ∨ S k) Ai ci its key w (pin_lt HO hP hi) (pin_F hB HO hP hi hF) hc hil).mono ?_
  rintro e w' ⟨A', c', h1, h2, h3, h4⟩
  exact ⟨A', c', h1, pin_back hB HO hP hi h2, h3, h4⟩
theorem read_pin (A : Option Addr) (c : Nat) (files : List SFile) (d : PD) (nm : ByteArray) (i : Nat) (hB : Below w0.heap.size w0 wp) (hP : ∀ k, P k → k < w0.heap.size) (HO : Own w0 w L) (hi : L[i]? = some (Chunk.rjAt S wp)) (hF : Kd.F kFile wp (fun k => P k ∨ S k) A files.length files) (hc : files.length ≤ c) (hlf : files.length ≤ 1000000) (hd : files.map ofS = d.fs) :
    Calls Tryz.prog 37 #[.agg #[.slice A files.length c, .int .i64 d.most, .int .i64 d.fuse, .bool d.down], .string nm] w fun e w' => ∃ A' c', e = .returned (.tuple #[.slice A' (readD nm d).1.length c', .int .i64 (readD nm d).2]) ∧ Kd.F (Kd.int .u8) wp (fun k => P k ∨ S k) A' (readD nm d).1.length (readD nm d).1 ∧ (readD nm d).1.length ≤ c' ∧ Below w.heap.size w w' := by
  refine (read_refF (fun k => P k ∨ S k) A c files d nm w (pin_lt HO hP hi) (pin_F hB HO hP hi hF) hc hlf hd).mono ?_
  rintro e w' ⟨A', c', h1, h2, h3, h4⟩
  exact ⟨A', c', h1, pin_back hB HO hP hi h2, h3, h4⟩
end
theorem key_ok {is : List PI} {ks : List Int} (ho : ∀ x ∈ is, okI x) (hp : ks.Perm (is.map (·.1))) {k : Int} (hk : k ∈ ks) : 0 ≤ k ∧ k ≤ 1099511627776 := by
  obtain ⟨x, hx, rfl⟩ := List.mem_map.1 (hp.mem_iff.1 hk)
  exact (ho x hx).1
theorem key_has {is : List PI} {ks : List Int} (hp : ks.Perm (is.map (·.1))) {k : Int} (hk : k ∈ ks) : hasJ k is = true := by
  obtain ⟨x, hx, rfl⟩ := List.mem_map.1 (hp.mem_iff.1 hk)
  exact hasJ_iff.2 ⟨x, hx, rfl⟩
theorem key_len {is : List PI} (ho : ∀ x ∈ is, okI x) (k : Int) : ((getJ k is).getD []).length ≤ 900000 := by
  unfold getJ
  cases h : is.find? fun x => decide (x.1 = k) with
  | none => exact Nat.zero_le _
  | some x => exact (ho x (List.mem_of_find?_eq_some h)).2.1
end
namespace GRj5_
theorem keys_ref (Ai : Option Addr) (ci : Nat) (its : List S54) (w : World) (hr : Kd.C k54 w Ai its.length its) (hc : its.length ≤ ci) (hil : its.length ≤ 1000000) (hok : ∀ x ∈ its.map toI, okI x) (hon : onceJ (its.map toI)) :
    Calls Tryz.prog 41 #[.slice Ai its.length ci] w fun e w' => ∃ A c S' ks, ks.Pairwise (fun x y => x < y) ∧ ks.Perm ((its.map toI).map (·.1)) ∧ e = .returned (.slice A ks.length c) ∧ Out w w' (fun _ => False) [Chunk.row (Kd.int .i64) 2 w.heap.size S' (.slice A ks.length c) ks] := by
 refine gw_start (N := 58) (vs := [.slice Ai its.length ci]) Tryz.func41 rfl rfl (by simp) fun a HF HO => ?_
 replace HO : Own w w [] := HO
 refine gR fun K1 hK1 => ?_
 refine Vc HF ?_
 intro _ H3; clear HF
 refine gE hK1 ?_
 refine gR fun K4 hK4 => ?_
 refine gw_lit (enc := Value.int .i64) (fun _ => rfl) (xs := ([] : List Int)) (e := 2) H3 HO (want_none rfl) rfl (by decide) (op_bslice (by kernel_rfl) rfl pt_nil) (by simp) ?_
 intro A5 S6 _ w8 H9 O10; clear H3 HO
 have O11 : Own w w8 [Chunk.row (Kd.int .i64) 2 w.heap.size S6 (.slice A5 ((([] : List Int)).length) ((([] : List Int)).length)) ([] : List Int)] := O10
 clear O10
 refine Va H9 fun _ H13 => ?_
 refine gE hK4 ?_
 refine gw_seq fun K14 hK14 => ?_
 clear H9
 refine wp_block ?_
 refine gw_loop (fun m_ a_ w_ => ∃ (ks : List Int) (Ao : Option Addr) (co : Nat) (Sr : Nat → Prop), Fr 58 a_ [(3, .slice Ao ks.length co), (0, .slice Ai its.length ci), (2, .slice none 0 0)] ∧ Own w w_ [Chunk.row (Kd.int .i64) 2 w.heap.size Sr (.slice Ao ks.length co) ks] ∧ (∃ rest, KeysR its ks rest) ∧ (ks.length ≤ its.length) ∧ m_ = (its.length - ks.length)) ((its.length - ([] : List Int).length)) ?_ ?_
 ·
  refine ⟨[], A5, _, _, (H13.pick (t := 3) rfl (H13.pick (t := 0) rfl (H13.pick (t := 2) rfl H13.nil))), O11.sel [0] (by decide), ?_, ?_, rfl⟩
  ·
   exact ⟨_, keysR0⟩
  exact Nat.zero_le _
 rintro m16 _ w18 ⟨ks, Ao, co, Sr, H19, O20, hk, hkl, hm21⟩
 refine gw_seq fun K22 hK22 => ?_
 refine gR fun K23 hK23 => ?_
 refine Vm H19 fun _ H25 => ?_
 refine V H25 (op_len Tryz.underlying67 rfl (H25.ev rfl)) fun _ H27 => ?_
 refine Vm H27 fun _ H29 => ?_
 refine V H29 (op_len Tryz.underlying39 rfl (H29.ev rfl)) fun _ H31 => ?_
 refine V H31 (op_lss rfl (H31.ev rfl) (H31.ev rfl)) fun _ H33 => ?_
 refine gE hK23 ?_
 clear H19 H25 H27 H29 H31
 refine gw_cond H33 rfl (fun hb34 => ?_) (fun hb34 => ?_)
 ·
  have H35 := H33.subst_ (d := 11) (b := true) rfl hb34
  clear H33
  (try simp only [decide_eq_true_eq] at hb34)
  refine gS hK22 ?_
  refine wp_block ?_
  refine gR fun K36 hK36 => ?_
  refine Vc H35 fun _ H38 => ?_
  refine gE hK36 ?_
  refine gw_seq fun K39 hK39 => ?_
  refine gR fun K40 hK40 => ?_
  refine Vc H38 fun _ H42 => ?_
  refine gE hK40 ?_
  clear H35 H38
  refine wp_block ?_
  refine gw_loop (fun m_ a_ w_ => ∃ (i : Int) (best : Int), Fr 58 a_ [(5, J i), (4, J best), (3, .slice Ao ks.length co), (0, .slice Ai its.length ci), (2, .slice none 0 0), (7, .slice Ao ks.length co), (8, J (ks.length : Int)), (9, .slice Ai its.length ci), (10, J (its.length : Int)), (11, .bool true)] ∧ Own w w_ [Chunk.row (Kd.int .i64) 2 w.heap.size Sr (.slice Ao ks.length co) ks] ∧ (0 ≤ i ∧ i ≤ its.length) ∧ (bestK its ks i.toNat best) ∧ m_ = (its.length - i.toNat)) ((its.length - (0 : Int).toNat)) ?_ ?_
  ·
   refine ⟨0, (-1), (H42.pick (t := 5) rfl (H42.pick (t := 4) rfl (H42.pick (t := 3) rfl (H42.pick (t := 0) rfl (H42.pick (t := 2) rfl (H42.pick (t := 7) rfl (H42.pick (t := 8) rfl (H42.pick (t := 9) rfl (H42.pick (t := 10) rfl (H42.pick (t := 11) rfl H42.nil)))))))))), O20.sel [0] (by decide), ?_, ?_, rfl⟩
   ·
    omega
   exact bestK0
  rintro m44 _ w46 ⟨i, best, H47, O48, hi, hb, hm49⟩
  refine gw_seq fun K50 hK50 => ?_
  refine gR fun K51 hK51 => ?_
  refine Vm H47 fun _ H53 => ?_
  refine Vm H53 fun _ H55 => ?_
  refine V H55 (op_len Tryz.underlying39 rfl (H55.ev rfl)) fun _ H57 => ?_
  refine V H57 (op_lss rfl (H57.ev rfl) (H57.ev rfl)) fun _ H59 => ?_
  refine gE hK51 ?_
  clear H47 H53 H55 H57
  refine gw_cond H59 rfl (fun hb60 => ?_) (fun hb60 => ?_)
  ·
   have H61 := H59.subst_ (d := 15) (b := true) rfl hb60
   clear H59
   (try simp only [decide_eq_true_eq] at hb60)
   refine gS hK50 ?_
   refine gw_seq fun K62 hK62 => ?_
   refine wp_block ?_
   refine gw_seq fun K63 hK63 => ?_
   refine gw_drawB O48 (by kernel_rfl) (by kernel_rfl) fun w64 O65 => ?_
   clear O48
   refine Vn H61 (op_move rfl (H61.ev rfl)) fun _ H67 => ?_
   refine Vn H67 (op_len Tryz.underlying67 rfl (H67.ev rfl)) fun _ H69 => ?_
   refine Vn H69 (op_eqi rfl (H69.ev rfl) (ev_c _ _)) fun _ H71 => ?_
   refine Vn H71 (op_move rfl (H71.ev rfl)) fun _ H73 => ?_
   clear H61 H67 H69 H71
   refine gq_evG H73 rfl rfl rfl rfl (on_f _) rfl (by decide) (fun h_ wq hq => have HO := O65.after hq; (op_move rfl (H73.ev rfl))) ?_
   intro _ H75; clear H73
   refine gq_evG H75 rfl rfl rfl rfl (on_f _) rfl (by decide) (fun h_ wq hq => have HO := O65.after hq; (op_move rfl (H75.ev rfl))) ?_
   intro _ H77; clear H75
   obtain ⟨ad81, cs84, hA82, hl85, hK86, hc83⟩ := C_getT hr z54 i (⟨_, k54_mk _ z54 (A1 := none) (c1 := 0) (Nat.le_refl _) (Kd.C_nil _ _)⟩)
   obtain ⟨A87, c88, rfl, hl89, hC90⟩ := k54_open hK86
   clear hl85
   refine gq_evG H77 rfl rfl rfl rfl (on_f _) rfl (by decide) (fun h_ wq hq => have HO := O65.after hq; (op_index Tryz.underlying39 gwsiz54 rfl (ev_gv (H77.ev rfl) h_) (ev_gv (H77.ev rfl) h_) (hA82 ⟨by (try simp only [bxs_, ne_eq, bne_iff_ne, beq_iff_eq, bne_eq_false_iff_eq, beq_eq_false_iff_ne] at h_); omega, by (try simp only [bxs_, ne_eq, bne_iff_ne, beq_iff_eq, bne_eq_false_iff_eq, beq_eq_false_iff_ne] at h_); omega⟩) (⟨by (try simp only [bxs_, ne_eq, bne_iff_ne, beq_iff_eq, bne_eq_false_iff_eq, beq_eq_false_iff_ne] at h_); omega, by (try simp only [bxs_, ne_eq, bne_iff_ne, beq_iff_eq, bne_eq_false_iff_eq, beq_eq_false_iff_ne] at h_); omega⟩))) ?_
   intro _ H92; clear H77
   refine gq_evG H92 rfl rfl rfl rfl (on_f _) rfl (by decide) (fun h_ wq hq => have HO := O65.after hq; (op_field (gwflda54_0 _) rfl (ev_gv (H92.ev rfl) h_))) ?_
   intro _ H94; clear H92
   refine gq_evG H94 rfl rfl rfl rfl (on_f _) rfl (by decide) (fun h_ wq hq => have HO := O65.after hq; (op_load1 gwagg2 rfl (ev_gv (H94.ev rfl) h_) ((cells0 HO (hc83 ⟨by (try simp only [bxs_, ne_eq, bne_iff_ne, beq_iff_eq, bne_eq_false_iff_eq, beq_eq_false_iff_ne] at h_); omega, by (try simp only [bxs_, ne_eq, bne_iff_ne, beq_iff_eq, bne_eq_false_iff_eq, beq_eq_false_iff_ne] at h_); omega⟩) 0 _ rfl)))) ?_
   intro _ H96; clear H94
   refine gq_evG H96 rfl rfl rfl rfl (on_f _) rfl (by decide) (fun h_ wq hq => have HO := O65.after hq; (op_move rfl (H96.ev rfl))) ?_
   intro _ H98; clear H96
   refine gq_evG H98 rfl rfl rfl rfl (on_f _) rfl (by decide) (fun h_ wq hq => have HO := O65.after hq; (op_move rfl (H98.ev rfl))) ?_
   intro _ H100; clear H98
   refine gq_evG H100 rfl rfl rfl rfl (on_f _) rfl (by decide) (fun h_ wq hq => have HO := O65.after hq; (op_len Tryz.underlying67 rfl (ev_gv (H100.ev rfl) h_))) ?_
   intro _ H102; clear H100
   refine gq_evG H102 rfl rfl rfl rfl (on_f _) rfl (by decide) (fun h_ wq hq => have HO := O65.after hq; (op_sub rfl (ev_gv (H102.ev rfl) h_) (ev_c _ _) (by (try simp only [bxs_, ne_eq, bne_iff_ne, beq_iff_eq, bne_eq_false_iff_eq, beq_eq_false_iff_ne] at h_); omega))) ?_
   intro _ H104; clear H102
   obtain ⟨ad108, hA109⟩ := row_headT (O65.get 0 rfl) ((ks.length : Int) - 1)
   refine gq_evG H104 rfl rfl rfl rfl (on_f _) rfl (by decide) (fun h_ wq hq => have HO := O65.after hq; (op_index Tryz.underlying67 gwsiz2 rfl (ev_gv (H104.ev rfl) h_) (ev_gv (H104.ev rfl) h_) (hA109 ⟨by (try simp only [bxs_, ne_eq, bne_iff_ne, beq_iff_eq, bne_eq_false_iff_eq, beq_eq_false_iff_ne] at h_); omega, by (try simp only [bxs_, ne_eq, bne_iff_ne, beq_iff_eq, bne_eq_false_iff_eq, beq_eq_false_iff_ne] at h_); omega⟩) (⟨by (try simp only [bxs_, ne_eq, bne_iff_ne, beq_iff_eq, bne_eq_false_iff_eq, beq_eq_false_iff_ne] at h_); omega, by (try simp only [bxs_, ne_eq, bne_iff_ne, beq_iff_eq, bne_eq_false_iff_eq, beq_eq_false_iff_ne] at h_); omega⟩))) ?_
   intro _ H112; clear H104
   refine gq_evG H112 rfl rfl rfl rfl (on_f _) rfl (by decide) (fun h_ wq hq => have HO := O65.after hq; (op_load1 gwagg2 rfl (ev_gv (H112.ev rfl) h_) ((row_cellT (HO.get 0 rfl) (hA109 ⟨by (try simp only [bxs_, ne_eq, bne_iff_ne, beq_iff_eq, bne_eq_false_iff_eq, beq_eq_false_iff_ne] at h_); omega, by (try simp only [bxs_, ne_eq, bne_iff_ne, beq_iff_eq, bne_eq_false_iff_eq, beq_eq_false_iff_ne] at h_); omega⟩) ((ks.length : Int) - 1) (by (try simp only [bxs_, ne_eq, bne_iff_ne, beq_iff_eq, bne_eq_false_iff_eq, beq_eq_false_iff_ne] at h_); omega) (by (try simp only [bxs_, ne_eq, bne_iff_ne, beq_iff_eq, bne_eq_false_iff_eq, beq_eq_false_iff_ne] at h_); omega))))) ?_
   intro _ H114; clear H112
   refine gq_evG H114 rfl rfl rfl rfl (on_f _) rfl (by decide) (fun h_ wq hq => have HO := O65.after hq; (op_gtr rfl (ev_gv (H114.ev rfl) h_) (ev_gv (H114.ev rfl) h_))) ?_
   intro _ H116; clear H114
   refine Vn H116 (op_pick_or rfl (H116.ev rfl) (ev_c _ _) (fun hp_ => (ev_gv (H116.ev rfl) (not_t hp_)))) fun _ H118 => ?_
   refine Vn H118 (op_move rfl (H118.ev rfl)) fun _ H120 => ?_
   clear H116 H118
   refine gq_evG H120 rfl rfl rfl rfl (on_t _) rfl (by decide) (fun h_ wq hq => have HO := O65.after hq; (op_move rfl (H120.ev rfl))) ?_
   intro _ H122; clear H120
   refine gq_evG H122 rfl rfl rfl rfl (on_t _) rfl (by decide) (fun h_ wq hq => have HO := O65.after hq; (op_lss rfl (ev_gv (H122.ev rfl) h_) (ev_c _ _))) ?_
   intro _ H124; clear H122
   refine gq_evG H124 rfl rfl rfl rfl (on_t _) rfl (by decide) (fun h_ wq hq => have HO := O65.after hq; (op_move rfl (ev_gv (H124.ev rfl) h_))) ?_
   intro _ H126; clear H124
   refine gq_evG H126 rfl rfl rfl rfl (on_gf _ _) rfl (by decide) (fun h_ wq hq => have HO := O65.after hq; (op_move rfl (H126.ev rfl))) ?_
   intro _ H128; clear H126
   refine gq_evG H128 rfl rfl rfl rfl (on_gf _ _) rfl (by decide) (fun h_ wq hq => have HO := O65.after hq; (op_move rfl (H128.ev rfl))) ?_
   intro _ H130; clear H128
   obtain ⟨ad134, cs137, hA135, hl138, hK139, hc136⟩ := C_getT hr z54 i (⟨_, k54_mk _ z54 (A1 := none) (c1 := 0) (Nat.le_refl _) (Kd.C_nil _ _)⟩)
   obtain ⟨A140, c141, rfl, hl142, hC143⟩ := k54_open hK139
   clear hl138
   refine gq_evG H130 rfl rfl rfl rfl (on_gf _ _) rfl (by decide) (fun h_ wq hq => have HO := O65.after hq; (op_index Tryz.underlying39 gwsiz54 rfl (ev_gv (H130.ev rfl) (andi (and1 h_) (and2 h_))) (ev_gv (H130.ev rfl) (andi (and1 h_) (and2 h_))) (hA135 ⟨by (try simp only [bxs_, ne_eq, bne_iff_ne, beq_iff_eq, bne_eq_false_iff_eq, beq_eq_false_iff_ne] at h_); omega, by (try simp only [bxs_, ne_eq, bne_iff_ne, beq_iff_eq, bne_eq_false_iff_eq, beq_eq_false_iff_ne] at h_); omega⟩) (⟨by (try simp only [bxs_, ne_eq, bne_iff_ne, beq_iff_eq, bne_eq_false_iff_eq, beq_eq_false_iff_ne] at h_); omega, by (try simp only [bxs_, ne_eq, bne_iff_ne, beq_iff_eq, bne_eq_false_iff_eq, beq_eq_false_iff_ne] at h_); omega⟩))) ?_
   intro _ H145; clear H130
   refine gq_evG H145 rfl rfl rfl rfl (on_gf _ _) rfl (by decide) (fun h_ wq hq => have HO := O65.after hq; (op_field (gwflda54_0 _) rfl (ev_gv (H145.ev rfl) (andi (and1 h_) (and2 h_))))) ?_
   intro _ H147; clear H145
   refine gq_evG H147 rfl rfl rfl rfl (on_gf _ _) rfl (by decide) (fun h_ wq hq => have HO := O65.after hq; (op_load1 gwagg2 rfl (ev_gv (H147.ev rfl) (andi (and1 h_) (and2 h_))) ((cells0 HO (hc136 ⟨by (try simp only [bxs_, ne_eq, bne_iff_ne, beq_iff_eq, bne_eq_false_iff_eq, beq_eq_false_iff_ne] at h_); omega, by (try simp only [bxs_, ne_eq, bne_iff_ne, beq_iff_eq, bne_eq_false_iff_eq, beq_eq_false_iff_ne] at h_); omega⟩) 0 _ rfl)))) ?_
   intro _ H149; clear H147
   refine gq_evG H149 rfl rfl rfl rfl (on_gf _ _) rfl (by decide) (fun h_ wq hq => have HO := O65.after hq; (op_move rfl (H149.ev rfl))) ?_
   intro _ H151; clear H149
   refine gq_evG H151 rfl rfl rfl rfl (on_gf _ _) rfl (by decide) (fun h_ wq hq => have HO := O65.after hq; (op_lss rfl (ev_gv (H151.ev rfl) (andi (and1 h_) (and2 h_))) (ev_gv (H151.ev rfl) (andi (and1 h_) (and2 h_))))) ?_
   intro _ H153; clear H151
   refine gq_evG H153 rfl rfl rfl rfl (on_t _) rfl (by decide) (fun h_ wq hq => have HO := O65.after hq; (op_pick_or rfl (ev_gv (H153.ev rfl) h_) (ev_c _ _) (fun hp_ => (ev_gv (H153.ev rfl) (andi h_ (not_t hp_)))))) ?_
   intro _ H155; clear H153
   refine Vn H155 (op_pick_and rfl (H155.ev rfl) (fun hp_ => (ev_gv (H155.ev rfl) hp_)) (ev_c _ _)) fun _ H157 => ?_
   clear H155
   refine wpQuiet_nil ?_
   intro w158 hq
   have O159 := O65.after hq
   clear O65 hq
   refine gw_nx (hK63 _ _ ?_)
   refine gw_cond H157 rfl (fun hb160 => ?_) (fun hb160 => ?_)
   ·
    have H161 := H157.subst_ (d := 47) (b := true) rfl hb160
    clear H157
    (try simp only [Bool.and_eq_true, Bool.and_eq_false_iff, Bool.or_eq_true, Bool.or_eq_false_iff, decide_eq_true_eq, decide_eq_false_iff_not, Int.not_lt] at hb160)
    have hk0 : 0 ≤ (its.getD i.toNat z54).f0 := (hok _ (it_mem (i := i.toNat) (by omega))).1.1
    have hcd : cand ks (its.getD i.toNat z54).f0 = true := by unfold cand; rw [Bool.or_eq_true, decide_eq_true_eq, decide_eq_true_eq]; exact hb160.1
    have hlt : best < 0 ∨ (its.getD i.toNat z54).f0 < best := hb160.2
    refine wp_region_lit ?_
    refine Vm H161 fun _ H163 => ?_
    refine Vm H163 fun _ H165 => ?_
    clear H161 H163
    obtain ⟨ad166, cs169, hA167, hl170, hK171, hc168⟩ := Kd.C_get hr z54 i (by omega) (by omega)
    obtain ⟨A172, c173, rfl, hl174, hC175⟩ := k54_open hK171
    clear hl170
    refine V H165 (op_index Tryz.underlying39 gwsiz54 rfl (H165.ev rfl) (H165.ev rfl) hA167 (⟨by omega, by omega⟩)) fun _ H177 => ?_
    refine V H177 (op_field (gwflda54_0 _) rfl (H177.ev rfl)) fun _ H179 => ?_
    refine V H179 (op_load1 gwagg2 rfl (H179.ev rfl) ((cells0 O159 hc168 0 _ rfl))) fun _ H181 => ?_
    refine Va H181 fun _ H183 => ?_
    clear H165 H177 H179 H181
    refine wpList_nil ?_
    refine gw_blk ?_
    refine gw_nx (hK62 _ _ ?_)
    refine wp_region_lit ?_
    refine Vm H183 fun _ H185 => ?_
    refine V H185 (op_add rfl (H185.ev rfl) (ev_c _ _) (by omega)) fun _ H187 => ?_
    refine Va H187 fun _ H189 => ?_
    clear H183 H185 H187
    refine wpList_nil ?_
    refine gw_nx ⟨_, ?_, i + 1, ((its.getD i.toNat z54).f0), (H189.pick (t := 5) rfl (H189.pick (t := 4) rfl (H189.pick (t := 3) rfl (H189.pick (t := 0) rfl (H189.pick (t := 2) rfl (H189.pick (t := 7) rfl (H189.pick (t := 8) rfl (H189.pick (t := 9) rfl (H189.pick (t := 10) rfl (H189.pick (t := 11) rfl H189.nil)))))))))), O159.sel [0] (by decide), ?_, ?_, rfl⟩
    ·
     rw [hm49]; omega
    ·
     omega
    rw [show (i + 1).toNat = i.toNat + 1 by omega]; exact bestK_yes hb (by omega) hk0 hcd hlt
   have H190 := H157.subst_ (d := 47) (b := false) rfl hb160
   clear H157
   (try simp only [Bool.and_eq_true, Bool.and_eq_false_iff, Bool.or_eq_true, Bool.or_eq_false_iff, decide_eq_true_eq, decide_eq_false_iff_not, Int.not_lt] at hb160)
   have hno : cand ks (its.getD i.toNat z54).f0 = false ∨ (0 ≤ best ∧ best ≤ (its.getD i.toNat z54).f0) := by unfold cand; rw [Bool.or_eq_false_iff, decide_eq_false_iff_not, decide_eq_false_iff_not]; omega
   refine wp_skip ?_
   refine gw_blk ?_
   refine gw_nx (hK62 _ _ ?_)
   refine wp_region_lit ?_
   refine Vm H190 fun _ H192 => ?_
   refine V H192 (op_add rfl (H192.ev rfl) (ev_c _ _) (by omega)) fun _ H194 => ?_
   refine Va H194 fun _ H196 => ?_
   clear H190 H192 H194
   refine wpList_nil ?_
   refine gw_nx ⟨_, ?_, i + 1, best, (H196.pick (t := 5) rfl (H196.pick (t := 4) rfl (H196.pick (t := 3) rfl (H196.pick (t := 0) rfl (H196.pick (t := 2) rfl (H196.pick (t := 7) rfl (H196.pick (t := 8) rfl (H196.pick (t := 9) rfl (H196.pick (t := 10) rfl (H196.pick (t := 11) rfl H196.nil)))))))))), O159.sel [0] (by decide), ?_, ?_, rfl⟩
   ·
    rw [hm49]; omega
   ·
    omega
   rw [show (i + 1).toNat = i.toNat + 1 by omega]; exact bestK_no hb hno
  have H197 := H59.subst_ (d := 15) (b := false) rfl hb60
  clear H59
  (try simp only [decide_eq_false_iff_not, Int.not_lt] at hb60)
  refine wp_exit ?_
  refine gw_thx ?_
  refine gw_thx ?_
  refine gw_in ?_
  refine gw_nx (hK39 _ _ ?_)
  refine wp_region_lit ?_
  refine Vm H197 fun _ H199 => ?_
  refine Vm H199 fun _ H201 => ?_
  clear H197 H199
  refine gw_lit (enc := Value.int .i64) (fun _ => rfl) (xs := [best]) (e := 2) H201 O48 (want_none rfl) rfl (by decide) (op_bslice (by kernel_rfl) rfl (pt_cons (H201.ev rfl) pt_nil)) (by simp) ?_
  intro A202 S203 _ w205 H206 O207; clear H201 O48
  have O208 : Own w w205 [Chunk.row (Kd.int .i64) 2 w.heap.size S203 (.slice A202 (([best]).length) (([best]).length)) ([best]), Chunk.row (Kd.int .i64) 2 w.heap.size Sr (.slice Ao ks.length co) ks] := O207
  clear O207
  refine gw_append (Kd.int .i64) 1 H206 O208 (want_none rfl) rfl (by decide) rfl Tryz.underlying67 gwinfo2 rfl (by decide) (by decide) rfl (H206.ev rfl) (H206.ev rfl) (Kd.R_reads' (O208.get 0 rfl)).2.2 (fun _ _ h => h) O208.below.size (by first | omega | (simp; omega)) ?_
  intro A209 c210 S211 _ w213 H214 O215; clear H206 O208
  have O216 : Own w w213 [Chunk.row (Kd.int .i64) 2 w.heap.size S203 (.slice A202 (([best]).length) (([best]).length)) ([best]), Chunk.row (Kd.int .i64) 2 w.heap.size S211 (.slice A209 ((ks ++ [best]).length) c210) (ks ++ [best])] := O215
  clear O215
  refine Va H214 fun _ H218 => ?_
  clear H214
  refine wpList_nil ?_
  refine gw_blk ?_
  refine gw_nx ⟨_, ?_, (ks ++ [best]), A209, c210, _, (H218.pick (t := 3) rfl (H218.pick (t := 0) rfl (H218.pick (t := 2) rfl H218.nil))), O216.sel [1] (by decide), ?_, ?_, rfl⟩
  ·
   rw [hm21]; rw [List.length_append, List.length_singleton]; omega
  ·
   obtain ⟨r_, hr_⟩ := hk; exact keysR_step hr_ (keys_nodup hon) (by omega) (by rw [show its.length = i.toNat by omega]; exact hb)
  rw [List.length_append, List.length_singleton]; omega
 have H219 := H33.subst_ (d := 11) (b := false) rfl hb34
 clear H33
 (try simp only [decide_eq_false_iff_not, Int.not_lt] at hb34)
 refine wp_exit ?_
 refine gw_thx ?_
 refine gw_thx ?_
 refine gw_in ?_
 refine gw_nx (hK14 _ _ ?_)
 refine gR fun K220 hK220 => ?_
 refine Vm H219 fun _ H222 => ?_
 refine Va H222 fun _ H224 => ?_
 refine gE hK220 ?_
 refine wp_ret ?_
 clear H219 H222
 refine gw_ret1 H224 rfl rfl ?_
 obtain ⟨r_, hr_⟩ := hk
 exact ⟨_, _, _, ks, hr_.2.1, by rw [keysOf_is]; exact keysR_done hr_ (by omega), rfl, (O20.sel [0] (by decide)).out⟩
end GRj5_
export GRj5_ (keys_ref)
section
namespace GJAlive_
attribute [local irreducible] recI
theorem alive_calls (w : World) :
    Calls Tryz.prog 6 #[] w fun e w' => e = .returned (.bool true) ∧ Below w.heap.size w w' := by
 have hrx := recI_len (3, [120])
 have hry := recI_len (1, [])
 rw [show (encN (3, [120]).1).length = 1 from enc_small (k := 3) (by decide)] at hrx
 rw [show (encN (1, []).1).length = 1 from enc_small (k := 1) (by decide)] at hry
 simp only [List.length_cons, List.length_nil] at hrx hry
 have hok2 : ∀ x_ ∈ ([(3, [120]), (1, [])] : List PI), okI x_ := by intro x_ hx_; rcases List.mem_cons.1 hx_ with rfl | hx_; (· exact ⟨show (0 : Int) ≤ 3 ∧ (3 : Int) ≤ 1099511627776 by decide, by (try simp only [List.length_cons, List.length_nil]); omega, (by unfold ByteL; decide)⟩); (· obtain rfl := List.mem_singleton.1 hx_; exact ⟨show (0 : Int) ≤ 1 ∧ (1 : Int) ≤ 1099511627776 by decide, by (try simp only [List.length_cons, List.length_nil]); omega, (by unfold ByteL; decide)⟩)
 have hok1 : ∀ x_ ∈ ([(3, [120])] : List PI), okI x_ := fun x_ hx_ => hok2 x_ (by obtain rfl := List.mem_singleton.1 hx_; simp)
 have hon2 : onceJ ([(3, [120]), (1, [])] : List PI) := by simp [onceJ]
 have h00 : ((totF [] : Nat) : Int) = 0 := rfl
 refine gw_start (N := 89) (vs := []) Tryz.func6 rfl rfl (by simp) fun a HF HO => ?_
 replace HO : Own w w [] := HO
 refine gR fun K1 hK1 => ?_
 refine Vc HF ?_
 intro _ H3; clear HF
 refine gE hK1 ?_
 refine gR fun K4 hK4 => ?_
 have O14 : Own w _ [(Chunk.all [])] := Own.bundle (HO.sel [] (by decide))
 refine Wk H3 Tryz.func5 rfl (ar_cons (ev_c _ _) ar_nil) (new_own w _ (Chunk.all []) 1000 (by exact O14)) ?_
 rintro e8 w9 ⟨gd5, S6, rfl, hb10⟩
 refine ⟨_, rfl, fun _ H12 => ?_⟩
 have O13 : Own w w9 [Chunk.disk w.heap.size gd5 S6 (newD 1000)] := Own.unbundle (hb10.sel [0, 1] (by decide))
 clear O14
 clear H3 HO hb10
 have hwf7 : wfD (newD 1000) := wf_new (by decide)
 refine Va H12 fun _ H17 => ?_
 refine gE hK4 ?_
 refine gw_seq fun K18 hK18 => ?_
 refine gR fun K19 hK19 => ?_
 refine Vm H17 fun _ H21 => ?_
 refine V H21 (op_eqp_nil Tryz.underlying23 rfl (H21.ev rfl)) fun _ H23 => ?_
 refine gE hK19 ?_
 clear H12 H17 H21
 refine gw_cond H23 rfl (fun hb24 => ?_) (fun hb24 => ?_)
 ·
  cases hb24
 refine gS hK18 ?_
 refine gR fun K25 hK25 => ?_
 refine Vm H23 fun _ H27 => ?_
 clear H23
 have heq32 : openJ (⟨#[106]⟩ : ByteArray) (newD 1000) = (((jdk (⟨#[106]⟩ : ByteArray) (recsJ []) 0 [] 1000), 0), (([] : List PI), 0)) := open_new (by decide) (by decide)
 have O39 : Own w _ [(Chunk.all []), Chunk.disk w.heap.size gd5 S6 (newD 1000)] := Own.bundle (O13.sel [0] (by decide))
 refine Wk H27 Tryz.func9 rfl (ar_cons (H27.ev rfl) (ar_cons (ev_c _ _) ar_nil)) (open_ok heq32 hwf7 (by decide) (by decide) (by decide) (by unfold ByteL; decide +kernel) (by exact O39)) ?_
 rintro e33 w34 ⟨gj28, SJ29, S30, rfl, hb35⟩
 refine ⟨_, rfl, fun _ H37 => ?_⟩
 have O38 : Own w w34 [Chunk.disk w.heap.size gd5 S30 (jdk (⟨#[106]⟩ : ByteArray) (recsJ []) 0 [] 1000), Chunk.jour w.heap.size gd5 gj28 (⟨#[106]⟩ : ByteArray) SJ29 ([] : List PI) 0] := Own.unbundle (hb35.sel [0, 1, 2] (by decide))
 clear O39
 clear H27 O13 hb35
 have hwf31 : wfD (jdk (⟨#[106]⟩ : ByteArray) (recsJ []) 0 [] 1000) := wf_open' heq32 hwf7
 refine Vm H37 fun _ H42 => ?_
 refine Vx H42 fun _ H44 => ?_
 refine Vx H44 fun _ H46 => ?_
 refine Va H46 fun _ H48 => ?_
 refine Va H48 fun _ H50 => ?_
 refine gE hK25 ?_
 refine gw_seq fun K51 hK51 => ?_
 refine gR fun K52 hK52 => ?_
 refine Vm H50 fun _ H54 => ?_
 refine V H54 (op_nei rfl (H54.ev rfl) (ev_c _ _)) fun _ H56 => ?_
 clear H37 H42 H44 H46 H48 H50 H54
 have H57 := H56.lit (b := false) (by decide)
 clear H56
 refine Vm H57 fun _ H59 => ?_
 refine V2 H59 (want_yes H59 rfl rfl rfl rfl) (op_move rfl (H59.ev rfl)) fun _ H61 => ?_
 refine V2 H61 (want_yes H61 rfl rfl rfl rfl) (op_eqp_nil Tryz.underlying29 rfl (H61.ev rfl)) fun _ H63 => ?_
 refine V H63 (op_pick_f rfl (H63.ev rfl) (H63.ev rfl)) fun _ H65 => ?_
 refine Vm H65 fun _ H67 => ?_
 refine V2 H67 (want_yes H67 rfl rfl rfl rfl) (op_move rfl (H67.ev rfl)) fun _ H69 => ?_
 clear H57 H59 H61 H63 H65 H67
 refine gw_bytes (xs := [120]) Tryz.underlying22 Tryz.underlying5 H69 O38 (want_yes H69 rfl rfl rfl rfl) rfl (by decide) (op_bslice (by kernel_rfl) rfl (pt_cons (ev_c _ _) pt_nil)) (fun a_ HF_ => (want_yes HF_ rfl rfl rfl rfl)) rfl (by decide) rfl ?_
 intro g70 _ w72 H73 O74; clear H69 O38
 have O75 : Own w w72 [Chunk.blk g70 (.cells (nums .u8 [120]).toArray 5 (([120]).length, ([120]).length + 1)), Chunk.disk w.heap.size gd5 S30 (jdk (⟨#[106]⟩ : ByteArray) (recsJ []) 0 [] 1000), Chunk.jour w.heap.size gd5 gj28 (⟨#[106]⟩ : ByteArray) SJ29 ([] : List PI) 0] := O74
 clear O74
 have heq79 : putJ (⟨#[106]⟩ : ByteArray) 3 ([120]) ([] : List PI) 0 (jdk (⟨#[106]⟩ : ByteArray) (recsJ []) 0 [] 1000) = (((jdk (⟨#[106]⟩ : ByteArray) (recsJ ([(3, [120])] : List PI)) 0 [] 1000), 0), (([(3, [120])] : List PI), (0 + ((recI (3, [120])).length : Int)))) := jd_put (is := []) (fun g_ hg_ => by simp at hg_) (by decide) (by (try simp only [List.length_cons, List.length_nil]); omega) rfl (by rw [show (recsJ []).length = 0 from rfl, h00]; omega)
 have O86 : Own w _ [(Chunk.all [Chunk.blk g70 (.cells (nums .u8 [120]).toArray 5 (([120]).length, ([120]).length + 1))]), Chunk.disk w.heap.size gd5 S30 (jdk (⟨#[106]⟩ : ByteArray) (recsJ []) 0 [] 1000), Chunk.jour w.heap.size gd5 gj28 (⟨#[106]⟩ : ByteArray) SJ29 ([] : List PI) 0] := Own.bundle (O75.sel [0, 1, 2] (by decide))
 refine gw_call H73 (want_yes H73 rfl rfl rfl rfl) rfl (by decide) (op_callL Tryz.func15 (by kernel_rfl) rfl rfl (ar_cons (H73.ev rfl) (ar_cons (ev_c _ _) (ar_cons (H73.ev rfl) ar_nil)))) (put_is heq79 hwf31 (by decide) (by decide) (fun w_ h_ => (blkC ((Own.unbundle (A := [Chunk.blk g70 (.cells (nums .u8 [120]).toArray 5 (([120]).length, ([120]).length + 1))]) (L := []) h_).get 0 rfl) (by simp))) (Nat.le_refl _) (by unfold ByteL; decide) (by (try simp only [List.length_cons, List.length_nil]); omega) (used_le (by decide)) (by show 0 ≤ 1000000; decide) (by omega) (by exact O86)) ?_
 rintro e80 w81 ⟨rfl, S77, SJ76, hb82⟩
 refine ⟨_, rfl, fun _ H84 => ?_⟩
 have O85 : Own w w81 [Chunk.blk g70 (.cells (nums .u8 [120]).toArray 5 (([120]).length, ([120]).length + 1)), Chunk.disk w.heap.size gd5 S77 (jdk (⟨#[106]⟩ : ByteArray) (recsJ ([(3, [120])] : List PI)) 0 [] 1000), Chunk.jour w.heap.size gd5 gj28 (⟨#[106]⟩ : ByteArray) SJ76 ([(3, [120])] : List PI) (0 + ((recI (3, [120])).length : Int))] := Own.unbundle (hb82.sel [0, 1, 2] (by decide))
 clear O86
 clear H73 O75 hb82
 have hwf78 : wfD (jdk (⟨#[106]⟩ : ByteArray) (recsJ ([(3, [120])] : List PI)) 0 [] 1000) := wf_put' heq79 hwf31
 refine V2 H84 (want_yes H84 rfl rfl rfl rfl) (op_nei rfl (H84.ev rfl) (ev_c _ _)) fun _ H89 => ?_
 clear H84
 have H90 := H89.lit (b := false) (by decide)
 clear H89
 refine V H90 (op_pick_f rfl (H90.ev rfl) (H90.ev rfl)) fun _ H92 => ?_
 refine Vm H92 fun _ H94 => ?_
 refine V2 H94 (want_yes H94 rfl rfl rfl rfl) (op_move rfl (H94.ev rfl)) fun _ H96 => ?_
 clear H90 H92 H94
 have heq100 : syncD (⟨#[106]⟩ : ByteArray) (jdk (⟨#[106]⟩ : ByteArray) (recsJ ([(3, [120])] : List PI)) 0 [] 1000) = ((jdk (⟨#[106]⟩ : ByteArray) (recsJ ([(3, [120])] : List PI)) ((recsJ ([(3, [120])] : List PI)).length : Int) [] 1000), 0) := jd_sync (fun g_ hg_ => by simp at hg_)
 have O107 : Own w _ [(Chunk.all [Chunk.blk g70 (.cells (nums .u8 [120]).toArray 5 (([120]).length, ([120]).length + 1))]), Chunk.disk w.heap.size gd5 S77 (jdk (⟨#[106]⟩ : ByteArray) (recsJ ([(3, [120])] : List PI)) 0 [] 1000), Chunk.jour w.heap.size gd5 gj28 (⟨#[106]⟩ : ByteArray) SJ76 ([(3, [120])] : List PI) (0 + ((recI (3, [120])).length : Int))] := Own.bundle (O85.sel [0, 1, 2] (by decide))
 refine gw_call H96 (want_yes H96 rfl rfl rfl rfl) rfl (by decide) (op_callL Tryz.func17 (by kernel_rfl) rfl rfl (ar_cons (H96.ev rfl) ar_nil)) (jsync_is heq100 hwf78 (by decide) (by exact O107)) ?_
 rintro e101 w102 ⟨rfl, S98, SJ97, hb103⟩
 refine ⟨_, rfl, fun _ H105 => ?_⟩
 have O106 : Own w w102 [Chunk.blk g70 (.cells (nums .u8 [120]).toArray 5 (([120]).length, ([120]).length + 1)), Chunk.disk w.heap.size gd5 S98 (jdk (⟨#[106]⟩ : ByteArray) (recsJ ([(3, [120])] : List PI)) ((recsJ ([(3, [120])] : List PI)).length : Int) [] 1000), Chunk.jour w.heap.size gd5 gj28 (⟨#[106]⟩ : ByteArray) SJ97 ([(3, [120])] : List PI) (0 + ((recI (3, [120])).length : Int))] := Own.unbundle (hb103.sel [0, 1, 2] (by decide))
 clear O107
 clear H96 O85 hb103
 have hwf99 : wfD (jdk (⟨#[106]⟩ : ByteArray) (recsJ ([(3, [120])] : List PI)) ((recsJ ([(3, [120])] : List PI)).length : Int) [] 1000) := wf_sync' heq100 hwf78
 refine V2 H105 (want_yes H105 rfl rfl rfl rfl) (op_nei rfl (H105.ev rfl) (ev_c _ _)) fun _ H110 => ?_
 clear H105
 have H111 := H110.lit (b := false) (by decide)
 clear H110
 refine V H111 (op_pick_f rfl (H111.ev rfl) (H111.ev rfl)) fun _ H113 => ?_
 refine Vm H113 fun _ H115 => ?_
 refine V2 H115 (want_yes H115 rfl rfl rfl rfl) (op_move rfl (H115.ev rfl)) fun _ H117 => ?_
 clear H111 H113 H115
 have heq121 : putJ (⟨#[106]⟩ : ByteArray) 1 ([] : List Int) ([(3, [120])] : List PI) (0 + ((recI (3, [120])).length : Int)) (jdk (⟨#[106]⟩ : ByteArray) (recsJ ([(3, [120])] : List PI)) ((recsJ ([(3, [120])] : List PI)).length : Int) [] 1000) = (((jdk (⟨#[106]⟩ : ByteArray) (recsJ ([(3, [120]), (1, [])] : List PI)) ((recsJ ([(3, [120])] : List PI)).length : Int) [] 1000), 0), (([(3, [120]), (1, [])] : List PI), (0 + ((recI (3, [120])).length : Int) + ((recI (1, [])).length : Int)))) := jd_put (is := ([(3, [120])] : List PI)) (fun g_ hg_ => by simp at hg_) (by decide) (by (try simp only [List.length_cons, List.length_nil]); omega) rfl (by rw [recs_one, h00]; omega)
 have O128 : Own w _ [(Chunk.all [Chunk.blk g70 (.cells (nums .u8 [120]).toArray 5 (([120]).length, ([120]).length + 1))]), Chunk.disk w.heap.size gd5 S98 (jdk (⟨#[106]⟩ : ByteArray) (recsJ ([(3, [120])] : List PI)) ((recsJ ([(3, [120])] : List PI)).length : Int) [] 1000), Chunk.jour w.heap.size gd5 gj28 (⟨#[106]⟩ : ByteArray) SJ97 ([(3, [120])] : List PI) (0 + ((recI (3, [120])).length : Int))] := Own.bundle (O106.sel [0, 1, 2] (by decide))
 refine gw_call H117 (want_yes H117 rfl rfl rfl rfl) rfl (by decide) (op_callL Tryz.func15 (by kernel_rfl) rfl rfl (ar_cons (H117.ev rfl) (ar_cons (ev_c _ _) (ar_cons (ev_c _ _) ar_nil)))) (put_nil heq121 hwf99 (by decide) (by decide) (used_le (by rw [recs_one]; omega)) (by show 1 ≤ 1000000; decide) (by omega) (by exact O128)) ?_
 rintro e122 w123 ⟨rfl, S119, SJ118, hb124⟩
 refine ⟨_, rfl, fun _ H126 => ?_⟩
 have O127 : Own w w123 [Chunk.blk g70 (.cells (nums .u8 [120]).toArray 5 (([120]).length, ([120]).length + 1)), Chunk.disk w.heap.size gd5 S119 (jdk (⟨#[106]⟩ : ByteArray) (recsJ ([(3, [120]), (1, [])] : List PI)) ((recsJ ([(3, [120])] : List PI)).length : Int) [] 1000), Chunk.jour w.heap.size gd5 gj28 (⟨#[106]⟩ : ByteArray) SJ118 ([(3, [120]), (1, [])] : List PI) (0 + ((recI (3, [120])).length : Int) + ((recI (1, [])).length : Int))] := Own.unbundle (hb124.sel [0, 1, 2] (by decide))
 clear O128
 clear H117 O106 hb124
 have hwf120 : wfD (jdk (⟨#[106]⟩ : ByteArray) (recsJ ([(3, [120]), (1, [])] : List PI)) ((recsJ ([(3, [120])] : List PI)).length : Int) [] 1000) := wf_put' heq121 hwf99
 refine V2 H126 (want_yes H126 rfl rfl rfl rfl) (op_nei rfl (H126.ev rfl) (ev_c _ _)) fun _ H131 => ?_
 clear H126
 have H132 := H131.lit (b := false) (by decide)
 clear H131
 refine V H132 (op_pick_f rfl (H132.ev rfl) (H132.ev rfl)) fun _ H134 => ?_
 refine Vm H134 fun _ H136 => ?_
 refine V2 H136 (want_yes H136 rfl rfl rfl rfl) (op_move rfl (H136.ev rfl)) fun _ H138 => ?_
 clear H132 H134 H136
 have heq142 : putJ (⟨#[106]⟩ : ByteArray) 3 ([] : List Int) ([(3, [120]), (1, [])] : List PI) (0 + ((recI (3, [120])).length : Int) + ((recI (1, [])).length : Int)) (jdk (⟨#[106]⟩ : ByteArray) (recsJ ([(3, [120]), (1, [])] : List PI)) ((recsJ ([(3, [120])] : List PI)).length : Int) [] 1000) = (((jdk (⟨#[106]⟩ : ByteArray) (recsJ ([(3, [120]), (1, [])] : List PI)) ((recsJ ([(3, [120])] : List PI)).length : Int) [] 1000), 5), (([(3, [120]), (1, [])] : List PI), (0 + ((recI (3, [120])).length : Int) + ((recI (1, [])).length : Int)))) := put_twice (by decide) (by decide) rfl
 have O149 : Own w _ [(Chunk.all [Chunk.blk g70 (.cells (nums .u8 [120]).toArray 5 (([120]).length, ([120]).length + 1))]), Chunk.disk w.heap.size gd5 S119 (jdk (⟨#[106]⟩ : ByteArray) (recsJ ([(3, [120]), (1, [])] : List PI)) ((recsJ ([(3, [120])] : List PI)).length : Int) [] 1000), Chunk.jour w.heap.size gd5 gj28 (⟨#[106]⟩ : ByteArray) SJ118 ([(3, [120]), (1, [])] : List PI) (0 + ((recI (3, [120])).length : Int) + ((recI (1, [])).length : Int))] := Own.bundle (O127.sel [0, 1, 2] (by decide))
 refine gw_call H138 (want_yes H138 rfl rfl rfl rfl) rfl (by decide) (op_callL Tryz.func15 (by kernel_rfl) rfl rfl (ar_cons (H138.ev rfl) (ar_cons (ev_c _ _) (ar_cons (ev_c _ _) ar_nil)))) (put_nil heq142 hwf120 (by decide) (by decide) (used_le (by rw [recs_two]; omega)) (by show 2 ≤ 1000000; decide) (by omega) (by exact O149)) ?_
 rintro e143 w144 ⟨rfl, S140, SJ139, hb145⟩
 refine ⟨_, rfl, fun _ H147 => ?_⟩
 have O148 : Own w w144 [Chunk.blk g70 (.cells (nums .u8 [120]).toArray 5 (([120]).length, ([120]).length + 1)), Chunk.disk w.heap.size gd5 S140 (jdk (⟨#[106]⟩ : ByteArray) (recsJ ([(3, [120]), (1, [])] : List PI)) ((recsJ ([(3, [120])] : List PI)).length : Int) [] 1000), Chunk.jour w.heap.size gd5 gj28 (⟨#[106]⟩ : ByteArray) SJ139 ([(3, [120]), (1, [])] : List PI) (0 + ((recI (3, [120])).length : Int) + ((recI (1, [])).length : Int))] := Own.unbundle (hb145.sel [0, 1, 2] (by decide))
 clear O149
 clear H138 O127 hb145
 have hwf141 : wfD (jdk (⟨#[106]⟩ : ByteArray) (recsJ ([(3, [120]), (1, [])] : List PI)) ((recsJ ([(3, [120])] : List PI)).length : Int) [] 1000) := wf_put' heq142 hwf120
 refine V2 H147 (want_yes H147 rfl rfl rfl rfl) (op_nei rfl (H147.ev rfl) (ev_c _ _)) fun _ H152 => ?_
 clear H147
 have H153 := H152.lit (b := false) (by decide)
 clear H152
 refine V H153 (op_pick_f rfl (H153.ev rfl) (H153.ev rfl)) fun _ H155 => ?_
 refine gE hK52 ?_
 clear H153
 refine gw_cond H155 rfl (fun hb156 => ?_) (fun hb156 => ?_)
 ·
  cases hb156
 refine gS hK51 ?_
 refine gR fun K157 hK157 => ?_
 refine Vm H155 fun _ H159 => ?_
 clear H155
 refine gw_lit (enc := Value.int .i64) (fun _ => rfl) (xs := [5]) (e := 3) H159 O148 (want_none rfl) rfl (by decide) (op_bslice (by kernel_rfl) rfl (pt_cons (ev_c _ _) pt_nil)) (by simp) ?_
 intro A160 S161 _ w163 H164 O165; clear H159 O148
 have O166 : Own w w163 [Chunk.row (Kd.int .i64) 3 w.heap.size S161 (.slice A160 (([5]).length) (([5]).length)) ([5]), Chunk.blk g70 (.cells (nums .u8 [120]).toArray 5 (([120]).length, ([120]).length + 1)), Chunk.disk w.heap.size gd5 S140 (jdk (⟨#[106]⟩ : ByteArray) (recsJ ([(3, [120]), (1, [])] : List PI)) ((recsJ ([(3, [120])] : List PI)).length : Int) [] 1000), Chunk.jour w.heap.size gd5 gj28 (⟨#[106]⟩ : ByteArray) SJ139 ([(3, [120]), (1, [])] : List PI) (0 + ((recI (3, [120])).length : Int) + ((recI (1, [])).length : Int))] := O165
 clear O165
 obtain ⟨m, hm1, hm2, hm4, hmc⟩ := jd_crash (nm := (⟨#[106]⟩ : ByteArray)) (mst := 1000) (all := recsJ ([(3, [120]), (1, [])] : List PI)) (sf := ((recsJ ([(3, [120])] : List PI)).length : Int)) (by rw [recs_one, recs_two]; omega) 5
 have hm3 : (recI (3, [120])).length ≤ m := by rw [recs_one] at hm4; omega
 have hml : ((recsJ ([(3, [120]), (1, [])] : List PI)).take m).length = m := by rw [List.length_take]; omega
 rw [recs_two, recs_one] at hm1
 have O175 : Own w _ [(Chunk.all [Chunk.row (Kd.int .i64) 3 w.heap.size S161 (.slice A160 (([5]).length) (([5]).length)) ([5]), Chunk.blk g70 (.cells (nums .u8 [120]).toArray 5 (([120]).length, ([120]).length + 1)), Chunk.jour w.heap.size gd5 gj28 (⟨#[106]⟩ : ByteArray) SJ139 ([(3, [120]), (1, [])] : List PI) (0 + ((recI (3, [120])).length : Int) + ((recI (1, [])).length : Int))]), Chunk.disk w.heap.size gd5 S140 (jdk (⟨#[106]⟩ : ByteArray) (recsJ ([(3, [120]), (1, [])] : List PI)) ((recsJ ([(3, [120])] : List PI)).length : Int) [] 1000)] := Own.bundle (O166.sel [0, 1, 3, 2] (by decide))
 refine Wk H164 Tryz.func14 rfl (ar_cons (H164.ev rfl) (ar_cons (H164.ev rfl) ar_nil)) ((by have h_ := crash_calls w _ (Chunk.all [Chunk.row (Kd.int .i64) 3 w.heap.size S161 (.slice A160 (([5]).length) (([5]).length)) ([5]), Chunk.blk g70 (.cells (nums .u8 [120]).toArray 5 (([120]).length, ([120]).length + 1)), Chunk.jour w.heap.size gd5 gj28 (⟨#[106]⟩ : ByteArray) SJ139 ([(3, [120]), (1, [])] : List PI) (0 + ((recI (3, [120])).length : Int) + ((recI (1, [])).length : Int))]) gd5 S140 (jdk (⟨#[106]⟩ : ByteArray) (recsJ ([(3, [120]), (1, [])] : List PI)) ((recsJ ([(3, [120])] : List PI)).length : Int) [] 1000) A160 (([5]).length) ([5]) (fun w_ h_ => (Kd.R_reads' ((Own.unbundle (A := [Chunk.row (Kd.int .i64) 3 w.heap.size S161 (.slice A160 (([5]).length) (([5]).length)) ([5]), Chunk.blk g70 (.cells (nums .u8 [120]).toArray 5 (([120]).length, ([120]).length + 1)), Chunk.jour w.heap.size gd5 gj28 (⟨#[106]⟩ : ByteArray) SJ139 ([(3, [120]), (1, [])] : List PI) (0 + ((recI (3, [120])).length : Int) + ((recI (1, [])).length : Int))]) (L := []) h_).get 0 rfl)).2.2) (row_cap (O166.get 0 rfl)) hwf141 (by show 1 ≤ 1000000; decide) (by exact O175); rw [show (crashD ([5]) (jdk (⟨#[106]⟩ : ByteArray) (recsJ ([(3, [120]), (1, [])] : List PI)) ((recsJ ([(3, [120])] : List PI)).length : Int) [] 1000)) = (jdk (⟨#[106]⟩ : ByteArray) ((recsJ ([(3, [120]), (1, [])] : List PI)).take m) (m : Int) [] 1000) from hmc] at h_; (try dsimp only at h_); exact h_)) ?_
 rintro e169 w170 ⟨rfl, S167, hb171⟩
 refine ⟨_, rfl, fun _ H173 => ?_⟩
 have O174 : Own w w170 [Chunk.row (Kd.int .i64) 3 w.heap.size S161 (.slice A160 (([5]).length) (([5]).length)) ([5]), Chunk.blk g70 (.cells (nums .u8 [120]).toArray 5 (([120]).length, ([120]).length + 1)), Chunk.jour w.heap.size gd5 gj28 (⟨#[106]⟩ : ByteArray) SJ139 ([(3, [120]), (1, [])] : List PI) (0 + ((recI (3, [120])).length : Int) + ((recI (1, [])).length : Int)), Chunk.disk w.heap.size gd5 S167 (jdk (⟨#[106]⟩ : ByteArray) ((recsJ ([(3, [120]), (1, [])] : List PI)).take m) (m : Int) [] 1000)] := Own.unbundle (hb171.sel [0, 1] (by decide))
 clear O175
 clear H164 O166 hb171
 have hwf168 : wfD (jdk (⟨#[106]⟩ : ByteArray) ((recsJ ([(3, [120]), (1, [])] : List PI)).take m) (m : Int) [] 1000) := by have h_ := wf_crash (keep := ([5])) hwf141; rw [show (crashD ([5]) (jdk (⟨#[106]⟩ : ByteArray) (recsJ ([(3, [120]), (1, [])] : List PI)) ((recsJ ([(3, [120])] : List PI)).length : Int) [] 1000)) = (jdk (⟨#[106]⟩ : ByteArray) ((recsJ ([(3, [120]), (1, [])] : List PI)).take m) (m : Int) [] 1000) from hmc] at h_; exact h_
 refine gE hK157 ?_
 refine gR fun K177 hK177 => ?_
 refine Vm H173 fun _ H179 => ?_
 clear H173
 obtain ⟨q, hq1, hqo, hq3, hq4⟩ := jd_reopen (nm := (⟨#[106]⟩ : ByteArray)) (ext := []) (mst := 1000) (fun g_ hg_ => by simp at hg_) hok2 hon2 hm2
 have hTW := two_cut hq1 hq3 hq4 hm3 hm2
 have hq : q = 1 := by rcases hTW with ⟨h_, _⟩ | ⟨_, h_⟩; (· exact h_); (· exfalso; unfold mn mx at hm1; (repeat' split at hm1) <;> omega)
 have hokT : ∀ x_ ∈ (([(3, [120]), (1, [])] : List PI).take q), okI x_ := fun x_ hx_ => hok2 x_ (List.mem_of_mem_take hx_)
 have heq184 : openJ (⟨#[106]⟩ : ByteArray) (jdk (⟨#[106]⟩ : ByteArray) ((recsJ ([(3, [120]), (1, [])] : List PI)).take m) (m : Int) [] 1000) = (((jdk (⟨#[106]⟩ : ByteArray) (recsJ (([(3, [120]), (1, [])] : List PI).take q)) ((recsJ (([(3, [120]), (1, [])] : List PI).take q)).length : Int) [] 1000), 0), ((([(3, [120]), (1, [])] : List PI).take q), ((recsJ (([(3, [120]), (1, [])] : List PI).take q)).length : Int))) := hqo
 have O191 : Own w _ [(Chunk.all [Chunk.row (Kd.int .i64) 3 w.heap.size S161 (.slice A160 (([5]).length) (([5]).length)) ([5]), Chunk.blk g70 (.cells (nums .u8 [120]).toArray 5 (([120]).length, ([120]).length + 1)), Chunk.jour w.heap.size gd5 gj28 (⟨#[106]⟩ : ByteArray) SJ139 ([(3, [120]), (1, [])] : List PI) (0 + ((recI (3, [120])).length : Int) + ((recI (1, [])).length : Int))]), Chunk.disk w.heap.size gd5 S167 (jdk (⟨#[106]⟩ : ByteArray) ((recsJ ([(3, [120]), (1, [])] : List PI)).take m) (m : Int) [] 1000)] := Own.bundle (O174.sel [0, 1, 2, 3] (by decide))
 refine Wk H179 Tryz.func9 rfl (ar_cons (H179.ev rfl) (ar_cons (ev_c _ _) ar_nil)) (open_ok heq184 hwf168 (by decide) (by show 1 ≤ 1000000; decide) (used_le (by rw [hml]; rw [recs_two] at hm2; omega)) (jd_byte (take_byte (recs_byte hok2) m)) (by exact O191)) ?_
 rintro e185 w186 ⟨gj180, SJ181, S182, rfl, hb187⟩
 refine ⟨_, rfl, fun _ H189 => ?_⟩
 have O190 : Own w w186 [Chunk.row (Kd.int .i64) 3 w.heap.size S161 (.slice A160 (([5]).length) (([5]).length)) ([5]), Chunk.blk g70 (.cells (nums .u8 [120]).toArray 5 (([120]).length, ([120]).length + 1)), Chunk.jour w.heap.size gd5 gj28 (⟨#[106]⟩ : ByteArray) SJ139 ([(3, [120]), (1, [])] : List PI) (0 + ((recI (3, [120])).length : Int) + ((recI (1, [])).length : Int)), Chunk.disk w.heap.size gd5 S182 (jdk (⟨#[106]⟩ : ByteArray) (recsJ (([(3, [120]), (1, [])] : List PI).take q)) ((recsJ (([(3, [120]), (1, [])] : List PI).take q)).length : Int) [] 1000), Chunk.jour w.heap.size gd5 gj180 (⟨#[106]⟩ : ByteArray) SJ181 (([(3, [120]), (1, [])] : List PI).take q) ((recsJ (([(3, [120]), (1, [])] : List PI).take q)).length : Int)] := Own.unbundle (hb187.sel [0, 1, 2] (by decide))
 clear O191
 clear H179 O174 hb187
 have hwf183 : wfD (jdk (⟨#[106]⟩ : ByteArray) (recsJ (([(3, [120]), (1, [])] : List PI).take q)) ((recsJ (([(3, [120]), (1, [])] : List PI).take q)).length : Int) [] 1000) := wf_open' heq184 hwf168
 refine Vm H189 fun _ H194 => ?_
 refine Vx H194 fun _ H196 => ?_
 refine Vx H196 fun _ H198 => ?_
 refine Va H198 fun _ H200 => ?_
 refine Va H200 fun _ H202 => ?_
 refine gE hK177 ?_
 refine gw_seq fun K203 hK203 => ?_
 refine gR fun K204 hK204 => ?_
 refine Vm H202 fun _ H206 => ?_
 refine V H206 (op_nei rfl (H206.ev rfl) (ev_c _ _)) fun _ H208 => ?_
 clear H189 H194 H196 H198 H200 H202 H206
 have H209 := H208.lit (b := false) (by decide)
 clear H208
 refine Vm H209 fun _ H211 => ?_
 refine V2 H211 (want_yes H211 rfl rfl rfl rfl) (op_move rfl (H211.ev rfl)) fun _ H213 => ?_
 refine V2 H213 (want_yes H213 rfl rfl rfl rfl) (op_eqp_nil Tryz.underlying29 rfl (H213.ev rfl)) fun _ H215 => ?_
 refine V H215 (op_pick_f rfl (H215.ev rfl) (H215.ev rfl)) fun _ H217 => ?_
 refine Vm H217 fun _ H219 => ?_
 refine V2 H219 (want_yes H219 rfl rfl rfl rfl) (op_move rfl (H219.ev rfl)) fun _ H221 => ?_
 clear H209 H211 H213 H215 H217 H219
 refine gw_call H221 (want_yes H221 rfl rfl rfl rfl) rfl (by decide) (op_callL Tryz.func21 (by kernel_rfl) rfl rfl (ar_cons (H221.ev rfl) (ar_cons (ev_c _ _) ar_nil))) ((by have h_ := has_calls w.heap.size gd5 gj180 (⟨#[106]⟩ : ByteArray) SJ181 (([(3, [120]), (1, [])] : List PI).take q) ((recsJ (([(3, [120]), (1, [])] : List PI).take q)).length : Int) _ (O190.get 4 rfl) 3 (by decide); rw [show hasJ 3 (([(3, [120]), (1, [])] : List PI).take q) = true from (by rcases hTW with ⟨h_, _⟩ | ⟨h_, _⟩ <;> rw [h_] <;> rfl)] at h_; exact h_)) ?_
 rintro e222 w223 ⟨rfl, hb224⟩
 refine ⟨_, rfl, fun _ H226 => ?_⟩
 have O227 := O190.after hb224
 clear H221 O190 hb224
 refine V2 H226 (want_yes H226 rfl rfl rfl rfl) (op_not rfl (H226.ev rfl)) fun _ H230 => ?_
 refine V H230 (op_pick_f rfl (H230.ev rfl) (H230.ev rfl)) fun _ H232 => ?_
 refine Vm H232 fun _ H234 => ?_
 refine V2 H234 (want_yes H234 rfl rfl rfl rfl) (op_move rfl (H234.ev rfl)) fun _ H236 => ?_
 clear H226 H230 H232 H234
 refine gw_call H236 (want_yes H236 rfl rfl rfl rfl) rfl (by decide) (op_callL Tryz.func21 (by kernel_rfl) rfl rfl (ar_cons (H236.ev rfl) (ar_cons (ev_c _ _) ar_nil))) ((by have h_ := has_calls w.heap.size gd5 gj180 (⟨#[106]⟩ : ByteArray) SJ181 (([(3, [120]), (1, [])] : List PI).take q) ((recsJ (([(3, [120]), (1, [])] : List PI).take q)).length : Int) _ (O227.get 4 rfl) 1 (by decide); rw [show hasJ 1 (([(3, [120]), (1, [])] : List PI).take q) = false from (by rw [hq]; rfl)] at h_; exact h_)) ?_
 rintro e237 w238 ⟨rfl, hb239⟩
 refine ⟨_, rfl, fun _ H241 => ?_⟩
 have O242 := O227.after hb239
 clear H236 O227 hb239
 refine V H241 (op_pick_f rfl (H241.ev rfl) (H241.ev rfl)) fun _ H245 => ?_
 refine gE hK204 ?_
 clear H241
 refine gw_cond H245 rfl (fun hb246 => ?_) (fun hb246 => ?_)
 ·
  cases hb246
 refine gS hK203 ?_
 refine gR fun K247 hK247 => ?_
 refine Vm H245 fun _ H249 => ?_
 clear H245
 refine Wk H249 Tryz.func23 rfl (ar_cons (H249.ev rfl) (ar_cons (ev_c _ _) ar_nil)) ((by have h_ := get_calls w.heap.size gd5 gj180 (⟨#[106]⟩ : ByteArray) SJ181 (([(3, [120]), (1, [])] : List PI).take q) ((recsJ (([(3, [120]), (1, [])] : List PI).take q)).length : Int) _ (O242.get 4 rfl) 3 (by decide) (fun x_ hx_ => by have h_ := (hokT x_ hx_).2.1; omega); rw [show hasJ 3 (([(3, [120]), (1, [])] : List PI).take q) = true from (by rcases hTW with ⟨h_, _⟩ | ⟨h_, _⟩ <;> rw [h_] <;> rfl), show (getJ 3 (([(3, [120]), (1, [])] : List PI).take q)).getD [] = [120] from (by rcases hTW with ⟨h_, _⟩ | ⟨h_, _⟩ <;> rw [h_] <;> rfl)] at h_; exact h_)) ?_
 rintro e253 w254 ⟨A250, c251, S252, rfl, hb255⟩
 refine ⟨_, rfl, fun _ H257 => ?_⟩
 have O258 := O242.fresh hb255
 have hbel259 := O242.below
 clear H249 O242 hb255
 have O260 := O258.lowrow 0 rfl (base' := w.heap.size) (Below.size hbel259)
 refine Vm H257 fun _ H262 => ?_
 refine Vx H262 fun _ H264 => ?_
 refine Vx H264 fun _ H266 => ?_
 refine Va H266 fun _ H268 => ?_
 refine Va H268 fun _ H270 => ?_
 refine gE hK247 ?_
 refine gR fun K271 hK271 => ?_
 refine Vm H270 fun _ H273 => ?_
 refine Vm H273 fun _ H275 => ?_
 refine V2 H275 (want_yes H275 rfl rfl rfl rfl) (op_move rfl (H275.ev rfl)) fun _ H277 => ?_
 clear H257 H262 H264 H266 H268 H270 H273 H275
 refine V2 H277 (want_yes H277 rfl rfl rfl rfl) (op_conv_str Tryz.underlying22 Tryz.underlying5 Tryz.underlying9 (Kd.R_reads' (O260.get 0 rfl)).2.2 rfl (H277.ev rfl)) fun _ H279 => ?_
 refine V2 H279 (want_yes H279 rfl rfl rfl rfl) (op_eqs rfl (H279.ev rfl) (ev_c _ _)) fun _ H281 => ?_
 clear H277 H279
 have H282 := H281.lit (b := true) (by decide +kernel)
 clear H281
 refine V H282 (op_pick_t rfl (H282.ev rfl) (H282.ev rfl)) fun _ H284 => ?_
 refine Vm H284 fun _ H286 => ?_
 refine V2 H286 (want_yes H286 rfl rfl rfl rfl) (op_move rfl (H286.ev rfl)) fun _ H288 => ?_
 clear H282 H284 H286
 refine gw_call H288 (want_yes H288 rfl rfl rfl rfl) rfl (by decide) (op_callL Tryz.func24 (by kernel_rfl) rfl rfl (ar_cons (H288.ev rfl) ar_nil)) (keys_calls w.heap.size gd5 gj180 (⟨#[106]⟩ : ByteArray) SJ181 (([(3, [120]), (1, [])] : List PI).take q) ((recsJ (([(3, [120]), (1, [])] : List PI).take q)).length : Int) _ (by exact O260.get 5 rfl) (by rw [List.length_take]; show min q 2 ≤ 1000000; omega)) ?_
 rintro e295 w296 ⟨A289, c290, S291, ks292, hkr293, hkp294, rfl, hb297⟩
 refine ⟨_, rfl, fun _ H299 => ?_⟩
 have O300 := O260.fresh hb297
 have hbel301 := O260.below
 clear H288 O260 hb297
 have O302 := O300.lowrow 0 rfl (base' := w.heap.size) (Below.size hbel301)
 have hkl_ks292 := hkp294.length_eq
 rw [List.length_map] at hkl_ks292
 have KS := hkl_ks292
 refine V2 H299 (want_yes H299 rfl rfl rfl rfl) (op_len Tryz.underlying67 rfl (H299.ev rfl)) fun _ H304 => ?_
 refine V2 H304 (want_yes H304 rfl rfl rfl rfl) (op_eqi rfl (H304.ev rfl) (ev_c _ _)) fun _ H306 => ?_
 clear H299 H304
 have H307 := H306.lit (b := true) (by rw [decide_eq_true_eq, KS, hq]; rfl)
 clear H306
 refine V H307 (op_pick_t rfl (H307.ev rfl) (H307.ev rfl)) fun _ H309 => ?_
 refine Vm H309 fun _ H311 => ?_
 refine V2 H311 (want_yes H311 rfl rfl rfl rfl) (op_move rfl (H311.ev rfl)) fun _ H313 => ?_
 clear H307 H309 H311
 refine gw_call H313 (want_yes H313 rfl rfl rfl rfl) rfl (by decide) (op_callL Tryz.func25 (by kernel_rfl) rfl rfl (ar_cons (H313.ev rfl) ar_nil)) (size_calls w.heap.size gd5 gj180 (⟨#[106]⟩ : ByteArray) SJ181 (([(3, [120]), (1, [])] : List PI).take q) ((recsJ (([(3, [120]), (1, [])] : List PI).take q)).length : Int) _ (O302.get 6 rfl)) ?_
 rintro e314 w315 ⟨rfl, hb316⟩
 refine ⟨_, rfl, fun _ H318 => ?_⟩
 have O319 := O302.after hb316
 clear H313 O302 hb316
 refine V2 H318 (want_yes H318 rfl rfl rfl rfl) (op_eqi rfl (H318.ev rfl) (ev_c _ _)) fun _ H322 => ?_
 clear H318
 have H323 := H322.lit (b := true) (by rw [decide_eq_true_eq, hq, show (([(3, [120]), (1, [])] : List PI) : List PI).take 1 = [(3, [120])] from rfl, recs_one]; omega)
 clear H322
 refine V H323 (op_pick_t rfl (H323.ev rfl) (H323.ev rfl)) fun _ H325 => ?_
 refine Va H325 fun _ H327 => ?_
 refine gE hK271 ?_
 refine wp_ret ?_
 clear H323 H325
 refine gw_ret1 H327 rfl rfl ?_
 exact ⟨rfl, O319.below⟩
end GJAlive_
export GJAlive_ (alive_calls)
end
namespace GRj6_
theorem alike_calls (w0 w : World) (R : Chunk) (gd gj : Nat) (S SJ : Nat → Prop) (d : PD) (P Sm : Nat → Prop) (Am : Option Addr) (cm : Nat) (files : List S38) (Ai : Option Addr) (ci : Nat) (its : List S54) (hP : ∀ k, P k → k < w0.heap.size) (hw : wfD d) (hd : files.map ofS = d.fs) (hlf : files.length ≤ 1000000) (hil : its.length ≤ 1000000) (hok : ∀ x ∈ its.map toI, okI x) (hon : onceJ (its.map toI)) (hlen : d.fs.length ≤ 1000000) (hus : d.used ≤ 1000000) (hsz : (recsJ (its.map toI)).length ≤ 140737488355327) (HO : Own w0 w [R, Chunk.disk w0.heap.size gd S d, Chunk.jour w0.heap.size gd gj (⟨#[106]⟩ : ByteArray) SJ (its.map toI) ((recsJ (its.map toI)).length : Int), Chunk.rj w0 P Sm Am cm files Ai ci its]) :
    Calls Tryz.prog 13 #[.pointer (some ⟨gd, 0, none⟩), .pointer (some ⟨gj, 0, none⟩), .agg #[.slice Am files.length cm, .int .i64 d.most, .int .i64 d.fuse, .bool d.down, .string (⟨#[106]⟩ : ByteArray), .slice Ai its.length ci]] w fun e w' => e = .returned (.bool true) ∧ Own w0 w' [R, Chunk.disk w0.heap.size gd S d, Chunk.jour w0.heap.size gd gj (⟨#[106]⟩ : ByteArray) SJ (its.map toI) ((recsJ (its.map toI)).length : Int), Chunk.rj w0 P Sm Am cm files Ai ci its] := by
 have hFf := rj_F (i := 3) HO hP rfl
 have hFi := rj_FI (i := 3) HO hP rfl
 have hB0 := HO.below
 have hrj := HO.get 3 rfl
 replace HO : Own w0 w [R, Chunk.disk w0.heap.size gd S d, Chunk.jour w0.heap.size gd gj (⟨#[106]⟩ : ByteArray) SJ (its.map toI) ((recsJ (its.map toI)).length : Int), Chunk.rjAt Sm w] := HO.rj_pin 3 rfl
 refine gw_startO (N := 126) (vs := [.pointer (some ⟨gd, 0, none⟩), .pointer (some ⟨gj, 0, none⟩), .agg #[.slice Am files.length cm, J d.most, J d.fuse, .bool d.down, .string (⟨#[106]⟩ : ByteArray), .slice Ai its.length ci]]) Tryz.func13 rfl rfl (by simp) fun a HF => ?_
 refine gR fun K1 hK1 => ?_
 refine gw_new HF HO (want_none rfl) rfl (by decide) (op_box rfl (HF.ev rfl)) ?_
 intro g2 _ w4 H5 O6; clear HF HO
 have O7 : Own w0 w4 [Bk g2 [.slice Am files.length cm, J d.most, J d.fuse, .bool d.down, .string (⟨#[106]⟩ : ByteArray), .slice Ai its.length ci] 41, R, Chunk.disk w0.heap.size gd S d, Chunk.jour w0.heap.size gd gj (⟨#[106]⟩ : ByteArray) SJ (its.map toI) ((recsJ (its.map toI)).length : Int), Chunk.rjAt Sm w] := O6
 clear O6
 refine Vc H5 fun _ H9 => ?_
 refine gE hK1 ?_
 refine gw_seq fun K10 hK10 => ?_
 clear H5
 refine gx_draw (M := [Bk g2 [.slice Am files.length cm, J d.most, J d.fuse, .bool d.down, .string (⟨#[106]⟩ : ByteArray), .slice Ai its.length ci] 41, R, Chunk.disk w0.heap.size gd S d, Chunk.jour w0.heap.size gd gj (⟨#[106]⟩ : ByteArray) SJ (its.map toI) ((recsJ (its.map toI)).length : Int), Chunk.rjAt Sm w]) (fun j_ => false) O7 (by kernel_rfl) fun w11 O12 => ?_
 clear O7
 refine gx_take 0 rfl (by kernel_rfl) H9 (by exact O12.sel [0, 1, 2, 3, 4] (by decide)) (want_none rfl) rfl (by decide) (fun wq HO => (op_move rfl (H9.ev rfl))) ?_
 intro _ H14; clear H9
 refine gx_take 2 rfl (by kernel_rfl) H14 (by exact O12.sel [0, 1, 2, 3, 4] (by decide)) (want_none rfl) rfl (by decide) (fun wq HO => (op_field (gwfld41_2 _ _) rfl (H14.ev rfl))) ?_
 intro _ H16; clear H14
 refine gx_take 3 rfl (by kernel_rfl) H16 (by exact O12.sel [0, 1, 2, 3, 4] (by decide)) (want_none rfl) rfl (by decide) (fun wq HO => (op_load1 gwagg39 rfl (H16.ev rfl) (blk_at (HO.get 0 rfl) rfl))) ?_
 intro _ H18; clear H16
 refine gx_step 1 rfl (by kernel_rfl) ?_
 refine Wk H18 Tryz.func24 rfl (ar_cons (H18.ev rfl) ar_nil) (keys_calls w0.heap.size gd gj (⟨#[106]⟩ : ByteArray) SJ (its.map toI) ((recsJ (its.map toI)).length : Int) _ (by exact O12.get 3 rfl) (by rw [List.length_map]; omega)) ?_
 rintro e25 w26 ⟨A19, c20, S21, ks22, hkr23, hkp24, rfl, hb27⟩
 refine ⟨_, rfl, fun _ H29 => ?_⟩
 have O30 := O12.fresh hb27
 have hbel31 := O12.below
 clear H18 O12 hb27
 have O32 := O30.lowrow 0 rfl (base' := w0.heap.size) (Below.size hbel31)
 have hkl_ks22 := hkp24.length_eq
 rw [List.length_map] at hkl_ks22
 refine gx_on (i := 1) (B := (fun j_ => false)) (fun _ => (by exact O32.sel [1, 2, 3, 4, 5] (by decide))) ?_
 refine gx_step 4 rfl (by kernel_rfl) ?_
 refine Wk H29 Tryz.func41 rfl (ar_cons (H29.ev rfl) ar_nil) (keys_ref Ai ci its _ (Kd.F_now (pin_F (i := 5) hB0 O32 hP rfl hFi)) hrj.2.2.1 hil hok hon) ?_
 rintro e39 w40 ⟨A33, c34, S35, qs36, hqr37, hqp38, rfl, hb41⟩
 refine ⟨_, rfl, fun _ H43 => ?_⟩
 have O44 := O32.fresh hb41
 have hbel45 := O32.below
 clear H29 O32 hb41
 have O46 := O44.lowrow 0 rfl (base' := w0.heap.size) (Below.size hbel45)
 refine gx_on (i := 4) (B := (fun j_ => false)) (fun _ => (by exact O46.sel [2, 3, 4, 5, 6] (by decide))) ?_
 refine gx_take 5 rfl (by kernel_rfl) H43 (by exact O46.sel [2, 3, 4, 5, 6] (by decide)) (want_none rfl) rfl (by decide) (fun wq HO => (op_assign rfl (H43.ev rfl))) ?_
 intro _ H48; clear H43
 refine gx_take 6 rfl (by kernel_rfl) H48 (by exact O46.sel [2, 3, 4, 5, 6] (by decide)) (want_none rfl) rfl (by decide) (fun wq HO => (op_assign rfl (H48.ev rfl))) ?_
 intro _ H50; clear H48
 refine gx_done (by kernel_rfl) ?_
 have O51 := O46.row_view 1 rfl
 clear O46
 have O52 : Own w0 w40 [Chunk.row (Kd.int .i64) 2 w0.heap.size S35 (.slice A33 qs36.length c34) qs36, Chunk.view (Kd.int .i64) S21 A19 ks22.length c20 ks22, Bk g2 [.slice Am files.length cm, J d.most, J d.fuse, .bool d.down, .string (⟨#[106]⟩ : ByteArray), .slice Ai its.length ci] 41, R, Chunk.disk w0.heap.size gd S d, Chunk.jour w0.heap.size gd gj (⟨#[106]⟩ : ByteArray) SJ (its.map toI) ((recsJ (its.map toI)).length : Int), Chunk.rjAt Sm w] := O51
 clear O51
 have O53 := O52.row_view 0 rfl
 clear O52
 have O54 : Own w0 w40 [Chunk.view (Kd.int .i64) S35 A33 qs36.length c34 qs36, Chunk.view (Kd.int .i64) S21 A19 ks22.length c20 ks22, Bk g2 [.slice Am files.length cm, J d.most, J d.fuse, .bool d.down, .string (⟨#[106]⟩ : ByteArray), .slice Ai its.length ci] 41, R, Chunk.disk w0.heap.size gd S d, Chunk.jour w0.heap.size gd gj (⟨#[106]⟩ : ByteArray) SJ (its.map toI) ((recsJ (its.map toI)).length : Int), Chunk.rjAt Sm w] := O53
 clear O53
 have hqs : qs36 = ks22 := keys_same hqr37 hqp38 hkr23 hkp24
 have hkok : ∀ k_ ∈ ks22, 0 ≤ k_ ∧ k_ ≤ 1099511627776 := fun k_ hk_ => key_ok hok hkp24 hk_
 have hkha : ∀ k_ ∈ ks22, hasJ k_ (its.map toI) = true := fun k_ hk_ => key_has hkp24 hk_
 have hkl : ks22.length = its.length := by have h_ := hkp24.length_eq; rw [List.length_map, List.length_map] at h_; exact h_
 have hql : qs36.length = ks22.length := by rw [hqs]
 refine gw_nx (hK10 _ _ ?_)
 refine gw_seq fun K55 hK55 => ?_
 refine gw_seq fun K56 hK56 => ?_
 refine gw_drawB O54 (by kernel_rfl) (by kernel_rfl) fun w57 O58 => ?_
 clear O54
 refine Vn H50 (op_move rfl (H50.ev rfl)) fun _ H60 => ?_
 refine Vn H60 (op_len Tryz.underlying67 rfl (H60.ev rfl)) fun _ H62 => ?_
 refine Vn H62 (op_move rfl (H62.ev rfl)) fun _ H64 => ?_
 refine Vn H64 (op_len Tryz.underlying67 rfl (H64.ev rfl)) fun _ H66 => ?_
 refine Vn H66 (op_nei rfl (H66.ev rfl) (H66.ev rfl)) fun _ H68 => ?_
 clear H50 H60 H62 H64 H66
 have H69 := H68.lit (b := false) (by rw [decide_eq_false_iff_not, hql]; simp)
 clear H68
 refine Vn H69 (op_move rfl (H69.ev rfl)) fun _ H71 => ?_
 refine gq_ev H71 (want_yes H71 rfl rfl rfl rfl) rfl (by decide) (fun wq hq => have HO := O58.after hq; (op_move rfl (H71.ev rfl))) fun _ H73 => ?_
 clear H69 H71
 refine gq_call H73 (want_yes H73 rfl rfl rfl rfl) rfl (by decide) (fun wq hq => have HO := O58.after hq; (op_callL Tryz.func25 (by kernel_rfl) rfl rfl (ar_cons (H73.ev rfl) ar_nil))) (fun wq hq => have HO := O58.after hq; (size_calls w0.heap.size gd gj (⟨#[106]⟩ : ByteArray) SJ (its.map toI) ((recsJ (its.map toI)).length : Int) _ (HO.get 5 rfl)).mono fun e w' h => ⟨h.1, below_then hq h.2⟩) ?_
 intro _ H75; clear H73
 refine gq_ev H75 (want_yes H75 rfl rfl rfl rfl) rfl (by decide) (fun wq hq => have HO := O58.after hq; (op_field (gwfld41_2 _ _) rfl (H75.ev rfl))) fun _ H77 => ?_
 refine gq_ev H77 (want_yes H77 rfl rfl rfl rfl) rfl (by decide) (fun wq hq => have HO := O58.after hq; (op_load1 gwagg39 rfl (H77.ev rfl) (blk_at (HO.get 2 rfl) rfl))) fun _ H79 => ?_
 clear H75 H77
 refine gq_call H79 (want_yes H79 rfl rfl rfl rfl) rfl (by decide) (fun wq hq => have HO := O58.after hq; (op_callL Tryz.func40 (by kernel_rfl) rfl rfl (ar_cons (H79.ev rfl) ar_nil))) (fun wq hq => have HO := O58.after hq; (size_ref Ai ci its  _ (Kd.F_now (pin_F (i := 6) hB0 HO hP rfl hFi)) hrj.2.2.1 hil hok hsz).mono fun e w' h => ⟨h.1, below_then hq h.2⟩) ?_
 intro _ H81; clear H79
 refine gq_ev H81 (want_yes H81 rfl rfl rfl rfl) rfl (by decide) (fun wq hq => have HO := O58.after hq; (op_nei rfl (H81.ev rfl) (H81.ev rfl))) fun _ H83 => ?_
 clear H81
 have H84 := H83.lit (b := false) (by simp)
 clear H83
 refine Vn H84 (op_pick_f rfl (H84.ev rfl) (H84.ev rfl)) fun _ H86 => ?_
 refine Vn H86 (op_move rfl (H86.ev rfl)) fun _ H88 => ?_
 refine gq_ev H88 (want_yes H88 rfl rfl rfl rfl) rfl (by decide) (fun wq hq => have HO := O58.after hq; (op_move rfl (H88.ev rfl))) fun _ H90 => ?_
 clear H84 H86 H88
 refine gq_call H90 (want_yes H90 rfl rfl rfl rfl) rfl (by decide) (fun wq hq => have HO := O58.after hq; (op_callL Tryz.func42 (by kernel_rfl) rfl rfl (ar_cons (H90.ev rfl) ar_nil))) (fun wq hq => have HO := O58.after hq; (down_calls w0.heap.size gd S d _ (HO.get 4 rfl)).mono fun e w' h => ⟨h.1, below_then hq h.2⟩) ?_
 intro _ H92; clear H90
 refine gq_ev H92 (want_yes H92 rfl rfl rfl rfl) rfl (by decide) (fun wq hq => have HO := O58.after hq; (op_field (gwfld41_0 _ _) rfl (H92.ev rfl))) fun _ H94 => ?_
 refine gq_ev H94 (want_yes H94 rfl rfl rfl rfl) rfl (by decide) (fun wq hq => have HO := O58.after hq; (op_field (gwfld34_3 _ _) rfl (H94.ev rfl))) fun _ H96 => ?_
 refine gq_ev H96 (want_yes H96 rfl rfl rfl rfl) rfl (by decide) (fun wq hq => have HO := O58.after hq; (op_load1 gwagg4 rfl (H96.ev rfl) (blk_at (HO.get 2 rfl) rfl))) fun _ H98 => ?_
 refine gq_ev H98 (want_yes H98 rfl rfl rfl rfl) rfl (by decide) (fun wq hq => have HO := O58.after hq; (op_neb Tryz.underlying4 rfl (H98.ev rfl) (H98.ev rfl))) fun _ H100 => ?_
 clear H92 H94 H96 H98
 have H101 := H100.lit (b := false) (by simp)
 clear H100
 refine Vn H101 (op_pick_f rfl (H101.ev rfl) (H101.ev rfl)) fun _ H103 => ?_
 clear H101
 refine wpQuiet_nil ?_
 intro w104 hq
 have O105 := O58.after hq
 clear O58 hq
 refine gw_nx (hK56 _ _ ?_)
 refine gw_cond H103 rfl (fun hb106 => ?_) (fun hb106 => ?_)
 ·
  cases hb106
 refine gS hK55 ?_
 refine gw_seq fun K107 hK107 => ?_
 refine gR fun K108 hK108 => ?_
 refine Vm H103 fun _ H110 => ?_
 refine V H110 (op_len Tryz.underlying67 rfl (H110.ev rfl)) fun _ H112 => ?_
 refine V H112 (op_move rfl (ev_c _ _)) fun _ H114 => ?_
 refine gE hK108 ?_
 clear H103 H110 H112
 refine wp_block ?_
 refine gw_loop (fun m_ a_ w_ => ∃ (p : Int), Fr 126 a_ [(47, J p), (0, .pointer (some ⟨gd, 0, none⟩)), (1, .pointer (some ⟨gj, 0, none⟩)), (5, .pointer (some ⟨g2, 0, none⟩)), (7, .slice A19 ks22.length c20), (8, .slice A33 qs36.length c34), (46, J (ks22.length : Int))] ∧ Own w0 w_ [Chunk.view (Kd.int .i64) S35 A33 qs36.length c34 qs36, Chunk.view (Kd.int .i64) S21 A19 ks22.length c20 ks22, Bk g2 [.slice Am files.length cm, J d.most, J d.fuse, .bool d.down, .string (⟨#[106]⟩ : ByteArray), .slice Ai its.length ci] 41, R, Chunk.disk w0.heap.size gd S d, Chunk.jour w0.heap.size gd gj (⟨#[106]⟩ : ByteArray) SJ (its.map toI) ((recsJ (its.map toI)).length : Int), Chunk.rjAt Sm w] ∧ (0 ≤ p ∧ p ≤ ks22.length) ∧ m_ = (ks22.length - p.toNat)) ((ks22.length - (0 : Int).toNat)) ?_ ?_
 ·
  refine ⟨0, (H114.pick (t := 47) rfl (H114.pick (t := 0) rfl (H114.pick (t := 1) rfl (H114.pick (t := 5) rfl (H114.pick (t := 7) rfl (H114.pick (t := 8) rfl (H114.pick (t := 46) rfl H114.nil))))))), O105.sel [0, 1, 2, 3, 4, 5, 6] (by decide), ?_, rfl⟩
  omega
 rintro m116 _ w118 ⟨p, H119, O120, hp, hm121⟩
 refine gR fun K122 hK122 => ?_
 refine V H119 (op_lss rfl (H119.ev rfl) (H119.ev rfl)) fun _ H124 => ?_
 refine gE hK122 ?_
 refine gw_seq fun K125 hK125 => ?_
 clear H119
 refine gw_cond H124 rfl (fun hb126 => ?_) (fun hb126 => ?_)
 ·
  have H127 := H124.subst_ (d := 48) (b := true) rfl hb126
  clear H124
  (try simp only [decide_eq_true_eq] at hb126)
  have hKm := getD_mem (z := (0 : Int)) ks22 p.toNat (by omega)
  have hK := hkok _ hKm
  have hhas := hkha _ hKm
  have hKl := key_len hok (ks22.getD p.toNat (0 : Int))
  refine gS hK125 ?_
  refine gw_seq fun K128 hK128 => ?_
  refine wp_block ?_
  refine gR fun K129 hK129 => ?_
  refine Vm H127 fun _ H131 => ?_
  refine Va H131 fun _ H133 => ?_
  refine gE hK129 ?_
  refine gR fun K134 hK134 => ?_
  refine Vm H133 fun _ H136 => ?_
  refine Vm H136 fun _ H138 => ?_
  refine Vm H138 fun _ H140 => ?_
  clear H127 H131 H133 H136 H138
  have O147 := O120.pin 1 rfl
  clear O120
  have O148 : Own w0 w118 [Chunk.view (Kd.int .i64) S35 A33 qs36.length c34 qs36, Chunk.viewAt w118 (Kd.int .i64) S21 A19 ks22.length c20 ks22, Bk g2 [.slice Am files.length cm, J d.most, J d.fuse, .bool d.down, .string (⟨#[106]⟩ : ByteArray), .slice Ai its.length ci] 41, R, Chunk.disk w0.heap.size gd S d, Chunk.jour w0.heap.size gd gj (⟨#[106]⟩ : ByteArray) SJ (its.map toI) ((recsJ (its.map toI)).length : Int), Chunk.rjAt Sm w] := O147
  clear O147
  obtain ⟨ad141, cs144, hA142, hl145, hK146, hc143, _⟩ := Kd.F_get (viewAt_F (O148.get 1 rfl)) (0 : Int) p (by omega) (by omega)
  obtain rfl := int_openF hK146
  clear hl145
  refine V H140 (op_index Tryz.underlying67 gwsiz2 rfl (H140.ev rfl) (H140.ev rfl) hA142 (⟨by omega, by omega⟩)) fun _ H150 => ?_
  refine V H150 (op_load1 gwagg2 rfl (H150.ev rfl) (((pin_cells (O148.get 1 rfl) hA142 hc143) 0 _ rfl))) fun _ H152 => ?_
  clear H140 H150
  refine Wk H152 Tryz.func23 rfl (ar_cons (H152.ev rfl) (ar_cons (H152.ev rfl) ar_nil)) (get_calls w0.heap.size gd gj (⟨#[106]⟩ : ByteArray) SJ (its.map toI) ((recsJ (its.map toI)).length : Int) _ (O148.get 5 rfl) (ks22.getD p.toNat (0 : Int)) (wf_i64 (by omega)) (fun x_ hx_ => Nat.le_trans (hok x_ hx_).2.1 (by decide))) ?_
  rintro e156 w157 ⟨A153, c154, S155, rfl, hb158⟩
  refine ⟨_, rfl, fun _ H160 => ?_⟩
  have O161 := O148.fresh hb158
  have hbel162 := O148.below
  clear H152 O148 hb158
  have O163 := O161.lowrow 0 rfl (base' := w0.heap.size) (Below.size hbel162)
  refine Vm H160 fun _ H165 => ?_
  refine Vx H165 fun _ H167 => ?_
  refine Vx H167 fun _ H169 => ?_
  refine Va H169 fun _ H171 => ?_
  refine Va H171 fun _ H173 => ?_
  refine gE hK134 ?_
  refine gw_seq fun K174 hK174 => ?_
  clear H160 H165 H167 H169 H171
  have O175 := O163.pin 1 rfl
  clear O163
  have O176 : Own w0 w157 [Chunk.row (Kd.int .u8) 5 w0.heap.size S155 (.slice A153 (((getJ (ks22.getD p.toNat (0 : Int)) (its.map toI)).getD []).length) c154) ((getJ (ks22.getD p.toNat (0 : Int)) (its.map toI)).getD []), Chunk.viewAt w157 (Kd.int .i64) S35 A33 qs36.length c34 qs36, Chunk.viewAt w118 (Kd.int .i64) S21 A19 ks22.length c20 ks22, Bk g2 [.slice Am files.length cm, J d.most, J d.fuse, .bool d.down, .string (⟨#[106]⟩ : ByteArray), .slice Ai its.length ci] 41, R, Chunk.disk w0.heap.size gd S d, Chunk.jour w0.heap.size gd gj (⟨#[106]⟩ : ByteArray) SJ (its.map toI) ((recsJ (its.map toI)).length : Int), Chunk.rjAt Sm w] := O175
  clear O175
  refine gx_draw (M := [Chunk.row (Kd.int .u8) 5 w0.heap.size S155 (.slice A153 (((getJ (ks22.getD p.toNat (0 : Int)) (its.map toI)).getD []).length) c154) ((getJ (ks22.getD p.toNat (0 : Int)) (its.map toI)).getD []), Chunk.viewAt w157 (Kd.int .i64) S35 A33 qs36.length c34 qs36, Chunk.viewAt w118 (Kd.int .i64) S21 A19 ks22.length c20 ks22, Bk g2 [.slice Am files.length cm, J d.most, J d.fuse, .bool d.down, .string (⟨#[106]⟩ : ByteArray), .slice Ai its.length ci] 41, R, Chunk.disk w0.heap.size gd S d, Chunk.jour w0.heap.size gd gj (⟨#[106]⟩ : ByteArray) SJ (its.map toI) ((recsJ (its.map toI)).length : Int), Chunk.rjAt Sm w]) (fun j_ => false) O176 (by kernel_rfl) fun w177 O178 => ?_
  clear O176
  refine gx_take 0 rfl (by kernel_rfl) H173 (by exact O178.sel [0, 1, 2, 3, 4, 5, 6, 7] (by decide)) (want_none rfl) rfl (by decide) (fun wq HO => (op_field (gwfld41_2 _ _) rfl (H173.ev rfl))) ?_
  intro _ H180; clear H173
  refine gx_take 1 rfl (by kernel_rfl) H180 (by exact O178.sel [0, 1, 2, 3, 4, 5, 6, 7] (by decide)) (want_none rfl) rfl (by decide) (fun wq HO => (op_load1 gwagg39 rfl (H180.ev rfl) (blk_at (HO.get 3 rfl) rfl))) ?_
  intro _ H182; clear H180
  refine gx_take 2 rfl (by kernel_rfl) H182 (by exact O178.sel [0, 1, 2, 3, 4, 5, 6, 7] (by decide)) (want_none rfl) rfl (by decide) (fun wq HO => (op_move rfl (H182.ev rfl))) ?_
  intro _ H184; clear H182
  refine gx_take 3 rfl (by kernel_rfl) H184 (by exact O178.sel [0, 1, 2, 3, 4, 5, 6, 7] (by decide)) (want_none rfl) rfl (by decide) (fun wq HO => (op_move rfl (H184.ev rfl))) ?_
  intro _ H186; clear H184
  obtain ⟨ad187, cs190, hA188, hl191, hK192, hc189, _⟩ := Kd.F_get (viewAt_F (O178.get 1 rfl)) (0 : Int) p (by omega) (by omega)
  obtain rfl := int_openF hK192
  clear hl191
  refine gx_take 4 rfl (by kernel_rfl) H186 (by exact O178.sel [0, 1, 2, 3, 4, 5, 6, 7] (by decide)) (want_none rfl) rfl (by decide) (fun wq HO => (op_index Tryz.underlying67 gwsiz2 rfl (H186.ev rfl) (H186.ev rfl) hA188 (⟨by omega, by omega⟩))) ?_
  intro _ H194; clear H186
  refine gx_take 5 rfl (by kernel_rfl) H194 (by exact O178.sel [0, 1, 2, 3, 4, 5, 6, 7] (by decide)) (want_none rfl) rfl (by decide) (fun wq HO => (op_load1 gwagg2 rfl (H194.ev rfl) (((pin_cells (HO.get 1 rfl) hA188 hc189) 0 _ rfl)))) ?_
  intro _ H196; clear H194
  have H197 := H196.conv (v' := J (ks22.getD p.toNat (0 : Int))) (congrArg (Value.int .i64) (by rw [hqs]))
  clear H196
  refine gx_step 6 rfl (by kernel_rfl) ?_
  refine Wk H197 Tryz.func43 rfl (ar_cons (H197.ev rfl) (ar_cons (H197.ev rfl) ar_nil)) (get_pin Ai ci its (ks22.getD p.toNat (0 : Int)) 7 hB0 hP O178 rfl hFi hrj.2.2.1 hil) ?_
  rintro e202 w203 ⟨A198, c199, rfl, hC200, hc201, hb204⟩
  refine ⟨_, rfl, fun _ H206 => ?_⟩
  have O207 := O178.after hb204
  clear H197 O178 hb204
  refine gx_on (i := 6) (B := (fun j_ => false)) (fun _ => (by exact O207.sel [0, 1, 2, 3, 4, 5, 6, 7] (by decide))) ?_
  refine gx_take 7 rfl (by kernel_rfl) H206 (by exact O207.sel [0, 1, 2, 3, 4, 5, 6, 7] (by decide)) (want_none rfl) rfl (by decide) (fun wq HO => (op_move rfl (H206.ev rfl))) ?_
  intro _ H210; clear H206
  refine gx_take 8 rfl (by kernel_rfl) H210 (by exact O207.sel [0, 1, 2, 3, 4, 5, 6, 7] (by decide)) (want_none rfl) rfl (by decide) (fun wq HO => (op_extract rfl (H210.ev rfl) rfl)) ?_
  intro _ H212; clear H210
  refine gx_take 9 rfl (by kernel_rfl) H212 (by exact O207.sel [0, 1, 2, 3, 4, 5, 6, 7] (by decide)) (want_none rfl) rfl (by decide) (fun wq HO => (op_extract rfl (H212.ev rfl) rfl)) ?_
  intro _ H214; clear H212
  refine gx_take 10 rfl (by kernel_rfl) H214 (by exact O207.sel [0, 1, 2, 3, 4, 5, 6, 7] (by decide)) (want_none rfl) rfl (by decide) (fun wq HO => (op_assign rfl (H214.ev rfl))) ?_
  intro _ H216; clear H214
  refine gx_take 11 rfl (by kernel_rfl) H216 (by exact O207.sel [0, 1, 2, 3, 4, 5, 6, 7] (by decide)) (want_none rfl) rfl (by decide) (fun wq HO => (op_assign rfl (H216.ev rfl))) ?_
  intro _ H218; clear H216
  refine gx_done (by kernel_rfl) ?_
  refine gw_nx (hK174 _ _ ?_)
  refine gw_seq fun K219 hK219 => ?_
  refine gw_seq fun K220 hK220 => ?_
  refine gw_drawB O207 (by kernel_rfl) (by kernel_rfl) fun w221 O222 => ?_
  clear O207
  refine Vn H218 (op_move rfl (H218.ev rfl)) fun _ H224 => ?_
  refine Vn H224 (op_move rfl (H224.ev rfl)) fun _ H226 => ?_
  clear H218 H224
  obtain ⟨ad227, cs230, hA228, hl231, hK232, hc229, _⟩ := Kd.F_get (viewAt_F (O222.get 2 rfl)) (0 : Int) p (by omega) (by omega)
  obtain rfl := int_openF hK232
  clear hl231
  refine Vn H226 (op_index Tryz.underlying67 gwsiz2 rfl (H226.ev rfl) (H226.ev rfl) hA228 (⟨by omega, by omega⟩)) fun _ H234 => ?_
  refine Vq H234 (fun wq hq => have HO := O222.after hq; op_load1 gwagg2 rfl (H234.ev rfl) (((pin_cells (HO.get 2 rfl) hA228 hc229) 0 _ rfl))) fun _ H236 => ?_
  refine Vn H236 (op_move rfl (H236.ev rfl)) fun _ H238 => ?_
  refine Vn H238 (op_move rfl (H238.ev rfl)) fun _ H240 => ?_
  clear H226 H234 H236 H238
  obtain ⟨ad241, cs244, hA242, hl245, hK246, hc243, _⟩ := Kd.F_get (viewAt_F (O222.get 1 rfl)) (0 : Int) p (by omega) (by omega)
  obtain rfl := int_openF hK246
  clear hl245
  refine Vn H240 (op_index Tryz.underlying67 gwsiz2 rfl (H240.ev rfl) (H240.ev rfl) hA242 (⟨by omega, by omega⟩)) fun _ H248 => ?_
  refine Vq H248 (fun wq hq => have HO := O222.after hq; op_load1 gwagg2 rfl (H248.ev rfl) (((pin_cells (HO.get 1 rfl) hA242 hc243) 0 _ rfl))) fun _ H250 => ?_
  clear H240 H248
  have H251 := H250.conv (v' := J (ks22.getD p.toNat (0 : Int))) (congrArg (Value.int .i64) (by rw [hqs]))
  clear H250
  refine Vn H251 (op_nei rfl (H251.ev rfl) (H251.ev rfl)) fun _ H253 => ?_
  clear H251
  have H254 := H253.lit (b := false) (by simp)
  clear H253
  refine Vn H254 (op_move rfl (H254.ev rfl)) fun _ H256 => ?_
  refine gq_ev H256 (want_yes H256 rfl rfl rfl rfl) rfl (by decide) (fun wq hq => have HO := O222.after hq; (op_move rfl (H256.ev rfl))) fun _ H258 => ?_
  refine gq_ev H258 (want_yes H258 rfl rfl rfl rfl) rfl (by decide) (fun wq hq => have HO := O222.after hq; (op_not rfl (H258.ev rfl))) fun _ H260 => ?_
  clear H254 H256 H258
  have H261 := H260.lit (b := false) (by rw [hhas]; rfl)
  clear H260
  refine Vn H261 (op_pick_f rfl (H261.ev rfl) (H261.ev rfl)) fun _ H263 => ?_
  refine Vn H263 (op_move rfl (H263.ev rfl)) fun _ H265 => ?_
  refine gq_ev H265 (want_yes H265 rfl rfl rfl rfl) rfl (by decide) (fun wq hq => have HO := O222.after hq; (op_move rfl (H265.ev rfl))) fun _ H267 => ?_
  refine gq_ev H267 (want_yes H267 rfl rfl rfl rfl) rfl (by decide) (fun wq hq => have HO := O222.after hq; (op_move rfl (H267.ev rfl))) fun _ H269 => ?_
  refine gq_ev H269 (want_yes H269 rfl rfl rfl rfl) rfl (by decide) (fun wq hq => have HO := O222.after hq; (op_move rfl (H269.ev rfl))) fun _ H271 => ?_
  clear H261 H263 H265 H267 H269
  obtain ⟨ad272, cs275, hA273, hl276, hK277, hc274, _⟩ := Kd.F_get (viewAt_F (O222.get 2 rfl)) (0 : Int) p (by omega) (by omega)
  obtain rfl := int_openF hK277
  clear hl276
  refine gq_ev H271 (want_yes H271 rfl rfl rfl rfl) rfl (by decide) (fun wq hq => have HO := O222.after hq; (op_index Tryz.underlying67 gwsiz2 rfl (H271.ev rfl) (H271.ev rfl) hA273 (⟨by omega, by omega⟩))) fun _ H279 => ?_
  refine gq_ev H279 (want_yes H279 rfl rfl rfl rfl) rfl (by decide) (fun wq hq => have HO := O222.after hq; (op_load1 gwagg2 rfl (H279.ev rfl) (((pin_cells (HO.get 2 rfl) hA273 hc274) 0 _ rfl)))) fun _ H281 => ?_
  clear H271 H279
  refine gq_call H281 (want_yes H281 rfl rfl rfl rfl) rfl (by decide) (fun wq hq => have HO := O222.after hq; (op_callL Tryz.func21 (by kernel_rfl) rfl rfl (ar_cons (H281.ev rfl) (ar_cons (H281.ev rfl) ar_nil)))) (fun wq hq => have HO := O222.after hq; (has_calls w0.heap.size gd gj (⟨#[106]⟩ : ByteArray) SJ (its.map toI) ((recsJ (its.map toI)).length : Int) _ (HO.get 6 rfl) (ks22.getD p.toNat (0 : Int)) (wf_i64 (by omega))).mono fun e w' h => ⟨h.1, below_then hq h.2⟩) ?_
  intro _ H283; clear H281
  refine gq_ev H283 (want_yes H283 rfl rfl rfl rfl) rfl (by decide) (fun wq hq => have HO := O222.after hq; (op_not rfl (H283.ev rfl))) fun _ H285 => ?_
  clear H283
  have H286 := H285.lit (b := false) (by rw [hhas]; rfl)
  clear H285
  refine Vn H286 (op_pick_f rfl (H286.ev rfl) (H286.ev rfl)) fun _ H288 => ?_
  refine Vn H288 (op_move rfl (H288.ev rfl)) fun _ H290 => ?_
  refine gq_ev H290 (want_yes H290 rfl rfl rfl rfl) rfl (by decide) (fun wq hq => have HO := O222.after hq; (op_move rfl (H290.ev rfl))) fun _ H292 => ?_
  refine gq_ev H292 (want_yes H292 rfl rfl rfl rfl) rfl (by decide) (fun wq hq => have HO := O222.after hq; (op_move rfl (H292.ev rfl))) fun _ H294 => ?_
  clear H286 H288 H290 H292
  refine gq_call H294 (want_yes H294 rfl rfl rfl rfl) rfl (by decide) (fun wq hq => have HO := O222.after hq; (op_callL Tryz.func44 (by kernel_rfl) rfl rfl (ar_cons (H294.ev rfl) (ar_cons (H294.ev rfl) ar_nil)))) (fun wq hq => have HO := O222.after hq; (same_calls A153 c154 ((getJ (ks22.getD p.toNat (0 : Int)) (its.map toI)).getD []) A198 c199 ((getJ (ks22.getD p.toNat (0 : Int)) (its.map toI)).getD []) _ (Kd.R_reads' (HO.get 0 rfl)).2.2 (row_cap (HO.get 0 rfl)) (Kd.F_now (pin_F (i := 7) hB0 HO hP rfl hC200)) hc201 (by first | omega | (have h1_ := readlen hw (⟨#[106]⟩ : ByteArray); omega))).mono fun e w' h => ⟨h.1, below_then hq h.2⟩) ?_
  intro _ H296; clear H294
  have H297 := H296.lit (b := true) (by simp)
  clear H296
  refine gq_ev H297 (want_yes H297 rfl rfl rfl rfl) rfl (by decide) (fun wq hq => have HO := O222.after hq; (op_not rfl (H297.ev rfl))) fun _ H299 => ?_
  refine Vn H299 (op_pick_f rfl (H299.ev rfl) (H299.ev rfl)) fun _ H301 => ?_
  clear H297 H299
  refine wpQuiet_nil ?_
  intro w302 hq
  have O303 := O222.after hq
  clear O222 hq
  refine gw_nx (hK220 _ _ ?_)
  refine gw_cond H301 rfl (fun hb304 => ?_) (fun hb304 => ?_)
  ·
   cases hb304
  refine gS hK219 ?_
  refine gR fun K305 hK305 => ?_
  refine Vm H301 fun _ H307 => ?_
  refine V H307 (op_len Tryz.underlying22 rfl (H307.ev rfl)) fun _ H309 => ?_
  refine V H309 (op_move rfl (ev_c _ _)) fun _ H311 => ?_
  refine gE hK305 ?_
  clear H301 H307 H309
  refine wp_block ?_
  have O312 := O303.unpin 1 rfl
  clear O303
  have O313 : Own w0 w302 [Chunk.row (Kd.int .u8) 5 w0.heap.size S155 (.slice A153 (((getJ (ks22.getD p.toNat (0 : Int)) (its.map toI)).getD []).length) c154) ((getJ (ks22.getD p.toNat (0 : Int)) (its.map toI)).getD []), Chunk.view (Kd.int .i64) S35 A33 qs36.length c34 qs36, Chunk.viewAt w118 (Kd.int .i64) S21 A19 ks22.length c20 ks22, Bk g2 [.slice Am files.length cm, J d.most, J d.fuse, .bool d.down, .string (⟨#[106]⟩ : ByteArray), .slice Ai its.length ci] 41, R, Chunk.disk w0.heap.size gd S d, Chunk.jour w0.heap.size gd gj (⟨#[106]⟩ : ByteArray) SJ (its.map toI) ((recsJ (its.map toI)).length : Int), Chunk.rjAt Sm w] := O312
  clear O312
  have O314 := O313.unpin 2 rfl
  clear O313
  have O315 : Own w0 w302 [Chunk.row (Kd.int .u8) 5 w0.heap.size S155 (.slice A153 (((getJ (ks22.getD p.toNat (0 : Int)) (its.map toI)).getD []).length) c154) ((getJ (ks22.getD p.toNat (0 : Int)) (its.map toI)).getD []), Chunk.view (Kd.int .i64) S35 A33 qs36.length c34 qs36, Chunk.view (Kd.int .i64) S21 A19 ks22.length c20 ks22, Bk g2 [.slice Am files.length cm, J d.most, J d.fuse, .bool d.down, .string (⟨#[106]⟩ : ByteArray), .slice Ai its.length ci] 41, R, Chunk.disk w0.heap.size gd S d, Chunk.jour w0.heap.size gd gj (⟨#[106]⟩ : ByteArray) SJ (its.map toI) ((recsJ (its.map toI)).length : Int), Chunk.rjAt Sm w] := O314
  clear O314
  refine gw_loop (fun m_ a_ w_ => ∃ (p317 : Int) (X316 : List Int), Fr 126 a_ [(99, J p317), (47, J p), (0, .pointer (some ⟨gd, 0, none⟩)), (1, .pointer (some ⟨gj, 0, none⟩)), (5, .pointer (some ⟨g2, 0, none⟩)), (7, .slice A19 ks22.length c20), (8, .slice A33 qs36.length c34), (46, J (ks22.length : Int)), (48, .bool true), (49, J p), (9, J p), (51, .pointer (some ⟨gj, 0, none⟩)), (52, .slice A19 ks22.length c20), (53, J p), (54, .pointer (some (ad141.add (p.toNat * 1)))), (55, J (ks22.getD p.toNat (0 : Int))), (56, .tuple #[.slice A153 (((getJ (ks22.getD p.toNat (0 : Int)) (its.map toI)).getD []).length) c154, .bool (hasJ (ks22.getD p.toNat (0 : Int)) (its.map toI))]), (50, .tuple #[.slice A153 (((getJ (ks22.getD p.toNat (0 : Int)) (its.map toI)).getD []).length) c154, .bool (hasJ (ks22.getD p.toNat (0 : Int)) (its.map toI))]), (57, .slice A153 (((getJ (ks22.getD p.toNat (0 : Int)) (its.map toI)).getD []).length) c154), (58, .bool (hasJ (ks22.getD p.toNat (0 : Int)) (its.map toI))), (10, .slice A153 (((getJ (ks22.getD p.toNat (0 : Int)) (its.map toI)).getD []).length) c154), (11, .bool (hasJ (ks22.getD p.toNat (0 : Int)) (its.map toI))), (60, .pointer (some ⟨g2, 5, none⟩)), (61, .slice Ai its.length ci), (62, .slice A33 qs36.length c34), (63, J p), (64, .pointer (some (ad187.add (p.toNat * 1)))), (65, J (ks22.getD p.toNat (0 : Int))), (66, .tuple #[.slice A198 (((getJ (ks22.getD p.toNat (0 : Int)) (its.map toI)).getD []).length) c199, .bool (hasJ (ks22.getD p.toNat (0 : Int)) (its.map toI))]), (59, .tuple #[.slice A198 (((getJ (ks22.getD p.toNat (0 : Int)) (its.map toI)).getD []).length) c199, .bool (hasJ (ks22.getD p.toNat (0 : Int)) (its.map toI))]), (67, .slice A198 (((getJ (ks22.getD p.toNat (0 : Int)) (its.map toI)).getD []).length) c199), (68, .bool (hasJ (ks22.getD p.toNat (0 : Int)) (its.map toI))), (12, .slice A198 (((getJ (ks22.getD p.toNat (0 : Int)) (its.map toI)).getD []).length) c199), (69, .slice A19 ks22.length c20), (70, J p), (71, .pointer (some (ad227.add (p.toNat * 1)))), (72, J (ks22.getD p.toNat (0 : Int))), (73, .slice A33 qs36.length c34), (74, J p), (75, .pointer (some (ad241.add (p.toNat * 1)))), (76, J (ks22.getD p.toNat (0 : Int))), (77, .bool false), (78, .bool false), (79, .bool (hasJ (ks22.getD p.toNat (0 : Int)) (its.map toI))), (80, .bool false), (81, .bool false), (82, .bool false), (83, .pointer (some ⟨gj, 0, none⟩)), (84, .slice A19 ks22.length c20), (85, J p), (86, .pointer (some (ad272.add (p.toNat * 1)))), (87, J (ks22.getD p.toNat (0 : Int))), (88, .bool (hasJ (ks22.getD p.toNat (0 : Int)) (its.map toI))), (89, .bool false), (90, .bool false), (91, .bool false), (92, .slice A153 (((getJ (ks22.getD p.toNat (0 : Int)) (its.map toI)).getD []).length) c154), (93, .slice A198 (((getJ (ks22.getD p.toNat (0 : Int)) (its.map toI)).getD []).length) c199), (94, .bool true), (95, .bool false), (96, .bool false), (97, .slice A153 (((getJ (ks22.getD p.toNat (0 : Int)) (its.map toI)).getD []).length) c154), (98, J ((((getJ (ks22.getD p.toNat (0 : Int)) (its.map toI)).getD []).length) : Int))] ∧ Own w0 w_ [Chunk.row (Kd.int .u8) 5 w0.heap.size S155 (.slice A153 (((getJ (ks22.getD p.toNat (0 : Int)) (its.map toI)).getD []).length) c154) X316, Chunk.view (Kd.int .i64) S35 A33 qs36.length c34 qs36, Chunk.view (Kd.int .i64) S21 A19 ks22.length c20 ks22, Bk g2 [.slice Am files.length cm, J d.most, J d.fuse, .bool d.down, .string (⟨#[106]⟩ : ByteArray), .slice Ai its.length ci] 41, R, Chunk.disk w0.heap.size gd S d, Chunk.jour w0.heap.size gd gj (⟨#[106]⟩ : ByteArray) SJ (its.map toI) ((recsJ (its.map toI)).length : Int), Chunk.rjAt Sm w] ∧ (0 ≤ p317 ∧ p317 ≤ (((getJ (ks22.getD p.toNat (0 : Int)) (its.map toI)).getD []).length : Int)) ∧ (X316.length = ((getJ (ks22.getD p.toNat (0 : Int)) (its.map toI)).getD []).length) ∧ m_ = (((getJ (ks22.getD p.toNat (0 : Int)) (its.map toI)).getD []).length - p317.toNat)) ((((getJ (ks22.getD p.toNat (0 : Int)) (its.map toI)).getD []).length - (0 : Int).toNat)) ?_ ?_
  ·
   refine ⟨0, ((getJ (ks22.getD p.toNat (0 : Int)) (its.map toI)).getD []), (H311.pick (t := 99) rfl (H311.pick (t := 47) rfl (H311.pick (t := 0) rfl (H311.pick (t := 1) rfl (H311.pick (t := 5) rfl (H311.pick (t := 7) rfl (H311.pick (t := 8) rfl (H311.pick (t := 46) rfl (H311.pick (t := 48) rfl (H311.pick (t := 49) rfl (H311.pick (t := 9) rfl (H311.pick (t := 51) rfl (H311.pick (t := 52) rfl (H311.pick (t := 53) rfl (H311.pick (t := 54) rfl (H311.pick (t := 55) rfl (H311.pick (t := 56) rfl (H311.pick (t := 50) rfl (H311.pick (t := 57) rfl (H311.pick (t := 58) rfl (H311.pick (t := 10) rfl (H311.pick (t := 11) rfl (H311.pick (t := 60) rfl (H311.pick (t := 61) rfl (H311.pick (t := 62) rfl (H311.pick (t := 63) rfl (H311.pick (t := 64) rfl (H311.pick (t := 65) rfl (H311.pick (t := 66) rfl (H311.pick (t := 59) rfl (H311.pick (t := 67) rfl (H311.pick (t := 68) rfl (H311.pick (t := 12) rfl (H311.pick (t := 69) rfl (H311.pick (t := 70) rfl (H311.pick (t := 71) rfl (H311.pick (t := 72) rfl (H311.pick (t := 73) rfl (H311.pick (t := 74) rfl (H311.pick (t := 75) rfl (H311.pick (t := 76) rfl (H311.pick (t := 77) rfl (H311.pick (t := 78) rfl (H311.pick (t := 79) rfl (H311.pick (t := 80) rfl (H311.pick (t := 81) rfl (H311.pick (t := 82) rfl (H311.pick (t := 83) rfl (H311.pick (t := 84) rfl (H311.pick (t := 85) rfl (H311.pick (t := 86) rfl (H311.pick (t := 87) rfl (H311.pick (t := 88) rfl (H311.pick (t := 89) rfl (H311.pick (t := 90) rfl (H311.pick (t := 91) rfl (H311.pick (t := 92) rfl (H311.pick (t := 93) rfl (H311.pick (t := 94) rfl (H311.pick (t := 95) rfl (H311.pick (t := 96) rfl (H311.pick (t := 97) rfl (H311.pick (t := 98) rfl H311.nil))))))))))))))))))))))))))))))))))))))))))))))))))))))))))))))), O315.sel [0, 1, 2, 3, 4, 5, 6, 7] (by decide), ?_, ?_, rfl⟩
   ·
    omega
   rfl
  rintro m321 _ w323 ⟨p317, X316, H324, O325, hp319, hX318, hm326⟩
  refine gR fun K327 hK327 => ?_
  refine V H324 (op_lss rfl (H324.ev rfl) (H324.ev rfl)) fun _ H329 => ?_
  refine gE hK327 ?_
  refine gw_seq fun K330 hK330 => ?_
  clear H324
  refine gw_cond H329 rfl (fun hb331 => ?_) (fun hb331 => ?_)
  ·
   have H332 := H329.subst_ (d := 100) (b := true) rfl hb331
   clear H329
   (try simp only [decide_eq_true_eq] at hb331)
   refine gS hK330 ?_
   refine gw_seq fun K333 hK333 => ?_
   refine wp_block ?_
   refine gR fun K334 hK334 => ?_
   refine Vm H332 fun _ H336 => ?_
   refine Va H336 fun _ H338 => ?_
   refine gE hK334 ?_
   clear H332 H336
   refine wp_region_lit ?_
   refine Vm H338 fun _ H340 => ?_
   refine Vm H340 fun _ H342 => ?_
   clear H338 H340
   obtain ⟨ad343, hA344⟩ := row_head (O325.get 0 rfl) p317 (by omega) (by omega)
   subst hA344
   refine V H342 (op_index Tryz.underlying22 gwsiz5 rfl (H342.ev rfl) (H342.ev rfl) rfl (⟨by omega, by omega⟩)) fun _ H347 => ?_
   clear H342
   refine gw_row 0 H347 O325 rfl (want_none rfl) rfl gwsiz5 (by omega) (by omega) rfl (H347.ev rfl) (ev_c _ _) ?_
   intro _ w350 H349 O351; clear H347 O325
   have O352 : Own w0 w350 [Chunk.row (Kd.int .u8) 5 w0.heap.size S155 (.slice (some ad343) (((getJ (ks22.getD p.toNat (0 : Int)) (its.map toI)).getD []).length) c154) (X316.set p317.toNat 99), Chunk.view (Kd.int .i64) S35 A33 qs36.length c34 qs36, Chunk.view (Kd.int .i64) S21 A19 ks22.length c20 ks22, Bk g2 [.slice Am files.length cm, J d.most, J d.fuse, .bool d.down, .string (⟨#[106]⟩ : ByteArray), .slice Ai its.length ci] 41, R, Chunk.disk w0.heap.size gd S d, Chunk.jour w0.heap.size gd gj (⟨#[106]⟩ : ByteArray) SJ (its.map toI) ((recsJ (its.map toI)).length : Int), Chunk.rjAt Sm w] := O351
   clear O351
   refine wpList_nil ?_
   refine gw_blk ?_
   refine gw_nx (hK333 _ _ ?_)
   refine wp_region_lit ?_
   refine V H349 (op_add rfl (H349.ev rfl) (ev_c _ _) (by omega)) fun _ H354 => ?_
   refine Vm H354 fun _ H356 => ?_
   clear H349 H354
   refine wpList_nil ?_
   refine gw_nx ⟨_, ?_, p317 + 1, (X316.set p317.toNat 99), (H356.pick (t := 99) rfl (H356.pick (t := 47) rfl (H356.pick (t := 0) rfl (H356.pick (t := 1) rfl (H356.pick (t := 5) rfl (H356.pick (t := 7) rfl (H356.pick (t := 8) rfl (H356.pick (t := 46) rfl (H356.pick (t := 48) rfl (H356.pick (t := 49) rfl (H356.pick (t := 9) rfl (H356.pick (t := 51) rfl (H356.pick (t := 52) rfl (H356.pick (t := 53) rfl (H356.pick (t := 54) rfl (H356.pick (t := 55) rfl (H356.pick (t := 56) rfl (H356.pick (t := 50) rfl (H356.pick (t := 57) rfl (H356.pick (t := 58) rfl (H356.pick (t := 10) rfl (H356.pick (t := 11) rfl (H356.pick (t := 60) rfl (H356.pick (t := 61) rfl (H356.pick (t := 62) rfl (H356.pick (t := 63) rfl (H356.pick (t := 64) rfl (H356.pick (t := 65) rfl (H356.pick (t := 66) rfl (H356.pick (t := 59) rfl (H356.pick (t := 67) rfl (H356.pick (t := 68) rfl (H356.pick (t := 12) rfl (H356.pick (t := 69) rfl (H356.pick (t := 70) rfl (H356.pick (t := 71) rfl (H356.pick (t := 72) rfl (H356.pick (t := 73) rfl (H356.pick (t := 74) rfl (H356.pick (t := 75) rfl (H356.pick (t := 76) rfl (H356.pick (t := 77) rfl (H356.pick (t := 78) rfl (H356.pick (t := 79) rfl (H356.pick (t := 80) rfl (H356.pick (t := 81) rfl (H356.pick (t := 82) rfl (H356.pick (t := 83) rfl (H356.pick (t := 84) rfl (H356.pick (t := 85) rfl (H356.pick (t := 86) rfl (H356.pick (t := 87) rfl (H356.pick (t := 88) rfl (H356.pick (t := 89) rfl (H356.pick (t := 90) rfl (H356.pick (t := 91) rfl (H356.pick (t := 92) rfl (H356.pick (t := 93) rfl (H356.pick (t := 94) rfl (H356.pick (t := 95) rfl (H356.pick (t := 96) rfl (H356.pick (t := 97) rfl (H356.pick (t := 98) rfl H356.nil))))))))))))))))))))))))))))))))))))))))))))))))))))))))))))))), O352.sel [0, 1, 2, 3, 4, 5, 6, 7] (by decide), ?_, ?_, rfl⟩
   ·
    rw [hm326]; omega
   ·
    omega
   rw [List.length_set]; exact hX318
  have H357 := H329.subst_ (d := 100) (b := false) rfl hb331
  clear H329
  (try simp only [decide_eq_false_iff_not, Int.not_lt] at hb331)
  refine wp_exit ?_
  refine gw_thx ?_
  refine gw_thx ?_
  refine gw_in ?_
  refine gw_blk ?_
  refine gw_nx (hK128 _ _ ?_)
  refine wp_region_lit ?_
  refine V H357 (op_add rfl (H357.ev rfl) (ev_c _ _) (by omega)) fun _ H359 => ?_
  refine Vm H359 fun _ H361 => ?_
  clear H357 H359
  refine wpList_nil ?_
  refine gw_nx ⟨_, ?_, p + 1, (H361.pick (t := 47) rfl (H361.pick (t := 0) rfl (H361.pick (t := 1) rfl (H361.pick (t := 5) rfl (H361.pick (t := 7) rfl (H361.pick (t := 8) rfl (H361.pick (t := 46) rfl H361.nil))))))), O325.sel [1, 2, 3, 4, 5, 6, 7] (by decide), ?_, rfl⟩
  ·
   rw [hm121]; omega
  omega
 have H362 := H124.subst_ (d := 48) (b := false) rfl hb126
 clear H124
 (try simp only [decide_eq_false_iff_not, Int.not_lt] at hb126)
 refine wp_exit ?_
 refine gw_thx ?_
 refine gw_thx ?_
 refine gw_in ?_
 refine gw_nx (hK107 _ _ ?_)
 refine gR fun K363 hK363 => ?_
 refine Vm H362 fun _ H365 => ?_
 clear H362
 refine Wk H365 Tryz.func31 rfl (ar_cons (H365.ev rfl) (ar_cons (ev_c _ _) ar_nil)) (read_calls w0.heap.size gd S d (⟨#[106]⟩ : ByteArray) _ (by exact O120.get 4 rfl) (by decide) hw (by omega)) ?_
 rintro e369 w370 ⟨A366, c367, S368, rfl, hb371⟩
 refine ⟨_, rfl, fun _ H373 => ?_⟩
 have O374 := O120.fresh hb371
 have hbel375 := O120.below
 clear H365 O120 hb371
 have O376 := O374.lowrow 0 rfl (base' := w0.heap.size) (Below.size hbel375)
 refine Vm H373 fun _ H378 => ?_
 refine Vx H378 fun _ H380 => ?_
 refine Vx H380 fun _ H382 => ?_
 refine Va H382 fun _ H384 => ?_
 refine Va H384 fun _ H386 => ?_
 refine gE hK363 ?_
 refine gR fun K387 hK387 => ?_
 refine Vf H386 (gwfld41_0 _ _) fun _ H389 => ?_
 refine V H389 (op_loadn gwagg34 gwsiz34 rfl (H389.ev rfl) (O376.get 3 rfl) rfl rfl) fun _ H391 => ?_
 clear H373 H378 H380 H382 H384 H386 H389
 refine Wk H391 Tryz.func37 rfl (ar_cons (H391.ev rfl) (ar_cons (ev_c _ _) ar_nil)) (read_pin Am cm files d (⟨#[106]⟩ : ByteArray) 7 hB0 hP O376 rfl hFf hrj.2.1.1 hlf hd) ?_
 rintro e396 w397 ⟨A392, c393, rfl, hC394, hc395, hb398⟩
 refine ⟨_, rfl, fun _ H400 => ?_⟩
 have O401 := O376.after hb398
 clear H391 O376 hb398
 refine Vm H400 fun _ H404 => ?_
 refine Vx H404 fun _ H406 => ?_
 refine Vx H406 fun _ H408 => ?_
 refine Va H408 fun _ H410 => ?_
 refine Va H410 fun _ H412 => ?_
 refine gE hK387 ?_
 refine gR fun K413 hK413 => ?_
 refine Vm H412 fun _ H415 => ?_
 refine Vm H415 fun _ H417 => ?_
 refine V H417 (op_eqi rfl (H417.ev rfl) (H417.ev rfl)) fun _ H419 => ?_
 clear H400 H404 H406 H408 H410 H412 H415 H417
 have H420 := H419.lit (b := true) (by simp)
 clear H419
 refine Vm H420 fun _ H422 => ?_
 refine V2 H422 (want_yes H422 rfl rfl rfl rfl) (op_move rfl (H422.ev rfl)) fun _ H424 => ?_
 refine V2 H424 (want_yes H424 rfl rfl rfl rfl) (op_move rfl (H424.ev rfl)) fun _ H426 => ?_
 clear H420 H422 H424
 refine gw_call H426 (want_yes H426 rfl rfl rfl rfl) rfl (by decide) (op_callL Tryz.func44 (by kernel_rfl) rfl rfl (ar_cons (H426.ev rfl) (ar_cons (H426.ev rfl) ar_nil))) (same_calls A366 c367 ((readD (⟨#[106]⟩ : ByteArray) d).1) A392 c393 ((readD (⟨#[106]⟩ : ByteArray) d).1) _ (Kd.R_reads' (O401.get 0 rfl)).2.2 (row_cap (O401.get 0 rfl)) (Kd.F_now (pin_F (i := 7) hB0 O401 hP rfl hC394)) hc395 (by first | omega | (have h1_ := readlen hw (⟨#[106]⟩ : ByteArray); omega))) ?_
 rintro e427 w428 ⟨rfl, hb429⟩
 refine ⟨_, rfl, fun _ H431 => ?_⟩
 have O432 := O401.after hb429
 clear H426 O401 hb429
 have H434 := H431.lit (b := true) (by simp)
 clear H431
 refine V H434 (op_pick_t rfl (H434.ev rfl) (H434.ev rfl)) fun _ H436 => ?_
 refine Va H436 fun _ H438 => ?_
 refine gE hK413 ?_
 refine wp_ret ?_
 clear H434 H436
 refine gw_ret1 H438 rfl rfl ?_
 exact ⟨rfl, Own.rj_unpin (L := [R, Chunk.disk w0.heap.size gd S d, Chunk.jour w0.heap.size gd gj (⟨#[106]⟩ : ByteArray) SJ (its.map toI) ((recsJ (its.map toI)).length : Int), Chunk.rjAt Sm w]) (by exact O432.sel [4, 5, 6, 7] (by decide)) 3 rfl hrj⟩
end GRj6_
export GRj6_ (alike_calls)
section
open Go.Maps
theorem recI_byte (x : PI) (h : ByteL x.2) : ByteL (recI x) := fun z hz => by
  have := Pure.recOf_bytes _ (byteL_byte (byteL_app (encN_byte x.1) h)) z hz
  unfold Pure.Byte at this
  omega
def bytesD (fs : List PF) : Prop := ∀ f ∈ fs, ByteL f.b
structure JV (d : PD) (used : Int) : Prop where
  wf : wfD d
  len : (d.fs.length : Int) ≤ used + 1
  by_ : d.used ≤ used
  byt : bytesD d.fs
section
variable {d : PD} {used n key : Int} {nm : ByteArray} {b y keep : List Int} {is : List PI} {fs : List PF} {h : PF → PF} {f : PF} {k : PD → PD} {q : PF → PD × Int}
theorem JV.more {m : Int} (h : JV d used) (hm : used ≤ m) : JV d m := ⟨h.wf, by have := h.len; omega, by have := h.by_; omega, h.byt⟩
theorem JV.read (h : JV d used) : ByteL (readD nm d).1 := by
  cases hd : d.down
  · cases hg : getF nm d.fs with
    | none => rw [read_none hd hg]; intro x hx; simp at hx
    | some f => rw [read_some hd hg]; exact h.byt f (getF_mem hg).1
  · rw [read_down hd]; intro x hx; simp at hx
theorem bytes_upd (hb : bytesD fs) (hh : ∀ f, ByteL f.b → ByteL (h f).b) : bytesD (updF nm h fs) := fun f hf => by
  obtain ⟨g, hg, rfl⟩ := List.mem_map.1 hf
  by_cases e : g.nm = nm
  · rw [if_pos e]; exact hh g (hb g hg)
  · rw [if_neg e]; exact hb g hg
theorem bytes_step (hb : bytesD d.fs) (hk : ∀ d1 : PD, bytesD d1.fs → bytesD (k d1).fs) : bytesD (stepD d k).1.fs := by
  unfold stepD
  split
  · split
    · exact hb
    · exact hk _ hb
  · exact hk _ hb
theorem bytes_with (hb : bytesD d.fs) (hq : ∀ f, bytesD (q f).1.fs) : bytesD (withF nm d q).1.fs := by
  unfold withF
  split
  · exact hb
  · split
    · exact hb
    · exact hq _
theorem bytes_create (hb : bytesD d.fs) : bytesD (createD nm d).1.fs := by
  unfold createD
  split
  · exact hb
  · split
    · exact hb
    · split
      · exact hb
      · refine bytes_step hb fun d1 h1 f hf => ?_
        rcases List.mem_cons.1 ((ins_perm _ _).mem_iff.1 hf) with rfl | hf
        · intro x hx; simp at hx
        · exact h1 f (del_mem f hf).1
theorem bytes_append (hb : bytesD d.fs) (hy : ByteL y) : bytesD (appendD nm y d).1.fs := bytes_with hb fun f => by
  split
  · exact hb
  · exact bytes_step hb fun d1 h1 => bytes_upd h1 fun f hf => byteL_app hf hy
theorem bytes_sync (hb : bytesD d.fs) : bytesD (syncD nm d).1.fs := bytes_with hb fun f => bytes_step hb fun d1 h1 => bytes_upd h1 fun f hf => hf
theorem bytes_cut (hb : bytesD d.fs) : bytesD (cutD nm n d).1.fs := bytes_with hb fun f => by
  split
  · exact hb
  · exact bytes_step hb fun d1 h1 => bytes_upd h1 fun f hf => take_byte hf _
theorem bytes_crash : ∀ (fs : List PF) (kl : List Int), bytesD fs → bytesD (crashF fs kl).1
  | [], kl, _ => fun f hf => by simp [crash_nil] at hf
  | g :: r, kl, hb => by
    by_cases e : (g.b.length : Int) - g.sf = 0
    · rw [crash_keep e]
      intro f hf
      rcases List.mem_cons.1 hf with rfl | hf
      · exact hb _ (by simp)
      · exact bytes_crash r kl (fun f hf => hb f (List.mem_cons_of_mem _ hf)) f hf
    · rw [crash_cut e]
      intro f hf
      rcases List.mem_cons.1 hf with rfl | hf
      · exact take_byte (hb g (by simp)) _
      · exact bytes_crash r _ (fun f hf => hb f (List.mem_cons_of_mem _ hf)) f hf
theorem JV.create (h : JV d used) : JV (createD nm d).1 (used + 1) := ⟨wf_create h.wf, by have h1 := (kept_create (nm := nm) h.wf.fuse.1).len; have := h.len; omega, by
  have h1 : (createD nm d).1.used ≤ d.used + ((0 : Nat) : Int) := does_used (kd := 1) (A := nm) (Z := ⟨#[]⟩) (n := 0) (y := []) h.wf
  have := h.by_; omega, bytes_create h.byt⟩
theorem JV.append (h : JV d used) (hy : ByteL y) : JV (appendD nm y d).1 (used + y.length + 1) := ⟨wf_append h.wf, by have h1 := (kept_append (nm := nm) (y := y) h.wf.fuse.1).len; have := h.len; omega, by
  have h1 : (appendD nm y d).1.used ≤ d.used + (y.length : Int) := does_used (kd := 2) (A := nm) (Z := ⟨#[]⟩) (n := 0) (y := y) h.wf
  have := h.by_; omega, bytes_append h.byt hy⟩
theorem JV.sync (h : JV d used) : JV (syncD nm d).1 (used + 1) := ⟨wf_sync h.wf, by have h1 := (kept_sync (nm := nm) h.wf.fuse.1).len; have := h.len; omega, by
  have h1 : (syncD nm d).1.used ≤ d.used + ((0 : Nat) : Int) := does_used (kd := 3) (A := nm) (Z := ⟨#[]⟩) (n := 0) (y := []) h.wf
  have := h.by_; omega, bytes_sync h.byt⟩
theorem JV.cut (h : JV d used) : JV (cutD nm n d).1 (used + 1) := ⟨wf_cut h.wf, by have h1 := (kept_cut (nm := nm) (n := n) h.wf.fuse.1).len; have := h.len; omega, by
  have h1 : (cutD nm n d).1.used ≤ d.used + ((0 : Nat) : Int) := does_used (kd := 5) (A := nm) (Z := ⟨#[]⟩) (n := n) (y := []) h.wf
  have := h.by_; omega, bytes_cut h.byt⟩
theorem JV.crash (h : JV d used) : JV (crashD keep d) used := ⟨wf_crash h.wf, by
  have e := congrArg List.length (crash_names d.fs keep)
  rw [List.length_map, List.length_map] at e
  show ((crashF d.fs keep).1.length : Int) ≤ _
  have := h.len
  omega, by
  have := crash_used d.fs keep h.wf.sf
  have := h.by_
  show d.used - _ ≤ _
  omega, bytes_crash _ _ h.byt⟩
theorem JV.fail (h : JV d used) (hn : n ≤ 9223372036854775807) : JV { d with fuse := mx n 0 } used := ⟨wf_fuse h.wf (by unfold mx; split <;> omega), h.len, h.by_, h.byt⟩
theorem JV.pre (h : JV d used) : JV (preJ nm d).1 (used + 1) := by
  unfold preJ
  split
  · exact h.create
  · exact h.more (by omega)
theorem JV.open_ (h : JV d used) : JV (openJ nm d).1.1 (used + 3) := by
  unfold openJ
  split
  · exact h.pre.more (by omega)
  · simp only
    have hc : JV (if (scanJ (readD nm d).1).2 < ((readD nm d).1.length : Int) then cutD nm (scanJ (readD nm d).1).2 (preJ nm d).1 else ((preJ nm d).1, 0)).1 (used + 2) := by
      split
      · have := (h.pre (nm := nm)).cut (nm := nm) (n := (scanJ (readD nm d).1).2)
        exact this.more (by omega)
      · exact h.pre.more (by omega)
    generalize (if (scanJ (readD nm d).1).2 < ((readD nm d).1.length : Int) then cutD nm (scanJ (readD nm d).1).2 (preJ nm d).1 else ((preJ nm d).1, 0)) = cc at hc ⊢
    split
    · exact hc.more (by omega)
    · exact hc.sync.more (by omega)
theorem JV.put (h : JV d used) (hb : ByteL b) {sz : Int} : JV (putJ nm key b is sz d).1.1 (used + (b.length + 20)) := by
  have hl := recI_len (key, b)
  have he := encN_len key
  unfold putJ
  split
  · exact h.more (by omega)
  · split
    · exact h.more (by omega)
    · split
      · exact h.more (by omega)
      · refine (h.append (recI_byte (key, b) hb)).more ?_
        simp only at hl
        omega
structure JI (is : List PI) (used : Int) : Prop where
  ok : ∀ x ∈ is, okI x
  once : onceJ is
  size : ((recsJ is).length : Int) ≤ used
theorem JI.more {m : Int} (h : JI is used) (hm : used ≤ m) : JI is m := ⟨h.ok, h.once, by have := h.size; omega⟩
theorem recs_many : ∀ is : List PI, is.length ≤ (recsJ is).length
  | [] => Nat.zero_le _
  | x :: r => by
    have ih := recs_many r
    have := recI_len x
    rw [recs_cons, List.length_append, List.length_cons]
    omega
theorem JI.len (h : JI is used) : (is.length : Int) ≤ used := by
  have h1 := recs_many is
  have h2 := h.size
  omega
theorem JI.nil (h : 0 ≤ used) : JI [] used := ⟨fun x hx => by simp at hx, List.Pairwise.nil, by simpa [recs_nil] using h⟩
theorem JI.put (h : JI is used) (hb : ByteL b) (hl : b.length ≤ 900000) {sz : Int} : JI (putJ nm key b is sz d).2.1 (used + (b.length + 20)) := by
  unfold putJ
  split
  · exact h.more (by omega)
  · split
    · exact h.more (by omega)
    · split
      · exact h.more (by omega)
      · rename_i h1 h2 h3
        show JI (if (appendD nm (recI (key, b)) d).2 = 0 then (is ++ [(key, b)], sz + (recI (key, b)).length) else (is, sz)).1 _
        split
        · refine ⟨fun x hx => ?_, ?_, ?_⟩
          · rcases List.mem_append.1 hx with hx | hx
            · exact h.ok x hx
            · obtain rfl := List.mem_singleton.1 hx
              exact ⟨by show 0 ≤ key ∧ key ≤ _; omega, hl, hb⟩
          · refine List.pairwise_append.2 ⟨h.once, List.pairwise_singleton _ _, fun x hx z hz => ?_⟩
            obtain rfl := List.mem_singleton.1 hz
            have h4 : hasJ key is = false := by simpa using h3
            exact hasJ_false.1 h4 x hx
          · have hr := recI_len (key, b)
            have he := encN_len key
            have := h.size
            show ((recsJ (is ++ [(key, b)])).length : Int) ≤ _
            rw [recs_snoc, List.length_append, hr]
            simp only
            omega
        · exact h.more (by omega)
theorem put_size {sz : Int} (h : sz = ((recsJ is).length : Int)) : (putJ nm key b is sz d).2.2 = ((recsJ (putJ nm key b is sz d).2.1).length : Int) := by
  unfold putJ
  split
  · exact h
  · split
    · exact h
    · split
      · exact h
      · show (if (appendD nm (recI (key, b)) d).2 = 0 then (is ++ [(key, b)], sz + ((recI (key, b)).length : Int)) else (is, sz)).2 = ((recsJ (if (appendD nm (recI (key, b)) d).2 = 0 then (is ++ [(key, b)], sz + ((recI (key, b)).length : Int)) else (is, sz)).1).length : Int)
        split
        · show sz + ((recI (key, b)).length : Int) = ((recsJ (is ++ [(key, b)])).length : Int)
          rw [recs_snoc, List.length_append, h]
          omega
        · exact h
theorem put_zero (sz : Int) : (putJ nm key b is sz d).1 = (putJ nm key b is 0 d).1 ∧ (putJ nm key b is sz d).2.1 = (putJ nm key b is 0 d).2.1 := by
  unfold putJ
  split
  · exact ⟨rfl, rfl⟩
  · split
    · exact ⟨rfl, rfl⟩
    · split
      · exact ⟨rfl, rfl⟩
      · refine ⟨rfl, ?_⟩
        split <;> rfl
theorem JV.items (h : JV d used) (hu : used ≤ 900000) (h0 : (openJ nm d).1.2 = 0) : JI (openJ nm d).2.1 used ∧ (openJ nm d).2.2 = ((recsJ (openJ nm d).2.1).length : Int) := by
  have hb := h.read (nm := nm)
  have hl : ((readD nm d).1.length : Int) ≤ used := Int.le_trans (read_len h.wf) h.by_
  have e : (openJ nm d).2 = scanJ (readD nm d).1 ∨ (openJ nm d).2 = ([], 0) := by
    unfold openJ
    split
    · exact .inr rfl
    · left
      simp only
      generalize (if (scanJ (readD nm d).1).2 < ((readD nm d).1.length : Int) then cutD nm (scanJ (readD nm d).1).2 (preJ nm d).1 else ((preJ nm d).1, 0)) = cc
      split <;> rfl
  have hu0 : 0 ≤ used := Int.le_trans (Int.natCast_nonneg _) hl
  rcases e with e | e
  · rw [e]
    have h1 := scan_ok ((readD nm d).1.length + 1) (readD nm d).1 [] 0 hb (by omega) (fun x hx => by simp at hx) List.Pairwise.nil
    have h2 := scanJ_size hb
    have h3 := (scan_small hb (by omega)).1
    exact ⟨⟨h1.1, h1.2, by omega⟩, h2⟩
  · rw [e]
    exact ⟨JI.nil hu0, rfl⟩
end
def Chunk.jopt (lost : Bool) (c : Chunk) : Chunk := bif lost then Chunk.void else c
theorem open_newm (room : Int) {nm : ByteArray} (hb : namedB nm = true) : openJ nm (newD room) = ((jdk nm (recsJ []) 0 [] (mx room 0), 0), ([], 0)) := by
  have e : newD room = newD (mx room 0) := by
    have : mx (mx room 0) 0 = mx room 0 := by unfold mx; (repeat' split) <;> omega
    unfold newD
    rw [this]
  rw [e]
  exact open_new (by unfold mx; split <;> omega) hb
end
structure S50 where
  f0 : Int
  f1 : Int
  f2 : (List Int)
  f3 : Int
  f4 : (List Int)
def z50 : S50 := ⟨(0 : Int), (0 : Int), ([] : List Int), (0 : Int), ([] : List Int)⟩
def k50 : Kd S50 := Kd.iso (Kd.pair (Kd.int .i64) (Kd.pair (Kd.int .i64) (Kd.pair (Kd.slice 5 (Kd.int .u8)) (Kd.pair (Kd.int .i64) (Kd.slice 3 (Kd.int .i64)))))) (fun x : S50 => (x.f0, x.f1, x.f2, x.f3, x.f4))
theorem k50_open {w : World} {x : S50} {cs : List Value} (h : k50.K w x cs) : ∃ A2 c2 A4 c4, cs = [.int .i64 x.f0, .int .i64 x.f1, .slice A2 x.f2.length c2, .int .i64 x.f3, .slice A4 x.f4.length c4] ∧ x.f2.length ≤ c2 ∧ (Kd.int .u8).C w A2 x.f2.length x.f2 ∧ x.f4.length ≤ c4 ∧ (Kd.int .i64).C w A4 x.f4.length x.f4 := by
  obtain ⟨_, _, rfl, rfl, ⟨_, _, rfl, rfl, ⟨_, _, rfl, ⟨A2, c2, rfl, l2, g2⟩, ⟨_, _, rfl, rfl, ⟨A4, c4, rfl, l4, g4⟩⟩⟩⟩⟩ := h
  exact ⟨A2, c2, A4, c4, rfl, l2, g2, l4, g4⟩
namespace GRj8_
theorem JournalPlays_walk (room : Int) (A1 : Option Addr) (c1 : Nat) (script : List S50) (key : Int) (w : World) (hr1 : Kd.C k50 w A1 script.length script) (hc1 : script.length ≤ c1) (hrm : room ≤ 9223372036854775807) (hl : script.length ≤ 4000000000000) (hz : ∀ x ∈ script, ByteL x.f2 ∧ (Lit.int .i64 x.f1).wf = true ∧ x.f3 ≤ 9223372036854775807) (hn : ∀ x ∈ script, x.f2.length ≤ 140737488355327 ∧ x.f4.length ≤ 140737488355327) (hkw : (Lit.int .i64 key).wf = true) :
    Calls Tryz.prog 4 #[.int .i64 room, .slice A1 script.length c1, .int .i64 key] w fun e w' => e = .returned (.bool true) ∧ Below w.heap.size w w' := by
 refine gw_start (N := 159) (vs := [J room, .slice A1 script.length c1, J key]) Tryz.func4 rfl rfl (by simp) fun a HF HO => ?_
 replace HO : Own w w [] := HO
 refine gR fun K1 hK1 => ?_
 refine Vc HF ?_
 intro _ H3; clear HF
 refine gE hK1 ?_
 refine gR fun K4 hK4 => ?_
 refine Vm H3 fun _ H6 => ?_
 clear H3
 have O16 : Own w _ [(Chunk.all [])] := Own.bundle (HO.sel [] (by decide))
 refine Wk H6 Tryz.func5 rfl (ar_cons (H6.ev rfl) ar_nil) (new_own w _ (Chunk.all []) room (by exact O16)) ?_
 rintro e10 w11 ⟨gd7, S8, rfl, hb12⟩
 refine ⟨_, rfl, fun _ H14 => ?_⟩
 have O15 : Own w w11 [Chunk.disk w.heap.size gd7 S8 (newD room)] := Own.unbundle (hb12.sel [0, 1] (by decide))
 clear O16
 clear H6 HO hb12
 have hwf9 : wfD (newD room) := wf_new (by omega)
 refine Va H14 fun _ H19 => ?_
 refine gE hK4 ?_
 refine gw_seq fun K20 hK20 => ?_
 refine gR fun K21 hK21 => ?_
 refine Vm H19 fun _ H23 => ?_
 refine V H23 (op_eqp_nil Tryz.underlying23 rfl (H23.ev rfl)) fun _ H25 => ?_
 refine Vm H25 fun _ H27 => ?_
 clear H14 H19 H23 H25
 refine gw_call H27 (want_yes H27 rfl rfl rfl rfl) rfl (by decide) (op_callL Tryz.func6 (by kernel_rfl) rfl rfl ar_nil) (alive_calls _) ?_
 rintro e28 w29 ⟨rfl, hb30⟩
 refine ⟨_, rfl, fun _ H32 => ?_⟩
 have O33 := O15.after hb30
 clear H27 O15 hb30
 refine V2 H32 (want_yes H32 rfl rfl rfl rfl) (op_not rfl (H32.ev rfl)) fun _ H36 => ?_
 refine V H36 (op_pick_f rfl (H36.ev rfl) (H36.ev rfl)) fun _ H38 => ?_
 refine gE hK21 ?_
 clear H32 H36
 refine gw_cond H38 rfl (fun hb39 => ?_) (fun hb39 => ?_)
 ·
  cases hb39
 refine gS hK20 ?_
 refine gR fun K40 hK40 => ?_
 refine Vm H38 fun _ H42 => ?_
 clear H38
 have heq47 : openJ (⟨#[106]⟩ : ByteArray) (newD room) = (((jdk (⟨#[106]⟩ : ByteArray) (recsJ []) 0 [] (mx room 0)), 0), (([] : List PI), ((recsJ []).length : Int))) := open_newm room (by decide)
 have O54 : Own w _ [(Chunk.all []), Chunk.disk w.heap.size gd7 S8 (newD room)] := Own.bundle (O33.sel [0] (by decide))
 refine Wk H42 Tryz.func9 rfl (ar_cons (H42.ev rfl) (ar_cons (ev_c _ _) ar_nil)) (open_ok heq47 hwf9 (by decide) (by show 0 ≤ 1000000; decide) (by show (0 : Int) ≤ _; decide) (by intro x_ hx_; rw [show (readD (⟨#[106]⟩ : ByteArray) (newD room)).1 = [] from rfl] at hx_; simp at hx_) (by exact O54)) ?_
 rintro e48 w49 ⟨gj43, SJ44, S45, rfl, hb50⟩
 refine ⟨_, rfl, fun _ H52 => ?_⟩
 have O53 : Own w w49 [Chunk.disk w.heap.size gd7 S45 (jdk (⟨#[106]⟩ : ByteArray) (recsJ []) 0 [] (mx room 0)), Chunk.jour w.heap.size gd7 gj43 (⟨#[106]⟩ : ByteArray) SJ44 ([] : List PI) ((recsJ []).length : Int)] := Own.unbundle (hb50.sel [0, 1, 2] (by decide))
 clear O54
 clear H42 O33 hb50
 have hwf46 : wfD (jdk (⟨#[106]⟩ : ByteArray) (recsJ []) 0 [] (mx room 0)) := wf_open' heq47 hwf9
 refine Vm H52 fun _ H57 => ?_
 refine Vx H57 fun _ H59 => ?_
 refine Vx H59 fun _ H61 => ?_
 refine Va H61 fun _ H63 => ?_
 refine Va H63 fun _ H65 => ?_
 refine gE hK40 ?_
 refine gR fun K66 hK66 => ?_
 refine Vm H65 fun _ H68 => ?_
 clear H52 H57 H59 H61 H63 H65
 refine Wk H68 Tryz.func11 rfl (ar_cons (H68.ev rfl) ar_nil) ((by have h_ := new_ref room w49; rw [show (newD room).most = (mx room 0) from rfl] at h_; exact h_)) ?_
 rintro e69 w70 ⟨rfl, hb71⟩
 refine ⟨_, rfl, fun _ H73 => ?_⟩
 have O74 := O53.after hb71
 clear H68 O53 hb71
 have O76 := O74.rj_nil (fun k_ => k_ < w.heap.size)
 have O77 : Own w w70 [Chunk.rj w (fun k_ => k_ < w.heap.size) (fun _ => False) none 0 ([] : List S38) none 0 ([] : List S54), Chunk.disk w.heap.size gd7 S45 (jdk (⟨#[106]⟩ : ByteArray) (recsJ []) 0 [] (mx room 0)), Chunk.jour w.heap.size gd7 gj43 (⟨#[106]⟩ : ByteArray) SJ44 ([] : List PI) ((recsJ []).length : Int)] := O76
 clear O76
 refine Wk H73 Tryz.func12 rfl (ar_cons (H73.ev rfl) (ar_cons (ev_c _ _) ar_nil)) ((by have h_ := open_p none 0 ([] : List S38) none 0 ([] : List S54) (newD room) (⟨#[106]⟩ : ByteArray) 0 (fun _ h_ => h_) O77 rfl (show 0 ≤ 900000 by decide) rfl (wf_new (by omega)) (show (0 : Int) ≤ 900000 by decide) (by unfold ByteL; intro x_ hx_; rw [show (readD (⟨#[106]⟩ : ByteArray) (newD room)).1 = [] from rfl] at hx_; simp at hx_); rw [open_newm room (by decide)] at h_; (try dsimp only at h_); exact h_)) ?_
 rintro e87 w88 ⟨files78, A79, c80, its81, Ai82, ci83, S84, hd85, hs86, rfl, hb89⟩
 refine ⟨_, rfl, fun _ H91 => ?_⟩
 have O92 := O77.calls 0 rfl hb89
 clear H73 O77 hb89
 refine Vm H91 fun _ H95 => ?_
 refine Vx H95 fun _ H97 => ?_
 refine Vx H97 fun _ H99 => ?_
 clear H91 H95 H97
 refine gw_new H99 O92 (want_none rfl) rfl (by decide) (op_alloc gwzer41 rfl) ?_
 intro g100 _ w102 H103 O104; clear H99 O92
 have O105 : Own w w102 [Bk g100 [.slice none 0 0, J 0, J 0, .bool false, .string (⟨#[]⟩ : ByteArray), .slice none 0 0] 41, Chunk.rj w (fun k_ => k_ < w.heap.size) S84 A79 c80 files78 Ai82 ci83 its81, Chunk.disk w.heap.size gd7 S45 (jdk (⟨#[106]⟩ : ByteArray) (recsJ []) 0 [] (mx room 0)), Chunk.jour w.heap.size gd7 gj43 (⟨#[106]⟩ : ByteArray) SJ44 ([] : List PI) ((recsJ []).length : Int)] := O104
 clear O104
 refine gw_setn 0 H103 O105 rfl (want_none rfl) rfl (op_storen gwsiz41 rfl (H103.ev rfl) (H103.ev rfl) (O105.get 0 rfl) rfl (by simp) (by simp [Value.oneCell'])) ?_
 intro _ w108 H107 O109; clear H103 O105
 refine Va H107 fun _ H111 => ?_
 refine gE hK66 ?_
 refine gw_seq fun K112 hK112 => ?_
 refine gR fun K113 hK113 => ?_
 refine Vm H111 fun _ H115 => ?_
 refine Vm H115 fun _ H117 => ?_
 refine V H117 (op_nei rfl (H117.ev rfl) (H117.ev rfl)) fun _ H119 => ?_
 clear H107 H111 H115 H117
 have H120 := H119.lit (b := false) (by decide)
 clear H119
 refine Vm H120 fun _ H122 => ?_
 refine V2 H122 (want_yes H122 rfl rfl rfl rfl) (op_move rfl (H122.ev rfl)) fun _ H124 => ?_
 refine V2 H124 (want_yes H124 rfl rfl rfl rfl) (op_nei rfl (H124.ev rfl) (ev_c _ _)) fun _ H126 => ?_
 clear H120 H122 H124
 have H127 := H126.lit (b := false) (by decide)
 clear H126
 refine V H127 (op_pick_f rfl (H127.ev rfl) (H127.ev rfl)) fun _ H129 => ?_
 refine Vm H129 fun _ H131 => ?_
 refine V2 H131 (want_yes H131 rfl rfl rfl rfl) (op_move rfl (H131.ev rfl)) fun _ H133 => ?_
 refine V2 H133 (want_yes H133 rfl rfl rfl rfl) (op_eqp_nil Tryz.underlying29 rfl (H133.ev rfl)) fun _ H135 => ?_
 refine V H135 (op_pick_f rfl (H135.ev rfl) (H135.ev rfl)) fun _ H137 => ?_
 refine gE hK113 ?_
 clear H127 H129 H131 H133 H135
 refine gw_cond H137 rfl (fun hb138 => ?_) (fun hb138 => ?_)
 ·
  cases hb138
 refine gS hK112 ?_
 refine gR fun K139 hK139 => ?_
 refine Vc H137 fun _ H141 => ?_
 refine gE hK139 ?_
 refine gR fun K142 hK142 => ?_
 refine Vc H141 fun _ H144 => ?_
 refine gE hK142 ?_
 refine gw_seq fun K145 hK145 => ?_
 refine gR fun K146 hK146 => ?_
 refine Vm H144 fun _ H148 => ?_
 refine V H148 (op_len Tryz.underlying47 rfl (H148.ev rfl)) fun _ H150 => ?_
 refine V H150 (op_move rfl (ev_c _ _)) fun _ H152 => ?_
 refine gE hK146 ?_
 clear H137 H141 H144 H148 H150
 refine wp_block ?_
 have O154 : Own w w108 [Bk g100 [.slice A79 files78.length c80, J ((jdk (⟨#[106]⟩ : ByteArray) (recsJ []) 0 [] (mx room 0)).most), J ((jdk (⟨#[106]⟩ : ByteArray) (recsJ []) 0 [] (mx room 0)).fuse), .bool ((jdk (⟨#[106]⟩ : ByteArray) (recsJ []) 0 [] (mx room 0)).down), .string (⟨#[106]⟩ : ByteArray), .slice Ai82 its81.length ci83] 41, Chunk.rj w (fun k_ => k_ < w.heap.size) S84 A79 c80 files78 Ai82 ci83 its81, Chunk.disk w.heap.size gd7 S45 (jdk (⟨#[106]⟩ : ByteArray) (recsJ []) 0 [] (mx room 0)), Chunk.jour w.heap.size gd7 gj43 (⟨#[106]⟩ : ByteArray) SJ44 (its81.map toI) ((recsJ (its81.map toI)).length : Int)] := by rw [hs86 rfl]; exact O109
 have hJ0 : JV (jdk (⟨#[106]⟩ : ByteArray) (recsJ []) 0 [] (mx room 0)) 0 := ⟨wf_open' (open_newm room (by decide)) (wf_new (by omega)), by show (1 : Int) ≤ _; decide, by show (0 : Int) ≤ _; decide, fun f_ hf_ => by obtain rfl := List.mem_singleton.1 hf_; intro x_ hx_; simp [recs_nil] at hx_⟩
 refine gw_loop (fun m_ a_ w_ => ∃ (i : Int) (used : Int) (d : PD) (Sd : Nat → Prop) (Sj : Nat → Prop) (Sm : Nat → Prop) (files : List S38) (its : List S54) (Am : Option Addr) (cm : Nat) (Ai : Option Addr) (ci : Nat) (gj : Nat) (lost : Bool), Fr 159 a_ [(48, J i), (12, J used), (13, .bool lost), (8, .pointer (bif lost then none else some ⟨gj, 0, none⟩)), (2, J key), (7, .pointer (some ⟨gd7, 0, none⟩)), (10, .pointer (some ⟨g100, 0, none⟩)), (46, .slice A1 script.length c1), (47, J (script.length : Int))] ∧ Own w w_ [Chunk.disk w.heap.size gd7 Sd d, Chunk.rj w (fun k_ => k_ < w.heap.size) Sm Am cm files Ai ci its, Bk g100 [.slice Am files.length cm, J d.most, J d.fuse, .bool d.down, .string (⟨#[106]⟩ : ByteArray), .slice Ai its.length ci] 41, Chunk.jopt lost (Chunk.jour w.heap.size gd7 gj (⟨#[106]⟩ : ByteArray) Sj (its.map toI) ((recsJ (its.map toI)).length : Int))] ∧ (0 ≤ i ∧ i ≤ script.length) ∧ (0 ≤ used ∧ used ≤ 8000) ∧ (JV d used) ∧ (files.map ofS = d.fs) ∧ (lost = false → JI (its.map toI) used) ∧ m_ = (script.length - i.toNat)) ((script.length - (0 : Int).toNat)) ?_ ?_
 ·
  refine ⟨0, 0, (jdk (⟨#[106]⟩ : ByteArray) (recsJ []) 0 [] (mx room 0)), S45, SJ44, S84, files78, its81, A79, c80, Ai82, ci83, gj43, false, (H152.pick (t := 48) rfl (H152.pick (t := 12) rfl (H152.pick (t := 13) rfl (H152.pick (t := 8) rfl (H152.pick (t := 2) rfl (H152.pick (t := 7) rfl (H152.pick (t := 10) rfl (H152.pick (t := 46) rfl (H152.pick (t := 47) rfl H152.nil))))))))), O154.sel [2, 1, 0, 3] (by decide), ?_, ?_, ?_, ?_, ?_, rfl⟩
  ·
   omega
  ·
   omega
  ·
   exact hJ0
  ·
   exact hd85
  exact fun _ => by rw [hs86 rfl]; exact JI.nil (by decide)
 rintro m155 _ w157 ⟨i, used, d, Sd, Sj, Sm, files, its, Am, cm, Ai, ci, gj, lost, H158, O159, hi, hu, hJ, hfd, hI, hm160⟩
 refine gR fun K161 hK161 => ?_
 refine V H158 (op_lss rfl (H158.ev rfl) (H158.ev rfl)) fun _ H163 => ?_
 refine gE hK161 ?_
 refine gw_seq fun K164 hK164 => ?_
 clear H158
 refine gw_cond H163 rfl (fun hb165 => ?_) (fun hb165 => ?_)
 ·
  have H166 := H163.subst_ (d := 49) (b := true) rfl hb165
  clear H163
  (try simp only [decide_eq_true_eq] at hb165)
  rcases Bool.eq_false_or_eq_true lost with hl_ | hl_ <;> subst hl_
  ·
   have O167 : Own w w157 [Chunk.disk w.heap.size gd7 Sd d, Chunk.rj w (fun k_ => k_ < w.heap.size) Sm Am cm files Ai ci its, Bk g100 [.slice Am files.length cm, J d.most, J d.fuse, .bool d.down, .string (⟨#[106]⟩ : ByteArray), .slice Ai its.length ci] 41, Chunk.void] := O159
   have hzx := hz _ (getD_mem (z := z50) script i.toNat (by omega))
   have hJl := hJ.len
   have hJb := hJ.by_
   have hfl : files.length = d.fs.length := by rw [← hfd, List.length_map]
   have hnx := hn _ (getD_mem (z := z50) script i.toNat (by omega))
   refine gS hK164 ?_
   refine gw_seq fun K168 hK168 => ?_
   refine wp_block ?_
   refine gR fun K169 hK169 => ?_
   obtain ⟨ad170, cs173, hA171, hl174, hK175, hc172⟩ := Kd.C_get hr1 z50 i (by omega) (by omega)
   obtain ⟨A176, c177, A180, c181, rfl, hl178, hC179, hl182, hC183⟩ := k50_open hK175
   clear hl174
   refine V H166 (op_index Tryz.underlying47 gwsiz50 rfl (H166.ev rfl) (H166.ev rfl) hA171 (⟨by omega, by omega⟩)) fun _ H185 => ?_
   refine V H185 (op_loadc gwagg50 gwsiz50 rfl (H185.ev rfl) rfl (cells0 O167 hc172)) fun _ H187 => ?_
   clear H166 H185
   refine gw_new H187 O167 (want_none rfl) rfl (by decide) (op_alloc gwzer50 rfl) ?_
   intro g188 _ w190 H191 O192; clear H187 O167
   have O193 : Own w w190 [Bk g188 [J 0, J 0, .slice none 0 0, J 0, .slice none 0 0] 50, Chunk.disk w.heap.size gd7 Sd d, Chunk.rj w (fun k_ => k_ < w.heap.size) Sm Am cm files Ai ci its, Bk g100 [.slice Am files.length cm, J d.most, J d.fuse, .bool d.down, .string (⟨#[106]⟩ : ByteArray), .slice Ai its.length ci] 41, Chunk.void] := O192
   clear O192
   refine gw_setn 0 H191 O193 rfl (want_none rfl) rfl (op_storen gwsiz50 rfl (H191.ev rfl) (H191.ev rfl) (O193.get 0 rfl) rfl (by simp) (by simp [Value.oneCell'])) ?_
   intro _ w196 H195 O197; clear H191 O193
   refine gE hK169 ?_
   refine gR fun K198 hK198 => ?_
   refine Vm H195 fun _ H200 => ?_
   refine Vf H200 (gwfld50_2 _ _) fun _ H202 => ?_
   refine Vl H202 gwagg22 (O197.get 0 rfl) fun _ H204 => ?_
   refine V H204 (op_len Tryz.underlying22 rfl (H204.ev rfl)) fun _ H206 => ?_
   refine V H206 (op_add rfl (H206.ev rfl) (ev_c _ _) (by omega)) fun _ H208 => ?_
   refine V H208 (op_add rfl (H208.ev rfl) (H208.ev rfl) (by omega)) fun _ H210 => ?_
   refine Va H210 fun _ H212 => ?_
   refine gE hK198 ?_
   refine gw_seq fun K213 hK213 => ?_
   refine gR fun K214 hK214 => ?_
   refine Vm H212 fun _ H216 => ?_
   clear H195 H200 H202 H204 H206 H208 H210 H212
   refine V H216 (op_gtr rfl (H216.ev rfl) (ev_c _ _)) fun _ H218 => ?_
   refine gE hK214 ?_
   clear H216
   refine gw_cond H218 rfl (fun hb219 => ?_) (fun hb219 => ?_)
   ·
    have H220 := H218.subst_ (d := 59) (b := true) rfl hb219
    clear H218
    (try simp only [decide_eq_true_eq] at hb219)
    refine gR fun K221 hK221 => ?_
    refine Vc H220 fun _ H223 => ?_
    refine gE hK221 ?_
    refine wp_ret ?_
    clear H220
    refine gw_thr ?_
    refine gw_blr ?_
    refine gw_thr ?_
    refine gw_thr ?_
    refine gw_blr ?_
    refine gw_thr ?_
    refine gw_ret1 H223 rfl rfl ?_
    exact ⟨rfl, O197.below⟩
   have H224 := H218.subst_ (d := 59) (b := false) rfl hb219
   clear H218
   (try simp only [decide_eq_false_iff_not, Int.not_lt] at hb219)
   have hJm : JV d (used + (((script.getD i.toNat z50).f2.length : Int) + 20)) := hJ.more (by omega)
   refine gS hK213 ?_
   refine gw_joinS (fun a_ w_ => ∃ (d2 : PD) (Sd2 : Nat → Prop) (Sj2 : Nat → Prop) (Sm2 : Nat → Prop) (files2 : List S38) (its2 : List S54) (Am2 : Option Addr) (cm2 : Nat) (Ai2 : Option Addr) (ci2 : Nat) (gj2 : Nat) (lost2 : Bool), Fr 159 a_ [(13, .bool lost2), (8, .pointer (bif lost2 then none else some ⟨gj2, 0, none⟩)), (48, J i), (2, J key), (7, .pointer (some ⟨gd7, 0, none⟩)), (10, .pointer (some ⟨g100, 0, none⟩)), (46, .slice A1 script.length c1), (47, J (script.length : Int)), (49, .bool true), (50, .pointer (some (ad170.add (i.toNat * 5)))), (51, .agg #[J ((script.getD i.toNat z50).f0), J ((script.getD i.toNat z50).f1), .slice A176 ((script.getD i.toNat z50).f2.length) c177, J ((script.getD i.toNat z50).f3), .slice A180 ((script.getD i.toNat z50).f4.length) c181]), (15, .pointer (some ⟨g188, 0, none⟩)), (52, J used), (53, .pointer (some ⟨g188, 2, none⟩)), (54, .slice A176 ((script.getD i.toNat z50).f2.length) c177), (55, J (((script.getD i.toNat z50).f2.length) : Int)), (56, J ((((script.getD i.toNat z50).f2.length) : Int) + 20)), (57, J (used + ((((script.getD i.toNat z50).f2.length) : Int) + 20))), (12, J (used + ((((script.getD i.toNat z50).f2.length) : Int) + 20))), (58, J (used + ((((script.getD i.toNat z50).f2.length) : Int) + 20))), (59, .bool false)] ∧ Own w w_ [Chunk.disk w.heap.size gd7 Sd2 d2, Chunk.rj w (fun k_ => k_ < w.heap.size) Sm2 Am2 cm2 files2 Ai2 ci2 its2, Bk g100 [.slice Am2 files2.length cm2, J d2.most, J d2.fuse, .bool d2.down, .string (⟨#[106]⟩ : ByteArray), .slice Ai2 its2.length ci2] 41, Chunk.jopt lost2 (Chunk.jour w.heap.size gd7 gj2 (⟨#[106]⟩ : ByteArray) Sj2 (its2.map toI) ((recsJ (its2.map toI)).length : Int))] ∧ (JV d2 (used + (((script.getD i.toNat z50).f2.length : Int) + 20))) ∧ (files2.map ofS = d2.fs) ∧ (lost2 = false → JI (its2.map toI) (used + (((script.getD i.toNat z50).f2.length : Int) + 20)))) ?_ ?_
   ·
    refine gR fun K225 hK225 => ?_
    refine Vf H224 (gwfld50_0 _ _) fun _ H227 => ?_
    refine Vl H227 gwagg3 (O197.get 0 rfl) fun _ H229 => ?_
    refine gE hK225 ?_
    clear H224 H227
    refine wp_block ?_
    refine gw_seq fun K230 hK230 => ?_
    refine gR fun K231 hK231 => ?_
    refine V H229 (op_eqi rfl (H229.ev rfl) (ev_c _ _)) fun _ H233 => ?_
    refine Va H233 fun _ H235 => ?_
    refine gE hK231 ?_
    clear H229 H233
    refine gw_cond H235 rfl (fun hb236 => ?_) (fun hb236 => ?_)
    ·
     have H237 := H235.subst_ (d := 62) (b := true) rfl hb236
     clear H235
     (try simp only [decide_eq_true_eq] at hb236)
     refine gS hK230 ?_
     refine gw_cond H237 rfl (fun hb238 => ?_) (fun hb238 => ?_)
     rotate_left
     ·
      cases hb238
     refine gw_seq fun K239 hK239 => ?_
     refine gR fun K240 hK240 => ?_
     refine Vm H237 fun _ H242 => ?_
     refine gE hK240 ?_
     clear H237
     refine gw_cond H242 rfl (fun hb243 => ?_) (fun hb243 => ?_)
     rotate_left
     ·
      cases hb243
     refine wp_exit ?_
     refine gw_thx ?_
     refine gw_out (by decide) ?_
     refine gw_thx ?_
     refine gw_in ?_
     refine gw_nx (hK168 _ _ ?_)
     refine wp_region_lit ?_
     refine V H242 (op_add rfl (H242.ev rfl) (ev_c _ _) (by omega)) fun _ H245 => ?_
     refine Vm H245 fun _ H247 => ?_
     clear H242 H245
     refine wpList_nil ?_
     refine gw_nx ⟨_, ?_, i + 1, (used + ((((script.getD i.toNat z50).f2.length) : Int) + 20)), d, Sd, (fun _ => False), Sm, files, its, Am, cm, Ai, ci, 0, true, (H247.pick (t := 48) rfl (H247.pick (t := 12) rfl (H247.pick (t := 13) rfl (H247.pick (t := 8) rfl (H247.pick (t := 2) rfl (H247.pick (t := 7) rfl (H247.pick (t := 10) rfl (H247.pick (t := 46) rfl (H247.pick (t := 47) rfl H247.nil))))))))), O197.sel [1, 2, 3, 4] (by decide), ?_, ?_, ?_, ?_, ?_, rfl⟩
     ·
      rw [hm160]; omega
     ·
      omega
     ·
      omega
     ·
      exact hJm
     ·
      exact hfd
     exact fun h_ => by cases h_
    have H248 := H235.subst_ (d := 62) (b := false) rfl hb236
    clear H235
    (try simp only [decide_eq_false_iff_not] at hb236)
    refine wp_region_lit ?_
    refine V H248 (op_eqi rfl (H248.ev rfl) (ev_c _ _)) fun _ H250 => ?_
    refine Va H250 fun _ H252 => ?_
    refine gE hK230 ?_
    clear H248 H250
    refine gw_cond H252 rfl (fun hb253 => ?_) (fun hb253 => ?_)
    ·
     have H254 := H252.subst_ (d := 62) (b := true) rfl hb253
     clear H252
     (try simp only [decide_eq_true_eq] at hb253)
     refine gw_seq fun K255 hK255 => ?_
     refine gR fun K256 hK256 => ?_
     refine Vm H254 fun _ H258 => ?_
     refine gE hK256 ?_
     clear H254
     refine gw_cond H258 rfl (fun hb259 => ?_) (fun hb259 => ?_)
     rotate_left
     ·
      cases hb259
     refine wp_exit ?_
     refine gw_thx ?_
     refine gw_out (by decide) ?_
     refine gw_thx ?_
     refine gw_in ?_
     refine gw_nx (hK168 _ _ ?_)
     refine wp_region_lit ?_
     refine V H258 (op_add rfl (H258.ev rfl) (ev_c _ _) (by omega)) fun _ H261 => ?_
     refine Vm H261 fun _ H263 => ?_
     clear H258 H261
     refine wpList_nil ?_
     refine gw_nx ⟨_, ?_, i + 1, (used + ((((script.getD i.toNat z50).f2.length) : Int) + 20)), d, Sd, (fun _ => False), Sm, files, its, Am, cm, Ai, ci, 0, true, (H263.pick (t := 48) rfl (H263.pick (t := 12) rfl (H263.pick (t := 13) rfl (H263.pick (t := 8) rfl (H263.pick (t := 2) rfl (H263.pick (t := 7) rfl (H263.pick (t := 10) rfl (H263.pick (t := 46) rfl (H263.pick (t := 47) rfl H263.nil))))))))), O197.sel [1, 2, 3, 4] (by decide), ?_, ?_, ?_, ?_, ?_, rfl⟩
     ·
      rw [hm160]; omega
     ·
      omega
     ·
      omega
     ·
      exact hJm
     ·
      exact hfd
     exact fun h_ => by cases h_
    have H264 := H252.subst_ (d := 62) (b := false) rfl hb253
    clear H252
    (try simp only [decide_eq_false_iff_not] at hb253)
    refine gR fun K265 hK265 => ?_
    refine V H264 (op_eqi rfl (H264.ev rfl) (ev_c _ _)) fun _ H267 => ?_
    refine Va H267 fun _ H269 => ?_
    refine gE hK265 ?_
    clear H264 H267
    refine gw_cond H269 rfl (fun hb270 => ?_) (fun hb270 => ?_)
    ·
     have H271 := H269.subst_ (d := 95) (b := true) rfl hb270
     clear H269
     (try simp only [decide_eq_true_eq] at hb270)
     refine gR fun K272 hK272 => ?_
     refine Vm H271 fun _ H274 => ?_
     refine Vf H274 (gwfld50_3 _ _) fun _ H276 => ?_
     refine Vl H276 gwagg3 (O197.get 0 rfl) fun _ H278 => ?_
     clear H271 H274 H276
     have O287 : Own w _ [(Chunk.all [Bk g188 [J ((script.getD i.toNat z50).f0), J ((script.getD i.toNat z50).f1), .slice A176 ((script.getD i.toNat z50).f2.length) c177, J ((script.getD i.toNat z50).f3), .slice A180 ((script.getD i.toNat z50).f4.length) c181] 50, Chunk.rj w (fun k_ => k_ < w.heap.size) Sm Am cm files Ai ci its, Bk g100 [.slice Am files.length cm, J d.most, J d.fuse, .bool d.down, .string (⟨#[106]⟩ : ByteArray), .slice Ai its.length ci] 41, Chunk.void]), Chunk.disk w.heap.size gd7 Sd d] := Own.bundle (O197.sel [0, 2, 3, 4, 1] (by decide))
     refine Wk H278 Tryz.func19 rfl (ar_cons (H278.ev rfl) (ar_cons (H278.ev rfl) ar_nil)) (fail_calls w _ (Chunk.all [Bk g188 [J ((script.getD i.toNat z50).f0), J ((script.getD i.toNat z50).f1), .slice A176 ((script.getD i.toNat z50).f2.length) c177, J ((script.getD i.toNat z50).f3), .slice A180 ((script.getD i.toNat z50).f4.length) c181] 50, Chunk.rj w (fun k_ => k_ < w.heap.size) Sm Am cm files Ai ci its, Bk g100 [.slice Am files.length cm, J d.most, J d.fuse, .bool d.down, .string (⟨#[106]⟩ : ByteArray), .slice Ai its.length ci] 41, Chunk.void]) gd7 Sd d ((script.getD i.toNat z50).f3) (by exact O287)) ?_
     rintro e281 w282 ⟨rfl, S279, hb283⟩
     refine ⟨_, rfl, fun _ H285 => ?_⟩
     have O286 : Own w w282 [Bk g188 [J ((script.getD i.toNat z50).f0), J ((script.getD i.toNat z50).f1), .slice A176 ((script.getD i.toNat z50).f2.length) c177, J ((script.getD i.toNat z50).f3), .slice A180 ((script.getD i.toNat z50).f4.length) c181] 50, Chunk.rj w (fun k_ => k_ < w.heap.size) Sm Am cm files Ai ci its, Bk g100 [.slice Am files.length cm, J d.most, J d.fuse, .bool d.down, .string (⟨#[106]⟩ : ByteArray), .slice Ai its.length ci] 41, Chunk.void, Chunk.disk w.heap.size gd7 S279 ({ d with fuse := mx ((script.getD i.toNat z50).f3) 0 } : PD)] := Own.unbundle (hb283.sel [0, 1] (by decide))
     clear O287
     clear H278 O197 hb283
     have hwf280 : wfD ({ d with fuse := mx ((script.getD i.toNat z50).f3) 0 } : PD) := wf_fuse hJ.wf (by unfold mx; split <;> omega)
     have hJn : JV ({ d with fuse := mx ((script.getD i.toNat z50).f3) 0 } : PD) (used + (((script.getD i.toNat z50).f2.length : Int) + 20)) := (hJ.fail hzx.2.2).more (by omega)
     refine gE hK272 ?_
     refine wp_region_lit ?_
     refine Vf H285 (gwfld50_3 _ _) fun _ H290 => ?_
     refine Vl H290 gwagg3 (O286.get 0 rfl) fun _ H292 => ?_
     refine V H292 (op_max rfl (H292.ev rfl) (ev_c _ _)) fun _ H294 => ?_
     refine Vf H294 (gwfld41_0 _ _) fun _ H296 => ?_
     refine Vf H296 (gwfld34_2 _ _) fun _ H298 => ?_
     clear H285 H290 H292 H294 H296
     refine gw_set 2 H298 O286 rfl (want_none rfl) rfl (op_store1 gwsiz3 rfl (H298.ev rfl) (H298.ev rfl) rfl (blk_at (O286.get 2 rfl) rfl) (blkf (O286.get 2 rfl))) ?_
     intro _ w301 H300 O302; clear H298 O286
     refine wpList_nil ?_
     refine gw_blk ?_
     refine gw_nx ⟨({ d with fuse := mx ((script.getD i.toNat z50).f3) 0 } : PD), S279, (fun _ => False), Sm, files, its, Am, cm, Ai, ci, 0, true, (H300.pick (t := 13) rfl (H300.pick (t := 8) rfl (H300.pick (t := 48) rfl (H300.pick (t := 2) rfl (H300.pick (t := 7) rfl (H300.pick (t := 10) rfl (H300.pick (t := 46) rfl (H300.pick (t := 47) rfl (H300.pick (t := 49) rfl (H300.pick (t := 50) rfl (H300.pick (t := 51) rfl (H300.pick (t := 15) rfl (H300.pick (t := 52) rfl (H300.pick (t := 53) rfl (H300.pick (t := 54) rfl (H300.pick (t := 55) rfl (H300.pick (t := 56) rfl (H300.pick (t := 57) rfl (H300.pick (t := 12) rfl (H300.pick (t := 58) rfl (H300.pick (t := 59) rfl H300.nil))))))))))))))))))))), O302.sel [4, 1, 2, 3] (by decide), ?_, ?_, ?_⟩
     ·
      exact hJn
     ·
      exact hfd
     exact fun h_ => by cases h_
    have H303 := H269.subst_ (d := 95) (b := false) rfl hb270
    clear H269
    (try simp only [decide_eq_false_iff_not] at hb270)
    refine gR fun K304 hK304 => ?_
    refine V H303 (op_eqi rfl (H303.ev rfl) (ev_c _ _)) fun _ H306 => ?_
    refine Va H306 fun _ H308 => ?_
    refine gE hK304 ?_
    clear H303 H306
    refine gw_cond H308 rfl (fun hb309 => ?_) (fun hb309 => ?_)
    ·
     have H310 := H308.subst_ (d := 106) (b := true) rfl hb309
     clear H308
     (try simp only [decide_eq_true_eq] at hb309)
     refine gR fun K311 hK311 => ?_
     refine Vm H310 fun _ H313 => ?_
     refine Vf H313 (gwfld50_4 _ _) fun _ H315 => ?_
     refine Vl H315 gwagg48 (O197.get 0 rfl) fun _ H317 => ?_
     clear H310 H313 H315
     have O326 : Own w _ [(Chunk.all [Bk g188 [J ((script.getD i.toNat z50).f0), J ((script.getD i.toNat z50).f1), .slice A176 ((script.getD i.toNat z50).f2.length) c177, J ((script.getD i.toNat z50).f3), .slice A180 ((script.getD i.toNat z50).f4.length) c181] 50, Chunk.rj w (fun k_ => k_ < w.heap.size) Sm Am cm files Ai ci its, Bk g100 [.slice Am files.length cm, J d.most, J d.fuse, .bool d.down, .string (⟨#[106]⟩ : ByteArray), .slice Ai its.length ci] 41, Chunk.void]), Chunk.disk w.heap.size gd7 Sd d] := Own.bundle (O197.sel [0, 2, 3, 4, 1] (by decide))
     refine Wk H317 Tryz.func14 rfl (ar_cons (H317.ev rfl) (ar_cons (H317.ev rfl) ar_nil)) (crash_calls w _ (Chunk.all [Bk g188 [J ((script.getD i.toNat z50).f0), J ((script.getD i.toNat z50).f1), .slice A176 ((script.getD i.toNat z50).f2.length) c177, J ((script.getD i.toNat z50).f3), .slice A180 ((script.getD i.toNat z50).f4.length) c181] 50, Chunk.rj w (fun k_ => k_ < w.heap.size) Sm Am cm files Ai ci its, Bk g100 [.slice Am files.length cm, J d.most, J d.fuse, .bool d.down, .string (⟨#[106]⟩ : ByteArray), .slice Ai its.length ci] 41, Chunk.void]) gd7 Sd d A180 c181 ((script.getD i.toNat z50).f4) (fun w_ h_ => Kd.C_below hC183 h_.below) hl182 hJ.wf (by have h_ := hJ.len; omega) (by exact O326)) ?_
     rintro e320 w321 ⟨rfl, S318, hb322⟩
     refine ⟨_, rfl, fun _ H324 => ?_⟩
     have O325 : Own w w321 [Bk g188 [J ((script.getD i.toNat z50).f0), J ((script.getD i.toNat z50).f1), .slice A176 ((script.getD i.toNat z50).f2.length) c177, J ((script.getD i.toNat z50).f3), .slice A180 ((script.getD i.toNat z50).f4.length) c181] 50, Chunk.rj w (fun k_ => k_ < w.heap.size) Sm Am cm files Ai ci its, Bk g100 [.slice Am files.length cm, J d.most, J d.fuse, .bool d.down, .string (⟨#[106]⟩ : ByteArray), .slice Ai its.length ci] 41, Chunk.void, Chunk.disk w.heap.size gd7 S318 (crashD ((script.getD i.toNat z50).f4) d)] := Own.unbundle (hb322.sel [0, 1] (by decide))
     clear O326
     clear H317 O197 hb322
     have hwf319 : wfD (crashD ((script.getD i.toNat z50).f4) d) := wf_crash hJ.wf
     refine gE hK311 ?_
     refine gR fun K328 hK328 => ?_
     refine Vm H324 fun _ H330 => ?_
     clear H324
     have hJc : JV (crashD ((script.getD i.toNat z50).f4) d) (used + (((script.getD i.toNat z50).f2.length : Int) + 20)) := (hJ.crash (keep := (script.getD i.toNat z50).f4)).more (by omega)
     have hwo := wf_open (nm := (⟨#[106]⟩ : ByteArray)) hJc.wf
     have O340 : Own w _ [(Chunk.all [Bk g188 [J ((script.getD i.toNat z50).f0), J ((script.getD i.toNat z50).f1), .slice A176 ((script.getD i.toNat z50).f2.length) c177, J ((script.getD i.toNat z50).f3), .slice A180 ((script.getD i.toNat z50).f4.length) c181] 50, Chunk.rj w (fun k_ => k_ < w.heap.size) Sm Am cm files Ai ci its, Bk g100 [.slice Am files.length cm, J d.most, J d.fuse, .bool d.down, .string (⟨#[106]⟩ : ByteArray), .slice Ai its.length ci] 41, Chunk.void]), Chunk.disk w.heap.size gd7 S318 (crashD ((script.getD i.toNat z50).f4) d)] := Own.bundle (O325.sel [0, 1, 2, 3, 4] (by decide))
     refine Wk H330 Tryz.func9 rfl (ar_cons (H330.ev rfl) (ar_cons (ev_c _ _) ar_nil)) (open_calls w _ (Chunk.all [Bk g188 [J ((script.getD i.toNat z50).f0), J ((script.getD i.toNat z50).f1), .slice A176 ((script.getD i.toNat z50).f2.length) c177, J ((script.getD i.toNat z50).f3), .slice A180 ((script.getD i.toNat z50).f4.length) c181] 50, Chunk.rj w (fun k_ => k_ < w.heap.size) Sm Am cm files Ai ci its, Bk g100 [.slice Am files.length cm, J d.most, J d.fuse, .bool d.down, .string (⟨#[106]⟩ : ByteArray), .slice Ai its.length ci] 41, Chunk.void]) gd7 S318 (crashD ((script.getD i.toNat z50).f4) d) (⟨#[106]⟩ : ByteArray) hJc.wf (by decide) (by have h_ := hJc.len; omega) (by have h_ := hJc.by_; omega) hJc.read (by exact O340)) ?_
     rintro e334 w335 (⟨rfl, hne, S331, hb336⟩ | ⟨h0, gj332, Sj333, S331, rfl, hb336⟩)
     ·
      refine ⟨_, rfl, fun _ H338 => ?_⟩
      have O339 : Own w w335 [Bk g188 [J ((script.getD i.toNat z50).f0), J ((script.getD i.toNat z50).f1), .slice A176 ((script.getD i.toNat z50).f2.length) c177, J ((script.getD i.toNat z50).f3), .slice A180 ((script.getD i.toNat z50).f4.length) c181] 50, Chunk.rj w (fun k_ => k_ < w.heap.size) Sm Am cm files Ai ci its, Bk g100 [.slice Am files.length cm, J d.most, J d.fuse, .bool d.down, .string (⟨#[106]⟩ : ByteArray), .slice Ai its.length ci] 41, Chunk.void, Chunk.disk w.heap.size gd7 S331 ((openJ (⟨#[106]⟩ : ByteArray) (crashD ((script.getD i.toNat z50).f4) d)).1.1)] := Own.unbundle (A := [Bk g188 [J ((script.getD i.toNat z50).f0), J ((script.getD i.toNat z50).f1), .slice A176 ((script.getD i.toNat z50).f2.length) c177, J ((script.getD i.toNat z50).f3), .slice A180 ((script.getD i.toNat z50).f4.length) c181] 50, Chunk.rj w (fun k_ => k_ < w.heap.size) Sm Am cm files Ai ci its, Bk g100 [.slice Am files.length cm, J d.most, J d.fuse, .bool d.down, .string (⟨#[106]⟩ : ByteArray), .slice Ai its.length ci] 41, Chunk.void]) (L := [Chunk.disk w.heap.size gd7 S331 ((openJ (⟨#[106]⟩ : ByteArray) (crashD ((script.getD i.toNat z50).f4) d)).1.1)]) hb336
      clear O340 hb336
      clear H330 O325
      refine Vm H338 fun _ H342 => ?_
      refine Vx H342 fun _ H344 => ?_
      refine Vx H344 fun _ H346 => ?_
      refine Va H346 fun _ H348 => ?_
      refine Va H348 fun _ H350 => ?_
      refine gE hK328 ?_
      refine gR fun K351 hK351 => ?_
      refine Vf H350 (gwfld41_0 _ _) fun _ H353 => ?_
      refine V H353 (op_loadn gwagg34 gwsiz34 rfl (H353.ev rfl) (O339.get 2 rfl) rfl rfl) fun _ H355 => ?_
      refine Vf H355 (gwfld50_4 _ _) fun _ H357 => ?_
      clear H338 H342 H344 H346 H348 H350 H353 H355
      refine Vl H357 gwagg48 (O339.get 0 rfl) fun _ H359 => ?_
      clear H357
      refine Wk H359 Tryz.func20 rfl (ar_cons (H359.ev rfl) (ar_cons (H359.ev rfl) ar_nil)) (crash_j Am cm files Ai ci its d A180 c181 ((script.getD i.toNat z50).f4) 1 (fun _ h_ => h_) O339 rfl (by omega) hfd hJ.wf (by omega) (Kd.C_below hC183 O339.below) hl182) ?_
      rintro e365 w366 ⟨files360, A361, c362, S363, hd364, rfl, hb367⟩
      refine ⟨_, rfl, fun _ H369 => ?_⟩
      have O370 := O339.calls 1 rfl hb367
      clear H359 O339 hb367
      refine Wk H369 Tryz.func12 rfl (ar_cons (H369.ev rfl) (ar_cons (ev_c _ _) ar_nil)) (open_p A361 c362 files360 Ai ci its (crashD (script.getD i.toNat z50).f4 d) (⟨#[106]⟩ : ByteArray) 1 (fun _ h_ => h_) O370 rfl (by have h_ := congrArg List.length hd364; rw [List.length_map] at h_; have h2_ := hJc.len; omega) hd364 hJc.wf (by have h_ := hJc.by_; omega) (hJc.read)) ?_
      rintro e381 w382 ⟨files372, A373, c374, its375, Ai376, ci377, S378, hd379, hs380, rfl, hb383⟩
      refine ⟨_, rfl, fun _ H385 => ?_⟩
      have O386 := O370.calls 1 rfl hb383
      clear H369 O370 hb383
      have hs9 := hs380
      refine Vm H385 fun _ H389 => ?_
      refine Vx H389 fun _ H391 => ?_
      refine Vx H391 fun _ H393 => ?_
      clear H385 H389 H391
      have hJn : JV (openJ (⟨#[106]⟩ : ByteArray) (crashD ((script.getD i.toNat z50).f4) d)).1.1 (used + (((script.getD i.toNat z50).f2.length : Int) + 20)) := (hJ.crash (keep := (script.getD i.toNat z50).f4)).open_.more (by omega)
      refine gw_setn 2 H393 O386 rfl (want_none rfl) rfl (op_storen gwsiz41 rfl (H393.ev rfl) (H393.ev rfl) (O386.get 2 rfl) rfl (by simp) (by simp [Value.oneCell'])) ?_
      intro _ w396 H395 O397; clear H393 O386
      have O398 : Own w w396 [Bk g188 [J ((script.getD i.toNat z50).f0), J ((script.getD i.toNat z50).f1), .slice A176 ((script.getD i.toNat z50).f2.length) c177, J ((script.getD i.toNat z50).f3), .slice A180 ((script.getD i.toNat z50).f4.length) c181] 50, Chunk.rj w (fun k_ => k_ < w.heap.size) S378 A373 c374 files372 Ai376 ci377 its375, Bk g100 [.slice A373 files372.length c374, J ((openJ (⟨#[106]⟩ : ByteArray) (crashD ((script.getD i.toNat z50).f4) d)).1.1.most), J ((openJ (⟨#[106]⟩ : ByteArray) (crashD ((script.getD i.toNat z50).f4) d)).1.1.fuse), .bool ((openJ (⟨#[106]⟩ : ByteArray) (crashD ((script.getD i.toNat z50).f4) d)).1.1.down), .string (⟨#[106]⟩ : ByteArray), .slice Ai376 its375.length ci377] 41, Chunk.void, Chunk.disk w.heap.size gd7 S331 ((openJ (⟨#[106]⟩ : ByteArray) (crashD ((script.getD i.toNat z50).f4) d)).1.1)] := O397
      clear O397
      refine Va H395 fun _ H400 => ?_
      refine gE hK351 ?_
      refine gw_seq fun K401 hK401 => ?_
      refine gR fun K402 hK402 => ?_
      refine Vm H400 fun _ H404 => ?_
      refine Vm H404 fun _ H406 => ?_
      refine V H406 (op_nei rfl (H406.ev rfl) (H406.ev rfl)) fun _ H408 => ?_
      clear H395 H400 H404 H406
      have H409 := H408.lit (b := false) (by simp)
      clear H408
      refine Vm H409 fun _ H411 => ?_
      refine V2 H411 (want_yes H411 rfl rfl rfl rfl) (op_move rfl (H411.ev rfl)) fun _ H413 => ?_
      refine V2 H413 (want_yes H413 rfl rfl rfl rfl) (op_nep_nils Tryz.underlying29 rfl (H413.ev rfl)) fun _ H415 => ?_
      refine V2 H415 (want_yes H415 rfl rfl rfl rfl) (op_move rfl (H415.ev rfl)) fun _ H417 => ?_
      refine V2 H417 (want_yes H417 rfl rfl rfl rfl) (op_eqi rfl (H417.ev rfl) (ev_c _ _)) fun _ H419 => ?_
      refine V2 H419 (want_yes H419 rfl rfl rfl rfl) (op_neb Tryz.underlying4 rfl (H419.ev rfl) (H419.ev rfl)) fun _ H421 => ?_
      clear H409 H411 H413 H415 H417 H419
      have H422 := H421.lit (b := false) (by rw [decide_eq_false hne]; rfl)
      clear H421
      refine V H422 (op_pick_f rfl (H422.ev rfl) (H422.ev rfl)) fun _ H424 => ?_
      refine gE hK402 ?_
      clear H422
      refine gw_cond H424 rfl (fun hb425 => ?_) (fun hb425 => ?_)
      ·
       cases hb425
      refine gS hK401 ?_
      refine wp_region_lit ?_
      refine Vm H424 fun _ H427 => ?_
      refine V H427 (op_nei rfl (H427.ev rfl) (ev_c _ _)) fun _ H429 => ?_
      clear H424 H427
      have H430 := H429.lit (b := true) (decide_eq_true hne)
      clear H429
      refine Va H430 fun _ H432 => ?_
      clear H430
      refine wpList_nil ?_
      refine gw_blk ?_
      have O433 := O398.void
      refine gw_nx ⟨((openJ (⟨#[106]⟩ : ByteArray) (crashD ((script.getD i.toNat z50).f4) d)).1.1), S331, (fun _ => False), S378, files372, its375, A373, c374, Ai376, ci377, 0, true, (H432.pick (t := 13) rfl (H432.pick (t := 8) rfl (H432.pick (t := 48) rfl (H432.pick (t := 2) rfl (H432.pick (t := 7) rfl (H432.pick (t := 10) rfl (H432.pick (t := 46) rfl (H432.pick (t := 47) rfl (H432.pick (t := 49) rfl (H432.pick (t := 50) rfl (H432.pick (t := 51) rfl (H432.pick (t := 15) rfl (H432.pick (t := 52) rfl (H432.pick (t := 53) rfl (H432.pick (t := 54) rfl (H432.pick (t := 55) rfl (H432.pick (t := 56) rfl (H432.pick (t := 57) rfl (H432.pick (t := 12) rfl (H432.pick (t := 58) rfl (H432.pick (t := 59) rfl H432.nil))))))))))))))))))))), O433.sel [5, 2, 3, 0] (by decide), ?_, ?_, ?_⟩
      ·
       exact hJn
      ·
       exact hd379
      exact fun h_ => by cases h_
     refine ⟨_, rfl, fun _ H338 => ?_⟩
     have O339 : Own w w335 [Bk g188 [J ((script.getD i.toNat z50).f0), J ((script.getD i.toNat z50).f1), .slice A176 ((script.getD i.toNat z50).f2.length) c177, J ((script.getD i.toNat z50).f3), .slice A180 ((script.getD i.toNat z50).f4.length) c181] 50, Chunk.rj w (fun k_ => k_ < w.heap.size) Sm Am cm files Ai ci its, Bk g100 [.slice Am files.length cm, J d.most, J d.fuse, .bool d.down, .string (⟨#[106]⟩ : ByteArray), .slice Ai its.length ci] 41, Chunk.void, Chunk.disk w.heap.size gd7 S331 ((openJ (⟨#[106]⟩ : ByteArray) (crashD ((script.getD i.toNat z50).f4) d)).1.1), Chunk.jour w.heap.size gd7 gj332 (⟨#[106]⟩ : ByteArray) Sj333 ((openJ (⟨#[106]⟩ : ByteArray) (crashD ((script.getD i.toNat z50).f4) d)).2.1) ((openJ (⟨#[106]⟩ : ByteArray) (crashD ((script.getD i.toNat z50).f4) d)).2.2)] := Own.unbundle (A := [Bk g188 [J ((script.getD i.toNat z50).f0), J ((script.getD i.toNat z50).f1), .slice A176 ((script.getD i.toNat z50).f2.length) c177, J ((script.getD i.toNat z50).f3), .slice A180 ((script.getD i.toNat z50).f4.length) c181] 50, Chunk.rj w (fun k_ => k_ < w.heap.size) Sm Am cm files Ai ci its, Bk g100 [.slice Am files.length cm, J d.most, J d.fuse, .bool d.down, .string (⟨#[106]⟩ : ByteArray), .slice Ai its.length ci] 41, Chunk.void]) (L := [Chunk.disk w.heap.size gd7 S331 ((openJ (⟨#[106]⟩ : ByteArray) (crashD ((script.getD i.toNat z50).f4) d)).1.1), Chunk.jour w.heap.size gd7 gj332 (⟨#[106]⟩ : ByteArray) Sj333 ((openJ (⟨#[106]⟩ : ByteArray) (crashD ((script.getD i.toNat z50).f4) d)).2.1) ((openJ (⟨#[106]⟩ : ByteArray) (crashD ((script.getD i.toNat z50).f4) d)).2.2)]) hb336
     clear O340 hb336
     clear H330 O325
     refine Vm H338 fun _ H435 => ?_
     refine Vx H435 fun _ H437 => ?_
     refine Vx H437 fun _ H439 => ?_
     refine Va H439 fun _ H441 => ?_
     refine Va H441 fun _ H443 => ?_
     refine gE hK328 ?_
     refine gR fun K444 hK444 => ?_
     refine Vf H443 (gwfld41_0 _ _) fun _ H446 => ?_
     refine V H446 (op_loadn gwagg34 gwsiz34 rfl (H446.ev rfl) (O339.get 2 rfl) rfl rfl) fun _ H448 => ?_
     refine Vf H448 (gwfld50_4 _ _) fun _ H450 => ?_
     clear H338 H435 H437 H439 H441 H443 H446 H448
     refine Vl H450 gwagg48 (O339.get 0 rfl) fun _ H452 => ?_
     clear H450
     refine Wk H452 Tryz.func20 rfl (ar_cons (H452.ev rfl) (ar_cons (H452.ev rfl) ar_nil)) (crash_j Am cm files Ai ci its d A180 c181 ((script.getD i.toNat z50).f4) 1 (fun _ h_ => h_) O339 rfl (by omega) hfd hJ.wf (by omega) (Kd.C_below hC183 O339.below) hl182) ?_
     rintro e458 w459 ⟨files453, A454, c455, S456, hd457, rfl, hb460⟩
     refine ⟨_, rfl, fun _ H462 => ?_⟩
     have O463 := O339.calls 1 rfl hb460
     clear H452 O339 hb460
     refine Wk H462 Tryz.func12 rfl (ar_cons (H462.ev rfl) (ar_cons (ev_c _ _) ar_nil)) (open_p A454 c455 files453 Ai ci its (crashD (script.getD i.toNat z50).f4 d) (⟨#[106]⟩ : ByteArray) 1 (fun _ h_ => h_) O463 rfl (by have h_ := congrArg List.length hd457; rw [List.length_map] at h_; have h2_ := hJc.len; omega) hd457 hJc.wf (by have h_ := hJc.by_; omega) (hJc.read)) ?_
     rintro e474 w475 ⟨files465, A466, c467, its468, Ai469, ci470, S471, hd472, hs473, rfl, hb476⟩
     refine ⟨_, rfl, fun _ H478 => ?_⟩
     have O479 := O463.calls 1 rfl hb476
     clear H462 O463 hb476
     have hs9 := hs473
     refine Vm H478 fun _ H482 => ?_
     refine Vx H482 fun _ H484 => ?_
     refine Vx H484 fun _ H486 => ?_
     clear H478 H482 H484
     have hJn : JV (openJ (⟨#[106]⟩ : ByteArray) (crashD ((script.getD i.toNat z50).f4) d)).1.1 (used + (((script.getD i.toNat z50).f2.length : Int) + 20)) := (hJ.crash (keep := (script.getD i.toNat z50).f4)).open_.more (by omega)
     have hit := hJc.items (nm := (⟨#[106]⟩ : ByteArray)) (by omega) h0
     have hsi := hs9 h0
     have O487 : Own w w475 [Bk g188 [J ((script.getD i.toNat z50).f0), J ((script.getD i.toNat z50).f1), .slice A176 ((script.getD i.toNat z50).f2.length) c177, J ((script.getD i.toNat z50).f3), .slice A180 ((script.getD i.toNat z50).f4.length) c181] 50, Chunk.rj w (fun k_ => k_ < w.heap.size) S471 A466 c467 files465 Ai469 ci470 its468, Bk g100 [.slice Am files.length cm, J d.most, J d.fuse, .bool d.down, .string (⟨#[106]⟩ : ByteArray), .slice Ai its.length ci] 41, Chunk.void, Chunk.disk w.heap.size gd7 S331 ((openJ (⟨#[106]⟩ : ByteArray) (crashD ((script.getD i.toNat z50).f4) d)).1.1), Chunk.jour w.heap.size gd7 gj332 (⟨#[106]⟩ : ByteArray) Sj333 (its468.map toI) ((recsJ (its468.map toI)).length : Int)] := by have h_ := O479; rw [hit.2, ← hsi] at h_; exact h_
     have hIn : JI (its468.map toI) (used + (((script.getD i.toNat z50).f2.length : Int) + 20)) := by rw [hsi]; exact hit.1
     refine gw_setn 2 H486 O487 rfl (want_none rfl) rfl (op_storen gwsiz41 rfl (H486.ev rfl) (H486.ev rfl) (O487.get 2 rfl) rfl (by simp) (by simp [Value.oneCell'])) ?_
     intro _ w490 H489 O491; clear H486 O487
     have O492 : Own w w490 [Bk g188 [J ((script.getD i.toNat z50).f0), J ((script.getD i.toNat z50).f1), .slice A176 ((script.getD i.toNat z50).f2.length) c177, J ((script.getD i.toNat z50).f3), .slice A180 ((script.getD i.toNat z50).f4.length) c181] 50, Chunk.rj w (fun k_ => k_ < w.heap.size) S471 A466 c467 files465 Ai469 ci470 its468, Bk g100 [.slice A466 files465.length c467, J ((openJ (⟨#[106]⟩ : ByteArray) (crashD ((script.getD i.toNat z50).f4) d)).1.1.most), J ((openJ (⟨#[106]⟩ : ByteArray) (crashD ((script.getD i.toNat z50).f4) d)).1.1.fuse), .bool ((openJ (⟨#[106]⟩ : ByteArray) (crashD ((script.getD i.toNat z50).f4) d)).1.1.down), .string (⟨#[106]⟩ : ByteArray), .slice Ai469 its468.length ci470] 41, Chunk.void, Chunk.disk w.heap.size gd7 S331 ((openJ (⟨#[106]⟩ : ByteArray) (crashD ((script.getD i.toNat z50).f4) d)).1.1), Chunk.jour w.heap.size gd7 gj332 (⟨#[106]⟩ : ByteArray) Sj333 (its468.map toI) ((recsJ (its468.map toI)).length : Int)] := O491
     clear O491
     refine Va H489 fun _ H494 => ?_
     refine gE hK444 ?_
     refine gw_seq fun K495 hK495 => ?_
     refine gR fun K496 hK496 => ?_
     refine Vm H494 fun _ H498 => ?_
     refine Vm H498 fun _ H500 => ?_
     refine V H500 (op_nei rfl (H500.ev rfl) (H500.ev rfl)) fun _ H502 => ?_
     clear H489 H494 H498 H500
     have H503 := H502.lit (b := false) (by rw [h0]; rfl)
     clear H502
     refine Vm H503 fun _ H505 => ?_
     refine V2 H505 (want_yes H505 rfl rfl rfl rfl) (op_move rfl (H505.ev rfl)) fun _ H507 => ?_
     refine V2 H507 (want_yes H507 rfl rfl rfl rfl) (op_nep_nil Tryz.underlying29 rfl (H507.ev rfl)) fun _ H509 => ?_
     refine V2 H509 (want_yes H509 rfl rfl rfl rfl) (op_move rfl (H509.ev rfl)) fun _ H511 => ?_
     refine V2 H511 (want_yes H511 rfl rfl rfl rfl) (op_eqi rfl (H511.ev rfl) (ev_c _ _)) fun _ H513 => ?_
     refine V2 H513 (want_yes H513 rfl rfl rfl rfl) (op_neb Tryz.underlying4 rfl (H513.ev rfl) (H513.ev rfl)) fun _ H515 => ?_
     clear H503 H505 H507 H509 H511 H513
     have H516 := H515.lit (b := false) (by rw [h0]; rfl)
     clear H515
     refine V H516 (op_pick_f rfl (H516.ev rfl) (H516.ev rfl)) fun _ H518 => ?_
     refine gE hK496 ?_
     clear H516
     refine gw_cond H518 rfl (fun hb519 => ?_) (fun hb519 => ?_)
     ·
      cases hb519
     refine gS hK495 ?_
     refine wp_region_lit ?_
     refine Vm H518 fun _ H521 => ?_
     refine V H521 (op_nei rfl (H521.ev rfl) (ev_c _ _)) fun _ H523 => ?_
     clear H518 H521
     have H524 := H523.lit (b := false) (by rw [h0]; rfl)
     clear H523
     refine Va H524 fun _ H526 => ?_
     clear H524
     refine wpList_nil ?_
     refine gw_blk ?_
     refine gw_nx ⟨((openJ (⟨#[106]⟩ : ByteArray) (crashD ((script.getD i.toNat z50).f4) d)).1.1), S331, Sj333, S471, files465, its468, A466, c467, Ai469, ci470, gj332, false, (H526.pick (t := 13) rfl (H526.pick (t := 8) rfl (H526.pick (t := 48) rfl (H526.pick (t := 2) rfl (H526.pick (t := 7) rfl (H526.pick (t := 10) rfl (H526.pick (t := 46) rfl (H526.pick (t := 47) rfl (H526.pick (t := 49) rfl (H526.pick (t := 50) rfl (H526.pick (t := 51) rfl (H526.pick (t := 15) rfl (H526.pick (t := 52) rfl (H526.pick (t := 53) rfl (H526.pick (t := 54) rfl (H526.pick (t := 55) rfl (H526.pick (t := 56) rfl (H526.pick (t := 57) rfl (H526.pick (t := 12) rfl (H526.pick (t := 58) rfl (H526.pick (t := 59) rfl H526.nil))))))))))))))))))))), O492.sel [4, 1, 2, 5] (by decide), ?_, ?_, ?_⟩
     ·
      exact hJn
     ·
      exact hd472
     exact fun _ => hIn
    have H527 := H308.subst_ (d := 106) (b := false) rfl hb309
    clear H308
    (try simp only [decide_eq_false_iff_not] at hb309)
    refine wp_skip ?_
    refine gw_blk ?_
    refine gw_nx ⟨d, Sd, (fun _ => False), Sm, files, its, Am, cm, Ai, ci, 0, true, (H527.pick (t := 13) rfl (H527.pick (t := 8) rfl (H527.pick (t := 48) rfl (H527.pick (t := 2) rfl (H527.pick (t := 7) rfl (H527.pick (t := 10) rfl (H527.pick (t := 46) rfl (H527.pick (t := 47) rfl (H527.pick (t := 49) rfl (H527.pick (t := 50) rfl (H527.pick (t := 51) rfl (H527.pick (t := 15) rfl (H527.pick (t := 52) rfl (H527.pick (t := 53) rfl (H527.pick (t := 54) rfl (H527.pick (t := 55) rfl (H527.pick (t := 56) rfl (H527.pick (t := 57) rfl (H527.pick (t := 12) rfl (H527.pick (t := 58) rfl (H527.pick (t := 59) rfl H527.nil))))))))))))))))))))), O197.sel [1, 2, 3, 4] (by decide), ?_, ?_, ?_⟩
    ·
     exact hJm
    ·
     exact hfd
    exact fun h_ => by cases h_
   rintro _ w529 ⟨d2, Sd2, Sj2, Sm2, files2, its2, Am2, cm2, Ai2, ci2, gj2, lost2, H530, O531, hJ2, hfd2, hI2⟩
   rcases Bool.eq_false_or_eq_true lost2 with hl2_ | hl2_ <;> subst hl2_
   ·
    have O532 : Own w w529 [Chunk.disk w.heap.size gd7 Sd2 d2, Chunk.rj w (fun k_ => k_ < w.heap.size) Sm2 Am2 cm2 files2 Ai2 ci2 its2, Bk g100 [.slice Am2 files2.length cm2, J d2.most, J d2.fuse, .bool d2.down, .string (⟨#[106]⟩ : ByteArray), .slice Ai2 its2.length ci2] 41, Chunk.void] := O531
    have hJn := hJ2
    refine gR fun K533 hK533 => ?_
    refine Vm H530 fun _ H535 => ?_
    refine V H535 (op_not rfl (H535.ev rfl)) fun _ H537 => ?_
    refine Vm H537 fun _ H539 => ?_
    refine Vo H539 (wn H539 rfl rfl rfl rfl) fun _ H541 => ?_
    refine Vo H541 (wn H541 rfl rfl rfl rfl) fun _ H543 => ?_
    refine Vo H543 (wn H543 rfl rfl rfl rfl) fun _ H545 => ?_
    refine Vo H545 (wn H545 rfl rfl rfl rfl) fun _ H547 => ?_
    refine Vo H547 (wn H547 rfl rfl rfl rfl) fun _ H549 => ?_
    clear H530 H535 H537 H539 H541 H543 H545 H547
    refine V H549 (op_pick_f rfl (H549.ev rfl) (ev_c _ _)) fun _ H551 => ?_
    refine gE hK533 ?_
    clear H549
    refine gw_cond H551 rfl (fun hb552 => ?_) (fun hb552 => ?_)
    ·
     cases hb552
    refine wp_skip ?_
    refine gw_blk ?_
    refine gw_nx (hK168 _ _ ?_)
    refine wp_region_lit ?_
    refine V H551 (op_add rfl (H551.ev rfl) (ev_c _ _) (by omega)) fun _ H554 => ?_
    refine Vm H554 fun _ H556 => ?_
    clear H551 H554
    refine wpList_nil ?_
    refine gw_nx ⟨_, ?_, i + 1, (used + ((((script.getD i.toNat z50).f2.length) : Int) + 20)), d2, Sd2, (fun _ => False), Sm2, files2, its2, Am2, cm2, Ai2, ci2, 0, true, (H556.pick (t := 48) rfl (H556.pick (t := 12) rfl (H556.pick (t := 13) rfl (H556.pick (t := 8) rfl (H556.pick (t := 2) rfl (H556.pick (t := 7) rfl (H556.pick (t := 10) rfl (H556.pick (t := 46) rfl (H556.pick (t := 47) rfl H556.nil))))))))), O532.sel [0, 1, 2, 3] (by decide), ?_, ?_, ?_, ?_, ?_, rfl⟩
    ·
     rw [hm160]; omega
    ·
     omega
    ·
     omega
    ·
     exact hJn
    ·
     exact hfd2
    exact fun h_ => by cases h_
   have O557 : Own w w529 [Chunk.disk w.heap.size gd7 Sd2 d2, Chunk.rj w (fun k_ => k_ < w.heap.size) Sm2 Am2 cm2 files2 Ai2 ci2 its2, Bk g100 [.slice Am2 files2.length cm2, J d2.most, J d2.fuse, .bool d2.down, .string (⟨#[106]⟩ : ByteArray), .slice Ai2 its2.length ci2] 41, Chunk.jour w.heap.size gd7 gj2 (⟨#[106]⟩ : ByteArray) Sj2 (its2.map toI) ((recsJ (its2.map toI)).length : Int)] := O531
   have hJn := hJ2
   have hIn := hI2 rfl
   refine gR fun K558 hK558 => ?_
   refine Vm H530 fun _ H560 => ?_
   refine V H560 (op_not rfl (H560.ev rfl)) fun _ H562 => ?_
   refine Vm H562 fun _ H564 => ?_
   refine V2 H564 (want_yes H564 rfl rfl rfl rfl) (op_move rfl (H564.ev rfl)) fun _ H566 => ?_
   refine V2 H566 (want_yes H566 rfl rfl rfl rfl) (op_move rfl (H566.ev rfl)) fun _ H568 => ?_
   refine V2 H568 (want_yes H568 rfl rfl rfl rfl) (op_loadn gwagg41 gwsiz41 rfl (H568.ev rfl) (O557.get 2 rfl) rfl rfl) fun _ H570 => ?_
   clear H530 H560 H562 H564 H566 H568
   have O577 : Own w _ [(Chunk.all [Bk g100 [.slice Am2 files2.length cm2, J d2.most, J d2.fuse, .bool d2.down, .string (⟨#[106]⟩ : ByteArray), .slice Ai2 its2.length ci2] 41]), Chunk.disk w.heap.size gd7 Sd2 d2, Chunk.jour w.heap.size gd7 gj2 (⟨#[106]⟩ : ByteArray) Sj2 (its2.map toI) ((recsJ (its2.map toI)).length : Int), Chunk.rj w (fun k_ => k_ < w.heap.size) Sm2 Am2 cm2 files2 Ai2 ci2 its2] := Own.bundle (O557.sel [2, 0, 3, 1] (by decide))
   refine gw_call H570 (want_yes H570 rfl rfl rfl rfl) rfl (by decide) (op_callL Tryz.func13 (by kernel_rfl) rfl rfl (ar_cons (H570.ev rfl) (ar_cons (H570.ev rfl) (ar_cons (H570.ev rfl) ar_nil)))) (alike_calls w _ (Chunk.all [Bk g100 [.slice Am2 files2.length cm2, J d2.most, J d2.fuse, .bool d2.down, .string (⟨#[106]⟩ : ByteArray), .slice Ai2 its2.length ci2] 41]) gd7 gj2 Sd2 Sj2 d2 (fun k_ => k_ < w.heap.size) Sm2 Am2 cm2 files2 Ai2 ci2 its2 (fun _ h_ => h_) hJn.wf hfd2 (by have h_ := congrArg List.length hfd2; rw [List.length_map] at h_; have h2_ := hJn.len; omega) (by have h_ := hIn.len; rw [List.length_map] at h_; omega) hIn.ok hIn.once (by have h_ := hJn.len; omega) (by have h_ := hJn.by_; omega) (by have h_ := hIn.size; omega) (by exact O577)) ?_
   rintro e571 w572 ⟨rfl, hb573⟩
   refine ⟨_, rfl, fun _ H575 => ?_⟩
   have O576 : Own w w572 [Bk g100 [.slice Am2 files2.length cm2, J d2.most, J d2.fuse, .bool d2.down, .string (⟨#[106]⟩ : ByteArray), .slice Ai2 its2.length ci2] 41, Chunk.disk w.heap.size gd7 Sd2 d2, Chunk.jour w.heap.size gd7 gj2 (⟨#[106]⟩ : ByteArray) Sj2 (its2.map toI) ((recsJ (its2.map toI)).length : Int), Chunk.rj w (fun k_ => k_ < w.heap.size) Sm2 Am2 cm2 files2 Ai2 ci2 its2] := Own.unbundle (hb573.sel [0, 1, 2, 3] (by decide))
   clear O577
   clear H570 O557 hb573
   refine V2 H575 (want_yes H575 rfl rfl rfl rfl) (op_not rfl (H575.ev rfl)) fun _ H580 => ?_
   refine V H580 (op_pick_t rfl (H580.ev rfl) (H580.ev rfl)) fun _ H582 => ?_
   refine gE hK558 ?_
   clear H575 H580
   refine gw_cond H582 rfl (fun hb583 => ?_) (fun hb583 => ?_)
   ·
    cases hb583
   refine wp_skip ?_
   refine gw_blk ?_
   refine gw_nx (hK168 _ _ ?_)
   refine wp_region_lit ?_
   refine V H582 (op_add rfl (H582.ev rfl) (ev_c _ _) (by omega)) fun _ H585 => ?_
   refine Vm H585 fun _ H587 => ?_
   clear H582 H585
   refine wpList_nil ?_
   refine gw_nx ⟨_, ?_, i + 1, (used + ((((script.getD i.toNat z50).f2.length) : Int) + 20)), d2, Sd2, Sj2, Sm2, files2, its2, Am2, cm2, Ai2, ci2, gj2, false, (H587.pick (t := 48) rfl (H587.pick (t := 12) rfl (H587.pick (t := 13) rfl (H587.pick (t := 8) rfl (H587.pick (t := 2) rfl (H587.pick (t := 7) rfl (H587.pick (t := 10) rfl (H587.pick (t := 46) rfl (H587.pick (t := 47) rfl H587.nil))))))))), O576.sel [1, 3, 0, 2] (by decide), ?_, ?_, ?_, ?_, ?_, rfl⟩
   ·
    rw [hm160]; omega
   ·
    omega
   ·
    omega
   ·
    exact hJn
   ·
    exact hfd2
   exact fun _ => hIn
  have O588 : Own w w157 [Chunk.disk w.heap.size gd7 Sd d, Chunk.rj w (fun k_ => k_ < w.heap.size) Sm Am cm files Ai ci its, Bk g100 [.slice Am files.length cm, J d.most, J d.fuse, .bool d.down, .string (⟨#[106]⟩ : ByteArray), .slice Ai its.length ci] 41, Chunk.jour w.heap.size gd7 gj (⟨#[106]⟩ : ByteArray) Sj (its.map toI) ((recsJ (its.map toI)).length : Int)] := O159
  have hzx := hz _ (getD_mem (z := z50) script i.toNat (by omega))
  have hJl := hJ.len
  have hJb := hJ.by_
  have hfl : files.length = d.fs.length := by rw [← hfd, List.length_map]
  have hnx := hn _ (getD_mem (z := z50) script i.toNat (by omega))
  have hIl := (hI rfl).len
  rw [List.length_map] at hIl
  refine gS hK164 ?_
  refine gw_seq fun K589 hK589 => ?_
  refine wp_block ?_
  refine gR fun K590 hK590 => ?_
  obtain ⟨ad591, cs594, hA592, hl595, hK596, hc593⟩ := Kd.C_get hr1 z50 i (by omega) (by omega)
  obtain ⟨A597, c598, A601, c602, rfl, hl599, hC600, hl603, hC604⟩ := k50_open hK596
  clear hl595
  refine V H166 (op_index Tryz.underlying47 gwsiz50 rfl (H166.ev rfl) (H166.ev rfl) hA592 (⟨by omega, by omega⟩)) fun _ H606 => ?_
  refine V H606 (op_loadc gwagg50 gwsiz50 rfl (H606.ev rfl) rfl (cells0 O588 hc593)) fun _ H608 => ?_
  clear H166 H606
  refine gw_new H608 O588 (want_none rfl) rfl (by decide) (op_alloc gwzer50 rfl) ?_
  intro g609 _ w611 H612 O613; clear H608 O588
  have O614 : Own w w611 [Bk g609 [J 0, J 0, .slice none 0 0, J 0, .slice none 0 0] 50, Chunk.disk w.heap.size gd7 Sd d, Chunk.rj w (fun k_ => k_ < w.heap.size) Sm Am cm files Ai ci its, Bk g100 [.slice Am files.length cm, J d.most, J d.fuse, .bool d.down, .string (⟨#[106]⟩ : ByteArray), .slice Ai its.length ci] 41, Chunk.jour w.heap.size gd7 gj (⟨#[106]⟩ : ByteArray) Sj (its.map toI) ((recsJ (its.map toI)).length : Int)] := O613
  clear O613
  refine gw_setn 0 H612 O614 rfl (want_none rfl) rfl (op_storen gwsiz50 rfl (H612.ev rfl) (H612.ev rfl) (O614.get 0 rfl) rfl (by simp) (by simp [Value.oneCell'])) ?_
  intro _ w617 H616 O618; clear H612 O614
  refine gE hK590 ?_
  refine gR fun K619 hK619 => ?_
  refine Vm H616 fun _ H621 => ?_
  refine Vf H621 (gwfld50_2 _ _) fun _ H623 => ?_
  refine Vl H623 gwagg22 (O618.get 0 rfl) fun _ H625 => ?_
  refine V H625 (op_len Tryz.underlying22 rfl (H625.ev rfl)) fun _ H627 => ?_
  refine V H627 (op_add rfl (H627.ev rfl) (ev_c _ _) (by omega)) fun _ H629 => ?_
  refine V H629 (op_add rfl (H629.ev rfl) (H629.ev rfl) (by omega)) fun _ H631 => ?_
  refine Va H631 fun _ H633 => ?_
  refine gE hK619 ?_
  refine gw_seq fun K634 hK634 => ?_
  refine gR fun K635 hK635 => ?_
  refine Vm H633 fun _ H637 => ?_
  clear H616 H621 H623 H625 H627 H629 H631 H633
  refine V H637 (op_gtr rfl (H637.ev rfl) (ev_c _ _)) fun _ H639 => ?_
  refine gE hK635 ?_
  clear H637
  refine gw_cond H639 rfl (fun hb640 => ?_) (fun hb640 => ?_)
  ·
   have H641 := H639.subst_ (d := 59) (b := true) rfl hb640
   clear H639
   (try simp only [decide_eq_true_eq] at hb640)
   refine gR fun K642 hK642 => ?_
   refine Vc H641 fun _ H644 => ?_
   refine gE hK642 ?_
   refine wp_ret ?_
   clear H641
   refine gw_thr ?_
   refine gw_blr ?_
   refine gw_thr ?_
   refine gw_thr ?_
   refine gw_blr ?_
   refine gw_thr ?_
   refine gw_ret1 H644 rfl rfl ?_
   exact ⟨rfl, O618.below⟩
  have H645 := H639.subst_ (d := 59) (b := false) rfl hb640
  clear H639
  (try simp only [decide_eq_false_iff_not, Int.not_lt] at hb640)
  have hJm : JV d (used + (((script.getD i.toNat z50).f2.length : Int) + 20)) := hJ.more (by omega)
  have hIm := (hI rfl).more (show used ≤ used + (((script.getD i.toNat z50).f2.length : Int) + 20) by omega)
  refine gS hK634 ?_
  refine gw_joinS (fun a_ w_ => ∃ (d2 : PD) (Sd2 : Nat → Prop) (Sj2 : Nat → Prop) (Sm2 : Nat → Prop) (files2 : List S38) (its2 : List S54) (Am2 : Option Addr) (cm2 : Nat) (Ai2 : Option Addr) (ci2 : Nat) (gj2 : Nat) (lost2 : Bool), Fr 159 a_ [(13, .bool lost2), (8, .pointer (bif lost2 then none else some ⟨gj2, 0, none⟩)), (48, J i), (2, J key), (7, .pointer (some ⟨gd7, 0, none⟩)), (10, .pointer (some ⟨g100, 0, none⟩)), (46, .slice A1 script.length c1), (47, J (script.length : Int)), (49, .bool true), (50, .pointer (some (ad591.add (i.toNat * 5)))), (51, .agg #[J ((script.getD i.toNat z50).f0), J ((script.getD i.toNat z50).f1), .slice A597 ((script.getD i.toNat z50).f2.length) c598, J ((script.getD i.toNat z50).f3), .slice A601 ((script.getD i.toNat z50).f4.length) c602]), (15, .pointer (some ⟨g609, 0, none⟩)), (52, J used), (53, .pointer (some ⟨g609, 2, none⟩)), (54, .slice A597 ((script.getD i.toNat z50).f2.length) c598), (55, J (((script.getD i.toNat z50).f2.length) : Int)), (56, J ((((script.getD i.toNat z50).f2.length) : Int) + 20)), (57, J (used + ((((script.getD i.toNat z50).f2.length) : Int) + 20))), (12, J (used + ((((script.getD i.toNat z50).f2.length) : Int) + 20))), (58, J (used + ((((script.getD i.toNat z50).f2.length) : Int) + 20))), (59, .bool false)] ∧ Own w w_ [Chunk.disk w.heap.size gd7 Sd2 d2, Chunk.rj w (fun k_ => k_ < w.heap.size) Sm2 Am2 cm2 files2 Ai2 ci2 its2, Bk g100 [.slice Am2 files2.length cm2, J d2.most, J d2.fuse, .bool d2.down, .string (⟨#[106]⟩ : ByteArray), .slice Ai2 its2.length ci2] 41, Chunk.jopt lost2 (Chunk.jour w.heap.size gd7 gj2 (⟨#[106]⟩ : ByteArray) Sj2 (its2.map toI) ((recsJ (its2.map toI)).length : Int))] ∧ (JV d2 (used + (((script.getD i.toNat z50).f2.length : Int) + 20))) ∧ (files2.map ofS = d2.fs) ∧ (lost2 = false → JI (its2.map toI) (used + (((script.getD i.toNat z50).f2.length : Int) + 20)))) ?_ ?_
  ·
   refine gR fun K646 hK646 => ?_
   refine Vf H645 (gwfld50_0 _ _) fun _ H648 => ?_
   refine Vl H648 gwagg3 (O618.get 0 rfl) fun _ H650 => ?_
   refine gE hK646 ?_
   clear H645 H648
   refine wp_block ?_
   refine gw_seq fun K651 hK651 => ?_
   refine gR fun K652 hK652 => ?_
   refine V H650 (op_eqi rfl (H650.ev rfl) (ev_c _ _)) fun _ H654 => ?_
   refine Va H654 fun _ H656 => ?_
   refine gE hK652 ?_
   clear H650 H654
   refine gw_cond H656 rfl (fun hb657 => ?_) (fun hb657 => ?_)
   ·
    have H658 := H656.subst_ (d := 62) (b := true) rfl hb657
    clear H656
    (try simp only [decide_eq_true_eq] at hb657)
    refine gS hK651 ?_
    refine gw_cond H658 rfl (fun hb659 => ?_) (fun hb659 => ?_)
    rotate_left
    ·
     cases hb659
    refine gw_seq fun K660 hK660 => ?_
    refine gR fun K661 hK661 => ?_
    refine Vm H658 fun _ H663 => ?_
    refine gE hK661 ?_
    clear H658
    refine gw_cond H663 rfl (fun hb664 => ?_) (fun hb664 => ?_)
    ·
     cases hb664
    refine gS hK660 ?_
    refine gw_seq fun K665 hK665 => ?_
    refine gR fun K666 hK666 => ?_
    refine Vf H663 (gwfld50_0 _ _) fun _ H668 => ?_
    refine Vl H668 gwagg3 (O618.get 0 rfl) fun _ H670 => ?_
    refine V H670 (op_eqi rfl (H670.ev rfl) (ev_c _ _)) fun _ H672 => ?_
    refine gE hK666 ?_
    clear H663 H668 H670
    refine gw_cond H672 rfl (fun hb673 => ?_) (fun hb673 => ?_)
    ·
     have H674 := H672.subst_ (d := 68) (b := true) rfl hb673
     clear H672
     (try simp only [decide_eq_true_eq] at hb673)
     refine gR fun K675 hK675 => ?_
     refine Vm H674 fun _ H677 => ?_
     refine Vf H677 (gwfld50_1 _ _) fun _ H679 => ?_
     refine Vl H679 gwagg2 (O618.get 0 rfl) fun _ H681 => ?_
     refine Vf H681 (gwfld50_2 _ _) fun _ H683 => ?_
     refine Vl H683 gwagg22 (O618.get 0 rfl) fun _ H685 => ?_
     clear H674 H677 H679 H681 H683
     have heq689 : putJ (⟨#[106]⟩ : ByteArray) ((script.getD i.toNat z50).f1) ((script.getD i.toNat z50).f2) (its.map toI) ((recsJ (its.map toI)).length : Int) d = (((putJ (⟨#[106]⟩ : ByteArray) ((script.getD i.toNat z50).f1) ((script.getD i.toNat z50).f2) (its.map toI) ((recsJ (its.map toI)).length : Int) d).1.1, (putJ (⟨#[106]⟩ : ByteArray) ((script.getD i.toNat z50).f1) ((script.getD i.toNat z50).f2) (its.map toI) ((recsJ (its.map toI)).length : Int) d).1.2), ((putJ (⟨#[106]⟩ : ByteArray) ((script.getD i.toNat z50).f1) ((script.getD i.toNat z50).f2) (its.map toI) ((recsJ (its.map toI)).length : Int) d).2.1, (putJ (⟨#[106]⟩ : ByteArray) ((script.getD i.toNat z50).f1) ((script.getD i.toNat z50).f2) (its.map toI) ((recsJ (its.map toI)).length : Int) d).2.2)) := rfl
     have O696 : Own w _ [(Chunk.all [Bk g609 [J ((script.getD i.toNat z50).f0), J ((script.getD i.toNat z50).f1), .slice A597 ((script.getD i.toNat z50).f2.length) c598, J ((script.getD i.toNat z50).f3), .slice A601 ((script.getD i.toNat z50).f4.length) c602] 50, Chunk.rj w (fun k_ => k_ < w.heap.size) Sm Am cm files Ai ci its, Bk g100 [.slice Am files.length cm, J d.most, J d.fuse, .bool d.down, .string (⟨#[106]⟩ : ByteArray), .slice Ai its.length ci] 41]), Chunk.disk w.heap.size gd7 Sd d, Chunk.jour w.heap.size gd7 gj (⟨#[106]⟩ : ByteArray) Sj (its.map toI) ((recsJ (its.map toI)).length : Int)] := Own.bundle (O618.sel [0, 2, 3, 1, 4] (by decide))
     refine Wk H685 Tryz.func15 rfl (ar_cons (H685.ev rfl) (ar_cons (H685.ev rfl) (ar_cons (H685.ev rfl) ar_nil))) (put_is heq689 hJ.wf (by decide) hzx.2.1 (fun w_ h_ => Kd.C_below hC600 h_.below) hl599 hzx.1 (by omega) (by have h_ := hJ.by_; omega) (by have h_ := (hI rfl).len; omega) ⟨by omega, by have h_ := (hI rfl).size; omega⟩ (by exact O696)) ?_
     rintro e690 w691 ⟨rfl, S687, SJ686, hb692⟩
     refine ⟨_, rfl, fun _ H694 => ?_⟩
     have O695 : Own w w691 [Bk g609 [J ((script.getD i.toNat z50).f0), J ((script.getD i.toNat z50).f1), .slice A597 ((script.getD i.toNat z50).f2.length) c598, J ((script.getD i.toNat z50).f3), .slice A601 ((script.getD i.toNat z50).f4.length) c602] 50, Chunk.rj w (fun k_ => k_ < w.heap.size) Sm Am cm files Ai ci its, Bk g100 [.slice Am files.length cm, J d.most, J d.fuse, .bool d.down, .string (⟨#[106]⟩ : ByteArray), .slice Ai its.length ci] 41, Chunk.disk w.heap.size gd7 S687 ((putJ (⟨#[106]⟩ : ByteArray) ((script.getD i.toNat z50).f1) ((script.getD i.toNat z50).f2) (its.map toI) ((recsJ (its.map toI)).length : Int) d).1.1), Chunk.jour w.heap.size gd7 gj (⟨#[106]⟩ : ByteArray) SJ686 ((putJ (⟨#[106]⟩ : ByteArray) ((script.getD i.toNat z50).f1) ((script.getD i.toNat z50).f2) (its.map toI) ((recsJ (its.map toI)).length : Int) d).2.1) ((putJ (⟨#[106]⟩ : ByteArray) ((script.getD i.toNat z50).f1) ((script.getD i.toNat z50).f2) (its.map toI) ((recsJ (its.map toI)).length : Int) d).2.2)] := Own.unbundle (hb692.sel [0, 1, 2] (by decide))
     clear O696
     clear H685 O618 hb692
     have hwf688 : wfD ((putJ (⟨#[106]⟩ : ByteArray) ((script.getD i.toNat z50).f1) ((script.getD i.toNat z50).f2) (its.map toI) ((recsJ (its.map toI)).length : Int) d).1.1) := wf_put' heq689 hJ.wf
     refine Va H694 fun _ H699 => ?_
     refine gE hK675 ?_
     clear H694
     refine wp_region_lit ?_
     refine V H699 (op_loadn gwagg41 gwsiz41 rfl (H699.ev rfl) (O695.get 2 rfl) rfl rfl) fun _ H701 => ?_
     refine Vf H701 (gwfld50_1 _ _) fun _ H703 => ?_
     refine Vl H703 gwagg2 (O695.get 0 rfl) fun _ H705 => ?_
     refine Vf H705 (gwfld50_2 _ _) fun _ H707 => ?_
     refine Vl H707 gwagg22 (O695.get 0 rfl) fun _ H709 => ?_
     refine V H709 (op_build (cells := #[J ((script.getD i.toNat z50).f1), .slice A597 ((script.getD i.toNat z50).f2.length) c598]) rfl (pt_cons (H709.ev rfl) (pt_cons (H709.ev rfl) pt_nil)) (by kernel_rfl)) fun _ H711 => ?_
     clear H699 H701 H703 H705 H707 H709
     refine Wk H711 Tryz.func16 rfl (ar_cons (H711.ev rfl) (ar_cons (H711.ev rfl) ar_nil)) ((by have h_ := put_p Am cm files Ai ci its d (⟨#[106]⟩ : ByteArray) ((script.getD i.toNat z50).f1) A597 c598 ((script.getD i.toNat z50).f2) 1 (fun _ h_ => h_) O695 rfl (by omega) (by omega) hfd hJ.wf (by omega) (Kd.C_F (Kd.heap_int _) hC600) hl599 hzx.1 (by omega); rw [← (put_zero ((recsJ (its.map toI)).length : Int)).1, ← (put_zero ((recsJ (its.map toI)).length : Int)).2] at h_; exact h_)) ?_
     rintro e721 w722 ⟨files712, A713, c714, its715, Ai716, ci717, S718, hd719, hs720, rfl, hb723⟩
     refine ⟨_, rfl, fun _ H725 => ?_⟩
     have O726 := O695.calls 1 rfl hb723
     clear H711 O695 hb723
     refine Vm H725 fun _ H729 => ?_
     refine Vx H729 fun _ H731 => ?_
     refine Vx H731 fun _ H733 => ?_
     clear H725 H729 H731
     have O734 : Own w w722 [Bk g609 [J ((script.getD i.toNat z50).f0), J ((script.getD i.toNat z50).f1), .slice A597 ((script.getD i.toNat z50).f2.length) c598, J ((script.getD i.toNat z50).f3), .slice A601 ((script.getD i.toNat z50).f4.length) c602] 50, Chunk.rj w (fun k_ => k_ < w.heap.size) S718 A713 c714 files712 Ai716 ci717 its715, Bk g100 [.slice Am files.length cm, J d.most, J d.fuse, .bool d.down, .string (⟨#[106]⟩ : ByteArray), .slice Ai its.length ci] 41, Chunk.disk w.heap.size gd7 S687 ((putJ (⟨#[106]⟩ : ByteArray) ((script.getD i.toNat z50).f1) ((script.getD i.toNat z50).f2) (its.map toI) ((recsJ (its.map toI)).length : Int) d).1.1), Chunk.jour w.heap.size gd7 gj (⟨#[106]⟩ : ByteArray) SJ686 (its715.map toI) ((recsJ (its715.map toI)).length : Int)] := by have h_ := O726; rw [show (putJ (⟨#[106]⟩ : ByteArray) ((script.getD i.toNat z50).f1) ((script.getD i.toNat z50).f2) (its.map toI) ((recsJ (its.map toI)).length : Int) d).2.2 = ((recsJ (putJ (⟨#[106]⟩ : ByteArray) ((script.getD i.toNat z50).f1) ((script.getD i.toNat z50).f2) (its.map toI) ((recsJ (its.map toI)).length : Int) d).2.1).length : Int) from put_size rfl, ← hs720] at h_; exact h_
     have hJn : JV (putJ (⟨#[106]⟩ : ByteArray) ((script.getD i.toNat z50).f1) ((script.getD i.toNat z50).f2) (its.map toI) ((recsJ (its.map toI)).length : Int) d).1.1 (used + (((script.getD i.toNat z50).f2.length : Int) + 20)) := hJ.put hzx.1
     have hIn : JI (its715.map toI) (used + (((script.getD i.toNat z50).f2.length : Int) + 20)) := by rw [hs720]; exact (hI rfl).put hzx.1 (by omega)
     refine gw_setn 2 H733 O734 rfl (want_none rfl) rfl (op_storen gwsiz41 rfl (H733.ev rfl) (H733.ev rfl) (O734.get 2 rfl) rfl (by simp) (by simp [Value.oneCell'])) ?_
     intro _ w737 H736 O738; clear H733 O734
     refine Va H736 fun _ H740 => ?_
     refine gE hK665 ?_
     refine gR fun K741 hK741 => ?_
     refine Vm H740 fun _ H743 => ?_
     refine Vm H743 fun _ H745 => ?_
     refine V H745 (op_nei rfl (H745.ev rfl) (H745.ev rfl)) fun _ H747 => ?_
     clear H736 H740 H743 H745
     have H748 := H747.lit (b := false) (by simp)
     clear H747
     refine gE hK741 ?_
     refine gw_cond H748 rfl (fun hb749 => ?_) (fun hb749 => ?_)
     ·
      cases hb749
     refine wp_skip ?_
     refine gw_blk ?_
     refine gw_nx ⟨((putJ (⟨#[106]⟩ : ByteArray) ((script.getD i.toNat z50).f1) ((script.getD i.toNat z50).f2) (its.map toI) ((recsJ (its.map toI)).length : Int) d).1.1), S687, SJ686, S718, files712, its715, A713, c714, Ai716, ci717, gj, false, (H748.pick (t := 13) rfl (H748.pick (t := 8) rfl (H748.pick (t := 48) rfl (H748.pick (t := 2) rfl (H748.pick (t := 7) rfl (H748.pick (t := 10) rfl (H748.pick (t := 46) rfl (H748.pick (t := 47) rfl (H748.pick (t := 49) rfl (H748.pick (t := 50) rfl (H748.pick (t := 51) rfl (H748.pick (t := 15) rfl (H748.pick (t := 52) rfl (H748.pick (t := 53) rfl (H748.pick (t := 54) rfl (H748.pick (t := 55) rfl (H748.pick (t := 56) rfl (H748.pick (t := 57) rfl (H748.pick (t := 12) rfl (H748.pick (t := 58) rfl (H748.pick (t := 59) rfl H748.nil))))))))))))))))))))), O738.sel [3, 1, 2, 4] (by decide), ?_, ?_, ?_⟩
     ·
      exact hJn
     ·
      exact hd719
     exact fun _ => hIn
    have H750 := H672.subst_ (d := 68) (b := false) rfl hb673
    clear H672
    (try simp only [decide_eq_false_iff_not] at hb673)
    refine gR fun K751 hK751 => ?_
    refine Vm H750 fun _ H753 => ?_
    clear H750
    have heq757 : syncD (⟨#[106]⟩ : ByteArray) d = ((syncD (⟨#[106]⟩ : ByteArray) d).1, (syncD (⟨#[106]⟩ : ByteArray) d).2) := rfl
    have O764 : Own w _ [(Chunk.all [Bk g609 [J ((script.getD i.toNat z50).f0), J ((script.getD i.toNat z50).f1), .slice A597 ((script.getD i.toNat z50).f2.length) c598, J ((script.getD i.toNat z50).f3), .slice A601 ((script.getD i.toNat z50).f4.length) c602] 50, Chunk.rj w (fun k_ => k_ < w.heap.size) Sm Am cm files Ai ci its, Bk g100 [.slice Am files.length cm, J d.most, J d.fuse, .bool d.down, .string (⟨#[106]⟩ : ByteArray), .slice Ai its.length ci] 41]), Chunk.disk w.heap.size gd7 Sd d, Chunk.jour w.heap.size gd7 gj (⟨#[106]⟩ : ByteArray) Sj (its.map toI) ((recsJ (its.map toI)).length : Int)] := Own.bundle (O618.sel [0, 2, 3, 1, 4] (by decide))
    refine Wk H753 Tryz.func17 rfl (ar_cons (H753.ev rfl) ar_nil) (jsync_is heq757 hJ.wf (by decide) (by exact O764)) ?_
    rintro e758 w759 ⟨rfl, S755, SJ754, hb760⟩
    refine ⟨_, rfl, fun _ H762 => ?_⟩
    have O763 : Own w w759 [Bk g609 [J ((script.getD i.toNat z50).f0), J ((script.getD i.toNat z50).f1), .slice A597 ((script.getD i.toNat z50).f2.length) c598, J ((script.getD i.toNat z50).f3), .slice A601 ((script.getD i.toNat z50).f4.length) c602] 50, Chunk.rj w (fun k_ => k_ < w.heap.size) Sm Am cm files Ai ci its, Bk g100 [.slice Am files.length cm, J d.most, J d.fuse, .bool d.down, .string (⟨#[106]⟩ : ByteArray), .slice Ai its.length ci] 41, Chunk.disk w.heap.size gd7 S755 ((syncD (⟨#[106]⟩ : ByteArray) d).1), Chunk.jour w.heap.size gd7 gj (⟨#[106]⟩ : ByteArray) SJ754 (its.map toI) ((recsJ (its.map toI)).length : Int)] := Own.unbundle (hb760.sel [0, 1, 2] (by decide))
    clear O764
    clear H753 O618 hb760
    have hwf756 : wfD ((syncD (⟨#[106]⟩ : ByteArray) d).1) := wf_sync' heq757 hJ.wf
    refine Va H762 fun _ H767 => ?_
    refine gE hK751 ?_
    clear H762
    refine wp_region_lit ?_
    refine V H767 (op_loadn gwagg41 gwsiz41 rfl (H767.ev rfl) (O763.get 2 rfl) rfl rfl) fun _ H769 => ?_
    clear H767
    refine Wk H769 Tryz.func18 rfl (ar_cons (H769.ev rfl) ar_nil) (sync_j Am cm files Ai ci its d (⟨#[106]⟩ : ByteArray) 1 (fun _ h_ => h_) O763 rfl (by omega) hfd hJ.wf (by omega)) ?_
    rintro e775 w776 ⟨files770, A771, c772, S773, hd774, rfl, hb777⟩
    refine ⟨_, rfl, fun _ H779 => ?_⟩
    have O780 := O763.calls 1 rfl hb777
    clear H769 O763 hb777
    refine Vm H779 fun _ H783 => ?_
    refine Vx H783 fun _ H785 => ?_
    refine Vx H785 fun _ H787 => ?_
    clear H779 H783 H785
    have hJn : JV (syncD (⟨#[106]⟩ : ByteArray) d).1 (used + (((script.getD i.toNat z50).f2.length : Int) + 20)) := hJ.sync.more (by omega)
    have hIn := (hI rfl).more (show used ≤ used + (((script.getD i.toNat z50).f2.length : Int) + 20) by omega)
    refine gw_setn 2 H787 O780 rfl (want_none rfl) rfl (op_storen gwsiz41 rfl (H787.ev rfl) (H787.ev rfl) (O780.get 2 rfl) rfl (by simp) (by simp [Value.oneCell'])) ?_
    intro _ w790 H789 O791; clear H787 O780
    refine Va H789 fun _ H793 => ?_
    refine gE hK665 ?_
    refine gR fun K794 hK794 => ?_
    refine Vm H793 fun _ H796 => ?_
    refine Vm H796 fun _ H798 => ?_
    refine V H798 (op_nei rfl (H798.ev rfl) (H798.ev rfl)) fun _ H800 => ?_
    clear H789 H793 H796 H798
    have H801 := H800.lit (b := false) (by simp)
    clear H800
    refine gE hK794 ?_
    refine gw_cond H801 rfl (fun hb802 => ?_) (fun hb802 => ?_)
    ·
     cases hb802
    refine wp_skip ?_
    refine gw_blk ?_
    refine gw_nx ⟨((syncD (⟨#[106]⟩ : ByteArray) d).1), S755, SJ754, S773, files770, its, A771, c772, Ai, ci, gj, false, (H801.pick (t := 13) rfl (H801.pick (t := 8) rfl (H801.pick (t := 48) rfl (H801.pick (t := 2) rfl (H801.pick (t := 7) rfl (H801.pick (t := 10) rfl (H801.pick (t := 46) rfl (H801.pick (t := 47) rfl (H801.pick (t := 49) rfl (H801.pick (t := 50) rfl (H801.pick (t := 51) rfl (H801.pick (t := 15) rfl (H801.pick (t := 52) rfl (H801.pick (t := 53) rfl (H801.pick (t := 54) rfl (H801.pick (t := 55) rfl (H801.pick (t := 56) rfl (H801.pick (t := 57) rfl (H801.pick (t := 12) rfl (H801.pick (t := 58) rfl (H801.pick (t := 59) rfl H801.nil))))))))))))))))))))), O791.sel [3, 1, 2, 4] (by decide), ?_, ?_, ?_⟩
    ·
     exact hJn
    ·
     exact hd774
    exact fun _ => hIn
   have H803 := H656.subst_ (d := 62) (b := false) rfl hb657
   clear H656
   (try simp only [decide_eq_false_iff_not] at hb657)
   refine wp_region_lit ?_
   refine V H803 (op_eqi rfl (H803.ev rfl) (ev_c _ _)) fun _ H805 => ?_
   refine Va H805 fun _ H807 => ?_
   refine gE hK651 ?_
   clear H803 H805
   refine gw_cond H807 rfl (fun hb808 => ?_) (fun hb808 => ?_)
   ·
    have H809 := H807.subst_ (d := 62) (b := true) rfl hb808
    clear H807
    (try simp only [decide_eq_true_eq] at hb808)
    refine gw_seq fun K810 hK810 => ?_
    refine gR fun K811 hK811 => ?_
    refine Vm H809 fun _ H813 => ?_
    refine gE hK811 ?_
    clear H809
    refine gw_cond H813 rfl (fun hb814 => ?_) (fun hb814 => ?_)
    ·
     cases hb814
    refine gS hK810 ?_
    refine gw_seq fun K815 hK815 => ?_
    refine gR fun K816 hK816 => ?_
    refine Vf H813 (gwfld50_0 _ _) fun _ H818 => ?_
    refine Vl H818 gwagg3 (O618.get 0 rfl) fun _ H820 => ?_
    refine V H820 (op_eqi rfl (H820.ev rfl) (ev_c _ _)) fun _ H822 => ?_
    refine gE hK816 ?_
    clear H813 H818 H820
    refine gw_cond H822 rfl (fun hb823 => ?_) (fun hb823 => ?_)
    ·
     have H824 := H822.subst_ (d := 68) (b := true) rfl hb823
     clear H822
     (try simp only [decide_eq_true_eq] at hb823)
     refine gR fun K825 hK825 => ?_
     refine Vm H824 fun _ H827 => ?_
     refine Vf H827 (gwfld50_1 _ _) fun _ H829 => ?_
     refine Vl H829 gwagg2 (O618.get 0 rfl) fun _ H831 => ?_
     refine Vf H831 (gwfld50_2 _ _) fun _ H833 => ?_
     refine Vl H833 gwagg22 (O618.get 0 rfl) fun _ H835 => ?_
     clear H824 H827 H829 H831 H833
     have heq839 : putJ (⟨#[106]⟩ : ByteArray) ((script.getD i.toNat z50).f1) ((script.getD i.toNat z50).f2) (its.map toI) ((recsJ (its.map toI)).length : Int) d = (((putJ (⟨#[106]⟩ : ByteArray) ((script.getD i.toNat z50).f1) ((script.getD i.toNat z50).f2) (its.map toI) ((recsJ (its.map toI)).length : Int) d).1.1, (putJ (⟨#[106]⟩ : ByteArray) ((script.getD i.toNat z50).f1) ((script.getD i.toNat z50).f2) (its.map toI) ((recsJ (its.map toI)).length : Int) d).1.2), ((putJ (⟨#[106]⟩ : ByteArray) ((script.getD i.toNat z50).f1) ((script.getD i.toNat z50).f2) (its.map toI) ((recsJ (its.map toI)).length : Int) d).2.1, (putJ (⟨#[106]⟩ : ByteArray) ((script.getD i.toNat z50).f1) ((script.getD i.toNat z50).f2) (its.map toI) ((recsJ (its.map toI)).length : Int) d).2.2)) := rfl
     have O846 : Own w _ [(Chunk.all [Bk g609 [J ((script.getD i.toNat z50).f0), J ((script.getD i.toNat z50).f1), .slice A597 ((script.getD i.toNat z50).f2.length) c598, J ((script.getD i.toNat z50).f3), .slice A601 ((script.getD i.toNat z50).f4.length) c602] 50, Chunk.rj w (fun k_ => k_ < w.heap.size) Sm Am cm files Ai ci its, Bk g100 [.slice Am files.length cm, J d.most, J d.fuse, .bool d.down, .string (⟨#[106]⟩ : ByteArray), .slice Ai its.length ci] 41]), Chunk.disk w.heap.size gd7 Sd d, Chunk.jour w.heap.size gd7 gj (⟨#[106]⟩ : ByteArray) Sj (its.map toI) ((recsJ (its.map toI)).length : Int)] := Own.bundle (O618.sel [0, 2, 3, 1, 4] (by decide))
     refine Wk H835 Tryz.func15 rfl (ar_cons (H835.ev rfl) (ar_cons (H835.ev rfl) (ar_cons (H835.ev rfl) ar_nil))) (put_is heq839 hJ.wf (by decide) hzx.2.1 (fun w_ h_ => Kd.C_below hC600 h_.below) hl599 hzx.1 (by omega) (by have h_ := hJ.by_; omega) (by have h_ := (hI rfl).len; omega) ⟨by omega, by have h_ := (hI rfl).size; omega⟩ (by exact O846)) ?_
     rintro e840 w841 ⟨rfl, S837, SJ836, hb842⟩
     refine ⟨_, rfl, fun _ H844 => ?_⟩
     have O845 : Own w w841 [Bk g609 [J ((script.getD i.toNat z50).f0), J ((script.getD i.toNat z50).f1), .slice A597 ((script.getD i.toNat z50).f2.length) c598, J ((script.getD i.toNat z50).f3), .slice A601 ((script.getD i.toNat z50).f4.length) c602] 50, Chunk.rj w (fun k_ => k_ < w.heap.size) Sm Am cm files Ai ci its, Bk g100 [.slice Am files.length cm, J d.most, J d.fuse, .bool d.down, .string (⟨#[106]⟩ : ByteArray), .slice Ai its.length ci] 41, Chunk.disk w.heap.size gd7 S837 ((putJ (⟨#[106]⟩ : ByteArray) ((script.getD i.toNat z50).f1) ((script.getD i.toNat z50).f2) (its.map toI) ((recsJ (its.map toI)).length : Int) d).1.1), Chunk.jour w.heap.size gd7 gj (⟨#[106]⟩ : ByteArray) SJ836 ((putJ (⟨#[106]⟩ : ByteArray) ((script.getD i.toNat z50).f1) ((script.getD i.toNat z50).f2) (its.map toI) ((recsJ (its.map toI)).length : Int) d).2.1) ((putJ (⟨#[106]⟩ : ByteArray) ((script.getD i.toNat z50).f1) ((script.getD i.toNat z50).f2) (its.map toI) ((recsJ (its.map toI)).length : Int) d).2.2)] := Own.unbundle (hb842.sel [0, 1, 2] (by decide))
     clear O846
     clear H835 O618 hb842
     have hwf838 : wfD ((putJ (⟨#[106]⟩ : ByteArray) ((script.getD i.toNat z50).f1) ((script.getD i.toNat z50).f2) (its.map toI) ((recsJ (its.map toI)).length : Int) d).1.1) := wf_put' heq839 hJ.wf
     refine Va H844 fun _ H849 => ?_
     refine gE hK825 ?_
     clear H844
     refine wp_region_lit ?_
     refine V H849 (op_loadn gwagg41 gwsiz41 rfl (H849.ev rfl) (O845.get 2 rfl) rfl rfl) fun _ H851 => ?_
     refine Vf H851 (gwfld50_1 _ _) fun _ H853 => ?_
     refine Vl H853 gwagg2 (O845.get 0 rfl) fun _ H855 => ?_
     refine Vf H855 (gwfld50_2 _ _) fun _ H857 => ?_
     refine Vl H857 gwagg22 (O845.get 0 rfl) fun _ H859 => ?_
     refine V H859 (op_build (cells := #[J ((script.getD i.toNat z50).f1), .slice A597 ((script.getD i.toNat z50).f2.length) c598]) rfl (pt_cons (H859.ev rfl) (pt_cons (H859.ev rfl) pt_nil)) (by kernel_rfl)) fun _ H861 => ?_
     clear H849 H851 H853 H855 H857 H859
     refine Wk H861 Tryz.func16 rfl (ar_cons (H861.ev rfl) (ar_cons (H861.ev rfl) ar_nil)) ((by have h_ := put_p Am cm files Ai ci its d (⟨#[106]⟩ : ByteArray) ((script.getD i.toNat z50).f1) A597 c598 ((script.getD i.toNat z50).f2) 1 (fun _ h_ => h_) O845 rfl (by omega) (by omega) hfd hJ.wf (by omega) (Kd.C_F (Kd.heap_int _) hC600) hl599 hzx.1 (by omega); rw [← (put_zero ((recsJ (its.map toI)).length : Int)).1, ← (put_zero ((recsJ (its.map toI)).length : Int)).2] at h_; exact h_)) ?_
     rintro e871 w872 ⟨files862, A863, c864, its865, Ai866, ci867, S868, hd869, hs870, rfl, hb873⟩
     refine ⟨_, rfl, fun _ H875 => ?_⟩
     have O876 := O845.calls 1 rfl hb873
     clear H861 O845 hb873
     refine Vm H875 fun _ H879 => ?_
     refine Vx H879 fun _ H881 => ?_
     refine Vx H881 fun _ H883 => ?_
     clear H875 H879 H881
     have O884 : Own w w872 [Bk g609 [J ((script.getD i.toNat z50).f0), J ((script.getD i.toNat z50).f1), .slice A597 ((script.getD i.toNat z50).f2.length) c598, J ((script.getD i.toNat z50).f3), .slice A601 ((script.getD i.toNat z50).f4.length) c602] 50, Chunk.rj w (fun k_ => k_ < w.heap.size) S868 A863 c864 files862 Ai866 ci867 its865, Bk g100 [.slice Am files.length cm, J d.most, J d.fuse, .bool d.down, .string (⟨#[106]⟩ : ByteArray), .slice Ai its.length ci] 41, Chunk.disk w.heap.size gd7 S837 ((putJ (⟨#[106]⟩ : ByteArray) ((script.getD i.toNat z50).f1) ((script.getD i.toNat z50).f2) (its.map toI) ((recsJ (its.map toI)).length : Int) d).1.1), Chunk.jour w.heap.size gd7 gj (⟨#[106]⟩ : ByteArray) SJ836 (its865.map toI) ((recsJ (its865.map toI)).length : Int)] := by have h_ := O876; rw [show (putJ (⟨#[106]⟩ : ByteArray) ((script.getD i.toNat z50).f1) ((script.getD i.toNat z50).f2) (its.map toI) ((recsJ (its.map toI)).length : Int) d).2.2 = ((recsJ (putJ (⟨#[106]⟩ : ByteArray) ((script.getD i.toNat z50).f1) ((script.getD i.toNat z50).f2) (its.map toI) ((recsJ (its.map toI)).length : Int) d).2.1).length : Int) from put_size rfl, ← hs870] at h_; exact h_
     have hJn : JV (putJ (⟨#[106]⟩ : ByteArray) ((script.getD i.toNat z50).f1) ((script.getD i.toNat z50).f2) (its.map toI) ((recsJ (its.map toI)).length : Int) d).1.1 (used + (((script.getD i.toNat z50).f2.length : Int) + 20)) := hJ.put hzx.1
     have hIn : JI (its865.map toI) (used + (((script.getD i.toNat z50).f2.length : Int) + 20)) := by rw [hs870]; exact (hI rfl).put hzx.1 (by omega)
     refine gw_setn 2 H883 O884 rfl (want_none rfl) rfl (op_storen gwsiz41 rfl (H883.ev rfl) (H883.ev rfl) (O884.get 2 rfl) rfl (by simp) (by simp [Value.oneCell'])) ?_
     intro _ w887 H886 O888; clear H883 O884
     refine Va H886 fun _ H890 => ?_
     refine gE hK815 ?_
     refine gR fun K891 hK891 => ?_
     refine Vm H890 fun _ H893 => ?_
     refine Vm H893 fun _ H895 => ?_
     refine V H895 (op_nei rfl (H895.ev rfl) (H895.ev rfl)) fun _ H897 => ?_
     clear H886 H890 H893 H895
     have H898 := H897.lit (b := false) (by simp)
     clear H897
     refine gE hK891 ?_
     refine gw_cond H898 rfl (fun hb899 => ?_) (fun hb899 => ?_)
     ·
      cases hb899
     refine wp_skip ?_
     refine gw_blk ?_
     refine gw_nx ⟨((putJ (⟨#[106]⟩ : ByteArray) ((script.getD i.toNat z50).f1) ((script.getD i.toNat z50).f2) (its.map toI) ((recsJ (its.map toI)).length : Int) d).1.1), S837, SJ836, S868, files862, its865, A863, c864, Ai866, ci867, gj, false, (H898.pick (t := 13) rfl (H898.pick (t := 8) rfl (H898.pick (t := 48) rfl (H898.pick (t := 2) rfl (H898.pick (t := 7) rfl (H898.pick (t := 10) rfl (H898.pick (t := 46) rfl (H898.pick (t := 47) rfl (H898.pick (t := 49) rfl (H898.pick (t := 50) rfl (H898.pick (t := 51) rfl (H898.pick (t := 15) rfl (H898.pick (t := 52) rfl (H898.pick (t := 53) rfl (H898.pick (t := 54) rfl (H898.pick (t := 55) rfl (H898.pick (t := 56) rfl (H898.pick (t := 57) rfl (H898.pick (t := 12) rfl (H898.pick (t := 58) rfl (H898.pick (t := 59) rfl H898.nil))))))))))))))))))))), O888.sel [3, 1, 2, 4] (by decide), ?_, ?_, ?_⟩
     ·
      exact hJn
     ·
      exact hd869
     exact fun _ => hIn
    have H900 := H822.subst_ (d := 68) (b := false) rfl hb823
    clear H822
    (try simp only [decide_eq_false_iff_not] at hb823)
    refine gR fun K901 hK901 => ?_
    refine Vm H900 fun _ H903 => ?_
    clear H900
    have heq907 : syncD (⟨#[106]⟩ : ByteArray) d = ((syncD (⟨#[106]⟩ : ByteArray) d).1, (syncD (⟨#[106]⟩ : ByteArray) d).2) := rfl
    have O914 : Own w _ [(Chunk.all [Bk g609 [J ((script.getD i.toNat z50).f0), J ((script.getD i.toNat z50).f1), .slice A597 ((script.getD i.toNat z50).f2.length) c598, J ((script.getD i.toNat z50).f3), .slice A601 ((script.getD i.toNat z50).f4.length) c602] 50, Chunk.rj w (fun k_ => k_ < w.heap.size) Sm Am cm files Ai ci its, Bk g100 [.slice Am files.length cm, J d.most, J d.fuse, .bool d.down, .string (⟨#[106]⟩ : ByteArray), .slice Ai its.length ci] 41]), Chunk.disk w.heap.size gd7 Sd d, Chunk.jour w.heap.size gd7 gj (⟨#[106]⟩ : ByteArray) Sj (its.map toI) ((recsJ (its.map toI)).length : Int)] := Own.bundle (O618.sel [0, 2, 3, 1, 4] (by decide))
    refine Wk H903 Tryz.func17 rfl (ar_cons (H903.ev rfl) ar_nil) (jsync_is heq907 hJ.wf (by decide) (by exact O914)) ?_
    rintro e908 w909 ⟨rfl, S905, SJ904, hb910⟩
    refine ⟨_, rfl, fun _ H912 => ?_⟩
    have O913 : Own w w909 [Bk g609 [J ((script.getD i.toNat z50).f0), J ((script.getD i.toNat z50).f1), .slice A597 ((script.getD i.toNat z50).f2.length) c598, J ((script.getD i.toNat z50).f3), .slice A601 ((script.getD i.toNat z50).f4.length) c602] 50, Chunk.rj w (fun k_ => k_ < w.heap.size) Sm Am cm files Ai ci its, Bk g100 [.slice Am files.length cm, J d.most, J d.fuse, .bool d.down, .string (⟨#[106]⟩ : ByteArray), .slice Ai its.length ci] 41, Chunk.disk w.heap.size gd7 S905 ((syncD (⟨#[106]⟩ : ByteArray) d).1), Chunk.jour w.heap.size gd7 gj (⟨#[106]⟩ : ByteArray) SJ904 (its.map toI) ((recsJ (its.map toI)).length : Int)] := Own.unbundle (hb910.sel [0, 1, 2] (by decide))
    clear O914
    clear H903 O618 hb910
    have hwf906 : wfD ((syncD (⟨#[106]⟩ : ByteArray) d).1) := wf_sync' heq907 hJ.wf
    refine Va H912 fun _ H917 => ?_
    refine gE hK901 ?_
    clear H912
    refine wp_region_lit ?_
    refine V H917 (op_loadn gwagg41 gwsiz41 rfl (H917.ev rfl) (O913.get 2 rfl) rfl rfl) fun _ H919 => ?_
    clear H917
    refine Wk H919 Tryz.func18 rfl (ar_cons (H919.ev rfl) ar_nil) (sync_j Am cm files Ai ci its d (⟨#[106]⟩ : ByteArray) 1 (fun _ h_ => h_) O913 rfl (by omega) hfd hJ.wf (by omega)) ?_
    rintro e925 w926 ⟨files920, A921, c922, S923, hd924, rfl, hb927⟩
    refine ⟨_, rfl, fun _ H929 => ?_⟩
    have O930 := O913.calls 1 rfl hb927
    clear H919 O913 hb927
    refine Vm H929 fun _ H933 => ?_
    refine Vx H933 fun _ H935 => ?_
    refine Vx H935 fun _ H937 => ?_
    clear H929 H933 H935
    have hJn : JV (syncD (⟨#[106]⟩ : ByteArray) d).1 (used + (((script.getD i.toNat z50).f2.length : Int) + 20)) := hJ.sync.more (by omega)
    have hIn := (hI rfl).more (show used ≤ used + (((script.getD i.toNat z50).f2.length : Int) + 20) by omega)
    refine gw_setn 2 H937 O930 rfl (want_none rfl) rfl (op_storen gwsiz41 rfl (H937.ev rfl) (H937.ev rfl) (O930.get 2 rfl) rfl (by simp) (by simp [Value.oneCell'])) ?_
    intro _ w940 H939 O941; clear H937 O930
    refine Va H939 fun _ H943 => ?_
    refine gE hK815 ?_
    refine gR fun K944 hK944 => ?_
    refine Vm H943 fun _ H946 => ?_
    refine Vm H946 fun _ H948 => ?_
    refine V H948 (op_nei rfl (H948.ev rfl) (H948.ev rfl)) fun _ H950 => ?_
    clear H939 H943 H946 H948
    have H951 := H950.lit (b := false) (by simp)
    clear H950
    refine gE hK944 ?_
    refine gw_cond H951 rfl (fun hb952 => ?_) (fun hb952 => ?_)
    ·
     cases hb952
    refine wp_skip ?_
    refine gw_blk ?_
    refine gw_nx ⟨((syncD (⟨#[106]⟩ : ByteArray) d).1), S905, SJ904, S923, files920, its, A921, c922, Ai, ci, gj, false, (H951.pick (t := 13) rfl (H951.pick (t := 8) rfl (H951.pick (t := 48) rfl (H951.pick (t := 2) rfl (H951.pick (t := 7) rfl (H951.pick (t := 10) rfl (H951.pick (t := 46) rfl (H951.pick (t := 47) rfl (H951.pick (t := 49) rfl (H951.pick (t := 50) rfl (H951.pick (t := 51) rfl (H951.pick (t := 15) rfl (H951.pick (t := 52) rfl (H951.pick (t := 53) rfl (H951.pick (t := 54) rfl (H951.pick (t := 55) rfl (H951.pick (t := 56) rfl (H951.pick (t := 57) rfl (H951.pick (t := 12) rfl (H951.pick (t := 58) rfl (H951.pick (t := 59) rfl H951.nil))))))))))))))))))))), O941.sel [3, 1, 2, 4] (by decide), ?_, ?_, ?_⟩
    ·
     exact hJn
    ·
     exact hd924
    exact fun _ => hIn
   have H953 := H807.subst_ (d := 62) (b := false) rfl hb808
   clear H807
   (try simp only [decide_eq_false_iff_not] at hb808)
   refine gR fun K954 hK954 => ?_
   refine V H953 (op_eqi rfl (H953.ev rfl) (ev_c _ _)) fun _ H956 => ?_
   refine Va H956 fun _ H958 => ?_
   refine gE hK954 ?_
   clear H953 H956
   refine gw_cond H958 rfl (fun hb959 => ?_) (fun hb959 => ?_)
   ·
    have H960 := H958.subst_ (d := 95) (b := true) rfl hb959
    clear H958
    (try simp only [decide_eq_true_eq] at hb959)
    refine gR fun K961 hK961 => ?_
    refine Vm H960 fun _ H963 => ?_
    refine Vf H963 (gwfld50_3 _ _) fun _ H965 => ?_
    refine Vl H965 gwagg3 (O618.get 0 rfl) fun _ H967 => ?_
    clear H960 H963 H965
    have O976 : Own w _ [(Chunk.all [Bk g609 [J ((script.getD i.toNat z50).f0), J ((script.getD i.toNat z50).f1), .slice A597 ((script.getD i.toNat z50).f2.length) c598, J ((script.getD i.toNat z50).f3), .slice A601 ((script.getD i.toNat z50).f4.length) c602] 50, Chunk.rj w (fun k_ => k_ < w.heap.size) Sm Am cm files Ai ci its, Bk g100 [.slice Am files.length cm, J d.most, J d.fuse, .bool d.down, .string (⟨#[106]⟩ : ByteArray), .slice Ai its.length ci] 41, Chunk.jour w.heap.size gd7 gj (⟨#[106]⟩ : ByteArray) Sj (its.map toI) ((recsJ (its.map toI)).length : Int)]), Chunk.disk w.heap.size gd7 Sd d] := Own.bundle (O618.sel [0, 2, 3, 4, 1] (by decide))
    refine Wk H967 Tryz.func19 rfl (ar_cons (H967.ev rfl) (ar_cons (H967.ev rfl) ar_nil)) (fail_calls w _ (Chunk.all [Bk g609 [J ((script.getD i.toNat z50).f0), J ((script.getD i.toNat z50).f1), .slice A597 ((script.getD i.toNat z50).f2.length) c598, J ((script.getD i.toNat z50).f3), .slice A601 ((script.getD i.toNat z50).f4.length) c602] 50, Chunk.rj w (fun k_ => k_ < w.heap.size) Sm Am cm files Ai ci its, Bk g100 [.slice Am files.length cm, J d.most, J d.fuse, .bool d.down, .string (⟨#[106]⟩ : ByteArray), .slice Ai its.length ci] 41, Chunk.jour w.heap.size gd7 gj (⟨#[106]⟩ : ByteArray) Sj (its.map toI) ((recsJ (its.map toI)).length : Int)]) gd7 Sd d ((script.getD i.toNat z50).f3) (by exact O976)) ?_
    rintro e970 w971 ⟨rfl, S968, hb972⟩
    refine ⟨_, rfl, fun _ H974 => ?_⟩
    have O975 : Own w w971 [Bk g609 [J ((script.getD i.toNat z50).f0), J ((script.getD i.toNat z50).f1), .slice A597 ((script.getD i.toNat z50).f2.length) c598, J ((script.getD i.toNat z50).f3), .slice A601 ((script.getD i.toNat z50).f4.length) c602] 50, Chunk.rj w (fun k_ => k_ < w.heap.size) Sm Am cm files Ai ci its, Bk g100 [.slice Am files.length cm, J d.most, J d.fuse, .bool d.down, .string (⟨#[106]⟩ : ByteArray), .slice Ai its.length ci] 41, Chunk.jour w.heap.size gd7 gj (⟨#[106]⟩ : ByteArray) Sj (its.map toI) ((recsJ (its.map toI)).length : Int), Chunk.disk w.heap.size gd7 S968 ({ d with fuse := mx ((script.getD i.toNat z50).f3) 0 } : PD)] := Own.unbundle (hb972.sel [0, 1] (by decide))
    clear O976
    clear H967 O618 hb972
    have hwf969 : wfD ({ d with fuse := mx ((script.getD i.toNat z50).f3) 0 } : PD) := wf_fuse hJ.wf (by unfold mx; split <;> omega)
    have hJn : JV ({ d with fuse := mx ((script.getD i.toNat z50).f3) 0 } : PD) (used + (((script.getD i.toNat z50).f2.length : Int) + 20)) := (hJ.fail hzx.2.2).more (by omega)
    refine gE hK961 ?_
    refine wp_region_lit ?_
    refine Vf H974 (gwfld50_3 _ _) fun _ H979 => ?_
    refine Vl H979 gwagg3 (O975.get 0 rfl) fun _ H981 => ?_
    refine V H981 (op_max rfl (H981.ev rfl) (ev_c _ _)) fun _ H983 => ?_
    refine Vf H983 (gwfld41_0 _ _) fun _ H985 => ?_
    refine Vf H985 (gwfld34_2 _ _) fun _ H987 => ?_
    clear H974 H979 H981 H983 H985
    refine gw_set 2 H987 O975 rfl (want_none rfl) rfl (op_store1 gwsiz3 rfl (H987.ev rfl) (H987.ev rfl) rfl (blk_at (O975.get 2 rfl) rfl) (blkf (O975.get 2 rfl))) ?_
    intro _ w990 H989 O991; clear H987 O975
    refine wpList_nil ?_
    refine gw_blk ?_
    refine gw_nx ⟨({ d with fuse := mx ((script.getD i.toNat z50).f3) 0 } : PD), S968, Sj, Sm, files, its, Am, cm, Ai, ci, gj, false, (H989.pick (t := 13) rfl (H989.pick (t := 8) rfl (H989.pick (t := 48) rfl (H989.pick (t := 2) rfl (H989.pick (t := 7) rfl (H989.pick (t := 10) rfl (H989.pick (t := 46) rfl (H989.pick (t := 47) rfl (H989.pick (t := 49) rfl (H989.pick (t := 50) rfl (H989.pick (t := 51) rfl (H989.pick (t := 15) rfl (H989.pick (t := 52) rfl (H989.pick (t := 53) rfl (H989.pick (t := 54) rfl (H989.pick (t := 55) rfl (H989.pick (t := 56) rfl (H989.pick (t := 57) rfl (H989.pick (t := 12) rfl (H989.pick (t := 58) rfl (H989.pick (t := 59) rfl H989.nil))))))))))))))))))))), O991.sel [4, 1, 2, 3] (by decide), ?_, ?_, ?_⟩
    ·
     exact hJn
    ·
     exact hfd
    exact fun _ => hIm
   have H992 := H958.subst_ (d := 95) (b := false) rfl hb959
   clear H958
   (try simp only [decide_eq_false_iff_not] at hb959)
   refine gR fun K993 hK993 => ?_
   refine V H992 (op_eqi rfl (H992.ev rfl) (ev_c _ _)) fun _ H995 => ?_
   refine Va H995 fun _ H997 => ?_
   refine gE hK993 ?_
   clear H992 H995
   refine gw_cond H997 rfl (fun hb998 => ?_) (fun hb998 => ?_)
   ·
    have H999 := H997.subst_ (d := 106) (b := true) rfl hb998
    clear H997
    (try simp only [decide_eq_true_eq] at hb998)
    refine gR fun K1000 hK1000 => ?_
    refine Vm H999 fun _ H1002 => ?_
    refine Vf H1002 (gwfld50_4 _ _) fun _ H1004 => ?_
    refine Vl H1004 gwagg48 (O618.get 0 rfl) fun _ H1006 => ?_
    clear H999 H1002 H1004
    have O1015 : Own w _ [(Chunk.all [Bk g609 [J ((script.getD i.toNat z50).f0), J ((script.getD i.toNat z50).f1), .slice A597 ((script.getD i.toNat z50).f2.length) c598, J ((script.getD i.toNat z50).f3), .slice A601 ((script.getD i.toNat z50).f4.length) c602] 50, Chunk.rj w (fun k_ => k_ < w.heap.size) Sm Am cm files Ai ci its, Bk g100 [.slice Am files.length cm, J d.most, J d.fuse, .bool d.down, .string (⟨#[106]⟩ : ByteArray), .slice Ai its.length ci] 41, Chunk.jour w.heap.size gd7 gj (⟨#[106]⟩ : ByteArray) Sj (its.map toI) ((recsJ (its.map toI)).length : Int)]), Chunk.disk w.heap.size gd7 Sd d] := Own.bundle (O618.sel [0, 2, 3, 4, 1] (by decide))
    refine Wk H1006 Tryz.func14 rfl (ar_cons (H1006.ev rfl) (ar_cons (H1006.ev rfl) ar_nil)) (crash_calls w _ (Chunk.all [Bk g609 [J ((script.getD i.toNat z50).f0), J ((script.getD i.toNat z50).f1), .slice A597 ((script.getD i.toNat z50).f2.length) c598, J ((script.getD i.toNat z50).f3), .slice A601 ((script.getD i.toNat z50).f4.length) c602] 50, Chunk.rj w (fun k_ => k_ < w.heap.size) Sm Am cm files Ai ci its, Bk g100 [.slice Am files.length cm, J d.most, J d.fuse, .bool d.down, .string (⟨#[106]⟩ : ByteArray), .slice Ai its.length ci] 41, Chunk.jour w.heap.size gd7 gj (⟨#[106]⟩ : ByteArray) Sj (its.map toI) ((recsJ (its.map toI)).length : Int)]) gd7 Sd d A601 c602 ((script.getD i.toNat z50).f4) (fun w_ h_ => Kd.C_below hC604 h_.below) hl603 hJ.wf (by have h_ := hJ.len; omega) (by exact O1015)) ?_
    rintro e1009 w1010 ⟨rfl, S1007, hb1011⟩
    refine ⟨_, rfl, fun _ H1013 => ?_⟩
    have O1014 : Own w w1010 [Bk g609 [J ((script.getD i.toNat z50).f0), J ((script.getD i.toNat z50).f1), .slice A597 ((script.getD i.toNat z50).f2.length) c598, J ((script.getD i.toNat z50).f3), .slice A601 ((script.getD i.toNat z50).f4.length) c602] 50, Chunk.rj w (fun k_ => k_ < w.heap.size) Sm Am cm files Ai ci its, Bk g100 [.slice Am files.length cm, J d.most, J d.fuse, .bool d.down, .string (⟨#[106]⟩ : ByteArray), .slice Ai its.length ci] 41, Chunk.jour w.heap.size gd7 gj (⟨#[106]⟩ : ByteArray) Sj (its.map toI) ((recsJ (its.map toI)).length : Int), Chunk.disk w.heap.size gd7 S1007 (crashD ((script.getD i.toNat z50).f4) d)] := Own.unbundle (hb1011.sel [0, 1] (by decide))
    clear O1015
    clear H1006 O618 hb1011
    have hwf1008 : wfD (crashD ((script.getD i.toNat z50).f4) d) := wf_crash hJ.wf
    refine gE hK1000 ?_
    refine gR fun K1017 hK1017 => ?_
    refine Vm H1013 fun _ H1019 => ?_
    clear H1013
    have hJc : JV (crashD ((script.getD i.toNat z50).f4) d) (used + (((script.getD i.toNat z50).f2.length : Int) + 20)) := (hJ.crash (keep := (script.getD i.toNat z50).f4)).more (by omega)
    have hwo := wf_open (nm := (⟨#[106]⟩ : ByteArray)) hJc.wf
    have O1029 : Own w _ [(Chunk.all [Bk g609 [J ((script.getD i.toNat z50).f0), J ((script.getD i.toNat z50).f1), .slice A597 ((script.getD i.toNat z50).f2.length) c598, J ((script.getD i.toNat z50).f3), .slice A601 ((script.getD i.toNat z50).f4.length) c602] 50, Chunk.rj w (fun k_ => k_ < w.heap.size) Sm Am cm files Ai ci its, Bk g100 [.slice Am files.length cm, J d.most, J d.fuse, .bool d.down, .string (⟨#[106]⟩ : ByteArray), .slice Ai its.length ci] 41, Chunk.jour w.heap.size gd7 gj (⟨#[106]⟩ : ByteArray) Sj (its.map toI) ((recsJ (its.map toI)).length : Int)]), Chunk.disk w.heap.size gd7 S1007 (crashD ((script.getD i.toNat z50).f4) d)] := Own.bundle (O1014.sel [0, 1, 2, 3, 4] (by decide))
    refine Wk H1019 Tryz.func9 rfl (ar_cons (H1019.ev rfl) (ar_cons (ev_c _ _) ar_nil)) (open_calls w _ (Chunk.all [Bk g609 [J ((script.getD i.toNat z50).f0), J ((script.getD i.toNat z50).f1), .slice A597 ((script.getD i.toNat z50).f2.length) c598, J ((script.getD i.toNat z50).f3), .slice A601 ((script.getD i.toNat z50).f4.length) c602] 50, Chunk.rj w (fun k_ => k_ < w.heap.size) Sm Am cm files Ai ci its, Bk g100 [.slice Am files.length cm, J d.most, J d.fuse, .bool d.down, .string (⟨#[106]⟩ : ByteArray), .slice Ai its.length ci] 41, Chunk.jour w.heap.size gd7 gj (⟨#[106]⟩ : ByteArray) Sj (its.map toI) ((recsJ (its.map toI)).length : Int)]) gd7 S1007 (crashD ((script.getD i.toNat z50).f4) d) (⟨#[106]⟩ : ByteArray) hJc.wf (by decide) (by have h_ := hJc.len; omega) (by have h_ := hJc.by_; omega) hJc.read (by exact O1029)) ?_
    rintro e1023 w1024 (⟨rfl, hne, S1020, hb1025⟩ | ⟨h0, gj1021, Sj1022, S1020, rfl, hb1025⟩)
    ·
     refine ⟨_, rfl, fun _ H1027 => ?_⟩
     have O1028 : Own w w1024 [Bk g609 [J ((script.getD i.toNat z50).f0), J ((script.getD i.toNat z50).f1), .slice A597 ((script.getD i.toNat z50).f2.length) c598, J ((script.getD i.toNat z50).f3), .slice A601 ((script.getD i.toNat z50).f4.length) c602] 50, Chunk.rj w (fun k_ => k_ < w.heap.size) Sm Am cm files Ai ci its, Bk g100 [.slice Am files.length cm, J d.most, J d.fuse, .bool d.down, .string (⟨#[106]⟩ : ByteArray), .slice Ai its.length ci] 41, Chunk.jour w.heap.size gd7 gj (⟨#[106]⟩ : ByteArray) Sj (its.map toI) ((recsJ (its.map toI)).length : Int), Chunk.disk w.heap.size gd7 S1020 ((openJ (⟨#[106]⟩ : ByteArray) (crashD ((script.getD i.toNat z50).f4) d)).1.1)] := Own.unbundle (A := [Bk g609 [J ((script.getD i.toNat z50).f0), J ((script.getD i.toNat z50).f1), .slice A597 ((script.getD i.toNat z50).f2.length) c598, J ((script.getD i.toNat z50).f3), .slice A601 ((script.getD i.toNat z50).f4.length) c602] 50, Chunk.rj w (fun k_ => k_ < w.heap.size) Sm Am cm files Ai ci its, Bk g100 [.slice Am files.length cm, J d.most, J d.fuse, .bool d.down, .string (⟨#[106]⟩ : ByteArray), .slice Ai its.length ci] 41, Chunk.jour w.heap.size gd7 gj (⟨#[106]⟩ : ByteArray) Sj (its.map toI) ((recsJ (its.map toI)).length : Int)]) (L := [Chunk.disk w.heap.size gd7 S1020 ((openJ (⟨#[106]⟩ : ByteArray) (crashD ((script.getD i.toNat z50).f4) d)).1.1)]) hb1025
     clear O1029 hb1025
     clear H1019 O1014
     refine Vm H1027 fun _ H1031 => ?_
     refine Vx H1031 fun _ H1033 => ?_
     refine Vx H1033 fun _ H1035 => ?_
     refine Va H1035 fun _ H1037 => ?_
     refine Va H1037 fun _ H1039 => ?_
     refine gE hK1017 ?_
     refine gR fun K1040 hK1040 => ?_
     refine Vf H1039 (gwfld41_0 _ _) fun _ H1042 => ?_
     refine V H1042 (op_loadn gwagg34 gwsiz34 rfl (H1042.ev rfl) (O1028.get 2 rfl) rfl rfl) fun _ H1044 => ?_
     refine Vf H1044 (gwfld50_4 _ _) fun _ H1046 => ?_
     clear H1027 H1031 H1033 H1035 H1037 H1039 H1042 H1044
     refine Vl H1046 gwagg48 (O1028.get 0 rfl) fun _ H1048 => ?_
     clear H1046
     refine Wk H1048 Tryz.func20 rfl (ar_cons (H1048.ev rfl) (ar_cons (H1048.ev rfl) ar_nil)) (crash_j Am cm files Ai ci its d A601 c602 ((script.getD i.toNat z50).f4) 1 (fun _ h_ => h_) O1028 rfl (by omega) hfd hJ.wf (by omega) (Kd.C_below hC604 O1028.below) hl603) ?_
     rintro e1054 w1055 ⟨files1049, A1050, c1051, S1052, hd1053, rfl, hb1056⟩
     refine ⟨_, rfl, fun _ H1058 => ?_⟩
     have O1059 := O1028.calls 1 rfl hb1056
     clear H1048 O1028 hb1056
     refine Wk H1058 Tryz.func12 rfl (ar_cons (H1058.ev rfl) (ar_cons (ev_c _ _) ar_nil)) (open_p A1050 c1051 files1049 Ai ci its (crashD (script.getD i.toNat z50).f4 d) (⟨#[106]⟩ : ByteArray) 1 (fun _ h_ => h_) O1059 rfl (by have h_ := congrArg List.length hd1053; rw [List.length_map] at h_; have h2_ := hJc.len; omega) hd1053 hJc.wf (by have h_ := hJc.by_; omega) (hJc.read)) ?_
     rintro e1070 w1071 ⟨files1061, A1062, c1063, its1064, Ai1065, ci1066, S1067, hd1068, hs1069, rfl, hb1072⟩
     refine ⟨_, rfl, fun _ H1074 => ?_⟩
     have O1075 := O1059.calls 1 rfl hb1072
     clear H1058 O1059 hb1072
     have hs9 := hs1069
     refine Vm H1074 fun _ H1078 => ?_
     refine Vx H1078 fun _ H1080 => ?_
     refine Vx H1080 fun _ H1082 => ?_
     clear H1074 H1078 H1080
     have hJn : JV (openJ (⟨#[106]⟩ : ByteArray) (crashD ((script.getD i.toNat z50).f4) d)).1.1 (used + (((script.getD i.toNat z50).f2.length : Int) + 20)) := (hJ.crash (keep := (script.getD i.toNat z50).f4)).open_.more (by omega)
     refine gw_setn 2 H1082 O1075 rfl (want_none rfl) rfl (op_storen gwsiz41 rfl (H1082.ev rfl) (H1082.ev rfl) (O1075.get 2 rfl) rfl (by simp) (by simp [Value.oneCell'])) ?_
     intro _ w1085 H1084 O1086; clear H1082 O1075
     have O1087 : Own w w1085 [Bk g609 [J ((script.getD i.toNat z50).f0), J ((script.getD i.toNat z50).f1), .slice A597 ((script.getD i.toNat z50).f2.length) c598, J ((script.getD i.toNat z50).f3), .slice A601 ((script.getD i.toNat z50).f4.length) c602] 50, Chunk.rj w (fun k_ => k_ < w.heap.size) S1067 A1062 c1063 files1061 Ai1065 ci1066 its1064, Bk g100 [.slice A1062 files1061.length c1063, J ((openJ (⟨#[106]⟩ : ByteArray) (crashD ((script.getD i.toNat z50).f4) d)).1.1.most), J ((openJ (⟨#[106]⟩ : ByteArray) (crashD ((script.getD i.toNat z50).f4) d)).1.1.fuse), .bool ((openJ (⟨#[106]⟩ : ByteArray) (crashD ((script.getD i.toNat z50).f4) d)).1.1.down), .string (⟨#[106]⟩ : ByteArray), .slice Ai1065 its1064.length ci1066] 41, Chunk.jour w.heap.size gd7 gj (⟨#[106]⟩ : ByteArray) Sj (its.map toI) ((recsJ (its.map toI)).length : Int), Chunk.disk w.heap.size gd7 S1020 ((openJ (⟨#[106]⟩ : ByteArray) (crashD ((script.getD i.toNat z50).f4) d)).1.1)] := O1086
     clear O1086
     refine Va H1084 fun _ H1089 => ?_
     refine gE hK1040 ?_
     refine gw_seq fun K1090 hK1090 => ?_
     refine gR fun K1091 hK1091 => ?_
     refine Vm H1089 fun _ H1093 => ?_
     refine Vm H1093 fun _ H1095 => ?_
     refine V H1095 (op_nei rfl (H1095.ev rfl) (H1095.ev rfl)) fun _ H1097 => ?_
     clear H1084 H1089 H1093 H1095
     have H1098 := H1097.lit (b := false) (by simp)
     clear H1097
     refine Vm H1098 fun _ H1100 => ?_
     refine V2 H1100 (want_yes H1100 rfl rfl rfl rfl) (op_move rfl (H1100.ev rfl)) fun _ H1102 => ?_
     refine V2 H1102 (want_yes H1102 rfl rfl rfl rfl) (op_nep_nils Tryz.underlying29 rfl (H1102.ev rfl)) fun _ H1104 => ?_
     refine V2 H1104 (want_yes H1104 rfl rfl rfl rfl) (op_move rfl (H1104.ev rfl)) fun _ H1106 => ?_
     refine V2 H1106 (want_yes H1106 rfl rfl rfl rfl) (op_eqi rfl (H1106.ev rfl) (ev_c _ _)) fun _ H1108 => ?_
     refine V2 H1108 (want_yes H1108 rfl rfl rfl rfl) (op_neb Tryz.underlying4 rfl (H1108.ev rfl) (H1108.ev rfl)) fun _ H1110 => ?_
     clear H1098 H1100 H1102 H1104 H1106 H1108
     have H1111 := H1110.lit (b := false) (by rw [decide_eq_false hne]; rfl)
     clear H1110
     refine V H1111 (op_pick_f rfl (H1111.ev rfl) (H1111.ev rfl)) fun _ H1113 => ?_
     refine gE hK1091 ?_
     clear H1111
     refine gw_cond H1113 rfl (fun hb1114 => ?_) (fun hb1114 => ?_)
     ·
      cases hb1114
     refine gS hK1090 ?_
     refine wp_region_lit ?_
     refine Vm H1113 fun _ H1116 => ?_
     refine V H1116 (op_nei rfl (H1116.ev rfl) (ev_c _ _)) fun _ H1118 => ?_
     clear H1113 H1116
     have H1119 := H1118.lit (b := true) (decide_eq_true hne)
     clear H1118
     refine Va H1119 fun _ H1121 => ?_
     clear H1119
     refine wpList_nil ?_
     refine gw_blk ?_
     have O1122 := O1087.void
     refine gw_nx ⟨((openJ (⟨#[106]⟩ : ByteArray) (crashD ((script.getD i.toNat z50).f4) d)).1.1), S1020, (fun _ => False), S1067, files1061, its1064, A1062, c1063, Ai1065, ci1066, 0, true, (H1121.pick (t := 13) rfl (H1121.pick (t := 8) rfl (H1121.pick (t := 48) rfl (H1121.pick (t := 2) rfl (H1121.pick (t := 7) rfl (H1121.pick (t := 10) rfl (H1121.pick (t := 46) rfl (H1121.pick (t := 47) rfl (H1121.pick (t := 49) rfl (H1121.pick (t := 50) rfl (H1121.pick (t := 51) rfl (H1121.pick (t := 15) rfl (H1121.pick (t := 52) rfl (H1121.pick (t := 53) rfl (H1121.pick (t := 54) rfl (H1121.pick (t := 55) rfl (H1121.pick (t := 56) rfl (H1121.pick (t := 57) rfl (H1121.pick (t := 12) rfl (H1121.pick (t := 58) rfl (H1121.pick (t := 59) rfl H1121.nil))))))))))))))))))))), O1122.sel [5, 2, 3, 0] (by decide), ?_, ?_, ?_⟩
     ·
      exact hJn
     ·
      exact hd1068
     exact fun h_ => by cases h_
    refine ⟨_, rfl, fun _ H1027 => ?_⟩
    have O1028 : Own w w1024 [Bk g609 [J ((script.getD i.toNat z50).f0), J ((script.getD i.toNat z50).f1), .slice A597 ((script.getD i.toNat z50).f2.length) c598, J ((script.getD i.toNat z50).f3), .slice A601 ((script.getD i.toNat z50).f4.length) c602] 50, Chunk.rj w (fun k_ => k_ < w.heap.size) Sm Am cm files Ai ci its, Bk g100 [.slice Am files.length cm, J d.most, J d.fuse, .bool d.down, .string (⟨#[106]⟩ : ByteArray), .slice Ai its.length ci] 41, Chunk.jour w.heap.size gd7 gj (⟨#[106]⟩ : ByteArray) Sj (its.map toI) ((recsJ (its.map toI)).length : Int), Chunk.disk w.heap.size gd7 S1020 ((openJ (⟨#[106]⟩ : ByteArray) (crashD ((script.getD i.toNat z50).f4) d)).1.1), Chunk.jour w.heap.size gd7 gj1021 (⟨#[106]⟩ : ByteArray) Sj1022 ((openJ (⟨#[106]⟩ : ByteArray) (crashD ((script.getD i.toNat z50).f4) d)).2.1) ((openJ (⟨#[106]⟩ : ByteArray) (crashD ((script.getD i.toNat z50).f4) d)).2.2)] := Own.unbundle (A := [Bk g609 [J ((script.getD i.toNat z50).f0), J ((script.getD i.toNat z50).f1), .slice A597 ((script.getD i.toNat z50).f2.length) c598, J ((script.getD i.toNat z50).f3), .slice A601 ((script.getD i.toNat z50).f4.length) c602] 50, Chunk.rj w (fun k_ => k_ < w.heap.size) Sm Am cm files Ai ci its, Bk g100 [.slice Am files.length cm, J d.most, J d.fuse, .bool d.down, .string (⟨#[106]⟩ : ByteArray), .slice Ai its.length ci] 41, Chunk.jour w.heap.size gd7 gj (⟨#[106]⟩ : ByteArray) Sj (its.map toI) ((recsJ (its.map toI)).length : Int)]) (L := [Chunk.disk w.heap.size gd7 S1020 ((openJ (⟨#[106]⟩ : ByteArray) (crashD ((script.getD i.toNat z50).f4) d)).1.1), Chunk.jour w.heap.size gd7 gj1021 (⟨#[106]⟩ : ByteArray) Sj1022 ((openJ (⟨#[106]⟩ : ByteArray) (crashD ((script.getD i.toNat z50).f4) d)).2.1) ((openJ (⟨#[106]⟩ : ByteArray) (crashD ((script.getD i.toNat z50).f4) d)).2.2)]) hb1025
    clear O1029 hb1025
    clear H1019 O1014
    refine Vm H1027 fun _ H1124 => ?_
    refine Vx H1124 fun _ H1126 => ?_
    refine Vx H1126 fun _ H1128 => ?_
    refine Va H1128 fun _ H1130 => ?_
    refine Va H1130 fun _ H1132 => ?_
    refine gE hK1017 ?_
    refine gR fun K1133 hK1133 => ?_
    refine Vf H1132 (gwfld41_0 _ _) fun _ H1135 => ?_
    refine V H1135 (op_loadn gwagg34 gwsiz34 rfl (H1135.ev rfl) (O1028.get 2 rfl) rfl rfl) fun _ H1137 => ?_
    refine Vf H1137 (gwfld50_4 _ _) fun _ H1139 => ?_
    clear H1027 H1124 H1126 H1128 H1130 H1132 H1135 H1137
    refine Vl H1139 gwagg48 (O1028.get 0 rfl) fun _ H1141 => ?_
    clear H1139
    refine Wk H1141 Tryz.func20 rfl (ar_cons (H1141.ev rfl) (ar_cons (H1141.ev rfl) ar_nil)) (crash_j Am cm files Ai ci its d A601 c602 ((script.getD i.toNat z50).f4) 1 (fun _ h_ => h_) O1028 rfl (by omega) hfd hJ.wf (by omega) (Kd.C_below hC604 O1028.below) hl603) ?_
    rintro e1147 w1148 ⟨files1142, A1143, c1144, S1145, hd1146, rfl, hb1149⟩
    refine ⟨_, rfl, fun _ H1151 => ?_⟩
    have O1152 := O1028.calls 1 rfl hb1149
    clear H1141 O1028 hb1149
    refine Wk H1151 Tryz.func12 rfl (ar_cons (H1151.ev rfl) (ar_cons (ev_c _ _) ar_nil)) (open_p A1143 c1144 files1142 Ai ci its (crashD (script.getD i.toNat z50).f4 d) (⟨#[106]⟩ : ByteArray) 1 (fun _ h_ => h_) O1152 rfl (by have h_ := congrArg List.length hd1146; rw [List.length_map] at h_; have h2_ := hJc.len; omega) hd1146 hJc.wf (by have h_ := hJc.by_; omega) (hJc.read)) ?_
    rintro e1163 w1164 ⟨files1154, A1155, c1156, its1157, Ai1158, ci1159, S1160, hd1161, hs1162, rfl, hb1165⟩
    refine ⟨_, rfl, fun _ H1167 => ?_⟩
    have O1168 := O1152.calls 1 rfl hb1165
    clear H1151 O1152 hb1165
    have hs9 := hs1162
    refine Vm H1167 fun _ H1171 => ?_
    refine Vx H1171 fun _ H1173 => ?_
    refine Vx H1173 fun _ H1175 => ?_
    clear H1167 H1171 H1173
    have hJn : JV (openJ (⟨#[106]⟩ : ByteArray) (crashD ((script.getD i.toNat z50).f4) d)).1.1 (used + (((script.getD i.toNat z50).f2.length : Int) + 20)) := (hJ.crash (keep := (script.getD i.toNat z50).f4)).open_.more (by omega)
    have hit := hJc.items (nm := (⟨#[106]⟩ : ByteArray)) (by omega) h0
    have hsi := hs9 h0
    have O1176 : Own w w1164 [Bk g609 [J ((script.getD i.toNat z50).f0), J ((script.getD i.toNat z50).f1), .slice A597 ((script.getD i.toNat z50).f2.length) c598, J ((script.getD i.toNat z50).f3), .slice A601 ((script.getD i.toNat z50).f4.length) c602] 50, Chunk.rj w (fun k_ => k_ < w.heap.size) S1160 A1155 c1156 files1154 Ai1158 ci1159 its1157, Bk g100 [.slice Am files.length cm, J d.most, J d.fuse, .bool d.down, .string (⟨#[106]⟩ : ByteArray), .slice Ai its.length ci] 41, Chunk.jour w.heap.size gd7 gj (⟨#[106]⟩ : ByteArray) Sj (its.map toI) ((recsJ (its.map toI)).length : Int), Chunk.disk w.heap.size gd7 S1020 ((openJ (⟨#[106]⟩ : ByteArray) (crashD ((script.getD i.toNat z50).f4) d)).1.1), Chunk.jour w.heap.size gd7 gj1021 (⟨#[106]⟩ : ByteArray) Sj1022 (its1157.map toI) ((recsJ (its1157.map toI)).length : Int)] := by have h_ := O1168; rw [hit.2, ← hsi] at h_; exact h_
    have hIn : JI (its1157.map toI) (used + (((script.getD i.toNat z50).f2.length : Int) + 20)) := by rw [hsi]; exact hit.1
    refine gw_setn 2 H1175 O1176 rfl (want_none rfl) rfl (op_storen gwsiz41 rfl (H1175.ev rfl) (H1175.ev rfl) (O1176.get 2 rfl) rfl (by simp) (by simp [Value.oneCell'])) ?_
    intro _ w1179 H1178 O1180; clear H1175 O1176
    have O1181 : Own w w1179 [Bk g609 [J ((script.getD i.toNat z50).f0), J ((script.getD i.toNat z50).f1), .slice A597 ((script.getD i.toNat z50).f2.length) c598, J ((script.getD i.toNat z50).f3), .slice A601 ((script.getD i.toNat z50).f4.length) c602] 50, Chunk.rj w (fun k_ => k_ < w.heap.size) S1160 A1155 c1156 files1154 Ai1158 ci1159 its1157, Bk g100 [.slice A1155 files1154.length c1156, J ((openJ (⟨#[106]⟩ : ByteArray) (crashD ((script.getD i.toNat z50).f4) d)).1.1.most), J ((openJ (⟨#[106]⟩ : ByteArray) (crashD ((script.getD i.toNat z50).f4) d)).1.1.fuse), .bool ((openJ (⟨#[106]⟩ : ByteArray) (crashD ((script.getD i.toNat z50).f4) d)).1.1.down), .string (⟨#[106]⟩ : ByteArray), .slice Ai1158 its1157.length ci1159] 41, Chunk.jour w.heap.size gd7 gj (⟨#[106]⟩ : ByteArray) Sj (its.map toI) ((recsJ (its.map toI)).length : Int), Chunk.disk w.heap.size gd7 S1020 ((openJ (⟨#[106]⟩ : ByteArray) (crashD ((script.getD i.toNat z50).f4) d)).1.1), Chunk.jour w.heap.size gd7 gj1021 (⟨#[106]⟩ : ByteArray) Sj1022 (its1157.map toI) ((recsJ (its1157.map toI)).length : Int)] := O1180
    clear O1180
    refine Va H1178 fun _ H1183 => ?_
    refine gE hK1133 ?_
    refine gw_seq fun K1184 hK1184 => ?_
    refine gR fun K1185 hK1185 => ?_
    refine Vm H1183 fun _ H1187 => ?_
    refine Vm H1187 fun _ H1189 => ?_
    refine V H1189 (op_nei rfl (H1189.ev rfl) (H1189.ev rfl)) fun _ H1191 => ?_
    clear H1178 H1183 H1187 H1189
    have H1192 := H1191.lit (b := false) (by rw [h0]; rfl)
    clear H1191
    refine Vm H1192 fun _ H1194 => ?_
    refine V2 H1194 (want_yes H1194 rfl rfl rfl rfl) (op_move rfl (H1194.ev rfl)) fun _ H1196 => ?_
    refine V2 H1196 (want_yes H1196 rfl rfl rfl rfl) (op_nep_nil Tryz.underlying29 rfl (H1196.ev rfl)) fun _ H1198 => ?_
    refine V2 H1198 (want_yes H1198 rfl rfl rfl rfl) (op_move rfl (H1198.ev rfl)) fun _ H1200 => ?_
    refine V2 H1200 (want_yes H1200 rfl rfl rfl rfl) (op_eqi rfl (H1200.ev rfl) (ev_c _ _)) fun _ H1202 => ?_
    refine V2 H1202 (want_yes H1202 rfl rfl rfl rfl) (op_neb Tryz.underlying4 rfl (H1202.ev rfl) (H1202.ev rfl)) fun _ H1204 => ?_
    clear H1192 H1194 H1196 H1198 H1200 H1202
    have H1205 := H1204.lit (b := false) (by rw [h0]; rfl)
    clear H1204
    refine V H1205 (op_pick_f rfl (H1205.ev rfl) (H1205.ev rfl)) fun _ H1207 => ?_
    refine gE hK1185 ?_
    clear H1205
    refine gw_cond H1207 rfl (fun hb1208 => ?_) (fun hb1208 => ?_)
    ·
     cases hb1208
    refine gS hK1184 ?_
    refine wp_region_lit ?_
    refine Vm H1207 fun _ H1210 => ?_
    refine V H1210 (op_nei rfl (H1210.ev rfl) (ev_c _ _)) fun _ H1212 => ?_
    clear H1207 H1210
    have H1213 := H1212.lit (b := false) (by rw [h0]; rfl)
    clear H1212
    refine Va H1213 fun _ H1215 => ?_
    clear H1213
    refine wpList_nil ?_
    refine gw_blk ?_
    refine gw_nx ⟨((openJ (⟨#[106]⟩ : ByteArray) (crashD ((script.getD i.toNat z50).f4) d)).1.1), S1020, Sj1022, S1160, files1154, its1157, A1155, c1156, Ai1158, ci1159, gj1021, false, (H1215.pick (t := 13) rfl (H1215.pick (t := 8) rfl (H1215.pick (t := 48) rfl (H1215.pick (t := 2) rfl (H1215.pick (t := 7) rfl (H1215.pick (t := 10) rfl (H1215.pick (t := 46) rfl (H1215.pick (t := 47) rfl (H1215.pick (t := 49) rfl (H1215.pick (t := 50) rfl (H1215.pick (t := 51) rfl (H1215.pick (t := 15) rfl (H1215.pick (t := 52) rfl (H1215.pick (t := 53) rfl (H1215.pick (t := 54) rfl (H1215.pick (t := 55) rfl (H1215.pick (t := 56) rfl (H1215.pick (t := 57) rfl (H1215.pick (t := 12) rfl (H1215.pick (t := 58) rfl (H1215.pick (t := 59) rfl H1215.nil))))))))))))))))))))), O1181.sel [4, 1, 2, 5] (by decide), ?_, ?_, ?_⟩
    ·
     exact hJn
    ·
     exact hd1161
    exact fun _ => hIn
   have H1216 := H997.subst_ (d := 106) (b := false) rfl hb998
   clear H997
   (try simp only [decide_eq_false_iff_not] at hb998)
   refine wp_skip ?_
   refine gw_blk ?_
   refine gw_nx ⟨d, Sd, Sj, Sm, files, its, Am, cm, Ai, ci, gj, false, (H1216.pick (t := 13) rfl (H1216.pick (t := 8) rfl (H1216.pick (t := 48) rfl (H1216.pick (t := 2) rfl (H1216.pick (t := 7) rfl (H1216.pick (t := 10) rfl (H1216.pick (t := 46) rfl (H1216.pick (t := 47) rfl (H1216.pick (t := 49) rfl (H1216.pick (t := 50) rfl (H1216.pick (t := 51) rfl (H1216.pick (t := 15) rfl (H1216.pick (t := 52) rfl (H1216.pick (t := 53) rfl (H1216.pick (t := 54) rfl (H1216.pick (t := 55) rfl (H1216.pick (t := 56) rfl (H1216.pick (t := 57) rfl (H1216.pick (t := 12) rfl (H1216.pick (t := 58) rfl (H1216.pick (t := 59) rfl H1216.nil))))))))))))))))))))), O618.sel [1, 2, 3, 4] (by decide), ?_, ?_, ?_⟩
   ·
    exact hJm
   ·
    exact hfd
   exact fun _ => hIm
  rintro _ w1218 ⟨d2, Sd2, Sj2, Sm2, files2, its2, Am2, cm2, Ai2, ci2, gj2, lost2, H1219, O1220, hJ2, hfd2, hI2⟩
  rcases Bool.eq_false_or_eq_true lost2 with hl2_ | hl2_ <;> subst hl2_
  ·
   have O1221 : Own w w1218 [Chunk.disk w.heap.size gd7 Sd2 d2, Chunk.rj w (fun k_ => k_ < w.heap.size) Sm2 Am2 cm2 files2 Ai2 ci2 its2, Bk g100 [.slice Am2 files2.length cm2, J d2.most, J d2.fuse, .bool d2.down, .string (⟨#[106]⟩ : ByteArray), .slice Ai2 its2.length ci2] 41, Chunk.void] := O1220
   have hJn := hJ2
   refine gR fun K1222 hK1222 => ?_
   refine Vm H1219 fun _ H1224 => ?_
   refine V H1224 (op_not rfl (H1224.ev rfl)) fun _ H1226 => ?_
   refine Vm H1226 fun _ H1228 => ?_
   refine Vo H1228 (wn H1228 rfl rfl rfl rfl) fun _ H1230 => ?_
   refine Vo H1230 (wn H1230 rfl rfl rfl rfl) fun _ H1232 => ?_
   refine Vo H1232 (wn H1232 rfl rfl rfl rfl) fun _ H1234 => ?_
   refine Vo H1234 (wn H1234 rfl rfl rfl rfl) fun _ H1236 => ?_
   refine Vo H1236 (wn H1236 rfl rfl rfl rfl) fun _ H1238 => ?_
   clear H1219 H1224 H1226 H1228 H1230 H1232 H1234 H1236
   refine V H1238 (op_pick_f rfl (H1238.ev rfl) (ev_c _ _)) fun _ H1240 => ?_
   refine gE hK1222 ?_
   clear H1238
   refine gw_cond H1240 rfl (fun hb1241 => ?_) (fun hb1241 => ?_)
   ·
    cases hb1241
   refine wp_skip ?_
   refine gw_blk ?_
   refine gw_nx (hK589 _ _ ?_)
   refine wp_region_lit ?_
   refine V H1240 (op_add rfl (H1240.ev rfl) (ev_c _ _) (by omega)) fun _ H1243 => ?_
   refine Vm H1243 fun _ H1245 => ?_
   clear H1240 H1243
   refine wpList_nil ?_
   refine gw_nx ⟨_, ?_, i + 1, (used + ((((script.getD i.toNat z50).f2.length) : Int) + 20)), d2, Sd2, (fun _ => False), Sm2, files2, its2, Am2, cm2, Ai2, ci2, 0, true, (H1245.pick (t := 48) rfl (H1245.pick (t := 12) rfl (H1245.pick (t := 13) rfl (H1245.pick (t := 8) rfl (H1245.pick (t := 2) rfl (H1245.pick (t := 7) rfl (H1245.pick (t := 10) rfl (H1245.pick (t := 46) rfl (H1245.pick (t := 47) rfl H1245.nil))))))))), O1221.sel [0, 1, 2, 3] (by decide), ?_, ?_, ?_, ?_, ?_, rfl⟩
   ·
    rw [hm160]; omega
   ·
    omega
   ·
    omega
   ·
    exact hJn
   ·
    exact hfd2
   exact fun h_ => by cases h_
  have O1246 : Own w w1218 [Chunk.disk w.heap.size gd7 Sd2 d2, Chunk.rj w (fun k_ => k_ < w.heap.size) Sm2 Am2 cm2 files2 Ai2 ci2 its2, Bk g100 [.slice Am2 files2.length cm2, J d2.most, J d2.fuse, .bool d2.down, .string (⟨#[106]⟩ : ByteArray), .slice Ai2 its2.length ci2] 41, Chunk.jour w.heap.size gd7 gj2 (⟨#[106]⟩ : ByteArray) Sj2 (its2.map toI) ((recsJ (its2.map toI)).length : Int)] := O1220
  have hJn := hJ2
  have hIn := hI2 rfl
  refine gR fun K1247 hK1247 => ?_
  refine Vm H1219 fun _ H1249 => ?_
  refine V H1249 (op_not rfl (H1249.ev rfl)) fun _ H1251 => ?_
  refine Vm H1251 fun _ H1253 => ?_
  refine V2 H1253 (want_yes H1253 rfl rfl rfl rfl) (op_move rfl (H1253.ev rfl)) fun _ H1255 => ?_
  refine V2 H1255 (want_yes H1255 rfl rfl rfl rfl) (op_move rfl (H1255.ev rfl)) fun _ H1257 => ?_
  refine V2 H1257 (want_yes H1257 rfl rfl rfl rfl) (op_loadn gwagg41 gwsiz41 rfl (H1257.ev rfl) (O1246.get 2 rfl) rfl rfl) fun _ H1259 => ?_
  clear H1219 H1249 H1251 H1253 H1255 H1257
  have O1266 : Own w _ [(Chunk.all [Bk g100 [.slice Am2 files2.length cm2, J d2.most, J d2.fuse, .bool d2.down, .string (⟨#[106]⟩ : ByteArray), .slice Ai2 its2.length ci2] 41]), Chunk.disk w.heap.size gd7 Sd2 d2, Chunk.jour w.heap.size gd7 gj2 (⟨#[106]⟩ : ByteArray) Sj2 (its2.map toI) ((recsJ (its2.map toI)).length : Int), Chunk.rj w (fun k_ => k_ < w.heap.size) Sm2 Am2 cm2 files2 Ai2 ci2 its2] := Own.bundle (O1246.sel [2, 0, 3, 1] (by decide))
  refine gw_call H1259 (want_yes H1259 rfl rfl rfl rfl) rfl (by decide) (op_callL Tryz.func13 (by kernel_rfl) rfl rfl (ar_cons (H1259.ev rfl) (ar_cons (H1259.ev rfl) (ar_cons (H1259.ev rfl) ar_nil)))) (alike_calls w _ (Chunk.all [Bk g100 [.slice Am2 files2.length cm2, J d2.most, J d2.fuse, .bool d2.down, .string (⟨#[106]⟩ : ByteArray), .slice Ai2 its2.length ci2] 41]) gd7 gj2 Sd2 Sj2 d2 (fun k_ => k_ < w.heap.size) Sm2 Am2 cm2 files2 Ai2 ci2 its2 (fun _ h_ => h_) hJn.wf hfd2 (by have h_ := congrArg List.length hfd2; rw [List.length_map] at h_; have h2_ := hJn.len; omega) (by have h_ := hIn.len; rw [List.length_map] at h_; omega) hIn.ok hIn.once (by have h_ := hJn.len; omega) (by have h_ := hJn.by_; omega) (by have h_ := hIn.size; omega) (by exact O1266)) ?_
  rintro e1260 w1261 ⟨rfl, hb1262⟩
  refine ⟨_, rfl, fun _ H1264 => ?_⟩
  have O1265 : Own w w1261 [Bk g100 [.slice Am2 files2.length cm2, J d2.most, J d2.fuse, .bool d2.down, .string (⟨#[106]⟩ : ByteArray), .slice Ai2 its2.length ci2] 41, Chunk.disk w.heap.size gd7 Sd2 d2, Chunk.jour w.heap.size gd7 gj2 (⟨#[106]⟩ : ByteArray) Sj2 (its2.map toI) ((recsJ (its2.map toI)).length : Int), Chunk.rj w (fun k_ => k_ < w.heap.size) Sm2 Am2 cm2 files2 Ai2 ci2 its2] := Own.unbundle (hb1262.sel [0, 1, 2, 3] (by decide))
  clear O1266
  clear H1259 O1246 hb1262
  refine V2 H1264 (want_yes H1264 rfl rfl rfl rfl) (op_not rfl (H1264.ev rfl)) fun _ H1269 => ?_
  refine V H1269 (op_pick_t rfl (H1269.ev rfl) (H1269.ev rfl)) fun _ H1271 => ?_
  refine gE hK1247 ?_
  clear H1264 H1269
  refine gw_cond H1271 rfl (fun hb1272 => ?_) (fun hb1272 => ?_)
  ·
   cases hb1272
  refine wp_skip ?_
  refine gw_blk ?_
  refine gw_nx (hK589 _ _ ?_)
  refine wp_region_lit ?_
  refine V H1271 (op_add rfl (H1271.ev rfl) (ev_c _ _) (by omega)) fun _ H1274 => ?_
  refine Vm H1274 fun _ H1276 => ?_
  clear H1271 H1274
  refine wpList_nil ?_
  refine gw_nx ⟨_, ?_, i + 1, (used + ((((script.getD i.toNat z50).f2.length) : Int) + 20)), d2, Sd2, Sj2, Sm2, files2, its2, Am2, cm2, Ai2, ci2, gj2, false, (H1276.pick (t := 48) rfl (H1276.pick (t := 12) rfl (H1276.pick (t := 13) rfl (H1276.pick (t := 8) rfl (H1276.pick (t := 2) rfl (H1276.pick (t := 7) rfl (H1276.pick (t := 10) rfl (H1276.pick (t := 46) rfl (H1276.pick (t := 47) rfl H1276.nil))))))))), O1265.sel [1, 3, 0, 2] (by decide), ?_, ?_, ?_, ?_, ?_, rfl⟩
  ·
   rw [hm160]; omega
  ·
   omega
  ·
   omega
  ·
   exact hJn
  ·
   exact hfd2
  exact fun _ => hIn
 have H1277 := H163.subst_ (d := 49) (b := false) rfl hb165
 clear H163
 (try simp only [decide_eq_false_iff_not, Int.not_lt] at hb165)
 rcases Bool.eq_false_or_eq_true lost with hl_ | hl_ <;> subst hl_
 ·
  have O1278 : Own w w157 [Chunk.disk w.heap.size gd7 Sd d, Chunk.rj w (fun k_ => k_ < w.heap.size) Sm Am cm files Ai ci its, Bk g100 [.slice Am files.length cm, J d.most, J d.fuse, .bool d.down, .string (⟨#[106]⟩ : ByteArray), .slice Ai its.length ci] 41, Chunk.void] := O159
  refine wp_exit ?_
  refine gw_thx ?_
  refine gw_thx ?_
  refine gw_in ?_
  refine gw_nx (hK145 _ _ ?_)
  refine gw_seq fun K1279 hK1279 => ?_
  refine gw_drawB O1278 (by kernel_rfl) (by kernel_rfl) fun w1280 O1281 => ?_
  clear O1278
  refine Vn H1277 (op_move rfl (H1277.ev rfl)) fun _ H1283 => ?_
  refine Vn H1283 (op_move rfl (H1283.ev rfl)) fun _ H1285 => ?_
  clear H1277 H1283
  refine gq_off H1285 (wn H1285 rfl rfl rfl rfl) rfl (by decide) ?_
  intro _ H1287; clear H1285
  refine gq_off H1287 (wn H1287 rfl rfl rfl rfl) rfl (by decide) ?_
  intro _ H1289; clear H1287
  refine gq_off H1289 (wn H1289 rfl rfl rfl rfl) rfl (by decide) ?_
  intro _ H1291; clear H1289
  refine gq_off H1291 (wn H1291 rfl rfl rfl rfl) rfl (by decide) ?_
  intro _ H1293; clear H1291
  refine gq_off H1293 (wn H1293 rfl rfl rfl rfl) rfl (by decide) ?_
  intro _ H1295; clear H1293
  refine gq_off H1295 (wn H1295 rfl rfl rfl rfl) rfl (by decide) ?_
  intro _ H1297; clear H1295
  refine gq_off H1297 (wn H1297 rfl rfl rfl rfl) rfl (by decide) ?_
  intro _ H1299; clear H1297
  refine gq_off H1299 (wn H1299 rfl rfl rfl rfl) rfl (by decide) ?_
  intro _ H1301; clear H1299
  refine Vn H1301 (op_pick_t rfl (H1301.ev rfl) (ev_c _ _)) fun _ H1303 => ?_
  refine Vn H1303 (op_assign rfl (H1303.ev rfl)) fun _ H1305 => ?_
  clear H1301 H1303
  refine wpQuiet_nil ?_
  intro w1306 hq
  have O1307 := O1281.after hq
  clear O1281 hq
  refine gw_nx (hK1279 _ _ ?_)
  refine wp_ret ?_
  refine gw_ret1 H1305 rfl rfl ?_
  exact ⟨rfl, O1307.below⟩
 have O1308 : Own w w157 [Chunk.disk w.heap.size gd7 Sd d, Chunk.rj w (fun k_ => k_ < w.heap.size) Sm Am cm files Ai ci its, Bk g100 [.slice Am files.length cm, J d.most, J d.fuse, .bool d.down, .string (⟨#[106]⟩ : ByteArray), .slice Ai its.length ci] 41, Chunk.jour w.heap.size gd7 gj (⟨#[106]⟩ : ByteArray) Sj (its.map toI) ((recsJ (its.map toI)).length : Int)] := O159
 refine wp_exit ?_
 refine gw_thx ?_
 refine gw_thx ?_
 refine gw_in ?_
 refine gw_nx (hK145 _ _ ?_)
 refine gw_seq fun K1309 hK1309 => ?_
 refine gw_drawB O1308 (by kernel_rfl) (by kernel_rfl) fun w1310 O1311 => ?_
 clear O1308
 refine Vn H1277 (op_move rfl (H1277.ev rfl)) fun _ H1313 => ?_
 refine Vn H1313 (op_move rfl (H1313.ev rfl)) fun _ H1315 => ?_
 refine gq_ev H1315 (want_yes H1315 rfl rfl rfl rfl) rfl (by decide) (fun wq hq => have HO := O1311.after hq; (op_move rfl (H1315.ev rfl))) fun _ H1317 => ?_
 refine gq_ev H1317 (want_yes H1317 rfl rfl rfl rfl) rfl (by decide) (fun wq hq => have HO := O1311.after hq; (op_move rfl (H1317.ev rfl))) fun _ H1319 => ?_
 clear H1277 H1313 H1315 H1317
 refine gq_call H1319 (want_yes H1319 rfl rfl rfl rfl) rfl (by decide) (fun wq hq => have HO := O1311.after hq; (op_callL Tryz.func21 (by kernel_rfl) rfl rfl (ar_cons (H1319.ev rfl) (ar_cons (H1319.ev rfl) ar_nil)))) (fun wq hq => have HO := O1311.after hq; (has_calls w.heap.size gd7 gj (⟨#[106]⟩ : ByteArray) Sj (its.map toI) ((recsJ (its.map toI)).length : Int) _ (HO.get 3 rfl) key hkw).mono fun e w' h => ⟨h.1, below_then hq h.2⟩) ?_
 intro _ H1321; clear H1319
 refine gq_ev H1321 (want_yes H1321 rfl rfl rfl rfl) rfl (by decide) (fun wq hq => have HO := O1311.after hq; (op_field (gwfld41_2 _ _) rfl (H1321.ev rfl))) fun _ H1323 => ?_
 refine gq_ev H1323 (want_yes H1323 rfl rfl rfl rfl) rfl (by decide) (fun wq hq => have HO := O1311.after hq; (op_load1 gwagg39 rfl (H1323.ev rfl) (blk_at (HO.get 2 rfl) rfl))) fun _ H1325 => ?_
 refine gq_ev H1325 (want_yes H1325 rfl rfl rfl rfl) rfl (by decide) (fun wq hq => have HO := O1311.after hq; (op_move rfl (H1325.ev rfl))) fun _ H1327 => ?_
 clear H1321 H1323 H1325
 refine gq_call H1327 (want_yes H1327 rfl rfl rfl rfl) rfl (by decide) (fun wq hq => have HO := O1311.after hq; (op_callL Tryz.func22 (by kernel_rfl) rfl rfl (ar_cons (H1327.ev rfl) (ar_cons (H1327.ev rfl) ar_nil)))) (fun wq hq => have HO := O1311.after hq; (has_ref Ai ci its key _ (Kd.F_now (rj_FI (i := 1) HO (fun _ h_ => h_) rfl)) (HO.get 1 rfl).2.2.1 (by have h_ := (hI rfl).len; rw [List.length_map] at h_; omega)).mono fun e w' h => ⟨h.1, below_then hq h.2⟩) ?_
 intro _ H1329; clear H1327
 refine gq_ev H1329 (want_yes H1329 rfl rfl rfl rfl) rfl (by decide) (fun wq hq => have HO := O1311.after hq; (op_eqb Tryz.underlying4 rfl (H1329.ev rfl) (H1329.ev rfl))) fun _ H1331 => ?_
 clear H1329
 have H1332 := H1331.lit (b := true) (by simp)
 clear H1331
 refine Vn H1332 (op_pick_f rfl (H1332.ev rfl) (H1332.ev rfl)) fun _ H1334 => ?_
 refine Vn H1334 (op_assign rfl (H1334.ev rfl)) fun _ H1336 => ?_
 clear H1332 H1334
 refine wpQuiet_nil ?_
 intro w1337 hq
 have O1338 := O1311.after hq
 clear O1311 hq
 refine gw_nx (hK1309 _ _ ?_)
 refine wp_ret ?_
 refine gw_ret1 H1336 rfl rfl ?_
 exact ⟨rfl, O1338.below⟩
end GRj8_
export GRj8_ (JournalPlays_walk)
open Classical in
noncomputable def colloquylaw09_JournalPlays.f (a0 : Int) (l1 : List S50) (a2 : Int) : Option Bool := if (a0 ≤ 9223372036854775807) ∧ (l1.length ≤ 4000000000000) ∧ (∀ x ∈ l1, ByteL x.f2 ∧ (Lit.int .i64 x.f1).wf = true ∧ x.f3 ≤ 9223372036854775807) ∧ (∀ x ∈ l1, x.f2.length ≤ 140737488355327 ∧ x.f4.length ≤ 140737488355327) ∧ ((Lit.int .i64 a2).wf = true) then some true else none
theorem colloquylaw09_JournalPlays.calls (a0 : Int) (A1 : Option Addr) (c1 : Nat) (l1 : List S50) (a2 : Int) (r : Bool) (w : World) (hr1 : Kd.C k50 w A1 l1.length l1) (hc1 : l1.length ≤ c1) (h : colloquylaw09_JournalPlays.f a0 l1 a2 = some r) :
    Calls Tryz.prog 4 #[(.int .i64 a0), (.slice A1 l1.length c1), (.int .i64 a2)] w fun e w' => e = .returned (.bool r) ∧ Below w.heap.size w w' := by
  unfold colloquylaw09_JournalPlays.f at h
  split at h
  · cases h; rename_i hh; exact JournalPlays_walk a0 A1 c1 l1 a2 w hr1 hc1 hh.1 hh.2.1 hh.2.2.1 hh.2.2.2.1 hh.2.2.2.2
  · cases h
end Go.Proofs.YtkdahjnmldeklaaGreat.PA
