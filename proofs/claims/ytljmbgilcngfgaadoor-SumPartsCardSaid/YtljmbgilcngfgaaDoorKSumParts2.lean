/- What this claim uses of this session's own texts, put together by a program: GLines GNamed GLine HSumP PAx8 PAx71 HSumE HSumF HSumB HFz GParse. -/
import Derived.Test.YtljmbgilcngfgaaDoorKSumParts1
import Derived.Test.YtljmbgilcngfgaaDoorProg
import Derived.Test.YtljmbgilcngfgaaDoorRows
import Derived.Test.YtljmbgilcngfgaaDoorCards
import Derived.Test.YtljmbgilcngfgaaDoorTie
namespace Go.Proofs.YtljmbgilcngfgaaDoor.PA
open Go.RowKit Go.Proofs.YtljmbgilcngfgaaDoorW.PrintWords Go.Proofs.YtljmbgilcngfgaaDoorW.PrintLast Go.Proofs.YtljmbgilcngfgaaDoorW.PrintMore
set_option linter.unusedVariables false
set_option linter.unusedSimpArgs false
set_option maxRecDepth 100000
set_option maxHeartbeats 8000000
namespace GLines_
theorem lines_calls (su bo : ByteArray) (A0 : Option Addr) (c0 : Nat) (ps : List S46) (w : World) (hr : Kd.C k46 w A0 ps.length ps) (hc : ps.length ≤ c0) (hsm : ps.length + sumL ps ≤ 1000000000) (hL : LaidW w) :
    Calls Tryd.prog 28 #[.agg #[.string su, .string bo, .slice A0 ps.length c0]] w fun e w' => ∃ A c S, e = .returned (.slice A (linesL su bo ps).length c) ∧ Out w w' (fun _ => False) [Chunk.row Kd.string 9 w.heap.size S (.slice A (linesL su bo ps).length c) (linesL su bo ps)] := by
 have hpl := len_C hr
 refine gw_start (N := 79) (vs := [.agg #[.string su, .string bo, .slice A0 ps.length c0]]) Tryd.func28 rfl rfl (by simp) fun a HF HO => ?_
 replace HO : Own w w [] := HO
 refine gR fun K1 hK1 => ?_
 refine gw_new HF HO (want_none rfl) rfl (by decide) (op_box rfl (HF.ev rfl)) ?_
 intro g2 _ w4 H5 O6; clear HF HO
 have O7 : Own w w4 [Bk g2 [.string su, .string bo, .slice A0 ps.length c0] 24] := O6
 clear O6
 refine Vc H5 fun _ H9 => ?_
 refine gE hK1 ?_
 refine gw_seq fun K10 hK10 => ?_
 clear H5
 refine gx_draw (M := [Bk g2 [.string su, .string bo, .slice A0 ps.length c0] 24]) (fun j_ => false) O7 (by kernel_rfl) fun w11 O12 => ?_
 clear O7
 refine gx_take 0 rfl (by kernel_rfl) H9 (by exact O12.sel [0] (by decide)) (want_none rfl) rfl (by decide) (fun wq HO => (op_field (gwfld24_0 _ _) rfl (H9.ev rfl))) ?_
 intro _ H14; clear H9
 refine gx_take 1 rfl (by kernel_rfl) H14 (by exact O12.sel [0] (by decide)) (want_none rfl) rfl (by decide) (fun wq HO => (op_load1 gwagg9 rfl (H14.ev rfl) (blk_at (HO.get 0 rfl) rfl))) ?_
 intro _ H16; clear H14
 refine gx_take 4 rfl (by kernel_rfl) H16 (by exact O12.sel [0] (by decide)) (want_none rfl) rfl (by decide) (fun wq HO => (op_field (gwfld24_1 _ _) rfl (H16.ev rfl))) ?_
 intro _ H18; clear H16
 refine gx_take 5 rfl (by kernel_rfl) H18 (by exact O12.sel [0] (by decide)) (want_none rfl) rfl (by decide) (fun wq HO => (op_load1 gwagg9 rfl (H18.ev rfl) (blk_at (HO.get 0 rfl) rfl))) ?_
 intro _ H20; clear H18
 refine gx_step 2 rfl (by kernel_rfl) ?_
 refine Wk H20 Tryd.func42 rfl (ar_cons (H20.ev rfl) ar_nil) (nw_calls su _) ?_
 rintro e21 w22 ⟨rfl, hb23⟩
 refine ⟨_, rfl, fun _ H25 => ?_⟩
 have O26 := O12.after hb23
 clear H20 O12 hb23
 refine gx_on (i := 2) (B := (fun j_ => false)) (fun _ => (by exact O26.sel [0] (by decide))) ?_
 refine gx_take 3 rfl (by kernel_rfl) H25 (by exact O26.sel [0] (by decide)) (want_none rfl) rfl (by decide) (fun wq HO => (op_cats rfl (ev_c _ _) (H25.ev rfl) (by (try simp only [size_cat]); have h0_ := nw_size su; have h1_ : (⟨#[84, 101, 115, 116, 32, 114, 117, 110, 32, 111, 102, 32]⟩ : ByteArray).size = 12 := rfl; omega))) ?_
 intro _ H29; clear H25
 refine gx_step 6 rfl (by kernel_rfl) ?_
 refine Wk H29 Tryd.func42 rfl (ar_cons (H29.ev rfl) ar_nil) (nw_calls bo _) ?_
 rintro e30 w31 ⟨rfl, hb32⟩
 refine ⟨_, rfl, fun _ H34 => ?_⟩
 have O35 := O26.after hb32
 clear H29 O26 hb32
 refine gx_on (i := 6) (B := (fun j_ => false)) (fun _ => (by exact O35.sel [0] (by decide))) ?_
 refine gx_take 7 rfl (by kernel_rfl) H34 (by exact O35.sel [0] (by decide)) (want_none rfl) rfl (by decide) (fun wq HO => (op_cats rfl (ev_c _ _) (H34.ev rfl) (by (try simp only [size_cat]); have h0_ := nw_size bo; have h1_ : (⟨#[66, 111, 97, 114, 100, 32]⟩ : ByteArray).size = 6 := rfl; omega))) ?_
 intro _ H38; clear H34
 refine gx_step 8 rfl (by kernel_rfl) ?_
 refine gw_lit (enc := Value.string) (fun _ => rfl) (xs := [((⟨#[84, 101, 115, 116, 32, 114, 117, 110, 32, 111, 102, 32]⟩ : ByteArray) ++ (nwB su)), ((⟨#[66, 111, 97, 114, 100, 32]⟩ : ByteArray) ++ (nwB bo))]) (e := 9) H38 O35 (want_none rfl) rfl (by decide) (op_bslice (by kernel_rfl) rfl (pt_cons (H38.ev rfl) (pt_cons (H38.ev rfl) pt_nil))) (by simp) ?_
 intro A39 S40 _ w42 H43 O44; clear H38 O35
 have O45 : Own w w42 [Chunk.row Kd.string 9 w.heap.size S40 (.slice A39 (([((⟨#[84, 101, 115, 116, 32, 114, 117, 110, 32, 111, 102, 32]⟩ : ByteArray) ++ (nwB su)), ((⟨#[66, 111, 97, 114, 100, 32]⟩ : ByteArray) ++ (nwB bo))]).length) (([((⟨#[84, 101, 115, 116, 32, 114, 117, 110, 32, 111, 102, 32]⟩ : ByteArray) ++ (nwB su)), ((⟨#[66, 111, 97, 114, 100, 32]⟩ : ByteArray) ++ (nwB bo))]).length)) ([((⟨#[84, 101, 115, 116, 32, 114, 117, 110, 32, 111, 102, 32]⟩ : ByteArray) ++ (nwB su)), ((⟨#[66, 111, 97, 114, 100, 32]⟩ : ByteArray) ++ (nwB bo))]), Bk g2 [.string su, .string bo, .slice A0 ps.length c0] 24] := O44
 clear O44
 refine gx_on (i := 8) (B := (fun j_ => false)) (fun _ => (by exact O45.sel [1] (by decide))) ?_
 refine gx_take 9 rfl (by kernel_rfl) H43 (by exact O45.sel [1] (by decide)) (want_none rfl) rfl (by decide) (fun wq HO => (op_assign rfl (H43.ev rfl))) ?_
 intro _ H47; clear H43
 refine gx_done (by kernel_rfl) ?_
 refine gw_nx (hK10 _ _ ?_)
 refine gw_seq fun K48 hK48 => ?_
 refine gR fun K49 hK49 => ?_
 refine Vf H47 (gwfld24_2 _ _) fun _ H51 => ?_
 refine Vl H51 gwagg22 (O45.get 1 rfl) fun _ H53 => ?_
 refine V H53 (op_len Tryd.underlying22 rfl (H53.ev rfl)) fun _ H55 => ?_
 refine V H55 (op_move rfl (ev_c _ _)) fun _ H57 => ?_
 refine gE hK49 ?_
 clear H47 H51 H53 H55
 refine wp_block ?_
 refine gw_loop (fun m_ a_ w_ => ∃ (i : Int) (Li : List ByteArray) (Ai : Option Addr) (ci : Nat) (Si : Nat → Prop), Fr 79 a_ [(22, J i), (3, .slice Ai Li.length ci), (1, .pointer (some ⟨g2, 0, none⟩)), (2, .slice none 0 0), (20, .slice A0 ps.length c0), (21, J (ps.length : Int))] ∧ Own w w_ [Chunk.row Kd.string 9 w.heap.size Si (.slice Ai Li.length ci) Li, Bk g2 [.string su, .string bo, .slice A0 ps.length c0] 24] ∧ (0 ≤ i ∧ i ≤ ps.length) ∧ (Li = (bodyL su bo (ps.take i.toNat))) ∧ m_ = (ps.length - i.toNat)) ((ps.length - (0 : Int).toNat)) ?_ ?_
 ·
  refine ⟨0, [((⟨#[84, 101, 115, 116, 32, 114, 117, 110, 32, 111, 102, 32]⟩ : ByteArray) ++ (nwB su)), ((⟨#[66, 111, 97, 114, 100, 32]⟩ : ByteArray) ++ (nwB bo))], A39, ([((⟨#[84, 101, 115, 116, 32, 114, 117, 110, 32, 111, 102, 32]⟩ : ByteArray) ++ (nwB su)), ((⟨#[66, 111, 97, 114, 100, 32]⟩ : ByteArray) ++ (nwB bo))]).length, S40, (H57.pick (t := 22) rfl (H57.pick (t := 3) rfl (H57.pick (t := 1) rfl (H57.pick (t := 2) rfl (H57.pick (t := 20) rfl (H57.pick (t := 21) rfl H57.nil)))))), O45.sel [0, 1] (by decide), ?_, ?_, rfl⟩
  ·
   omega
  simp [bodyL, headL]
 rintro m59 _ w61 ⟨i, Li, Ai, ci, Si, H62, O63, hi, hLi, hm64⟩
 refine gR fun K65 hK65 => ?_
 refine V H62 (op_lss rfl (H62.ev rfl) (H62.ev rfl)) fun _ H67 => ?_
 refine gE hK65 ?_
 refine gw_seq fun K68 hK68 => ?_
 clear H62
 refine gw_cond H67 rfl (fun hb69 => ?_) (fun hb69 => ?_)
 ·
  have H70 := H67.subst_ (d := 23) (b := true) rfl hb69
  clear H67
  (try simp only [decide_eq_true_eq] at hb69)
  refine gS hK68 ?_
  refine gw_seq fun K71 hK71 => ?_
  refine wp_block ?_
  refine gR fun K72 hK72 => ?_
  obtain ⟨ad73, cs76, hA74, hl77, hK78, hc75⟩ := Kd.C_get hr z46 i (by omega) (by omega)
  obtain ⟨A79, c80, rfl, hl81, hC82⟩ := k46_open hK78
  clear hl77
  refine V H70 (op_index Tryd.underlying22 gwsiz46 rfl (H70.ev rfl) (H70.ev rfl) hA74 (⟨by omega, by omega⟩)) fun _ H84 => ?_
  refine V H84 (op_loadc gwagg46 gwsiz46 rfl (H84.ev rfl) rfl (cells0 O63 hc75)) fun _ H86 => ?_
  clear H70 H84
  refine gw_new H86 O63 (want_none rfl) rfl (by decide) (op_alloc gwzer46 rfl) ?_
  intro g87 _ w89 H90 O91; clear H86 O63
  have O92 : Own w w89 [Bk g87 [.string (⟨#[]⟩ : ByteArray), .slice none 0 0] 46, Chunk.row Kd.string 9 w.heap.size Si (.slice Ai Li.length ci) Li, Bk g2 [.string su, .string bo, .slice A0 ps.length c0] 24] := O91
  clear O91
  refine gw_setn 0 H90 O92 rfl (want_none rfl) rfl (op_storen gwsiz46 rfl (H90.ev rfl) (H90.ev rfl) (O92.get 0 rfl) rfl (by simp) (by simp [Value.oneCell'])) ?_
  intro _ w95 H94 O96; clear H90 O92
  refine gE hK72 ?_
  refine gR fun K97 hK97 => ?_
  refine Vm H94 fun _ H99 => ?_
  refine Vf H99 (gwfld46_0 _ _) fun _ H101 => ?_
  refine Vl H101 gwagg9 (O96.get 0 rfl) fun _ H103 => ?_
  clear H94 H99 H101
  refine Wk H103 Tryd.func42 rfl (ar_cons (H103.ev rfl) ar_nil) (nw_calls ((ps.getD i.toNat z46).f0) _) ?_
  rintro e104 w105 ⟨rfl, hb106⟩
  refine ⟨_, rfl, fun _ H108 => ?_⟩
  have O109 := O96.after hb106
  clear H103 O96 hb106
  refine V H108 (op_cats rfl (ev_c _ _) (H108.ev rfl) (by (try simp only [size_cat]); have h0_ := nw_size ((ps.getD i.toNat z46).f0); have h1_ : (⟨#[103, 114, 111, 117, 112, 32]⟩ : ByteArray).size = 6 := rfl; omega)) fun _ H112 => ?_
  clear H108
  refine gw_lit (enc := Value.string) (fun _ => rfl) (xs := [((⟨#[103, 114, 111, 117, 112, 32]⟩ : ByteArray) ++ (nwB ((ps.getD i.toNat z46).f0)))]) (e := 9) H112 O109 (want_none rfl) rfl (by decide) (op_bslice (by kernel_rfl) rfl (pt_cons (H112.ev rfl) pt_nil)) (by simp) ?_
  intro A113 S114 _ w116 H117 O118; clear H112 O109
  have O119 : Own w w116 [Chunk.row Kd.string 9 w.heap.size S114 (.slice A113 (([((⟨#[103, 114, 111, 117, 112, 32]⟩ : ByteArray) ++ (nwB ((ps.getD i.toNat z46).f0)))]).length) (([((⟨#[103, 114, 111, 117, 112, 32]⟩ : ByteArray) ++ (nwB ((ps.getD i.toNat z46).f0)))]).length)) ([((⟨#[103, 114, 111, 117, 112, 32]⟩ : ByteArray) ++ (nwB ((ps.getD i.toNat z46).f0)))]), Bk g87 [.string ((ps.getD i.toNat z46).f0), .slice A79 ((ps.getD i.toNat z46).f1.length) c80] 46, Chunk.row Kd.string 9 w.heap.size Si (.slice Ai Li.length ci) Li, Bk g2 [.string su, .string bo, .slice A0 ps.length c0] 24] := O118
  clear O118
  refine gw_append Kd.string 2 H117 O119 (want_none rfl) rfl (by decide) rfl Tryd.underlying58 gwinfo9 rfl (by decide) (by decide) rfl (H117.ev rfl) (H117.ev rfl) (Kd.R_reads' (O119.get 0 rfl)).2.2 (fun _ _ h => h) O119.below.size (by rw [hLi]; have hb_ := body_len su bo (ps.take i.toNat); have hs_ := sum_le ps i.toNat; rw [List.length_take] at hb_; simp; omega) ?_
  intro A120 c121 S122 _ w124 H125 O126; clear H117 O119
  have O127 : Own w w124 [Chunk.row Kd.string 9 w.heap.size S114 (.slice A113 (([((⟨#[103, 114, 111, 117, 112, 32]⟩ : ByteArray) ++ (nwB ((ps.getD i.toNat z46).f0)))]).length) (([((⟨#[103, 114, 111, 117, 112, 32]⟩ : ByteArray) ++ (nwB ((ps.getD i.toNat z46).f0)))]).length)) ([((⟨#[103, 114, 111, 117, 112, 32]⟩ : ByteArray) ++ (nwB ((ps.getD i.toNat z46).f0)))]), Bk g87 [.string ((ps.getD i.toNat z46).f0), .slice A79 ((ps.getD i.toNat z46).f1.length) c80] 46, Chunk.row Kd.string 9 w.heap.size S122 (.slice A120 ((Li ++ [((⟨#[103, 114, 111, 117, 112, 32]⟩ : ByteArray) ++ (nwB ((ps.getD i.toNat z46).f0)))]).length) c121) (Li ++ [((⟨#[103, 114, 111, 117, 112, 32]⟩ : ByteArray) ++ (nwB ((ps.getD i.toNat z46).f0)))]), Bk g2 [.string su, .string bo, .slice A0 ps.length c0] 24] := O126
  clear O126
  refine Va H125 fun _ H129 => ?_
  refine gE hK97 ?_
  refine gR fun K130 hK130 => ?_
  refine Vf H129 (gwfld46_1 _ _) fun _ H132 => ?_
  refine Vl H132 gwagg44 (O127.get 1 rfl) fun _ H134 => ?_
  refine V H134 (op_len Tryd.underlying44 rfl (H134.ev rfl)) fun _ H136 => ?_
  refine V H136 (op_move rfl (ev_c _ _)) fun _ H138 => ?_
  refine gE hK130 ?_
  clear H125 H129 H132 H134 H136
  refine wp_block ?_
  refine gw_loop (fun m_ a_ w_ => ∃ (j : Int) (Lj : List ByteArray) (Aj : Option Addr) (cj : Nat) (Sj : Nat → Prop), Fr 79 a_ [(36, J j), (3, .slice Aj Lj.length cj), (22, J i), (1, .pointer (some ⟨g2, 0, none⟩)), (2, .slice none 0 0), (20, .slice A0 ps.length c0), (21, J (ps.length : Int)), (23, .bool true), (24, .pointer (some (ad73.add (i.toNat * 2)))), (25, .agg #[.string ((ps.getD i.toNat z46).f0), .slice A79 ((ps.getD i.toNat z46).f1.length) c80]), (5, .pointer (some ⟨g87, 0, none⟩)), (26, .slice Ai Li.length ci), (27, .pointer (some ⟨g87, 0, none⟩)), (28, .string ((ps.getD i.toNat z46).f0)), (29, .string (nwB ((ps.getD i.toNat z46).f0))), (30, .string ((⟨#[103, 114, 111, 117, 112, 32]⟩ : ByteArray) ++ (nwB ((ps.getD i.toNat z46).f0)))), (31, .slice A113 (([((⟨#[103, 114, 111, 117, 112, 32]⟩ : ByteArray) ++ (nwB ((ps.getD i.toNat z46).f0)))]).length) (([((⟨#[103, 114, 111, 117, 112, 32]⟩ : ByteArray) ++ (nwB ((ps.getD i.toNat z46).f0)))]).length)), (32, .slice A120 ((Li ++ [((⟨#[103, 114, 111, 117, 112, 32]⟩ : ByteArray) ++ (nwB ((ps.getD i.toNat z46).f0)))]).length) c121), (33, .pointer (some ⟨g87, 1, none⟩)), (34, .slice A79 ((ps.getD i.toNat z46).f1.length) c80), (35, J (((ps.getD i.toNat z46).f1.length) : Int))] ∧ Own w w_ [Chunk.row Kd.string 9 w.heap.size Sj (.slice Aj Lj.length cj) Lj, Chunk.row Kd.string 9 w.heap.size S114 (.slice A113 (([((⟨#[103, 114, 111, 117, 112, 32]⟩ : ByteArray) ++ (nwB ((ps.getD i.toNat z46).f0)))]).length) (([((⟨#[103, 114, 111, 117, 112, 32]⟩ : ByteArray) ++ (nwB ((ps.getD i.toNat z46).f0)))]).length)) ([((⟨#[103, 114, 111, 117, 112, 32]⟩ : ByteArray) ++ (nwB ((ps.getD i.toNat z46).f0)))]), Bk g87 [.string ((ps.getD i.toNat z46).f0), .slice A79 ((ps.getD i.toNat z46).f1.length) c80] 46, Bk g2 [.string su, .string bo, .slice A0 ps.length c0] 24] ∧ (0 ≤ j ∧ j ≤ (ps.getD i.toNat z46).f1.length ∧ (ps.getD i.toNat z46).f1.length ≤ 1000000000) ∧ (Lj = Li ++ [(⟨#[103, 114, 111, 117, 112, 32]⟩ : ByteArray) ++ nwB (ps.getD i.toNat z46).f0] ++ ((ps.getD i.toNat z46).f1.take j.toNat).map resL) ∧ m_ = ((ps.getD i.toNat z46).f1.length - j.toNat)) (((ps.getD i.toNat z46).f1.length - (0 : Int).toNat)) ?_ ?_
  ·
   refine ⟨0, (Li ++ [((⟨#[103, 114, 111, 117, 112, 32]⟩ : ByteArray) ++ (nwB ((ps.getD i.toNat z46).f0)))]), A120, c121, S122, (H138.pick (t := 36) rfl (H138.pick (t := 3) rfl (H138.pick (t := 22) rfl (H138.pick (t := 1) rfl (H138.pick (t := 2) rfl (H138.pick (t := 20) rfl (H138.pick (t := 21) rfl (H138.pick (t := 23) rfl (H138.pick (t := 24) rfl (H138.pick (t := 25) rfl (H138.pick (t := 5) rfl (H138.pick (t := 26) rfl (H138.pick (t := 27) rfl (H138.pick (t := 28) rfl (H138.pick (t := 29) rfl (H138.pick (t := 30) rfl (H138.pick (t := 31) rfl (H138.pick (t := 32) rfl (H138.pick (t := 33) rfl (H138.pick (t := 34) rfl (H138.pick (t := 35) rfl H138.nil))))))))))))))))))))), O127.sel [2, 0, 1, 3] (by decide), ?_, ?_, rfl⟩
   ·
    have hp_ := sum_part ps i (by omega) (by omega); omega
   simp
  rintro m140 _ w142 ⟨j, Lj, Aj, cj, Sj, H143, O144, hj, hLj, hm145⟩
  refine gR fun K146 hK146 => ?_
  refine V H143 (op_lss rfl (H143.ev rfl) (H143.ev rfl)) fun _ H148 => ?_
  refine gE hK146 ?_
  refine gw_seq fun K149 hK149 => ?_
  clear H143
  refine gw_cond H148 rfl (fun hb150 => ?_) (fun hb150 => ?_)
  ·
   have H151 := H148.subst_ (d := 37) (b := true) rfl hb150
   clear H148
   (try simp only [decide_eq_true_eq] at hb150)
   refine gS hK149 ?_
   refine gw_seq fun K152 hK152 => ?_
   refine wp_block ?_
   refine gR fun K153 hK153 => ?_
   obtain ⟨ad154, cs157, hA155, hl158, hK159, hc156⟩ := Kd.C_get hC82 z49 j (by omega) (by omega)
   obtain rfl := k49_open hK159
   clear hl158
   refine V H151 (op_index Tryd.underlying44 gwsiz49 rfl (H151.ev rfl) (H151.ev rfl) hA155 (⟨by omega, by omega⟩)) fun _ H161 => ?_
   refine V H161 (op_loadc gwagg49 gwsiz49 rfl (H161.ev rfl) rfl (cells0 O144 hc156)) fun _ H163 => ?_
   clear H151 H161
   refine gw_new H163 O144 (want_none rfl) rfl (by decide) (op_alloc gwzer49 rfl) ?_
   intro g164 _ w166 H167 O168; clear H163 O144
   have O169 : Own w w166 [Bk g164 [.string (⟨#[]⟩ : ByteArray), J 0] 49, Chunk.row Kd.string 9 w.heap.size Sj (.slice Aj Lj.length cj) Lj, Chunk.row Kd.string 9 w.heap.size S114 (.slice A113 (([((⟨#[103, 114, 111, 117, 112, 32]⟩ : ByteArray) ++ (nwB ((ps.getD i.toNat z46).f0)))]).length) (([((⟨#[103, 114, 111, 117, 112, 32]⟩ : ByteArray) ++ (nwB ((ps.getD i.toNat z46).f0)))]).length)) ([((⟨#[103, 114, 111, 117, 112, 32]⟩ : ByteArray) ++ (nwB ((ps.getD i.toNat z46).f0)))]), Bk g87 [.string ((ps.getD i.toNat z46).f0), .slice A79 ((ps.getD i.toNat z46).f1.length) c80] 46, Bk g2 [.string su, .string bo, .slice A0 ps.length c0] 24] := O168
   clear O168
   refine gw_setn 0 H167 O169 rfl (want_none rfl) rfl (op_storen gwsiz49 rfl (H167.ev rfl) (H167.ev rfl) (O169.get 0 rfl) rfl (by simp) (by simp [Value.oneCell'])) ?_
   intro _ w172 H171 O173; clear H167 O169
   refine gE hK153 ?_
   refine gx_draw (M := [Bk g164 [.string ((((ps.getD i.toNat z46).f1).getD j.toNat z49).f0), J ((((ps.getD i.toNat z46).f1).getD j.toNat z49).f1)] 49, Chunk.row Kd.string 9 w.heap.size S114 (.slice A113 (([((⟨#[103, 114, 111, 117, 112, 32]⟩ : ByteArray) ++ (nwB ((ps.getD i.toNat z46).f0)))]).length) (([((⟨#[103, 114, 111, 117, 112, 32]⟩ : ByteArray) ++ (nwB ((ps.getD i.toNat z46).f0)))]).length)) ([((⟨#[103, 114, 111, 117, 112, 32]⟩ : ByteArray) ++ (nwB ((ps.getD i.toNat z46).f0)))]), Bk g87 [.string ((ps.getD i.toNat z46).f0), .slice A79 ((ps.getD i.toNat z46).f1.length) c80] 46, Bk g2 [.string su, .string bo, .slice A0 ps.length c0] 24]) (fun j_ => false) O173 (by kernel_rfl) fun w174 O175 => ?_
   clear O173
   refine gx_take 0 rfl (by kernel_rfl) H171 (by exact O175.sel [0, 2, 3, 4] (by decide)) (want_none rfl) rfl (by decide) (fun wq HO => (op_move rfl (H171.ev rfl))) ?_
   intro _ H177; clear H171
   refine gx_take 1 rfl (by kernel_rfl) H177 (by exact O175.sel [0, 2, 3, 4] (by decide)) (want_none rfl) rfl (by decide) (fun wq HO => (op_field (gwfld49_1 _ _) rfl (H177.ev rfl))) ?_
   intro _ H179; clear H177
   refine gx_take 2 rfl (by kernel_rfl) H179 (by exact O175.sel [0, 2, 3, 4] (by decide)) (want_none rfl) rfl (by decide) (fun wq HO => (op_load1 gwagg3 rfl (H179.ev rfl) (blk_at (HO.get 0 rfl) rfl))) ?_
   intro _ H181; clear H179
   refine gx_take 5 rfl (by kernel_rfl) H181 (by exact O175.sel [0, 2, 3, 4] (by decide)) (want_none rfl) rfl (by decide) (fun wq HO => (op_field (gwfld49_0 _ _) rfl (H181.ev rfl))) ?_
   intro _ H183; clear H181
   refine gx_take 6 rfl (by kernel_rfl) H183 (by exact O175.sel [0, 2, 3, 4] (by decide)) (want_none rfl) rfl (by decide) (fun wq HO => (op_load1 gwagg9 rfl (H183.ev rfl) (blk_at (HO.get 0 rfl) rfl))) ?_
   intro _ H185; clear H183
   refine gx_step 3 rfl (by kernel_rfl) ?_
   refine Wk H185 Tryd.func25 rfl (ar_cons (H185.ev rfl) ar_nil) (vt_calls ((((ps.getD i.toNat z46).f1).getD j.toNat z49).f1) _) ?_
   rintro e186 w187 ⟨rfl, hb188⟩
   refine ⟨_, rfl, fun _ H190 => ?_⟩
   have O191 := O175.after hb188
   clear H185 O175 hb188
   refine gx_on (i := 3) (B := (fun j_ => false)) (fun _ => (by exact O191.sel [0, 2, 3, 4] (by decide))) ?_
   refine gx_take 4 rfl (by kernel_rfl) H190 (by exact O191.sel [0, 2, 3, 4] (by decide)) (want_none rfl) rfl (by decide) (fun wq HO => (op_cats rfl (H190.ev rfl) (ev_c _ _) (by (try simp only [size_cat]); have h0_ := vt_size ((((ps.getD i.toNat z46).f1).getD j.toNat z49).f1); have h1_ : (⟨#[58, 32]⟩ : ByteArray).size = 2 := rfl; omega))) ?_
   intro _ H194; clear H190
   refine gx_step 7 rfl (by kernel_rfl) ?_
   refine Wk H194 Tryd.func42 rfl (ar_cons (H194.ev rfl) ar_nil) (nw_calls ((((ps.getD i.toNat z46).f1).getD j.toNat z49).f0) _) ?_
   rintro e195 w196 ⟨rfl, hb197⟩
   refine ⟨_, rfl, fun _ H199 => ?_⟩
   have O200 := O191.after hb197
   clear H194 O191 hb197
   refine gx_on (i := 7) (B := (fun j_ => false)) (fun _ => (by exact O200.sel [0, 2, 3, 4] (by decide))) ?_
   refine gx_take 8 rfl (by kernel_rfl) H199 (by exact O200.sel [0, 2, 3, 4] (by decide)) (want_none rfl) rfl (by decide) (fun wq HO => (op_cats rfl (H199.ev rfl) (H199.ev rfl) (by (try simp only [size_cat]); have h0_ := nw_size ((((ps.getD i.toNat z46).f1).getD j.toNat z49).f0); have h1_ := vt_size ((((ps.getD i.toNat z46).f1).getD j.toNat z49).f1); have h2_ : (⟨#[58, 32]⟩ : ByteArray).size = 2 := rfl; omega))) ?_
   intro _ H203; clear H199
   refine gx_step 9 rfl (by kernel_rfl) ?_
   refine gw_lit (enc := Value.string) (fun _ => rfl) (xs := [(((vtB ((((ps.getD i.toNat z46).f1).getD j.toNat z49).f1)) ++ (⟨#[58, 32]⟩ : ByteArray)) ++ (nwB ((((ps.getD i.toNat z46).f1).getD j.toNat z49).f0)))]) (e := 9) H203 O200 (want_none rfl) rfl (by decide) (op_bslice (by kernel_rfl) rfl (pt_cons (H203.ev rfl) pt_nil)) (by simp) ?_
   intro A204 S205 _ w207 H208 O209; clear H203 O200
   have O210 : Own w w207 [Chunk.row Kd.string 9 w.heap.size S205 (.slice A204 (([(((vtB ((((ps.getD i.toNat z46).f1).getD j.toNat z49).f1)) ++ (⟨#[58, 32]⟩ : ByteArray)) ++ (nwB ((((ps.getD i.toNat z46).f1).getD j.toNat z49).f0)))]).length) (([(((vtB ((((ps.getD i.toNat z46).f1).getD j.toNat z49).f1)) ++ (⟨#[58, 32]⟩ : ByteArray)) ++ (nwB ((((ps.getD i.toNat z46).f1).getD j.toNat z49).f0)))]).length)) ([(((vtB ((((ps.getD i.toNat z46).f1).getD j.toNat z49).f1)) ++ (⟨#[58, 32]⟩ : ByteArray)) ++ (nwB ((((ps.getD i.toNat z46).f1).getD j.toNat z49).f0)))]), Bk g164 [.string ((((ps.getD i.toNat z46).f1).getD j.toNat z49).f0), J ((((ps.getD i.toNat z46).f1).getD j.toNat z49).f1)] 49, Chunk.row Kd.string 9 w.heap.size Sj (.slice Aj Lj.length cj) Lj, Chunk.row Kd.string 9 w.heap.size S114 (.slice A113 (([((⟨#[103, 114, 111, 117, 112, 32]⟩ : ByteArray) ++ (nwB ((ps.getD i.toNat z46).f0)))]).length) (([((⟨#[103, 114, 111, 117, 112, 32]⟩ : ByteArray) ++ (nwB ((ps.getD i.toNat z46).f0)))]).length)) ([((⟨#[103, 114, 111, 117, 112, 32]⟩ : ByteArray) ++ (nwB ((ps.getD i.toNat z46).f0)))]), Bk g87 [.string ((ps.getD i.toNat z46).f0), .slice A79 ((ps.getD i.toNat z46).f1.length) c80] 46, Bk g2 [.string su, .string bo, .slice A0 ps.length c0] 24] := O209
   clear O209
   refine gx_on (i := 9) (B := (fun j_ => false)) (fun _ => (by exact O210.sel [1, 3, 4, 5] (by decide))) ?_
   refine gx_step 10 rfl (by kernel_rfl) ?_
   refine gw_append Kd.string 2 H208 O210 (want_none rfl) rfl (by decide) rfl Tryd.underlying58 gwinfo9 rfl (by decide) (by decide) rfl (H208.ev rfl) (H208.ev rfl) (Kd.R_reads' (O210.get 0 rfl)).2.2 (fun _ _ h => h) O210.below.size (by rw [hLj, hLi]; have hb_ := body_len su bo (ps.take i.toNat); have hs_ := sum_le ps i.toNat; rw [List.length_take] at hb_; have hp_ := sum_part ps i (by omega) (by omega); simp; omega) ?_
   intro A211 c212 S213 _ w215 H216 O217; clear H208 O210
   have O218 : Own w w215 [Chunk.row Kd.string 9 w.heap.size S205 (.slice A204 (([(((vtB ((((ps.getD i.toNat z46).f1).getD j.toNat z49).f1)) ++ (⟨#[58, 32]⟩ : ByteArray)) ++ (nwB ((((ps.getD i.toNat z46).f1).getD j.toNat z49).f0)))]).length) (([(((vtB ((((ps.getD i.toNat z46).f1).getD j.toNat z49).f1)) ++ (⟨#[58, 32]⟩ : ByteArray)) ++ (nwB ((((ps.getD i.toNat z46).f1).getD j.toNat z49).f0)))]).length)) ([(((vtB ((((ps.getD i.toNat z46).f1).getD j.toNat z49).f1)) ++ (⟨#[58, 32]⟩ : ByteArray)) ++ (nwB ((((ps.getD i.toNat z46).f1).getD j.toNat z49).f0)))]), Bk g164 [.string ((((ps.getD i.toNat z46).f1).getD j.toNat z49).f0), J ((((ps.getD i.toNat z46).f1).getD j.toNat z49).f1)] 49, Chunk.row Kd.string 9 w.heap.size S213 (.slice A211 ((Lj ++ [(((vtB ((((ps.getD i.toNat z46).f1).getD j.toNat z49).f1)) ++ (⟨#[58, 32]⟩ : ByteArray)) ++ (nwB ((((ps.getD i.toNat z46).f1).getD j.toNat z49).f0)))]).length) c212) (Lj ++ [(((vtB ((((ps.getD i.toNat z46).f1).getD j.toNat z49).f1)) ++ (⟨#[58, 32]⟩ : ByteArray)) ++ (nwB ((((ps.getD i.toNat z46).f1).getD j.toNat z49).f0)))]), Chunk.row Kd.string 9 w.heap.size S114 (.slice A113 (([((⟨#[103, 114, 111, 117, 112, 32]⟩ : ByteArray) ++ (nwB ((ps.getD i.toNat z46).f0)))]).length) (([((⟨#[103, 114, 111, 117, 112, 32]⟩ : ByteArray) ++ (nwB ((ps.getD i.toNat z46).f0)))]).length)) ([((⟨#[103, 114, 111, 117, 112, 32]⟩ : ByteArray) ++ (nwB ((ps.getD i.toNat z46).f0)))]), Bk g87 [.string ((ps.getD i.toNat z46).f0), .slice A79 ((ps.getD i.toNat z46).f1.length) c80] 46, Bk g2 [.string su, .string bo, .slice A0 ps.length c0] 24] := O217
   clear O217
   refine gx_on (i := 10) (B := (fun j_ => false)) (fun _ => (by exact O218.sel [1, 3, 4, 5] (by decide))) ?_
   refine gx_take 11 rfl (by kernel_rfl) H216 (by exact O218.sel [1, 3, 4, 5] (by decide)) (want_none rfl) rfl (by decide) (fun wq HO => (op_assign rfl (H216.ev rfl))) ?_
   intro _ H220; clear H216
   refine gx_done (by kernel_rfl) ?_
   refine gw_blk ?_
   refine gw_nx (hK152 _ _ ?_)
   refine wp_region_lit ?_
   refine V H220 (op_add rfl (H220.ev rfl) (ev_c _ _) (by omega)) fun _ H222 => ?_
   refine Vm H222 fun _ H224 => ?_
   clear H220 H222
   refine wpList_nil ?_
   refine gw_nx ⟨_, ?_, j + 1, (Lj ++ [(((vtB ((((ps.getD i.toNat z46).f1).getD j.toNat z49).f1)) ++ (⟨#[58, 32]⟩ : ByteArray)) ++ (nwB ((((ps.getD i.toNat z46).f1).getD j.toNat z49).f0)))]), A211, c212, S213, (H224.pick (t := 36) rfl (H224.pick (t := 3) rfl (H224.pick (t := 22) rfl (H224.pick (t := 1) rfl (H224.pick (t := 2) rfl (H224.pick (t := 20) rfl (H224.pick (t := 21) rfl (H224.pick (t := 23) rfl (H224.pick (t := 24) rfl (H224.pick (t := 25) rfl (H224.pick (t := 5) rfl (H224.pick (t := 26) rfl (H224.pick (t := 27) rfl (H224.pick (t := 28) rfl (H224.pick (t := 29) rfl (H224.pick (t := 30) rfl (H224.pick (t := 31) rfl (H224.pick (t := 32) rfl (H224.pick (t := 33) rfl (H224.pick (t := 34) rfl (H224.pick (t := 35) rfl H224.nil))))))))))))))))))))), O218.sel [2, 3, 4, 5] (by decide), ?_, ?_, rfl⟩
   ·
    rw [hm145]; omega
   ·
    omega
   rw [hLj, take_nextR _ j (by omega) (by omega)]; simp [resL, List.append_assoc]
  have H225 := H148.subst_ (d := 37) (b := false) rfl hb150
  clear H148
  (try simp only [decide_eq_false_iff_not, Int.not_lt] at hb150)
  refine wp_exit ?_
  refine gw_thx ?_
  refine gw_thx ?_
  refine gw_in ?_
  refine gw_blk ?_
  refine gw_nx (hK71 _ _ ?_)
  refine wp_region_lit ?_
  refine V H225 (op_add rfl (H225.ev rfl) (ev_c _ _) (by omega)) fun _ H227 => ?_
  refine Vm H227 fun _ H229 => ?_
  clear H225 H227
  refine wpList_nil ?_
  refine gw_nx ⟨_, ?_, i + 1, Lj, Aj, cj, Sj, (H229.pick (t := 22) rfl (H229.pick (t := 3) rfl (H229.pick (t := 1) rfl (H229.pick (t := 2) rfl (H229.pick (t := 20) rfl (H229.pick (t := 21) rfl H229.nil)))))), O144.sel [0, 3] (by decide), ?_, ?_, rfl⟩
  ·
   rw [hm64]; omega
  ·
   omega
  rw [hLj, hLi, body_next su bo ps i (by omega) (by omega), List.take_of_length_le (show (ps.getD i.toNat z46).f1.length ≤ j.toNat by omega)]; simp [partL]
 have H230 := H67.subst_ (d := 23) (b := false) rfl hb69
 clear H67
 (try simp only [decide_eq_false_iff_not, Int.not_lt] at hb69)
 refine wp_exit ?_
 refine gw_thx ?_
 refine gw_thx ?_
 refine gw_in ?_
 refine gw_nx (hK48 _ _ ?_)
 refine gw_seq fun K231 hK231 => ?_
 refine gR fun K232 hK232 => ?_
 refine V H230 (op_loadn gwagg24 gwsiz24 rfl (H230.ev rfl) (O63.get 1 rfl) rfl rfl) fun _ H234 => ?_
 clear H230
 refine Wk H234 Tryd.func12 rfl (ar_cons (H234.ev rfl) ar_nil) (totals_calls su bo A0 c0 ps _ (Kd.C_below hr O63.below) hc (by omega)) ?_
 rintro e235 w236 ⟨rfl, hb237⟩
 refine ⟨_, rfl, fun _ H239 => ?_⟩
 have O240 := O63.after hb237
 clear H234 O63 hb237
 refine V H239 (op_move rfl (ev_c _ _)) fun _ H243 => ?_
 refine gE hK232 ?_
 clear H239
 refine wp_block ?_
 refine gw_loop (fun m_ a_ w_ => ∃ (v : Int) (Lv : List ByteArray) (Av : Option Addr) (cv : Nat) (Sv : Nat → Prop), Fr 79 a_ [(55, J v), (3, .slice Av Lv.length cv), (2, .slice none 0 0), (54, .agg #[J (totL ps 0), J (totL ps 1), J (totL ps 2), J (totL ps 3), J (totL ps 4), J (totL ps 5), J (totL ps 6), J (totL ps 7)])] ∧ Own w w_ [Chunk.row Kd.string 9 w.heap.size Sv (.slice Av Lv.length cv) Lv, Bk g2 [.string su, .string bo, .slice A0 ps.length c0] 24] ∧ (0 ≤ v ∧ v ≤ 8) ∧ (Lv = bodyL su bo ps ++ totsL ps v.toNat) ∧ m_ = (8 - v.toNat)) ((8 - (0 : Int).toNat)) ?_ ?_
 ·
  refine ⟨0, Li, Ai, ci, Si, (H243.pick (t := 55) rfl (H243.pick (t := 3) rfl (H243.pick (t := 2) rfl (H243.pick (t := 54) rfl H243.nil)))), O240.sel [0, 1] (by decide), ?_, ?_, rfl⟩
  ·
   omega
  rw [hLi, List.take_of_length_le (by omega)]; simp [totsL]
 rintro m245 _ w247 ⟨v, Lv, Av, cv, Sv, H248, O249, hv, hLv, hm250⟩
 refine gR fun K251 hK251 => ?_
 refine V H248 (op_lss rfl (H248.ev rfl) (ev_c _ _)) fun _ H253 => ?_
 refine gE hK251 ?_
 refine gw_seq fun K254 hK254 => ?_
 clear H248
 refine gw_cond H253 rfl (fun hb255 => ?_) (fun hb255 => ?_)
 ·
  have H256 := H253.subst_ (d := 56) (b := true) rfl hb255
  clear H253
  (try simp only [decide_eq_true_eq] at hb255)
  refine gS hK254 ?_
  refine gw_seq fun K257 hK257 => ?_
  refine wp_block ?_
  refine gR fun K258 hK258 => ?_
  refine Vm H256 fun _ H260 => ?_
  refine V H260 (op_aidx Tryd.underlying31 gwsiz3 gwagg3 rfl (H260.ev rfl) (H260.ev rfl) (by omega) (agg8 (f := (fun v_ => totL ps v_)) (by omega))) fun _ H262 => ?_
  refine Va H262 fun _ H264 => ?_
  refine Va H264 fun _ H266 => ?_
  refine gE hK258 ?_
  refine gR fun K267 hK267 => ?_
  refine Vm H266 fun _ H269 => ?_
  refine V H269 (op_gtr rfl (H269.ev rfl) (ev_c _ _)) fun _ H271 => ?_
  refine Vm H271 fun _ H273 => ?_
  clear H256 H260 H262 H264 H266 H269 H271
  refine gw_evG H273 rfl rfl rfl rfl (on_t _) rfl (by decide) (fun h_ => (op_move rfl (H273.ev rfl))) ?_
  intro _ H275; clear H273
  refine gw_evG H275 rfl rfl rfl rfl (on_t _) rfl (by decide) (fun h_ => (op_gtr rfl (ev_gv (H275.ev rfl) h_) (ev_c _ _))) ?_
  intro _ H277; clear H275
  refine V H277 (op_pick_and rfl (H277.ev rfl) (fun hp_ => (ev_gv (H277.ev rfl) hp_)) (ev_c _ _)) fun _ H279 => ?_
  refine gE hK267 ?_
  clear H277
  refine gw_cond H279 rfl (fun hb280 => ?_) (fun hb280 => ?_)
  ·
   have H281 := H279.subst_ (d := 64) (b := true) rfl hb280
   clear H279
   (try simp only [Bool.and_eq_true, Bool.and_eq_false_iff, decide_eq_true_eq, decide_eq_false_iff_not, Int.not_lt] at hb280)
   refine wp_region_lit ?_
   refine Vm H281 fun _ H283 => ?_
   refine Vm H283 fun _ H285 => ?_
   clear H281 H283
   refine Wk H285 Tryd.func25 rfl (ar_cons (H285.ev rfl) ar_nil) (vt_calls v _) ?_
   rintro e286 w287 ⟨rfl, hb288⟩
   refine ⟨_, rfl, fun _ H290 => ?_⟩
   have O291 := O249.after hb288
   clear H285 O249 hb288
   refine V H290 (op_cats rfl (ev_c _ _) (H290.ev rfl) (by (try simp only [size_cat]); have h0_ := vt_size v; have h1_ : (⟨#[35, 32]⟩ : ByteArray).size = 2 := rfl; omega)) fun _ H294 => ?_
   refine V H294 (op_cats rfl (H294.ev rfl) (ev_c _ _) (by (try simp only [size_cat]); have h0_ := vt_size v; have h1_ : (⟨#[35, 32]⟩ : ByteArray).size = 2 := rfl; have h2_ : (⟨#[32]⟩ : ByteArray).size = 1 := rfl; omega)) fun _ H296 => ?_
   refine Vm H296 fun _ H298 => ?_
   clear H290 H294 H296
   refine Wk H298 Tryd.func43 rfl (ar_cons (H298.ev rfl) ar_nil) (it_calls (totL ps v) (by have h_ := tot_b ps v; omega) _ (hL.own O291)) ?_
   rintro e299 w300 ⟨rfl, hb301⟩
   refine ⟨_, rfl, fun _ H303 => ?_⟩
   have O304 := O291.after hb301
   clear H298 O291 hb301
   refine V H303 (op_cats rfl (H303.ev rfl) (H303.ev rfl) (by (try simp only [size_cat]); have h0_ := vt_size v; have h1_ := it_size (totL ps v) (by have h_ := tot_b ps v; omega); have h2_ : (⟨#[35, 32]⟩ : ByteArray).size = 2 := rfl; have h3_ : (⟨#[32]⟩ : ByteArray).size = 1 := rfl; omega)) fun _ H307 => ?_
   clear H303
   refine gw_lit (enc := Value.string) (fun _ => rfl) (xs := [((((⟨#[35, 32]⟩ : ByteArray) ++ (vtB v)) ++ (⟨#[32]⟩ : ByteArray)) ++ (itB (totL ps v)))]) (e := 9) H307 O304 (want_none rfl) rfl (by decide) (op_bslice (by kernel_rfl) rfl (pt_cons (H307.ev rfl) pt_nil)) (by simp) ?_
   intro A308 S309 _ w311 H312 O313; clear H307 O304
   have O314 : Own w w311 [Chunk.row Kd.string 9 w.heap.size S309 (.slice A308 (([((((⟨#[35, 32]⟩ : ByteArray) ++ (vtB v)) ++ (⟨#[32]⟩ : ByteArray)) ++ (itB (totL ps v)))]).length) (([((((⟨#[35, 32]⟩ : ByteArray) ++ (vtB v)) ++ (⟨#[32]⟩ : ByteArray)) ++ (itB (totL ps v)))]).length)) ([((((⟨#[35, 32]⟩ : ByteArray) ++ (vtB v)) ++ (⟨#[32]⟩ : ByteArray)) ++ (itB (totL ps v)))]), Chunk.row Kd.string 9 w.heap.size Sv (.slice Av Lv.length cv) Lv, Bk g2 [.string su, .string bo, .slice A0 ps.length c0] 24] := O313
   clear O313
   refine gw_append Kd.string 1 H312 O314 (want_none rfl) rfl (by decide) rfl Tryd.underlying58 gwinfo9 rfl (by decide) (by decide) rfl (H312.ev rfl) (H312.ev rfl) (Kd.R_reads' (O314.get 0 rfl)).2.2 (fun _ _ h => h) O314.below.size (by rw [hLv]; have h1_ := body_len su bo ps; have h2_ := tots_len ps v.toNat; simp; omega) ?_
   intro A315 c316 S317 _ w319 H320 O321; clear H312 O314
   have O322 : Own w w319 [Chunk.row Kd.string 9 w.heap.size S309 (.slice A308 (([((((⟨#[35, 32]⟩ : ByteArray) ++ (vtB v)) ++ (⟨#[32]⟩ : ByteArray)) ++ (itB (totL ps v)))]).length) (([((((⟨#[35, 32]⟩ : ByteArray) ++ (vtB v)) ++ (⟨#[32]⟩ : ByteArray)) ++ (itB (totL ps v)))]).length)) ([((((⟨#[35, 32]⟩ : ByteArray) ++ (vtB v)) ++ (⟨#[32]⟩ : ByteArray)) ++ (itB (totL ps v)))]), Chunk.row Kd.string 9 w.heap.size S317 (.slice A315 ((Lv ++ [((((⟨#[35, 32]⟩ : ByteArray) ++ (vtB v)) ++ (⟨#[32]⟩ : ByteArray)) ++ (itB (totL ps v)))]).length) c316) (Lv ++ [((((⟨#[35, 32]⟩ : ByteArray) ++ (vtB v)) ++ (⟨#[32]⟩ : ByteArray)) ++ (itB (totL ps v)))]), Bk g2 [.string su, .string bo, .slice A0 ps.length c0] 24] := O321
   clear O321
   refine Va H320 fun _ H324 => ?_
   clear H320
   refine wpList_nil ?_
   refine gw_blk ?_
   refine gw_nx (hK257 _ _ ?_)
   refine wp_region_lit ?_
   refine V H324 (op_add rfl (H324.ev rfl) (ev_c _ _) (by omega)) fun _ H326 => ?_
   refine Vm H326 fun _ H328 => ?_
   clear H324 H326
   refine wpList_nil ?_
   refine gw_nx ⟨_, ?_, v + 1, (Lv ++ [((((⟨#[35, 32]⟩ : ByteArray) ++ (vtB v)) ++ (⟨#[32]⟩ : ByteArray)) ++ (itB (totL ps v)))]), A315, c316, S317, (H328.pick (t := 55) rfl (H328.pick (t := 3) rfl (H328.pick (t := 2) rfl (H328.pick (t := 54) rfl H328.nil)))), O322.sel [1, 2] (by decide), ?_, ?_, rfl⟩
   ·
    rw [hm250]; omega
   ·
    omega
   rw [hLv, tots_yes ps v (by omega) (by omega), List.append_assoc]
  have H329 := H279.subst_ (d := 64) (b := false) rfl hb280
  clear H279
  (try simp only [Bool.and_eq_true, Bool.and_eq_false_iff, decide_eq_true_eq, decide_eq_false_iff_not, Int.not_lt] at hb280)
  refine wp_skip ?_
  refine gw_blk ?_
  refine gw_nx (hK257 _ _ ?_)
  refine wp_region_lit ?_
  refine V H329 (op_add rfl (H329.ev rfl) (ev_c _ _) (by omega)) fun _ H331 => ?_
  refine Vm H331 fun _ H333 => ?_
  clear H329 H331
  refine wpList_nil ?_
  refine gw_nx ⟨_, ?_, v + 1, Lv, Av, cv, Sv, (H333.pick (t := 55) rfl (H333.pick (t := 3) rfl (H333.pick (t := 2) rfl (H333.pick (t := 54) rfl H333.nil)))), O249.sel [0, 1] (by decide), ?_, ?_, rfl⟩
  ·
   rw [hm250]; omega
  ·
   omega
  rw [hLv, tots_no ps v (by omega) (by omega)]
 have H334 := H253.subst_ (d := 56) (b := false) rfl hb255
 clear H253
 (try simp only [decide_eq_false_iff_not, Int.not_lt] at hb255)
 refine wp_exit ?_
 refine gw_thx ?_
 refine gw_thx ?_
 refine gw_in ?_
 refine gw_nx (hK231 _ _ ?_)
 refine gR fun K335 hK335 => ?_
 refine Vm H334 fun _ H337 => ?_
 clear H334
 refine gw_lit (enc := Value.string) (fun _ => rfl) (xs := [(⟨#[35, 32, 101, 110, 100]⟩ : ByteArray)]) (e := 9) H337 O249 (want_none rfl) rfl (by decide) (op_bslice (by kernel_rfl) rfl (pt_cons (ev_c _ _) pt_nil)) (by simp) ?_
 intro A338 S339 _ w341 H342 O343; clear H337 O249
 have O344 : Own w w341 [Chunk.row Kd.string 9 w.heap.size S339 (.slice A338 (([(⟨#[35, 32, 101, 110, 100]⟩ : ByteArray)]).length) (([(⟨#[35, 32, 101, 110, 100]⟩ : ByteArray)]).length)) ([(⟨#[35, 32, 101, 110, 100]⟩ : ByteArray)]), Chunk.row Kd.string 9 w.heap.size Sv (.slice Av Lv.length cv) Lv, Bk g2 [.string su, .string bo, .slice A0 ps.length c0] 24] := O343
 clear O343
 refine gw_append Kd.string 1 H342 O344 (want_none rfl) rfl (by decide) rfl Tryd.underlying58 gwinfo9 rfl (by decide) (by decide) rfl (H342.ev rfl) (H342.ev rfl) (Kd.R_reads' (O344.get 0 rfl)).2.2 (fun _ _ h => h) O344.below.size (by rw [hLv]; have h1_ := body_len su bo ps; have h2_ := tots_len ps v.toNat; simp; omega) ?_
 intro A345 c346 S347 _ w349 H350 O351; clear H342 O344
 have O352 : Own w w349 [Chunk.row Kd.string 9 w.heap.size S339 (.slice A338 (([(⟨#[35, 32, 101, 110, 100]⟩ : ByteArray)]).length) (([(⟨#[35, 32, 101, 110, 100]⟩ : ByteArray)]).length)) ([(⟨#[35, 32, 101, 110, 100]⟩ : ByteArray)]), Chunk.row Kd.string 9 w.heap.size S347 (.slice A345 ((Lv ++ [(⟨#[35, 32, 101, 110, 100]⟩ : ByteArray)]).length) c346) (Lv ++ [(⟨#[35, 32, 101, 110, 100]⟩ : ByteArray)]), Bk g2 [.string su, .string bo, .slice A0 ps.length c0] 24] := O351
 clear O351
 refine Va H350 fun _ H354 => ?_
 refine gE hK335 ?_
 refine wp_ret ?_
 clear H350
 refine gw_ret1 H354 rfl rfl ?_
 have en : Lv ++ [(⟨#[35, 32, 101, 110, 100]⟩ : ByteArray)] = linesL su bo ps := by rw [hLv, show v.toNat = 8 by omega]; rfl
 simp only [en] at *
 exact ⟨_, _, _, rfl, (O352.sel [1] (by decide)).out⟩
end GLines_
export GLines_ (lines_calls)
namespace GNamed_
theorem split_calls (s : ByteArray) (w : World) (hs : s.size ≤ 1000000000) (hL : LaidW w) :
    Calls Tryd.prog 30 #[.string s, .string (⟨#[10]⟩ : ByteArray)] w fun e w' => ∃ A c S, e = .returned (.slice A (pcs s).length c) ∧ Out w w' (fun _ => False) [Chunk.view Kd.string S A (pcs s).length c (pcs s)] := by
 refine gw_start (N := 10) (vs := [.string s, .string (⟨#[10]⟩ : ByteArray)]) Tryd.func30 rfl rfl (by simp) fun a HF HO => ?_
 replace HO : Own w w [] := HO
 refine gR fun K1 hK1 => ?_
 refine Vc HF ?_
 intro _ H3; clear HF
 refine gE hK1 ?_
 refine gR fun K4 hK4 => ?_
 refine Vm H3 fun _ H6 => ?_
 refine Vm H6 fun _ H8 => ?_
 refine Vm H8 fun _ H10 => ?_
 refine V H10 (op_lens Tryd.underlying9 rfl (H10.ev rfl)) fun _ H12 => ?_
 clear H3 H6 H8 H10
 refine Wk H12 Tryd.func47 rfl (ar_cons (H12.ev rfl) (ar_cons (H12.ev rfl) (ar_cons (H12.ev rfl) (ar_cons (ev_c _ _) ar_nil)))) (gs_calls s (by omega) _ (hL.own HO)) ?_
 rintro e17 w18 ⟨A13, c14, S15, rfl, hb19⟩
 refine ⟨_, rfl, fun _ H21 => ?_⟩
 have O22 := HO.fresh hb19
 clear H12 HO hb19
 refine Va H21 fun _ H25 => ?_
 refine gE hK4 ?_
 refine wp_ret ?_
 clear H21
 refine gw_ret1 H25 rfl rfl ?_
 exact ⟨_, _, _, rfl, O22.out⟩
theorem named_0 (w0 : World) (R : Chunk) (gs : Nat) (l wd x0 : ByteArray) (v1 v2 : Value) (w : World) (hl : l.size ≤ 1000000000) (HO : Own w0 w [R, Bk gs [.string x0, v1, v2] 24]) :
    Calls Tryd.prog 32 #[.string l, .string wd, .pointer (some ⟨gs, 0, none⟩)] w fun e w' => e = .returned (.bool (nmO l wd)) ∧ Own w0 w' [R, Bk gs [.string (nmB l wd), v1, v2] 24] := by
 refine gw_startO (N := 29) (vs := [.string l, .string wd, .pointer (some ⟨gs, 0, none⟩)]) Tryd.func32 rfl rfl (by simp) fun a HF => ?_
 refine gR fun K1 hK1 => ?_
 refine Vc HF ?_
 intro _ H3; clear HF
 refine gE hK1 ?_
 refine gR fun K4 hK4 => ?_
 refine Vm H3 fun _ H6 => ?_
 refine Vm H6 fun _ H8 => ?_
 clear H3 H6
 refine Wk H8 Tryd.func49 rfl (ar_cons (H8.ev rfl) (ar_cons (H8.ev rfl) ar_nil)) (cp_calls l wd _) ?_
 rintro e9 w10 ⟨rfl, hb11⟩
 refine ⟨_, rfl, fun _ H13 => ?_⟩
 have O14 := HO.after hb11
 clear H8 HO hb11
 refine Vm H13 fun _ H17 => ?_
 refine Vx H17 fun _ H19 => ?_
 refine Vx H19 fun _ H21 => ?_
 refine Va H21 fun _ H23 => ?_
 refine Va H23 fun _ H25 => ?_
 refine gE hK4 ?_
 refine gR fun K26 hK26 => ?_
 refine Vm H25 fun _ H28 => ?_
 clear H13 H17 H19 H21 H23 H25
 refine Wk H28 Tryd.func50 rfl (ar_cons (H28.ev rfl) ar_nil) (rd_calls (tpB l wd) (by have h_ := tp_size l wd; omega) _) ?_
 rintro e29 w30 ⟨rfl, hb31⟩
 refine ⟨_, rfl, fun _ H33 => ?_⟩
 have O34 := O14.after hb31
 clear H28 O14 hb31
 refine Vm H33 fun _ H37 => ?_
 refine Vx H37 fun _ H39 => ?_
 refine Vx H39 fun _ H41 => ?_
 refine Va H41 fun _ H43 => ?_
 refine Va H43 fun _ H45 => ?_
 refine gE hK26 ?_
 refine gR fun K46 hK46 => ?_
 refine Vm H45 fun _ H48 => ?_
 refine Vm H48 fun _ H50 => ?_
 refine Vz H50 fun _ H52 => ?_
 clear H33 H37 H39 H41 H43 H45 H48 H50
 refine gw_set 1 H52 O34 rfl (want_none rfl) rfl (op_store1 gwsiz9 rfl (H52.ev rfl) (H52.ev rfl) rfl (blk_at (O34.get 1 rfl) rfl) (blkf (O34.get 1 rfl))) ?_
 intro _ w55 H54 O56; clear H52 O34
 refine gE hK46 ?_
 refine gR fun K57 hK57 => ?_
 refine Vm H54 fun _ H59 => ?_
 refine Vm H59 fun _ H61 => ?_
 clear H54 H59
 refine gw_evG H61 rfl rfl rfl rfl (on_t _) rfl (by decide) (fun h_ => (op_move rfl (H61.ev rfl))) ?_
 intro _ H63; clear H61
 refine V H63 (op_pick_and rfl (H63.ev rfl) (fun hp_ => (ev_gv (H63.ev rfl) hp_)) (ev_c _ _)) fun _ H65 => ?_
 refine Va H65 fun _ H67 => ?_
 refine gE hK57 ?_
 refine wp_ret ?_
 clear H63 H65
 refine gw_ret1 H67 rfl rfl ?_
 exact ⟨by first | rfl | (unfold nmO; simp only [Bool.and_false]; rfl) | (unfold nmO; simp), O56.sel [0, 1] (by decide)⟩
theorem named_1 (w0 : World) (R : Chunk) (gs : Nat) (l wd x0 : ByteArray) (v0 v2 : Value) (w : World) (hl : l.size ≤ 1000000000) (HO : Own w0 w [R, Bk gs [v0, .string x0, v2] 24]) :
    Calls Tryd.prog 32 #[.string l, .string wd, .pointer (some ⟨gs, 1, none⟩)] w fun e w' => e = .returned (.bool (nmO l wd)) ∧ Own w0 w' [R, Bk gs [v0, .string (nmB l wd), v2] 24] := by
 refine gw_startO (N := 29) (vs := [.string l, .string wd, .pointer (some ⟨gs, 1, none⟩)]) Tryd.func32 rfl rfl (by simp) fun a HF => ?_
 refine gR fun K1 hK1 => ?_
 refine Vc HF ?_
 intro _ H3; clear HF
 refine gE hK1 ?_
 refine gR fun K4 hK4 => ?_
 refine Vm H3 fun _ H6 => ?_
 refine Vm H6 fun _ H8 => ?_
 clear H3 H6
 refine Wk H8 Tryd.func49 rfl (ar_cons (H8.ev rfl) (ar_cons (H8.ev rfl) ar_nil)) (cp_calls l wd _) ?_
 rintro e9 w10 ⟨rfl, hb11⟩
 refine ⟨_, rfl, fun _ H13 => ?_⟩
 have O14 := HO.after hb11
 clear H8 HO hb11
 refine Vm H13 fun _ H17 => ?_
 refine Vx H17 fun _ H19 => ?_
 refine Vx H19 fun _ H21 => ?_
 refine Va H21 fun _ H23 => ?_
 refine Va H23 fun _ H25 => ?_
 refine gE hK4 ?_
 refine gR fun K26 hK26 => ?_
 refine Vm H25 fun _ H28 => ?_
 clear H13 H17 H19 H21 H23 H25
 refine Wk H28 Tryd.func50 rfl (ar_cons (H28.ev rfl) ar_nil) (rd_calls (tpB l wd) (by have h_ := tp_size l wd; omega) _) ?_
 rintro e29 w30 ⟨rfl, hb31⟩
 refine ⟨_, rfl, fun _ H33 => ?_⟩
 have O34 := O14.after hb31
 clear H28 O14 hb31
 refine Vm H33 fun _ H37 => ?_
 refine Vx H37 fun _ H39 => ?_
 refine Vx H39 fun _ H41 => ?_
 refine Va H41 fun _ H43 => ?_
 refine Va H43 fun _ H45 => ?_
 refine gE hK26 ?_
 refine gR fun K46 hK46 => ?_
 refine Vm H45 fun _ H48 => ?_
 refine Vm H48 fun _ H50 => ?_
 refine Vz H50 fun _ H52 => ?_
 clear H33 H37 H39 H41 H43 H45 H48 H50
 refine gw_set 1 H52 O34 rfl (want_none rfl) rfl (op_store1 gwsiz9 rfl (H52.ev rfl) (H52.ev rfl) rfl (blk_at (O34.get 1 rfl) rfl) (blkf (O34.get 1 rfl))) ?_
 intro _ w55 H54 O56; clear H52 O34
 refine gE hK46 ?_
 refine gR fun K57 hK57 => ?_
 refine Vm H54 fun _ H59 => ?_
 refine Vm H59 fun _ H61 => ?_
 clear H54 H59
 refine gw_evG H61 rfl rfl rfl rfl (on_t _) rfl (by decide) (fun h_ => (op_move rfl (H61.ev rfl))) ?_
 intro _ H63; clear H61
 refine V H63 (op_pick_and rfl (H63.ev rfl) (fun hp_ => (ev_gv (H63.ev rfl) hp_)) (ev_c _ _)) fun _ H65 => ?_
 refine Va H65 fun _ H67 => ?_
 refine gE hK57 ?_
 refine wp_ret ?_
 clear H63 H65
 refine gw_ret1 H67 rfl rfl ?_
 exact ⟨by first | rfl | (unfold nmO; simp only [Bool.and_false]; rfl) | (unfold nmO; simp), O56.sel [0, 1] (by decide)⟩
theorem named_2 (w0 : World) (R : Chunk) (gs : Nat) (l wd x0 : ByteArray) (v1 : Value) (w : World) (hl : l.size ≤ 1000000000) (HO : Own w0 w [R, Bk gs [.string x0, v1] 46]) :
    Calls Tryd.prog 32 #[.string l, .string wd, .pointer (some ⟨gs, 0, none⟩)] w fun e w' => e = .returned (.bool (nmO l wd)) ∧ Own w0 w' [R, Bk gs [.string (nmB l wd), v1] 46] := by
 refine gw_startO (N := 29) (vs := [.string l, .string wd, .pointer (some ⟨gs, 0, none⟩)]) Tryd.func32 rfl rfl (by simp) fun a HF => ?_
 refine gR fun K1 hK1 => ?_
 refine Vc HF ?_
 intro _ H3; clear HF
 refine gE hK1 ?_
 refine gR fun K4 hK4 => ?_
 refine Vm H3 fun _ H6 => ?_
 refine Vm H6 fun _ H8 => ?_
 clear H3 H6
 refine Wk H8 Tryd.func49 rfl (ar_cons (H8.ev rfl) (ar_cons (H8.ev rfl) ar_nil)) (cp_calls l wd _) ?_
 rintro e9 w10 ⟨rfl, hb11⟩
 refine ⟨_, rfl, fun _ H13 => ?_⟩
 have O14 := HO.after hb11
 clear H8 HO hb11
 refine Vm H13 fun _ H17 => ?_
 refine Vx H17 fun _ H19 => ?_
 refine Vx H19 fun _ H21 => ?_
 refine Va H21 fun _ H23 => ?_
 refine Va H23 fun _ H25 => ?_
 refine gE hK4 ?_
 refine gR fun K26 hK26 => ?_
 refine Vm H25 fun _ H28 => ?_
 clear H13 H17 H19 H21 H23 H25
 refine Wk H28 Tryd.func50 rfl (ar_cons (H28.ev rfl) ar_nil) (rd_calls (tpB l wd) (by have h_ := tp_size l wd; omega) _) ?_
 rintro e29 w30 ⟨rfl, hb31⟩
 refine ⟨_, rfl, fun _ H33 => ?_⟩
 have O34 := O14.after hb31
 clear H28 O14 hb31
 refine Vm H33 fun _ H37 => ?_
 refine Vx H37 fun _ H39 => ?_
 refine Vx H39 fun _ H41 => ?_
 refine Va H41 fun _ H43 => ?_
 refine Va H43 fun _ H45 => ?_
 refine gE hK26 ?_
 refine gR fun K46 hK46 => ?_
 refine Vm H45 fun _ H48 => ?_
 refine Vm H48 fun _ H50 => ?_
 refine Vz H50 fun _ H52 => ?_
 clear H33 H37 H39 H41 H43 H45 H48 H50
 refine gw_set 1 H52 O34 rfl (want_none rfl) rfl (op_store1 gwsiz9 rfl (H52.ev rfl) (H52.ev rfl) rfl (blk_at (O34.get 1 rfl) rfl) (blkf (O34.get 1 rfl))) ?_
 intro _ w55 H54 O56; clear H52 O34
 refine gE hK46 ?_
 refine gR fun K57 hK57 => ?_
 refine Vm H54 fun _ H59 => ?_
 refine Vm H59 fun _ H61 => ?_
 clear H54 H59
 refine gw_evG H61 rfl rfl rfl rfl (on_t _) rfl (by decide) (fun h_ => (op_move rfl (H61.ev rfl))) ?_
 intro _ H63; clear H61
 refine V H63 (op_pick_and rfl (H63.ev rfl) (fun hp_ => (ev_gv (H63.ev rfl) hp_)) (ev_c _ _)) fun _ H65 => ?_
 refine Va H65 fun _ H67 => ?_
 refine gE hK57 ?_
 refine wp_ret ?_
 clear H63 H65
 refine gw_ret1 H67 rfl rfl ?_
 exact ⟨by first | rfl | (unfold nmO; simp only [Bool.and_false]; rfl) | (unfold nmO; simp), O56.sel [0, 1] (by decide)⟩
end GNamed_
export GNamed_ (split_calls named_0 named_1 named_2)
namespace GLine_
theorem line_0 (w0 : World) (R : Chunk) (gs : Nat) (su bo l : ByteArray) (A : Option Addr) (c : Nat) (Sr Sd : Nat → Prop) (w : World) (hl : l.size ≤ 1000000000) (hL : LaidW w0) (hWl : ([] : List W2).length ≤ 1000000000) (HO : Own w0 w [R, Bk gs [.string su, .string bo, .slice A (([] : List W2).length) c] 24, Chunk.row kW 46 w0.heap.size Sr (.slice A (([] : List W2).length) c) ([] : List W2), Chunk.dn w0.heap.size Sd [] []]) :
    Calls Tryd.prog 34 #[.pointer (some ⟨gs, 0, none⟩), .string l] w fun e w' => ∃ X : SmX, e = .returned (.bool (lineO ([] : List PP) l)) ∧ X.ok ∧ X.ps = lineS ([] : List PP) l ∧ Own w0 w' (R :: smL w0.heap.size gs su bo X) := by
 refine gw_startO (N := 84) (vs := [.pointer (some ⟨gs, 0, none⟩), .string l]) Tryd.func34 rfl rfl (by simp) fun a HF => ?_
 refine gR fun K1 hK1 => ?_
 refine Vc HF ?_
 intro _ H3; clear HF
 refine gE hK1 ?_
 refine gw_seq fun K4 hK4 => ?_
 refine gR fun K5 hK5 => ?_
 refine Vm H3 fun _ H7 => ?_
 clear H3
 refine Wk H7 Tryd.func33 rfl (ar_cons (H7.ev rfl) (ar_cons (ev_c _ _) ar_nil)) (hp_calls l (⟨#[103, 114, 111, 117, 112, 32]⟩ : ByteArray) _) ?_
 rintro e8 w9 ⟨rfl, hb10⟩
 refine ⟨_, rfl, fun _ H12 => ?_⟩
 have O13 := HO.after hb10
 clear H7 HO hb10
 refine gE hK5 ?_
 refine gw_cond H12 rfl (fun hb15 => ?_) (fun hb15 => ?_)
 ·
  have H16 := H12.subst_ (d := 15) (b := true) rfl hb15
  clear H12
  (try simp only [Bool.not_eq_true] at hb15)
  have hgp := hb15
  refine gR fun K17 hK17 => ?_
  refine gw_new H16 O13 (want_none rfl) rfl (by decide) (op_alloc gwzer46 rfl) ?_
  intro g18 _ w20 H21 O22; clear H16 O13
  have O23 : Own w0 w20 [Bk g18 [.string (⟨#[]⟩ : ByteArray), .slice none 0 0] 46, R, Bk gs [.string su, .string bo, .slice A (([] : List W2).length) c] 24, Chunk.row kW 46 w0.heap.size Sr (.slice A (([] : List W2).length) c) ([] : List W2), Chunk.dn w0.heap.size Sd [] []] := O22
  clear O22
  refine gE hK17 ?_
  refine gR fun K24 hK24 => ?_
  refine Vm H21 fun _ H26 => ?_
  refine Vf H26 (gwfld46_0 _ _) fun _ H28 => ?_
  clear H21 H26
  have O35 : Own w0 _ [(Chunk.all [R, Bk gs [.string su, .string bo, .slice A (([] : List W2).length) c] 24, Chunk.row kW 46 w0.heap.size Sr (.slice A (([] : List W2).length) c) ([] : List W2), Chunk.dn w0.heap.size Sd [] []]), Bk g18 [.string (⟨#[]⟩ : ByteArray), .slice none 0 0] 46] := Own.bundle (O23.sel [1, 2, 3, 4, 0] (by decide))
  refine Wk H28 Tryd.func32 rfl (ar_cons (H28.ev rfl) (ar_cons (ev_c _ _) (ar_cons (H28.ev rfl) ar_nil))) (named_2 w0 (Chunk.all [R, Bk gs [.string su, .string bo, .slice A (([] : List W2).length) c] 24, Chunk.row kW 46 w0.heap.size Sr (.slice A (([] : List W2).length) c) ([] : List W2), Chunk.dn w0.heap.size Sd [] []]) g18 l (⟨#[103, 114, 111, 117, 112, 32]⟩ : ByteArray) (⟨#[]⟩ : ByteArray) (.slice none 0 0) _ (by omega) O35) ?_
  rintro e29 w30 ⟨rfl, hb31⟩
  refine ⟨_, rfl, fun _ H33 => ?_⟩
  have O34 : Own w0 w30 [R, Bk gs [.string su, .string bo, .slice A (([] : List W2).length) c] 24, Chunk.row kW 46 w0.heap.size Sr (.slice A (([] : List W2).length) c) ([] : List W2), Chunk.dn w0.heap.size Sd [] [], Bk g18 [.string (nmB l (⟨#[103, 114, 111, 117, 112, 32]⟩ : ByteArray)), .slice none 0 0] 46] := Own.unbundle (hb31.sel [0, 1] (by decide))
  clear O35
  clear H28 O23 hb31
  refine Va H33 fun _ H38 => ?_
  refine gE hK24 ?_
  refine gw_seq fun K39 hK39 => ?_
  clear H33
  refine gx_draw (M := [R, Bk gs [.string su, .string bo, .slice A (([] : List W2).length) c] 24, Chunk.dn w0.heap.size Sd [] [], Bk g18 [.string (nmB l (⟨#[103, 114, 111, 117, 112, 32]⟩ : ByteArray)), .slice none 0 0] 46]) (fun j_ => j_ == 10) O34 (by kernel_rfl) fun w40 O41 => ?_
  clear O34
  refine gx_take 0 rfl (by kernel_rfl) H38 (by exact O41.sel [0, 1, 3, 4] (by decide)) (want_none rfl) rfl (by decide) (fun wq HO => (op_move rfl (H38.ev rfl))) ?_
  intro _ H43; clear H38
  refine gx_take 1 rfl (by kernel_rfl) H43 (by exact O41.sel [0, 1, 3, 4] (by decide)) (want_none rfl) rfl (by decide) (fun wq HO => (op_move rfl (H43.ev rfl))) ?_
  intro _ H45; clear H43
  refine gx_take 2 rfl (by kernel_rfl) H45 (by exact O41.sel [0, 1, 3, 4] (by decide)) (want_none rfl) rfl (by decide) (fun wq HO => (op_nil rfl (H45.ev rfl))) ?_
  intro _ H47; clear H45
  refine gx_take 3 rfl (by kernel_rfl) H47 (by exact O41.sel [0, 1, 3, 4] (by decide)) (want_none rfl) rfl (by decide) (fun wq HO => (op_field (gwfld24_2 _ _) rfl (H47.ev rfl))) ?_
  intro _ H49; clear H47
  refine gx_take 4 rfl (by kernel_rfl) H49 (by exact O41.sel [0, 1, 3, 4] (by decide)) (want_none rfl) rfl (by decide) (fun wq HO => (op_load1 gwagg22 rfl (H49.ev rfl) (blk_at (HO.get 1 rfl) rfl))) ?_
  intro _ H51; clear H49
  refine gx_take 5 rfl (by kernel_rfl) H51 (by exact O41.sel [0, 1, 3, 4] (by decide)) (want_none rfl) rfl (by decide) (fun wq HO => (op_loadn gwagg46 gwsiz46 rfl (H51.ev rfl) (HO.get 3 rfl) rfl rfl)) ?_
  intro _ H53; clear H51
  refine gx_step 6 rfl (by kernel_rfl) ?_
  refine gw_news (O := .cells #[.string (nmB l (⟨#[103, 114, 111, 117, 112, 32]⟩ : ByteArray)), .slice none 0 0] 46 (0, 0)) (n := 1) H53 O41 (want_none rfl) rfl (by decide) (op_bslice (by kernel_rfl) rfl (pt_cons (H53.ev rfl) pt_nil)) ?_
  intro g54 _ w56 H57 O58; clear H53 O41
  have O59 : Own w0 w56 [Bk g54 [.string (nmB l (⟨#[103, 114, 111, 117, 112, 32]⟩ : ByteArray)), .slice none 0 0] 46, R, Bk gs [.string su, .string bo, .slice A (([] : List W2).length) c] 24, Chunk.row kW 46 w0.heap.size Sr (.slice A (([] : List W2).length) c) ([] : List W2), Chunk.dn w0.heap.size Sd [] [], Bk g18 [.string (nmB l (⟨#[103, 114, 111, 117, 112, 32]⟩ : ByteArray)), .slice none 0 0] 46] := O58
  clear O58
  refine gx_on (i := 6) (B := (fun j_ => j_ == 10)) (fun _ => (by exact O59.sel [1, 2, 4, 5] (by decide))) ?_
  refine gx_step 7 rfl (by kernel_rfl) ?_
  have O60 : Own w0 _ [Chunk.row kW 46 w0.heap.size Sr (.slice A (([] : List W2).length) c) ([] : List W2), Chunk.void, Bk g54 [.string (nmB l (⟨#[103, 114, 111, 117, 112, 32]⟩ : ByteArray)), .slice none 0 0] 46, R, Bk gs [.string su, .string bo, .slice A (([] : List W2).length) c] 24, Chunk.dn w0.heap.size Sd [] [], Bk g18 [.string (nmB l (⟨#[103, 114, 111, 117, 112, 32]⟩ : ByteArray)), .slice none 0 0] 46] := O59.void.sel [4, 0, 1, 2, 3, 5, 6] (by decide)
  refine gw_append1 kW 0 (p := (⟨(nmB l (⟨#[103, 114, 111, 117, 112, 32]⟩ : ByteArray)), ⟨none, 0, 0⟩⟩ : W2)) (cs := [.string (nmB l (⟨#[103, 114, 111, 117, 112, 32]⟩ : ByteArray)), .slice none 0 0]) H57 O60 (want_none rfl) rfl (by decide) rfl Tryd.underlying22 gwinfo46 rfl (by decide) (by decide) rfl (H57.ev rfl) (H57.ev rfl) (fun w_ h_ => kW_mkM w_ _ _ (⟨(nmB l (⟨#[103, 114, 111, 117, 112, 32]⟩ : ByteArray)), ⟨none, 0, 0⟩⟩ : W2) ) O60.below.size (by simp) ?_
  intro A61 c62 S63 _ w65 H66 O67; clear H57 O59 O60
  have O68 : Own w0 w65 [Chunk.row kW 46 w0.heap.size S63 (.slice A61 ((([] : List W2) ++ [(⟨(nmB l (⟨#[103, 114, 111, 117, 112, 32]⟩ : ByteArray)), ⟨none, 0, 0⟩⟩ : W2)]).length) c62) (([] : List W2) ++ [(⟨(nmB l (⟨#[103, 114, 111, 117, 112, 32]⟩ : ByteArray)), ⟨none, 0, 0⟩⟩ : W2)]), Bk g54 [.string (nmB l (⟨#[103, 114, 111, 117, 112, 32]⟩ : ByteArray)), .slice none 0 0] 46, R, Bk gs [.string su, .string bo, .slice A (([] : List W2).length) c] 24, Chunk.dn w0.heap.size Sd [] [], Bk g18 [.string (nmB l (⟨#[103, 114, 111, 117, 112, 32]⟩ : ByteArray)), .slice none 0 0] 46] := O67
  clear O67
  refine gx_on (i := 7) (B := (fun j_ => j_ == 10)) (fun _ => (by exact O68.sel [2, 3, 4, 5] (by decide))) ?_
  refine gx_step 8 rfl (by kernel_rfl) ?_
  refine Vz H66 fun _ H70 => ?_
  clear H66
  refine gx_on (i := 8) (B := (fun j_ => j_ == 10)) (fun _ => (by exact O68.sel [2, 3, 4, 5] (by decide))) ?_
  refine gx_take 9 rfl (by kernel_rfl) H70 (by exact O68.sel [2, 3, 4, 5] (by decide)) (want_none rfl) rfl (by decide) (fun wq HO => (op_field (gwfld24_2 _ _) rfl (H70.ev rfl))) ?_
  intro _ H72; clear H70
  refine gx_step 10 rfl (by kernel_rfl) ?_
  refine gw_set 3 H72 O68 rfl (want_none rfl) rfl (op_store1 gwsiz22 rfl (H72.ev rfl) (H72.ev rfl) rfl (blk_at (O68.get 3 rfl) rfl) (blkf (O68.get 3 rfl))) ?_
  intro _ w75 H74 O76; clear H72 O68
  refine gx_on (i := 10) (B := (fun j_ => j_ == 10)) (fun h_ => by cases h_) ?_
  refine gx_done (by kernel_rfl) ?_
  refine gw_nx (hK39 _ _ ?_)
  refine gR fun K77 hK77 => ?_
  refine Vm H74 fun _ H79 => ?_
  refine Va H79 fun _ H81 => ?_
  refine gE hK77 ?_
  refine wp_ret ?_
  clear H74 H79
  refine gw_thr ?_
  refine gw_ret1 H81 rfl rfl ?_
  have O82_1 := O76.sel [4, 3, 0, 2] (by decide)
  have O82_2 := O82_1.row_nil KR 49 w0.heap.size
  refine ⟨⟨A61, c62, [], [], some _, [], none, 0, S63, _, fun _ => False⟩, ?_, fun h_ => (by cases h_), ?_, O82_2.sel [4, 2, 3, 1, 0] (by decide)⟩
  ·
   unfold lineO; rw [if_pos hgp]
  unfold lineS; rw [if_pos hgp]; rfl
 have H83 := H12.subst_ (d := 15) (b := false) rfl hb15
 clear H12
 (try simp only [Bool.not_eq_true] at hb15)
 have hgp : ¬ hpB l grpB = true := fun h_ => (by have h2_ := h_.symm.trans hb15; cases h2_)
 refine gS hK4 ?_
 refine gR fun K84 hK84 => ?_
 refine Vm H83 fun _ H86 => ?_
 clear H83
 refine Wk H86 Tryd.func52 rfl (ar_cons (H86.ev rfl) (ar_cons (ev_c _ _) ar_nil)) (cut_calls l (⟨#[58, 32]⟩ : ByteArray) (by omega) _ (hL.own O13)) ?_
 rintro e87 w88 ⟨rfl, hb89⟩
 refine ⟨_, rfl, fun _ H91 => ?_⟩
 have O92 := O13.after hb89
 clear H86 O13 hb89
 refine Vm H91 fun _ H95 => ?_
 refine Vx H95 fun _ H97 => ?_
 refine Vx H97 fun _ H99 => ?_
 refine Vx H99 fun _ H101 => ?_
 refine Va H101 fun _ H103 => ?_
 refine Va H103 fun _ H105 => ?_
 refine Va H105 fun _ H107 => ?_
 refine gE hK84 ?_
 refine gR fun K108 hK108 => ?_
 refine Vm H107 fun _ H110 => ?_
 clear H91 H95 H97 H99 H101 H103 H105 H107
 refine Wk H110 Tryd.func53 rfl (ar_cons (H110.ev rfl) ar_nil) (vp_calls (cuA l (⟨#[58, 32]⟩ : ByteArray)) _) ?_
 rintro e111 w112 ⟨rfl, hb113⟩
 refine ⟨_, rfl, fun _ H115 => ?_⟩
 have O116 := O92.after hb113
 clear H110 O92 hb113
 refine Va H115 fun _ H119 => ?_
 refine gE hK108 ?_
 refine gR fun K120 hK120 => ?_
 refine Vm H119 fun _ H122 => ?_
 clear H115 H119
 refine Wk H122 Tryd.func50 rfl (ar_cons (H122.ev rfl) ar_nil) (rd_calls (cuB l (⟨#[58, 32]⟩ : ByteArray)) (by have h_ := cuB_size l (⟨#[58, 32]⟩ : ByteArray); omega) _) ?_
 rintro e123 w124 ⟨rfl, hb125⟩
 refine ⟨_, rfl, fun _ H127 => ?_⟩
 have O128 := O116.after hb125
 clear H122 O116 hb125
 refine Vm H127 fun _ H131 => ?_
 refine Vx H131 fun _ H133 => ?_
 refine Vx H133 fun _ H135 => ?_
 refine Va H135 fun _ H137 => ?_
 refine Va H137 fun _ H139 => ?_
 refine gE hK120 ?_
 refine gw_seq fun K140 hK140 => ?_
 refine gR fun K141 hK141 => ?_
 refine Vm H139 fun _ H143 => ?_
 refine V H143 (op_not rfl (H143.ev rfl)) fun _ H145 => ?_
 refine Vm H145 fun _ H147 => ?_
 clear H127 H131 H133 H135 H137 H139 H143 H145
 refine gw_evG H147 rfl rfl rfl rfl (on_f _) rfl (by decide) (fun h_ => (op_move rfl (H147.ev rfl))) ?_
 intro _ H149; clear H147
 refine gw_evG H149 rfl rfl rfl rfl (on_f _) rfl (by decide) (fun h_ => (op_eqi rfl (ev_gv (H149.ev rfl) h_) (ev_c _ _))) ?_
 intro _ H151; clear H149
 refine V H151 (op_pick_or rfl (H151.ev rfl) (ev_c _ _) (fun hp_ => (ev_gv (H151.ev rfl) (not_t hp_)))) fun _ H153 => ?_
 refine Vm H153 fun _ H155 => ?_
 clear H151 H153
 refine gw_evG H155 rfl rfl rfl rfl (on_f _) rfl (by decide) (fun h_ => (op_move rfl (H155.ev rfl))) ?_
 intro _ H157; clear H155
 refine gw_evG H157 rfl rfl rfl rfl (on_f _) rfl (by decide) (fun h_ => (op_not rfl (ev_gv (H157.ev rfl) h_))) ?_
 intro _ H159; clear H157
 refine V H159 (op_pick_or rfl (H159.ev rfl) (ev_c _ _) (fun hp_ => (ev_gv (H159.ev rfl) (not_t hp_)))) fun _ H161 => ?_
 refine Vm H161 fun _ H163 => ?_
 clear H159 H161
 refine gw_evG H163 rfl rfl rfl rfl (on_f _) rfl (by decide) (fun h_ => (op_move rfl (H163.ev rfl))) ?_
 intro _ H165; clear H163
 refine gw_evG H165 rfl rfl rfl rfl (on_f _) rfl (by decide) (fun h_ => (op_nil rfl (ev_gv (H165.ev rfl) h_))) ?_
 intro _ H167; clear H165
 refine gw_evG H167 rfl rfl rfl rfl (on_f _) rfl (by decide) (fun h_ => (op_field (gwfld24_2 _ _) rfl (ev_gv (H167.ev rfl) h_))) ?_
 intro _ H169; clear H167
 refine gw_evG H169 rfl rfl rfl rfl (on_f _) rfl (by decide) (fun h_ => (op_load1 gwagg22 rfl (ev_gv (H169.ev rfl) h_) (blk_at (O128.get 1 rfl) rfl))) ?_
 intro _ H171; clear H169
 refine gw_evG H171 rfl rfl rfl rfl (on_f _) rfl (by decide) (fun h_ => (op_len Tryd.underlying22 rfl (ev_gv (H171.ev rfl) h_))) ?_
 intro _ H173; clear H171
 refine gw_evG H173 rfl rfl rfl rfl (on_f _) rfl (by decide) (fun h_ => (op_eqi rfl (ev_gv (H173.ev rfl) h_) (ev_c _ _))) ?_
 intro _ H175; clear H173
 refine V H175 (op_pick_or rfl (H175.ev rfl) (ev_c _ _) (fun hp_ => (ev_gv (H175.ev rfl) (not_t hp_)))) fun _ H177 => ?_
 clear H175
 have H178 := H177.lit (b := true) (by simp)
 clear H177
 refine gE hK141 ?_
 refine gw_cond H178 rfl (fun hb179 => ?_) (fun hb179 => ?_)
 rotate_left
 ·
  cases hb179
 refine gR fun K180 hK180 => ?_
 refine Vc H178 fun _ H182 => ?_
 refine gE hK180 ?_
 refine wp_ret ?_
 clear H178
 refine gw_thr ?_
 refine gw_ret1 H182 rfl rfl ?_
 have O183_1 := O128.row_nil KR 49 w0.heap.size
 have hrO : resO ([] : List PP) l = false := by unfold resO; simp
 refine ⟨⟨A, c, [], [], none, [], none, 0, Sr, Sd, fun _ => False⟩, ?_, fun _ => ⟨rfl, rfl, rfl⟩, ?_, O183_1.sel [1, 2, 3, 4, 0] (by decide)⟩
 ·
  unfold lineO; rw [if_neg hgp, hrO]
 unfold lineS; rw [if_neg hgp, if_neg (by rw [hrO]; decide)]; rfl
theorem line_1 (w0 : World) (R : Chunk) (gs : Nat) (su bo l : ByteArray) (A : Option Addr) (c : Nat) (Sr Sd : Nat → Prop) (w : World) (Wd : List W2) (qs : List PP) (g0 : ByteArray) (xs : List RS) (A2 : Option Addr) (c2 : Nat) (Sl : Nat → Prop) (hl : l.size ≤ 1000000000) (hL : LaidW w0) (hWl : (Wd ++ [(⟨g0, ⟨A2, xs.length, c2⟩⟩ : W2)]).length ≤ 1000000000) (hxl : xs.length ≤ 1000000000) (HO : Own w0 w [R, Bk gs [.string su, .string bo, .slice A ((Wd ++ [(⟨g0, ⟨A2, xs.length, c2⟩⟩ : W2)]).length) c] 24, Chunk.row kW 46 w0.heap.size Sr (.slice A ((Wd ++ [(⟨g0, ⟨A2, xs.length, c2⟩⟩ : W2)]).length) c) (Wd ++ [(⟨g0, ⟨A2, xs.length, c2⟩⟩ : W2)]), Chunk.dn w0.heap.size Sd Wd qs, Chunk.row KR 49 w0.heap.size Sl (.slice A2 xs.length c2) xs]) :
    Calls Tryd.prog 34 #[.pointer (some ⟨gs, 0, none⟩), .string l] w fun e w' => ∃ X : SmX, e = .returned (.bool (lineO (qs ++ [⟨g0, xs⟩]) l)) ∧ X.ok ∧ X.ps = lineS (qs ++ [⟨g0, xs⟩]) l ∧ Own w0 w' (R :: smL w0.heap.size gs su bo X) := by
 refine gw_startO (N := 84) (vs := [.pointer (some ⟨gs, 0, none⟩), .string l]) Tryd.func34 rfl rfl (by simp) fun a HF => ?_
 refine gR fun K1 hK1 => ?_
 refine Vc HF ?_
 intro _ H3; clear HF
 refine gE hK1 ?_
 refine gw_seq fun K4 hK4 => ?_
 refine gR fun K5 hK5 => ?_
 refine Vm H3 fun _ H7 => ?_
 clear H3
 refine Wk H7 Tryd.func33 rfl (ar_cons (H7.ev rfl) (ar_cons (ev_c _ _) ar_nil)) (hp_calls l (⟨#[103, 114, 111, 117, 112, 32]⟩ : ByteArray) _) ?_
 rintro e8 w9 ⟨rfl, hb10⟩
 refine ⟨_, rfl, fun _ H12 => ?_⟩
 have O13 := HO.after hb10
 clear H7 HO hb10
 refine gE hK5 ?_
 refine gw_cond H12 rfl (fun hb15 => ?_) (fun hb15 => ?_)
 ·
  have H16 := H12.subst_ (d := 15) (b := true) rfl hb15
  clear H12
  (try simp only [Bool.not_eq_true] at hb15)
  have hgp := hb15
  refine gR fun K17 hK17 => ?_
  refine gw_new H16 O13 (want_none rfl) rfl (by decide) (op_alloc gwzer46 rfl) ?_
  intro g18 _ w20 H21 O22; clear H16 O13
  have O23 : Own w0 w20 [Bk g18 [.string (⟨#[]⟩ : ByteArray), .slice none 0 0] 46, R, Bk gs [.string su, .string bo, .slice A ((Wd ++ [(⟨g0, ⟨A2, xs.length, c2⟩⟩ : W2)]).length) c] 24, Chunk.row kW 46 w0.heap.size Sr (.slice A ((Wd ++ [(⟨g0, ⟨A2, xs.length, c2⟩⟩ : W2)]).length) c) (Wd ++ [(⟨g0, ⟨A2, xs.length, c2⟩⟩ : W2)]), Chunk.dn w0.heap.size Sd Wd qs, Chunk.row KR 49 w0.heap.size Sl (.slice A2 xs.length c2) xs] := O22
  clear O22
  refine gE hK17 ?_
  refine gR fun K24 hK24 => ?_
  refine Vm H21 fun _ H26 => ?_
  refine Vf H26 (gwfld46_0 _ _) fun _ H28 => ?_
  clear H21 H26
  have O35 : Own w0 _ [(Chunk.all [R, Bk gs [.string su, .string bo, .slice A ((Wd ++ [(⟨g0, ⟨A2, xs.length, c2⟩⟩ : W2)]).length) c] 24, Chunk.row kW 46 w0.heap.size Sr (.slice A ((Wd ++ [(⟨g0, ⟨A2, xs.length, c2⟩⟩ : W2)]).length) c) (Wd ++ [(⟨g0, ⟨A2, xs.length, c2⟩⟩ : W2)]), Chunk.dn w0.heap.size Sd Wd qs, Chunk.row KR 49 w0.heap.size Sl (.slice A2 xs.length c2) xs]), Bk g18 [.string (⟨#[]⟩ : ByteArray), .slice none 0 0] 46] := Own.bundle (O23.sel [1, 2, 3, 4, 5, 0] (by decide))
  refine Wk H28 Tryd.func32 rfl (ar_cons (H28.ev rfl) (ar_cons (ev_c _ _) (ar_cons (H28.ev rfl) ar_nil))) (named_2 w0 (Chunk.all [R, Bk gs [.string su, .string bo, .slice A ((Wd ++ [(⟨g0, ⟨A2, xs.length, c2⟩⟩ : W2)]).length) c] 24, Chunk.row kW 46 w0.heap.size Sr (.slice A ((Wd ++ [(⟨g0, ⟨A2, xs.length, c2⟩⟩ : W2)]).length) c) (Wd ++ [(⟨g0, ⟨A2, xs.length, c2⟩⟩ : W2)]), Chunk.dn w0.heap.size Sd Wd qs, Chunk.row KR 49 w0.heap.size Sl (.slice A2 xs.length c2) xs]) g18 l (⟨#[103, 114, 111, 117, 112, 32]⟩ : ByteArray) (⟨#[]⟩ : ByteArray) (.slice none 0 0) _ (by omega) O35) ?_
  rintro e29 w30 ⟨rfl, hb31⟩
  refine ⟨_, rfl, fun _ H33 => ?_⟩
  have O34 : Own w0 w30 [R, Bk gs [.string su, .string bo, .slice A ((Wd ++ [(⟨g0, ⟨A2, xs.length, c2⟩⟩ : W2)]).length) c] 24, Chunk.row kW 46 w0.heap.size Sr (.slice A ((Wd ++ [(⟨g0, ⟨A2, xs.length, c2⟩⟩ : W2)]).length) c) (Wd ++ [(⟨g0, ⟨A2, xs.length, c2⟩⟩ : W2)]), Chunk.dn w0.heap.size Sd Wd qs, Chunk.row KR 49 w0.heap.size Sl (.slice A2 xs.length c2) xs, Bk g18 [.string (nmB l (⟨#[103, 114, 111, 117, 112, 32]⟩ : ByteArray)), .slice none 0 0] 46] := Own.unbundle (hb31.sel [0, 1] (by decide))
  clear O35
  clear H28 O23 hb31
  refine Va H33 fun _ H38 => ?_
  refine gE hK24 ?_
  refine gw_seq fun K39 hK39 => ?_
  clear H33
  refine gx_draw (M := [R, Bk gs [.string su, .string bo, .slice A ((Wd ++ [(⟨g0, ⟨A2, xs.length, c2⟩⟩ : W2)]).length) c] 24, Chunk.dn w0.heap.size Sd Wd qs, Chunk.row KR 49 w0.heap.size Sl (.slice A2 xs.length c2) xs, Bk g18 [.string (nmB l (⟨#[103, 114, 111, 117, 112, 32]⟩ : ByteArray)), .slice none 0 0] 46]) (fun j_ => j_ == 10) O34 (by kernel_rfl) fun w40 O41 => ?_
  clear O34
  refine gx_take 0 rfl (by kernel_rfl) H38 (by exact O41.sel [0, 1, 3, 4, 5] (by decide)) (want_none rfl) rfl (by decide) (fun wq HO => (op_move rfl (H38.ev rfl))) ?_
  intro _ H43; clear H38
  refine gx_take 1 rfl (by kernel_rfl) H43 (by exact O41.sel [0, 1, 3, 4, 5] (by decide)) (want_none rfl) rfl (by decide) (fun wq HO => (op_move rfl (H43.ev rfl))) ?_
  intro _ H45; clear H43
  refine gx_take 2 rfl (by kernel_rfl) H45 (by exact O41.sel [0, 1, 3, 4, 5] (by decide)) (want_none rfl) rfl (by decide) (fun wq HO => (op_nil rfl (H45.ev rfl))) ?_
  intro _ H47; clear H45
  refine gx_take 3 rfl (by kernel_rfl) H47 (by exact O41.sel [0, 1, 3, 4, 5] (by decide)) (want_none rfl) rfl (by decide) (fun wq HO => (op_field (gwfld24_2 _ _) rfl (H47.ev rfl))) ?_
  intro _ H49; clear H47
  refine gx_take 4 rfl (by kernel_rfl) H49 (by exact O41.sel [0, 1, 3, 4, 5] (by decide)) (want_none rfl) rfl (by decide) (fun wq HO => (op_load1 gwagg22 rfl (H49.ev rfl) (blk_at (HO.get 1 rfl) rfl))) ?_
  intro _ H51; clear H49
  refine gx_take 5 rfl (by kernel_rfl) H51 (by exact O41.sel [0, 1, 3, 4, 5] (by decide)) (want_none rfl) rfl (by decide) (fun wq HO => (op_loadn gwagg46 gwsiz46 rfl (H51.ev rfl) (HO.get 4 rfl) rfl rfl)) ?_
  intro _ H53; clear H51
  refine gx_step 6 rfl (by kernel_rfl) ?_
  refine gw_news (O := .cells #[.string (nmB l (⟨#[103, 114, 111, 117, 112, 32]⟩ : ByteArray)), .slice none 0 0] 46 (0, 0)) (n := 1) H53 O41 (want_none rfl) rfl (by decide) (op_bslice (by kernel_rfl) rfl (pt_cons (H53.ev rfl) pt_nil)) ?_
  intro g54 _ w56 H57 O58; clear H53 O41
  have O59 : Own w0 w56 [Bk g54 [.string (nmB l (⟨#[103, 114, 111, 117, 112, 32]⟩ : ByteArray)), .slice none 0 0] 46, R, Bk gs [.string su, .string bo, .slice A ((Wd ++ [(⟨g0, ⟨A2, xs.length, c2⟩⟩ : W2)]).length) c] 24, Chunk.row kW 46 w0.heap.size Sr (.slice A ((Wd ++ [(⟨g0, ⟨A2, xs.length, c2⟩⟩ : W2)]).length) c) (Wd ++ [(⟨g0, ⟨A2, xs.length, c2⟩⟩ : W2)]), Chunk.dn w0.heap.size Sd Wd qs, Chunk.row KR 49 w0.heap.size Sl (.slice A2 xs.length c2) xs, Bk g18 [.string (nmB l (⟨#[103, 114, 111, 117, 112, 32]⟩ : ByteArray)), .slice none 0 0] 46] := O58
  clear O58
  refine gx_on (i := 6) (B := (fun j_ => j_ == 10)) (fun _ => (by exact O59.sel [1, 2, 4, 5, 6] (by decide))) ?_
  refine gx_step 7 rfl (by kernel_rfl) ?_
  have O60 : Own w0 _ [Chunk.row kW 46 w0.heap.size Sr (.slice A ((Wd ++ [(⟨g0, ⟨A2, xs.length, c2⟩⟩ : W2)]).length) c) (Wd ++ [(⟨g0, ⟨A2, xs.length, c2⟩⟩ : W2)]), Chunk.void, Bk g54 [.string (nmB l (⟨#[103, 114, 111, 117, 112, 32]⟩ : ByteArray)), .slice none 0 0] 46, R, Bk gs [.string su, .string bo, .slice A ((Wd ++ [(⟨g0, ⟨A2, xs.length, c2⟩⟩ : W2)]).length) c] 24, Chunk.dn w0.heap.size Sd Wd qs, Chunk.row KR 49 w0.heap.size Sl (.slice A2 xs.length c2) xs, Bk g18 [.string (nmB l (⟨#[103, 114, 111, 117, 112, 32]⟩ : ByteArray)), .slice none 0 0] 46] := O59.void.sel [4, 0, 1, 2, 3, 5, 6, 7] (by decide)
  refine gw_append1 kW 0 (p := (⟨(nmB l (⟨#[103, 114, 111, 117, 112, 32]⟩ : ByteArray)), ⟨none, 0, 0⟩⟩ : W2)) (cs := [.string (nmB l (⟨#[103, 114, 111, 117, 112, 32]⟩ : ByteArray)), .slice none 0 0]) H57 O60 (want_none rfl) rfl (by decide) rfl Tryd.underlying22 gwinfo46 rfl (by decide) (by decide) rfl (H57.ev rfl) (H57.ev rfl) (fun w_ h_ => kW_mkM w_ _ _ (⟨(nmB l (⟨#[103, 114, 111, 117, 112, 32]⟩ : ByteArray)), ⟨none, 0, 0⟩⟩ : W2) ) O60.below.size (by (try simp at hWl); simp; omega) ?_
  intro A61 c62 S63 _ w65 H66 O67; clear H57 O59 O60
  have O68 : Own w0 w65 [Chunk.row kW 46 w0.heap.size S63 (.slice A61 (((Wd ++ [(⟨g0, ⟨A2, xs.length, c2⟩⟩ : W2)]) ++ [(⟨(nmB l (⟨#[103, 114, 111, 117, 112, 32]⟩ : ByteArray)), ⟨none, 0, 0⟩⟩ : W2)]).length) c62) ((Wd ++ [(⟨g0, ⟨A2, xs.length, c2⟩⟩ : W2)]) ++ [(⟨(nmB l (⟨#[103, 114, 111, 117, 112, 32]⟩ : ByteArray)), ⟨none, 0, 0⟩⟩ : W2)]), Bk g54 [.string (nmB l (⟨#[103, 114, 111, 117, 112, 32]⟩ : ByteArray)), .slice none 0 0] 46, R, Bk gs [.string su, .string bo, .slice A ((Wd ++ [(⟨g0, ⟨A2, xs.length, c2⟩⟩ : W2)]).length) c] 24, Chunk.dn w0.heap.size Sd Wd qs, Chunk.row KR 49 w0.heap.size Sl (.slice A2 xs.length c2) xs, Bk g18 [.string (nmB l (⟨#[103, 114, 111, 117, 112, 32]⟩ : ByteArray)), .slice none 0 0] 46] := O67
  clear O67
  refine gx_on (i := 7) (B := (fun j_ => j_ == 10)) (fun _ => (by exact O68.sel [2, 3, 4, 5, 6] (by decide))) ?_
  refine gx_step 8 rfl (by kernel_rfl) ?_
  refine Vz H66 fun _ H70 => ?_
  clear H66
  refine gx_on (i := 8) (B := (fun j_ => j_ == 10)) (fun _ => (by exact O68.sel [2, 3, 4, 5, 6] (by decide))) ?_
  refine gx_take 9 rfl (by kernel_rfl) H70 (by exact O68.sel [2, 3, 4, 5, 6] (by decide)) (want_none rfl) rfl (by decide) (fun wq HO => (op_field (gwfld24_2 _ _) rfl (H70.ev rfl))) ?_
  intro _ H72; clear H70
  refine gx_step 10 rfl (by kernel_rfl) ?_
  refine gw_set 3 H72 O68 rfl (want_none rfl) rfl (op_store1 gwsiz22 rfl (H72.ev rfl) (H72.ev rfl) rfl (blk_at (O68.get 3 rfl) rfl) (blkf (O68.get 3 rfl))) ?_
  intro _ w75 H74 O76; clear H72 O68
  refine gx_on (i := 10) (B := (fun j_ => j_ == 10)) (fun h_ => by cases h_) ?_
  refine gx_done (by kernel_rfl) ?_
  refine gw_nx (hK39 _ _ ?_)
  refine gR fun K77 hK77 => ?_
  refine Vm H74 fun _ H79 => ?_
  refine Va H79 fun _ H81 => ?_
  refine gE hK77 ?_
  refine wp_ret ?_
  clear H74 H79
  refine gw_thr ?_
  refine gw_ret1 H81 rfl rfl ?_
  have O82_1 := (O76.sel [5, 4, 3, 0, 2] (by decide)).dn_push (gn := g0)
  have O82_2 := O82_1.row_nil KR 49 w0.heap.size
  refine ⟨⟨A61, c62, _, _, some _, [], none, 0, S63, _, fun _ => False⟩, ?_, fun h_ => (by cases h_), ?_, O82_2.sel [4, 2, 3, 1, 0] (by decide)⟩
  ·
   unfold lineO; rw [if_pos hgp]
  unfold lineS; rw [if_pos hgp]; rfl
 have H83 := H12.subst_ (d := 15) (b := false) rfl hb15
 clear H12
 (try simp only [Bool.not_eq_true] at hb15)
 have hgp : ¬ hpB l grpB = true := fun h_ => (by have h2_ := h_.symm.trans hb15; cases h2_)
 refine gS hK4 ?_
 refine gR fun K84 hK84 => ?_
 refine Vm H83 fun _ H86 => ?_
 clear H83
 refine Wk H86 Tryd.func52 rfl (ar_cons (H86.ev rfl) (ar_cons (ev_c _ _) ar_nil)) (cut_calls l (⟨#[58, 32]⟩ : ByteArray) (by omega) _ (hL.own O13)) ?_
 rintro e87 w88 ⟨rfl, hb89⟩
 refine ⟨_, rfl, fun _ H91 => ?_⟩
 have O92 := O13.after hb89
 clear H86 O13 hb89
 refine Vm H91 fun _ H95 => ?_
 refine Vx H95 fun _ H97 => ?_
 refine Vx H97 fun _ H99 => ?_
 refine Vx H99 fun _ H101 => ?_
 refine Va H101 fun _ H103 => ?_
 refine Va H103 fun _ H105 => ?_
 refine Va H105 fun _ H107 => ?_
 refine gE hK84 ?_
 refine gR fun K108 hK108 => ?_
 refine Vm H107 fun _ H110 => ?_
 clear H91 H95 H97 H99 H101 H103 H105 H107
 refine Wk H110 Tryd.func53 rfl (ar_cons (H110.ev rfl) ar_nil) (vp_calls (cuA l (⟨#[58, 32]⟩ : ByteArray)) _) ?_
 rintro e111 w112 ⟨rfl, hb113⟩
 refine ⟨_, rfl, fun _ H115 => ?_⟩
 have O116 := O92.after hb113
 clear H110 O92 hb113
 refine Va H115 fun _ H119 => ?_
 refine gE hK108 ?_
 refine gR fun K120 hK120 => ?_
 refine Vm H119 fun _ H122 => ?_
 clear H115 H119
 refine Wk H122 Tryd.func50 rfl (ar_cons (H122.ev rfl) ar_nil) (rd_calls (cuB l (⟨#[58, 32]⟩ : ByteArray)) (by have h_ := cuB_size l (⟨#[58, 32]⟩ : ByteArray); omega) _) ?_
 rintro e123 w124 ⟨rfl, hb125⟩
 refine ⟨_, rfl, fun _ H127 => ?_⟩
 have O128 := O116.after hb125
 clear H122 O116 hb125
 refine Vm H127 fun _ H131 => ?_
 refine Vx H131 fun _ H133 => ?_
 refine Vx H133 fun _ H135 => ?_
 refine Va H135 fun _ H137 => ?_
 refine Va H137 fun _ H139 => ?_
 refine gE hK120 ?_
 refine gw_seq fun K140 hK140 => ?_
 refine gR fun K141 hK141 => ?_
 refine Vm H139 fun _ H143 => ?_
 refine V H143 (op_not rfl (H143.ev rfl)) fun _ H145 => ?_
 refine Vm H145 fun _ H147 => ?_
 clear H127 H131 H133 H135 H137 H139 H143 H145
 refine gw_evG H147 rfl rfl rfl rfl (on_f _) rfl (by decide) (fun h_ => (op_move rfl (H147.ev rfl))) ?_
 intro _ H149; clear H147
 refine gw_evG H149 rfl rfl rfl rfl (on_f _) rfl (by decide) (fun h_ => (op_eqi rfl (ev_gv (H149.ev rfl) h_) (ev_c _ _))) ?_
 intro _ H151; clear H149
 refine V H151 (op_pick_or rfl (H151.ev rfl) (ev_c _ _) (fun hp_ => (ev_gv (H151.ev rfl) (not_t hp_)))) fun _ H153 => ?_
 refine Vm H153 fun _ H155 => ?_
 clear H151 H153
 refine gw_evG H155 rfl rfl rfl rfl (on_f _) rfl (by decide) (fun h_ => (op_move rfl (H155.ev rfl))) ?_
 intro _ H157; clear H155
 refine gw_evG H157 rfl rfl rfl rfl (on_f _) rfl (by decide) (fun h_ => (op_not rfl (ev_gv (H157.ev rfl) h_))) ?_
 intro _ H159; clear H157
 refine V H159 (op_pick_or rfl (H159.ev rfl) (ev_c _ _) (fun hp_ => (ev_gv (H159.ev rfl) (not_t hp_)))) fun _ H161 => ?_
 refine Vm H161 fun _ H163 => ?_
 clear H159 H161
 refine gw_evG H163 rfl rfl rfl rfl (on_f _) rfl (by decide) (fun h_ => (op_move rfl (H163.ev rfl))) ?_
 intro _ H165; clear H163
 refine gw_evG H165 rfl rfl rfl rfl (on_f _) rfl (by decide) (fun h_ => (op_nil rfl (ev_gv (H165.ev rfl) h_))) ?_
 intro _ H167; clear H165
 refine gw_evG H167 rfl rfl rfl rfl (on_f _) rfl (by decide) (fun h_ => (op_field (gwfld24_2 _ _) rfl (ev_gv (H167.ev rfl) h_))) ?_
 intro _ H169; clear H167
 refine gw_evG H169 rfl rfl rfl rfl (on_f _) rfl (by decide) (fun h_ => (op_load1 gwagg22 rfl (ev_gv (H169.ev rfl) h_) (blk_at (O128.get 1 rfl) rfl))) ?_
 intro _ H171; clear H169
 refine gw_evG H171 rfl rfl rfl rfl (on_f _) rfl (by decide) (fun h_ => (op_len Tryd.underlying22 rfl (ev_gv (H171.ev rfl) h_))) ?_
 intro _ H173; clear H171
 refine gw_evG H173 rfl rfl rfl rfl (on_f _) rfl (by decide) (fun h_ => (op_eqi rfl (ev_gv (H173.ev rfl) h_) (ev_c _ _))) ?_
 intro _ H175; clear H173
 refine V H175 (op_pick_or rfl (H175.ev rfl) (ev_c _ _) (fun hp_ => (ev_gv (H175.ev rfl) (not_t hp_)))) fun _ H177 => ?_
 refine gE hK141 ?_
 clear H175
 refine gw_cond H177 rfl (fun hb178 => ?_) (fun hb178 => ?_)
 ·
  have H179 := H177.subst_ (d := 60) (b := true) rfl hb178
  clear H177
  (try simp only [Bool.and_eq_true, Bool.and_eq_false_iff, Bool.not_and, Bool.or_eq_true, Bool.or_eq_false_iff, Bool.not_or, Bool.not_not, Bool.not_eq_true', Bool.not_eq_false', Bool.not_eq_true, Bool.not_eq_false, decide_eq_true_eq, decide_eq_false_iff_not] at hb178)
  have hno : (cuO l sepB && !decide (vpB (cuA l sepB) = 0) && (readN (cuB l sepB)).2) = false := by have hb_ := hb178; revert hb_; cases cuO l sepB <;> cases (readN (cuB l sepB)).2 <;> by_cases hv_ : vpB (cuA l sepB) = 0 <;> simp [hv_] <;> omega
  refine gR fun K180 hK180 => ?_
  refine Vc H179 fun _ H182 => ?_
  refine gE hK180 ?_
  refine wp_ret ?_
  clear H179
  refine gw_thr ?_
  refine gw_ret1 H182 rfl rfl ?_
  have hrO : resO (qs ++ [⟨g0, xs⟩]) l = false := by unfold resO; rw [snoc_ne]; simp only [Bool.not_false, Bool.and_true]; exact hno
  refine ⟨⟨A, c, Wd, qs, some g0, xs, A2, c2, Sr, Sd, Sl⟩, ?_, fun h_ => (by cases h_), ?_, O128.sel [0, 1, 2, 3, 4] (by decide)⟩
  ·
   unfold lineO; rw [if_neg hgp, hrO]
  unfold lineS; rw [if_neg hgp, if_neg (by rw [hrO]; decide)]; rfl
 have H184 := H177.subst_ (d := 60) (b := false) rfl hb178
 clear H177
 (try simp only [Bool.and_eq_true, Bool.and_eq_false_iff, Bool.not_and, Bool.or_eq_true, Bool.or_eq_false_iff, Bool.not_or, Bool.not_not, Bool.not_eq_true', Bool.not_eq_false', Bool.not_eq_true, Bool.not_eq_false, decide_eq_true_eq, decide_eq_false_iff_not] at hb178)
 have hyes : (cuO l sepB && !decide (vpB (cuA l sepB) = 0) && (readN (cuB l sepB)).2) = true := by have hb_ := hb178; revert hb_; cases cuO l sepB <;> cases (readN (cuB l sepB)).2 <;> by_cases hv_ : vpB (cuA l sepB) = 0 <;> simp [hv_] <;> omega
 refine gS hK140 ?_
 refine gw_seq fun K185 hK185 => ?_
 refine gw_drawB O128 (by kernel_rfl) (by kernel_rfl) fun w186 O187 => ?_
 clear O128
 refine Vn H184 (op_move rfl (H184.ev rfl)) fun _ H189 => ?_
 refine Vn H189 (op_nil rfl (H189.ev rfl)) fun _ H191 => ?_
 refine Vn H191 (op_field (gwfld24_2 _ _) rfl (H191.ev rfl)) fun _ H193 => ?_
 refine Vq H193 (fun wq hq => have HO := O187.after hq; op_load1 gwagg22 rfl (H193.ev rfl) (blk_at (HO.get 1 rfl) rfl)) fun _ H195 => ?_
 refine Vn H195 (op_move rfl (H195.ev rfl)) fun _ H197 => ?_
 refine Vn H197 (op_nil rfl (H197.ev rfl)) fun _ H199 => ?_
 refine Vn H199 (op_field (gwfld24_2 _ _) rfl (H199.ev rfl)) fun _ H201 => ?_
 refine Vq H201 (fun wq hq => have HO := O187.after hq; op_load1 gwagg22 rfl (H201.ev rfl) (blk_at (HO.get 1 rfl) rfl)) fun _ H203 => ?_
 clear H184 H189 H191 H193 H195 H197 H199 H201
 refine Vn H203 (op_len Tryd.underlying22 rfl (H203.ev rfl)) fun _ H205 => ?_
 refine Vn H205 (op_sub rfl (H205.ev rfl) (ev_c _ _) (by omega)) fun _ H207 => ?_
 clear H203 H205
 obtain ⟨ad208, hA209⟩ := row_head (O187.get 2 rfl) ((((Wd ++ [(⟨g0, ⟨A2, xs.length, c2⟩⟩ : W2)]).length) : Int) - 1) (by omega) (by omega)
 subst hA209
 refine Vn H207 (op_index Tryd.underlying22 gwsiz46 rfl (H207.ev rfl) (H207.ev rfl) rfl (⟨by omega, by omega⟩)) fun _ H212 => ?_
 refine Vn H212 (op_assign rfl (H212.ev rfl)) fun _ H214 => ?_
 clear H207 H212
 refine wpQuiet_nil ?_
 intro w215 hq
 have O216 := O187.after hq
 clear O187 hq
 refine gw_nx (hK185 _ _ ?_)
 refine gR fun K217 hK217 => ?_
 refine Vm H214 fun _ H219 => ?_
 refine Vm H219 fun _ H221 => ?_
 refine Vz H221 fun _ H223 => ?_
 refine V H223 (op_field (gwflda46_1 _) rfl (H223.ev rfl)) fun _ H225 => ?_
 refine V H225 (op_load1 gwagg44 rfl (H225.ev rfl) (((rowf_cells (z := zW) (O216.get 2 rfl) ((((Wd ++ [(⟨g0, ⟨A2, xs.length, c2⟩⟩ : W2)]).length) : Int) - 1) (by omega) (by omega) (fun _ _ h_ => kW_open h_)) 1 _ rfl))) fun _ H227 => ?_
 clear H214 H219 H221 H223 H225
 have H228 := H227.conv (v' := .slice A2 xs.length c2) (by rw [getD_last _ _ _ rfl])
 clear H227
 refine Vm H228 fun _ H230 => ?_
 refine Vm H230 fun _ H232 => ?_
 refine V H232 (op_build (cells := #[.string ((readN (cuB l (⟨#[58, 32]⟩ : ByteArray))).1), J (vpB (cuA l (⟨#[58, 32]⟩ : ByteArray)))]) rfl (pt_cons (H232.ev rfl) (pt_cons (H232.ev rfl) pt_nil)) (by kernel_rfl)) fun _ H234 => ?_
 clear H228 H230 H232
 refine gw_news (O := .cells #[.string ((readN (cuB l (⟨#[58, 32]⟩ : ByteArray))).1), J (vpB (cuA l (⟨#[58, 32]⟩ : ByteArray)))] 49 (0, 0)) (n := 1) H234 O216 (want_none rfl) rfl (by decide) (op_bslice (by kernel_rfl) rfl (pt_cons (H234.ev rfl) pt_nil)) ?_
 intro g235 _ w237 H238 O239; clear H234 O216
 have O240 : Own w0 w237 [Bk g235 [.string ((readN (cuB l (⟨#[58, 32]⟩ : ByteArray))).1), J (vpB (cuA l (⟨#[58, 32]⟩ : ByteArray)))] 49, R, Bk gs [.string su, .string bo, .slice (some ad208) ((Wd ++ [(⟨g0, ⟨A2, xs.length, c2⟩⟩ : W2)]).length) c] 24, Chunk.row kW 46 w0.heap.size Sr (.slice (some ad208) ((Wd ++ [(⟨g0, ⟨A2, xs.length, c2⟩⟩ : W2)]).length) c) (Wd ++ [(⟨g0, ⟨A2, xs.length, c2⟩⟩ : W2)]), Chunk.dn w0.heap.size Sd Wd qs, Chunk.row KR 49 w0.heap.size Sl (.slice A2 xs.length c2) xs] := O239
 clear O239
 have O241 : Own w0 _ [Chunk.row KR 49 w0.heap.size Sl (.slice A2 xs.length c2) xs, Chunk.void, Bk g235 [.string ((readN (cuB l (⟨#[58, 32]⟩ : ByteArray))).1), J (vpB (cuA l (⟨#[58, 32]⟩ : ByteArray)))] 49, R, Bk gs [.string su, .string bo, .slice (some ad208) ((Wd ++ [(⟨g0, ⟨A2, xs.length, c2⟩⟩ : W2)]).length) c] 24, Chunk.row kW 46 w0.heap.size Sr (.slice (some ad208) ((Wd ++ [(⟨g0, ⟨A2, xs.length, c2⟩⟩ : W2)]).length) c) (Wd ++ [(⟨g0, ⟨A2, xs.length, c2⟩⟩ : W2)]), Chunk.dn w0.heap.size Sd Wd qs] := O240.void.sel [6, 0, 1, 2, 3, 4, 5] (by decide)
 refine gw_append1 k49 0 (p := (⟨(readN (cuB l (⟨#[58, 32]⟩ : ByteArray))).1, vpB (cuA l (⟨#[58, 32]⟩ : ByteArray))⟩ : S49)) (cs := [.string ((readN (cuB l (⟨#[58, 32]⟩ : ByteArray))).1), J (vpB (cuA l (⟨#[58, 32]⟩ : ByteArray)))]) H238 O241 (want_none rfl) rfl (by decide) rfl Tryd.underlying44 gwinfo49 rfl (by decide) (by decide) rfl (H238.ev rfl) (H238.ev rfl) (fun w_ h_ => k49_mkM w_ _ _ (⟨(readN (cuB l (⟨#[58, 32]⟩ : ByteArray))).1, vpB (cuA l (⟨#[58, 32]⟩ : ByteArray))⟩ : S49) ) O241.below.size (by (try simp); omega) ?_
 intro A242 c243 S244 _ w246 H247 O248; clear H238 O240 O241
 have O249 : Own w0 w246 [Chunk.row KR 49 w0.heap.size S244 (.slice A242 ((xs ++ [(⟨(readN (cuB l (⟨#[58, 32]⟩ : ByteArray))).1, vpB (cuA l (⟨#[58, 32]⟩ : ByteArray))⟩ : S49)]).length) c243) (xs ++ [(⟨(readN (cuB l (⟨#[58, 32]⟩ : ByteArray))).1, vpB (cuA l (⟨#[58, 32]⟩ : ByteArray))⟩ : S49)]), Bk g235 [.string ((readN (cuB l (⟨#[58, 32]⟩ : ByteArray))).1), J (vpB (cuA l (⟨#[58, 32]⟩ : ByteArray)))] 49, R, Bk gs [.string su, .string bo, .slice (some ad208) ((Wd ++ [(⟨g0, ⟨A2, xs.length, c2⟩⟩ : W2)]).length) c] 24, Chunk.row kW 46 w0.heap.size Sr (.slice (some ad208) ((Wd ++ [(⟨g0, ⟨A2, xs.length, c2⟩⟩ : W2)]).length) c) (Wd ++ [(⟨g0, ⟨A2, xs.length, c2⟩⟩ : W2)]), Chunk.dn w0.heap.size Sd Wd qs] := O248
 clear O248
 refine Vz H247 fun _ H251 => ?_
 refine V H251 (op_field (gwflda46_1 _) rfl (H251.ev rfl)) fun _ H253 => ?_
 clear H247 H251
 refine gw_rowf flatW zW (⟨((Wd ++ [(⟨g0, ⟨A2, xs.length, c2⟩⟩ : W2)]).getD ((((Wd ++ [(⟨g0, ⟨A2, xs.length, c2⟩⟩ : W2)]).length) : Int) - 1).toNat zW).f0, ⟨A242, (xs ++ [(⟨(readN (cuB l (⟨#[58, 32]⟩ : ByteArray))).1, vpB (cuA l (⟨#[58, 32]⟩ : ByteArray))⟩ : S49)]).length, c243⟩⟩ : W2) 1 4 H253 O249 rfl (want_none rfl) rfl gwsiz44 (by omega) (by omega) (by show 1 < 2; decide) rfl (H253.ev rfl) (H253.ev rfl) rfl rfl ?_
 intro _ w256 H255 O257; clear H253 O249
 have O258 : Own w0 w256 [Chunk.row KR 49 w0.heap.size S244 (.slice A242 ((xs ++ [(⟨(readN (cuB l (⟨#[58, 32]⟩ : ByteArray))).1, vpB (cuA l (⟨#[58, 32]⟩ : ByteArray))⟩ : S49)]).length) c243) (xs ++ [(⟨(readN (cuB l (⟨#[58, 32]⟩ : ByteArray))).1, vpB (cuA l (⟨#[58, 32]⟩ : ByteArray))⟩ : S49)]), Bk g235 [.string ((readN (cuB l (⟨#[58, 32]⟩ : ByteArray))).1), J (vpB (cuA l (⟨#[58, 32]⟩ : ByteArray)))] 49, R, Bk gs [.string su, .string bo, .slice (some ad208) ((Wd ++ [(⟨g0, ⟨A2, xs.length, c2⟩⟩ : W2)]).length) c] 24, Chunk.row kW 46 w0.heap.size Sr (.slice (some ad208) ((Wd ++ [(⟨g0, ⟨A2, xs.length, c2⟩⟩ : W2)]).length) c) ((Wd ++ [(⟨g0, ⟨A2, xs.length, c2⟩⟩ : W2)]).set ((((Wd ++ [(⟨g0, ⟨A2, xs.length, c2⟩⟩ : W2)]).length) : Int) - 1).toNat (⟨((Wd ++ [(⟨g0, ⟨A2, xs.length, c2⟩⟩ : W2)]).getD ((((Wd ++ [(⟨g0, ⟨A2, xs.length, c2⟩⟩ : W2)]).length) : Int) - 1).toNat zW).f0, ⟨A242, (xs ++ [(⟨(readN (cuB l (⟨#[58, 32]⟩ : ByteArray))).1, vpB (cuA l (⟨#[58, 32]⟩ : ByteArray))⟩ : S49)]).length, c243⟩⟩ : W2)), Chunk.dn w0.heap.size Sd Wd qs] := O257
 clear O257
 refine gE hK217 ?_
 refine gR fun K259 hK259 => ?_
 refine Vc H255 fun _ H261 => ?_
 refine gE hK259 ?_
 refine wp_ret ?_
 clear H255
 refine gw_ret1 H261 rfl rfl ?_
 have O262_e := O258
 rw [getD_last _ _ _ rfl, set_last _ _ _ _ rfl] at O262_e
 have hle_ : (Wd ++ [(⟨g0, ⟨A2, xs.length, c2⟩⟩ : W2)]).length = (Wd ++ [(⟨g0, ⟨A242, (xs ++ [(⟨(readN (cuB l (⟨#[58, 32]⟩ : ByteArray))).1, vpB (cuA l (⟨#[58, 32]⟩ : ByteArray))⟩ : S49)]).length, c243⟩⟩ : W2)]).length := by simp
 rw [hle_] at O262_e
 have hrO : resO (qs ++ [⟨g0, xs⟩]) l = true := by unfold resO; rw [snoc_ne]; simp only [Bool.not_false, Bool.and_true]; exact hyes
 refine ⟨⟨(some ad208), c, Wd, qs, some g0, (xs ++ [(⟨(readN (cuB l (⟨#[58, 32]⟩ : ByteArray))).1, vpB (cuA l (⟨#[58, 32]⟩ : ByteArray))⟩ : S49)]), A242, c243, Sr, Sd, S244⟩, ?_, fun h_ => (by cases h_), ?_, O262_e.sel [2, 3, 4, 5, 0] (by decide)⟩
 ·
  unfold lineO; rw [if_neg hgp, hrO]
 unfold lineS; rw [if_neg hgp, if_pos hrO, addL_snoc]; rfl
end GLine_
export GLine_ (line_0 line_1)
section
theorem part_le (ps : List PP) (p : PP) (h : p ∈ ps) : p.f1.length ≤ sumL ps := by
  induction ps with
  | nil => cases h
  | cons x xs ih =>
    simp only [sumL]
    rcases List.mem_cons.1 h with rfl | h
    · omega
    · have := ih h; omega
theorem line_own (w0 : World) (R : Chunk) (gs : Nat) (su bo l : ByteArray) (A : Option Addr) (c : Nat) (S : Nat → Prop) (ps : List PP) (w : World) (hl : l.size ≤ 1000000000) (hL : LaidW w0) (hps : ps.length + sumL ps ≤ 1000000000)
    (HO : Own w0 w [R, Chunk.blk gs (.cells #[.string su, .string bo, .slice A ps.length c] 24 (0, 0)), Chunk.sp w0.heap.size S A c ps]) :
    Calls Tryd.prog 34 #[.pointer (some ⟨gs, 0, none⟩), .string l] w fun e w' => ∃ A' c' S', e = .returned (.bool (lineO ps l)) ∧ Own w0 w' [R, Chunk.blk gs (.cells #[.string su, .string bo, .slice A' (lineS ps l).length c'] 24 (0, 0)), Chunk.sp w0.heap.size S' A' c' (lineS ps l)] := by
  obtain ⟨X, ⟨hA, hc, hX⟩, hok, hlen, HO2⟩ := (HO.sel [2, 0, 1] (by decide)).sp_open
  have fin : ∀ (e : Ending) (w' : World), (∃ X : SmX, e = .returned (.bool (lineO ps l)) ∧ X.ok ∧ X.ps = lineS ps l ∧ Own w0 w' (R :: smL w0.heap.size gs su bo X)) → ∃ A' c' S', e = .returned (.bool (lineO ps l)) ∧ Own w0 w' [R, Chunk.blk gs (.cells #[.string su, .string bo, .slice A' (lineS ps l).length c'] 24 (0, 0)), Chunk.sp w0.heap.size S' A' c' (lineS ps l)] := by
    rintro e w' ⟨X', he, hok', hps', HO'⟩
    have h3 : Own w0 w' (spL w0.heap.size X' ++ [R, Chunk.blk gs (.cells #[.string su, .string bo, .slice X'.A X'.W.length X'.c] 24 (0, 0))]) := HO'.perm (by
      show List.Perm ([_, _] ++ spL w0.heap.size X') _
      exact List.perm_append_comm)
    have hl' : X'.W.length = X'.ps.length := (spL_F ((Own.bundle h3).get 0 rfl)).1
    rw [hl', hps'] at h3
    refine ⟨X'.A, X'.c, (Chunk.all (spL w0.heap.size X')).S, he, ?_⟩
    have h4 := (h3.sp_close hok').sel [1, 2, 0] (by decide)
    rw [hps'] at h4
    exact h4
  subst hA hc hX
  obtain ⟨A, c, Wd, qs, lg, xs, A2, c2, Sr, Sd, Sl⟩ := X
  have hpl : (SmX.ps ⟨A, c, Wd, qs, lg, xs, A2, c2, Sr, Sd, Sl⟩).length ≤ 1000000000 := by omega
  cases lg with
  | none =>
    obtain ⟨e1, e2, e3⟩ := hok rfl
    dsimp only at e1 e2 e3
    subst e1 e2 e3
    exact (line_0 w0 R gs su bo l A c Sr Sd w hl hL (Nat.zero_le _) (HO2.sel [3, 4, 0, 1] (by decide))).mono fin
  | some g0 =>
    have hx : xs.length ≤ 1000000000 := by
      have := part_le (SmX.ps ⟨A, c, Wd, qs, some g0, xs, A2, c2, Sr, Sd, Sl⟩) ⟨g0, xs⟩ (List.mem_append_right _ (List.mem_cons_self ..))
      dsimp only at this
      omega
    have hW : (SmX.W ⟨A, c, Wd, qs, some g0, xs, A2, c2, Sr, Sd, Sl⟩).length ≤ 1000000000 := by rw [hlen]; exact hpl
    rw [← hlen] at HO2
    exact (line_1 w0 R gs su bo l A c Sr Sd w Wd qs g0 xs A2 c2 Sl hl hL hW hx (HO2.sel [3, 4, 0, 1, 2] (by decide))).mono fin
theorem ssn_eq {A : Option Addr} {n c : Nat} {w : World} {P : Program} {ty et : TypeId} (ht : P.underlying ty = some (.slice et)) {x0 y0 : Operand} : (do eqGuard .eql ty x0 y0 (.slice A n c) (.slice none 0 0); binOp .eql ty (.slice A n c) (.slice none 0 0) : Sem Value).run P w = .ok (.bool (Option.isNone A)) w := by
  cases A <;> simp [eqGuard, binOp, go_sem, run_equal_slice_nil _ _ _ _ _ _ ht]
theorem cut_loN {P : Program} {α : Type} {d : Kd α} {t e : TypeId} (ht : P.underlying t = some (.slice e)) (hS : ∀ w, (sizeOf e).run P w = .ok d.sz w) (A : Option Addr) (c : Nat) (xs : List α) (hc : xs.length ≤ c) (j : Int) (h0 : 0 ≤ j) (hj : j ≤ xs.length) :
    ∃ A' c', (∀ W : World, (Instr.slice t (.slice A xs.length c) (some (.int .i64 j)) none none).run P W = .ok (.slice A' (xs.drop j.toNat).length c') W) ∧ (xs.drop j.toNat).length ≤ c' ∧ (∀ W, d.C W A xs.length xs → d.C W A' (xs.drop j.toNat).length (xs.drop j.toNat)) ∧ (∀ ad, A' = some ad → ∃ ad0, A = some ad0 ∧ ad.block = ad0.block) ∧ A'.isNone = A.isNone := by
  obtain ⟨A', c', h1, h2, h3, h4⟩ := cut_lo (P := P) (d := d) ht hS A c xs hc j h0 hj
  refine ⟨A', c', h1, h2, h3, h4, ?_⟩
  have h5 := h1 default
  have hl : (xs.drop j.toNat).length = xs.length - j.toNat := List.length_drop
  obtain ⟨i, hi, hz⟩ : ∃ i : TypeInfo, P.info? e = some i ∧ i.size = d.sz := by
    have := hS default
    cases h : P.info? e with
    | none => simp [sizeOf, typeInfo, h] at this
    | some i => exact ⟨i, rfl, by simpa [sizeOf, typeInfo, h] using this⟩
  have h6 := cut_from t e .i64 ht hi d.sz hz A xs.length c j h0 hj default
  rw [h5] at h6
  injection h6 with h6 _
  injection h6 with h6 _ _
  rw [h6]
  split
  · rfl
  · cases A <;> rfl
abbrev w1B : ByteArray := ⟨#[84, 101, 115, 116, 32, 114, 117, 110, 32, 111, 102, 32]⟩
abbrev w2B : ByteArray := ⟨#[66, 111, 97, 114, 100, 32]⟩
abbrev hashB : ByteArray := ⟨#[35]⟩
abbrev eB : ByteArray := ⟨#[]⟩
abbrev lfB : ByteArray := ⟨#[10]⟩
def allL (s : ByteArray) : List ByteArray := if (pcs s).getD ((pcs s).length - 1) eB = eB then (pcs s).take ((pcs s).length - 1) else pcs s
theorem allL_yes (s : ByteArray) (h : ((pcs s).getD (((pcs s).length : Int) - 1).toNat eB).toList = eB.toList) : (pcs s).take (((pcs s).length : Int) - 1).toNat = allL s := by
  rw [show (((pcs s).length : Int) - 1).toNat = (pcs s).length - 1 by omega] at h ⊢
  unfold allL
  rw [if_pos (Pure.bytes_eq h)]
theorem allL_no (s : ByteArray) (h : ¬ ((pcs s).getD (((pcs s).length : Int) - 1).toNat eB).toList = eB.toList) : pcs s = allL s := by
  rw [show (((pcs s).length : Int) - 1).toNat = (pcs s).length - 1 by omega] at h
  unfold allL
  rw [if_neg (fun e => h (by rw [e]))]
theorem allL_len (s : ByteArray) : (allL s).length ≤ s.size + 1 := by
  have := pcs_le s
  unfold allL
  split
  · rw [List.length_take]; omega
  · exact this
theorem allL_at (s : ByteArray) (i : Int) : ((allL s).getD i.toNat eB).size ≤ s.size := by
  unfold allL
  split
  · by_cases h : i.toNat < ((pcs s).take ((pcs s).length - 1)).length
    · rw [List.getD_eq_getElem?_getD, List.getElem?_eq_getElem h]
      exact pcs_size s _ (List.mem_of_mem_take (List.getElem_mem h))
    · rw [List.getD_eq_getElem?_getD, List.getElem?_eq_none (by omega)]
      exact Nat.zero_le _
  · exact pcs_at s i
noncomputable def parsL : List ByteArray → Int → ByteArray → ByteArray → List PP → Bool → List ByteArray → Option (ByteArray × ByteArray × List PP) × Int
  | [], i, su, bo, ps, b, TL => if (b || decide (0 < (TL.length : Int))) = true then (none, i) else (some (su, bo, ps), 0)
  | r :: rs, i, su, bo, ps, b, TL =>
    if hsB r lfB = false then (none, i) else
    if i = 0 then (if nmO (tsB r lfB) w1B = true then parsL rs (i + 1) (nmB (tsB r lfB) w1B) bo ps b TL else (none, i)) else
    if i = 1 then (if nmO (tsB r lfB) w2B = true then parsL rs (i + 1) su (nmB (tsB r lfB) w2B) ps b TL else (none, i)) else
    if (b && !(hpB (tsB r lfB) hashB)) = true then (if lineO ps (tsB r lfB) = true then parsL rs (i + 1) su bo (lineS ps (tsB r lfB)) b TL else (none, i)) else
    let TL' := if b = true then (linesL su bo ps).drop i.toNat else TL
    if 0 < (TL'.length : Int) ∧ TL'.getD 0 eB = tsB r lfB then parsL rs (i + 1) su bo ps false (TL'.drop 1) else (none, i)
noncomputable def parseP (s : ByteArray) : Option (ByteArray × ByteArray × List PP) × Int := parsL (allL s) 0 eB eB [] true []
noncomputable def outS (s : ByteArray) : ByteArray × ByteArray × List PP := (parseP s).1.getD (eB, eB, [])
noncomputable def codeP (s : ByteArray) : Int := if (parseP s).1.isSome = true then 0 else 80
theorem drop_at (xs : List ByteArray) (i : Int) (h0 : 0 ≤ i) (h1 : i < xs.length) : xs.drop i.toNat = xs.getD i.toNat eB :: xs.drop (i + 1).toNat := by
  rw [show (i + 1).toNat = i.toNat + 1 by omega, List.drop_eq_getElem_cons (by omega), List.getD_eq_getElem?_getD, List.getElem?_eq_getElem (by omega)]
  rfl
section
variable {r : ByteArray} {rs : List ByteArray} {i : Int} {su bo : ByteArray} {ps : List PP} {b : Bool} {TL : List ByteArray}
theorem pl_bad (h : hsB r lfB = false) : parsL (r :: rs) i su bo ps b TL = (none, i) := by unfold parsL; rw [if_pos h]
theorem pl_0 (h : hsB r lfB = true) (hi : i = 0) (hn : nmO (tsB r lfB) w1B = true) : parsL (r :: rs) i su bo ps b TL = parsL rs (i + 1) (nmB (tsB r lfB) w1B) bo ps b TL := by
  rw [parsL, if_neg (by rw [h]; decide), if_pos hi, if_pos hn]
theorem pl_0x (h : hsB r lfB = true) (hi : i = 0) (hn : nmO (tsB r lfB) w1B = false) : parsL (r :: rs) i su bo ps b TL = (none, i) := by
  rw [parsL, if_neg (by rw [h]; decide), if_pos hi, if_neg (by rw [hn]; decide)]
theorem pl_1 (h : hsB r lfB = true) (hi : i = 1) (hn : nmO (tsB r lfB) w2B = true) : parsL (r :: rs) i su bo ps b TL = parsL rs (i + 1) su (nmB (tsB r lfB) w2B) ps b TL := by
  rw [parsL, if_neg (by rw [h]; decide), if_neg (by omega), if_pos hi, if_pos hn]
theorem pl_1x (h : hsB r lfB = true) (hi : i = 1) (hn : nmO (tsB r lfB) w2B = false) : parsL (r :: rs) i su bo ps b TL = (none, i) := by
  rw [parsL, if_neg (by rw [h]; decide), if_neg (by omega), if_pos hi, if_neg (by rw [hn]; decide)]
theorem pl_l (h : hsB r lfB = true) (hi : i ≠ 0) (h1 : i ≠ 1) (hb : (b && !(hpB (tsB r lfB) hashB)) = true) (hn : lineO ps (tsB r lfB) = true) : parsL (r :: rs) i su bo ps b TL = parsL rs (i + 1) su bo (lineS ps (tsB r lfB)) b TL := by
  rw [parsL, if_neg (by rw [h]; decide), if_neg hi, if_neg h1, if_pos hb, if_pos hn]
theorem pl_lx (h : hsB r lfB = true) (hi : i ≠ 0) (h1 : i ≠ 1) (hb : (b && !(hpB (tsB r lfB) hashB)) = true) (hn : lineO ps (tsB r lfB) = false) : parsL (r :: rs) i su bo ps b TL = (none, i) := by
  rw [parsL, if_neg (by rw [h]; decide), if_neg hi, if_neg h1, if_pos hb, if_neg (by rw [hn]; decide)]
theorem pl_t (TL' : List ByteArray) (hT : TL' = if b = true then (linesL su bo ps).drop i.toNat else TL) (h : hsB r lfB = true) (hi : i ≠ 0) (h1 : i ≠ 1) (hb : (b && !(hpB (tsB r lfB) hashB)) = false) (hn : 0 < (TL'.length : Int) ∧ TL'.getD 0 eB = tsB r lfB) : parsL (r :: rs) i su bo ps b TL = parsL rs (i + 1) su bo ps false (TL'.drop 1) := by
  subst hT
  rw [parsL, if_neg (by rw [h]; decide), if_neg hi, if_neg h1, if_neg (by rw [hb]; decide)]
  exact if_pos hn
theorem pl_tx (TL' : List ByteArray) (hT : TL' = if b = true then (linesL su bo ps).drop i.toNat else TL) (h : hsB r lfB = true) (hi : i ≠ 0) (h1 : i ≠ 1) (hb : (b && !(hpB (tsB r lfB) hashB)) = false) (hn : ¬ (0 < (TL'.length : Int) ∧ TL'.getD 0 eB = tsB r lfB)) : parsL (r :: rs) i su bo ps b TL = (none, i) := by
  subst hT
  rw [parsL, if_neg (by rw [h]; decide), if_neg hi, if_neg h1, if_neg (by rw [hb]; decide)]
  exact if_neg hn
end
theorem sumL_add (ps : List PP) (r : RS) (h : ps ≠ []) : sumL (addL ps r) = sumL ps + 1 ∧ (addL ps r).length = ps.length := by
  rcases List.eq_nil_or_concat ps with e | ⟨qs, p, rfl⟩
  · exact absurd e h
  · obtain ⟨g, xs⟩ := p
    rw [List.concat_eq_append, addL_snoc, sum_snoc, sum_snoc]
    simp
    omega
theorem line_count (ps : List PP) (l : ByteArray) (h : lineO ps l = true) : (lineS ps l).length + sumL (lineS ps l) = ps.length + sumL ps + 1 := by
  unfold lineO at h
  unfold lineS
  split
  · rw [sum_snoc, List.length_append]; simp; omega
  · rename_i hg
    rw [if_neg hg] at h
    rw [if_pos h]
    have hp : ps ≠ [] := by
      intro e
      subst e
      unfold resO at h
      simp at h
    have := sumL_add ps ⟨(readN (cuB l sepB)).1, vpB (cuA l sepB)⟩ hp
    omega
theorem lines_len (su bo : ByteArray) (ps : List PP) : 3 + ps.length + sumL ps ≤ (linesL su bo ps).length ∧ (linesL su bo ps).length ≤ 11 + ps.length + sumL ps := by
  unfold linesL
  have h1 := body_len su bo ps
  have h2 := tots_len ps 8
  rw [List.length_append, List.length_append, h1]
  simp
  omega
theorem str_openF {W : World} {ok : Nat → Prop} {x : ByteArray} {cs : List Value} (h : Kd.FK Kd.string W ok x cs) : cs = [.string x] := Kd.FK_now h
theorem some_of_C {α : Type} {d : Kd α} {w : World} {A : Option Addr} {n : Nat} {xs : List α} (h : Kd.C d w A n xs) (hn : 0 < n) : Option.isNone A = false := by
  obtain ⟨ad, rfl, _⟩ := h.2.2 hn
  rfl
end
section
attribute [local go_sem] max2_int min2_int max_two min_two max_three min_three max_four min_four   -- for this text's walks alone
mutual
def sum_Right.j0 : Nat → Bool → ByteArray → ByteArray → List (S46) → Option (Bool)
  | 0, _, _, _, _ => none
  | k + 1, x16, x110000, x110001, x110002 => if x16 = true then (some false) else (sum_Right.l0 k x110002 (x110002.length : Int) 0)
def sum_Right.l0 : Nat → List (S46) → Int → Int → Option (Bool)
  | 0, _, _, _ => none
  | k + 1, x18, x19, x20 => if x20 < x19 then (if 0 ≤ x20 then (if x20 < (x18.length : Int) then ((name_Right.f ((rd_T46 x18 x20).f0)).bind fun t114 => (if t114 = true then (sum_Right.l1 k x18 x19 x20 ((rd_T46 x18 x20).f1) (((rd_T46 x18 x20).f1).length : Int) 0) else (some false))) else (none)) else (none)) else (some true)
def sum_Right.l1 : Nat → List (S46) → Int → Int → List (S49) → Int → Int → Option (Bool)
  | 0, _, _, _, _, _, _ => none
  | k + 1, x18, x19, x20, x29, x30, x31 => if x31 < x30 then (if 0 ≤ x31 then (if x31 < (x29.length : Int) then ((name_Right.f ((rd_T49 x29 x31).f0)).bind fun t117 => (if t117 = true then ((trace_Text.f ((rd_T49 x29 x31).f1)).bind fun t118 => (if t118.toList = ([] : List UInt8) then (some false) else (sum_Right.l1 k x18 x19 x20 x29 x30 (wrap64 (x31 + 1))))) else (some false))) else (none)) else (none)) else (sum_Right.l0 k x18 x19 (wrap64 (x20 + 1)))
end
def sum_Right.f (k : Nat) (a0_0 : ByteArray) (a0_1 : ByteArray) (l0_2 : List (S46)) : Option (Bool) := (name_Right.f a0_0).bind fun t110 => (if t110 = true then ((name_Right.f a0_1).bind fun t111 => (sum_Right.j0 k (!t111) a0_0 a0_1 l0_2)) else (sum_Right.j0 k true a0_0 a0_1 l0_2))
theorem sum_Right.mono_l : ∀ k, (∀ y0 y1 y2 y3, LeO (sum_Right.j0 k y0 y1 y2 y3) (sum_Right.j0 (k + 1) y0 y1 y2 y3)) ∧ (∀ y0 y1 y2, LeO (sum_Right.l0 k y0 y1 y2) (sum_Right.l0 (k + 1) y0 y1 y2)) ∧ (∀ y0 y1 y2 y3 y4 y5, LeO (sum_Right.l1 k y0 y1 y2 y3 y4 y5) (sum_Right.l1 (k + 1) y0 y1 y2 y3 y4 y5))
  | 0 => ⟨fun _ _ _ _ r h => by simp [sum_Right.j0] at h, fun _ _ _ r h => by simp [sum_Right.l0] at h, fun _ _ _ _ _ _ r h => by simp [sum_Right.l1] at h⟩
  | k + 1 => by
    obtain ⟨ih0, ih1, ih2⟩ := sum_Right.mono_l k
    refine ⟨?_, ?_, ?_⟩
    · intro y0 y1 y2 y3
      unfold sum_Right.j0
      repeat' first
      | (with_reducible exact ih0 _ _ _ _)
      | (with_reducible exact ih1 _ _ _)
      | (with_reducible exact ih2 _ _ _ _ _ _)
      | (with_reducible exact LeO.refl _)
      | (with_reducible exact LeO.none _)
      | (with_reducible refine LeO.ite ?_ ?_)
      | (with_reducible refine LeO.bind ?_ (fun _ => ?_))
      | exact ih0 _ _ _ _
      | exact ih1 _ _ _
      | exact ih2 _ _ _ _ _ _
      | exact LeO.none _
      | refine LeO.ite ?_ ?_
      | refine LeO.bind ?_ (fun _ => ?_)
    · intro y0 y1 y2
      unfold sum_Right.l0
      repeat' first
      | (with_reducible exact ih0 _ _ _ _)
      | (with_reducible exact ih1 _ _ _)
      | (with_reducible exact ih2 _ _ _ _ _ _)
      | (with_reducible exact LeO.refl _)
      | (with_reducible exact LeO.none _)
      | (with_reducible refine LeO.ite ?_ ?_)
      | (with_reducible refine LeO.bind ?_ (fun _ => ?_))
      | exact ih0 _ _ _ _
      | exact ih1 _ _ _
      | exact ih2 _ _ _ _ _ _
      | exact LeO.none _
      | refine LeO.ite ?_ ?_
      | refine LeO.bind ?_ (fun _ => ?_)
    · intro y0 y1 y2 y3 y4 y5
      unfold sum_Right.l1
      repeat' first
      | (with_reducible exact ih0 _ _ _ _)
      | (with_reducible exact ih1 _ _ _)
      | (with_reducible exact ih2 _ _ _ _ _ _)
      | (with_reducible exact LeO.refl _)
      | (with_reducible exact LeO.none _)
      | (with_reducible refine LeO.ite ?_ ?_)
      | (with_reducible refine LeO.bind ?_ (fun _ => ?_))
      | exact ih0 _ _ _ _
      | exact ih1 _ _ _
      | exact ih2 _ _ _ _ _ _
      | exact LeO.none _
      | refine LeO.ite ?_ ?_
      | refine LeO.bind ?_ (fun _ => ?_)
theorem sum_Right.mono : ∀ a0 a1 a2 k, LeO (sum_Right.f k a0 a1 a2) (sum_Right.f (k + 1) a0 a1 a2) := by
  intro a0 a1 a2 k
  obtain ⟨ih0, ih1, ih2⟩ := sum_Right.mono_l k
  unfold sum_Right.f
  repeat' first
      | (with_reducible exact ih0 _ _ _ _)
      | (with_reducible exact ih1 _ _ _)
      | (with_reducible exact ih2 _ _ _ _ _ _)
      | (with_reducible exact LeO.refl _)
      | (with_reducible exact LeO.none _)
      | (with_reducible refine LeO.ite ?_ ?_)
      | (with_reducible refine LeO.bind ?_ (fun _ => ?_))
      | exact ih0 _ _ _ _
      | exact ih1 _ _ _
      | exact ih2 _ _ _ _ _ _
      | exact LeO.none _
      | refine LeO.ite ?_ ?_
      | refine LeO.bind ?_ (fun _ => ?_)
theorem sum_Right.calls (k : Nat) (a0_0 : ByteArray) (a0_1 : ByteArray) (A0_2 : Option Addr) (c0_2 : Nat) (l0_2 : List (S46)) (r : Bool) (w : World) (hr0_2 : Kd.C k46 w A0_2 l0_2.length l0_2) (hc0_2 : l0_2.length ≤ c0_2) (h : sum_Right.f k a0_0 a0_1 l0_2 = some r) :
    Calls Tryd.prog 14 #[.agg #[.string a0_0, .string a0_1, .slice A0_2 l0_2.length c0_2]] w fun e w' => e = .returned (.bool r) ∧ Below w.heap.size w w' := by
  have hu24 := Tryd.underlying24
  have hu46 := Tryd.underlying46
  have hu49 := Tryd.underlying49
  have HR0_2 := Aside0.mk hr0_2
  have HC0_2 := Aside0.mk hc0_2
  clear hr0_2 hc0_2
  have HB := Aside0.mk (Below.refl w.heap.size w)
  have H : ((name_Right.f a0_0).bind fun t110 => (if t110 = true then ((name_Right.f a0_1).bind fun t111 => (sum_Right.j0 k (!t111) a0_0 a0_1 l0_2)) else (sum_Right.j0 k true a0_0 a0_1 l0_2))) = some r := h
  clear h
  have HC2 := Aside0.mk H
  clear H
  go_enter Tryd.func14, Tryd.ntmps14
  go_upto_region 1 with (first | ((with_reducible refine gate_dst (N := 1) rfl ?_); refine box_event ?hg (N := 1) ?hd (cs := #[.string a0_0, .string a0_1, .slice A0_2 l0_2.length c0_2]) (t := 24) ?hr ?_; (case hd => rfl); (case hg => rfl); (case hr => first | (go_simp; done) | (go_simp; rfl)); intro gb109 hg w3 hbox hb; have n0_ := Aside0.mk (below_step (by repeat (first | (with_reducible first | exact HB.out | apply below_alloc | apply pw_below_drewN | apply below_drew1) | exact HB.out)) hb); have n1_ := Aside0.mk (hbox); have n2_ := Aside0.mk ((by rw [hg]; exact (below_size (by repeat (first | (with_reducible first | exact HB.out | apply below_alloc | apply pw_below_drewN | apply below_drew1) | exact HB.out))) : w.heap.size ≤ gb109)); have n3_ := Aside0.mk ((by rw [hg]; exact (below_size (by repeat (first | (with_reducible first | exact HB.out | apply below_alloc | apply pw_below_drewN | apply below_drew1) | exact HB.out))) : w.heap.size ≤ gb109)); clear HB; have HB := n0_; have BK109 := n1_; have GW109 := n2_; have GE109 := n3_; clear n0_ n1_ n2_ n3_; clear hb hbox hg))
  (try simp only [Act.put, List.setIfInBounds_toArray, List.set_cons_zero, List.set_cons_succ])
  go_cut [16] (fun v16 wc => ∃ (kq : Nat) (x16_1 : Bool), v16 = .bool x16_1 ∧ Aside0 (sum_Right.j0 kq x16_1 a0_0 a0_1 l0_2 = some r) ∧ Aside0 (kq ≤ k) ∧ Aside0 (wc.heap[gb109]? = some (.cells #[.string a0_0, .string a0_1, (.slice A0_2 l0_2.length c0_2)] 24 (0, 0))) ∧ Aside0 (Below w.heap.size w wc))
  case first =>
    have H := HC2.out
    clear HC2
    replace H := Option.bind_eq_some_iff.mp H
    obtain ⟨t110, A40, H⟩ := H
    replace H : (if t110 = true then ((name_Right.f a0_1).bind fun t111 => (sum_Right.j0 k (!t111) a0_0 a0_1 l0_2)) else (sum_Right.j0 k true a0_0 a0_1 l0_2)) = some r := H
    have A4 := Aside0.mk A40
    clear A40
    by_cases c5 : t110 = true
    · subst c5
      have H1 : ((name_Right.f a0_1).bind fun t111 => (sum_Right.j0 k (!t111) a0_0 a0_1 l0_2)) = some r := by rw [if_pos rfl] at H; exact H
      clear H
      have H := H1
      clear H1
      replace H := Option.bind_eq_some_iff.mp H
      obtain ⟨t111, A60, H⟩ := H
      replace H : (sum_Right.j0 k (!t111) a0_0 a0_1 l0_2) = some r := H
      have A6 := Aside0.mk A60
      clear A60
      have H' := Aside0.mk H
      clear H
      have hcz7_0 : w3.cell? ⟨gb109, 0, none⟩ = some (.string a0_0) := (blk_cell BK109.out 0).trans rfl
      have hcz7_1 : w3.cell? ⟨gb109, 1, none⟩ = some (.string a0_1) := (blk_cell BK109.out 1).trans rfl
      have hcz7_2 : w3.cell? ⟨gb109, 2, none⟩ = some (.slice A0_2 l0_2.length c0_2) := (blk_cell BK109.out 2).trans rfl
      have hfz7_0 := blk_frozen BK109.out 0
      have hfz7_1 := blk_frozen BK109.out 1
      have hfz7_2 := blk_frozen BK109.out 2
      go_wp2_with (first | ((with_reducible refine gate_callee (f := 24) rfl ?_); refine goesL_ (some 9) rfl rfl Tryd.func24 (by kernel_rfl) rfl #[.string a0_0] rfl (by (try simp only [List.map_toArray, List.map_cons, List.map_nil]); first | done | rfl | (simp only [List.length_drop, List.length_take]; rfl)) ?_; (with_reducible refine (name_Right.calls a0_0 true _ A4.out).mono ?_); rintro e w' ⟨rfl, ⟨nd, rfl⟩⟩; refine ⟨_, rfl, ?_⟩) | (go_at_call 24; (with_reducible refine (name_Right.calls a0_1 t111 _ A6.out).mono ?_); rintro e w' ⟨rfl, ⟨nd, rfl⟩⟩))
      go_meet
      case rel => exact ⟨_, (!t111), (by first | rfl | (simp; done) | (simp [*]; done)), H', ⟨by first | omega | exact Nat.le_refl _⟩, ⟨by (with_reducible repeat (first | refine blk_drewN ?_ _ | refine blk_drew ?_ | refine blk_alloc ?_ _)); exact BK109.out⟩, ⟨by repeat (first | (with_reducible first | exact HB.out | apply below_alloc | apply pw_below_drewN | apply below_drew1 | refine below_set ?_ GE109.out) | exact HB.out)⟩⟩
    · replace c5 := Bool.eq_false_iff.mpr c5
      subst c5
      have H1 : (sum_Right.j0 k true a0_0 a0_1 l0_2) = some r := by rw [if_neg (show ¬ (false = true) by decide)] at H; exact H
      clear H
      have H := H1
      clear H1
      have H' := Aside0.mk H
      clear H
      have hcz8_0 : w3.cell? ⟨gb109, 0, none⟩ = some (.string a0_0) := (blk_cell BK109.out 0).trans rfl
      have hcz8_1 : w3.cell? ⟨gb109, 1, none⟩ = some (.string a0_1) := (blk_cell BK109.out 1).trans rfl
      have hcz8_2 : w3.cell? ⟨gb109, 2, none⟩ = some (.slice A0_2 l0_2.length c0_2) := (blk_cell BK109.out 2).trans rfl
      have hfz8_0 := blk_frozen BK109.out 0
      have hfz8_1 := blk_frozen BK109.out 1
      have hfz8_2 := blk_frozen BK109.out 2
      go_wp2_with (first | ((with_reducible refine gate_callee (f := 24) rfl ?_); refine goesL_ (some 9) rfl rfl Tryd.func24 (by kernel_rfl) rfl #[.string a0_0] rfl (by (try simp only [List.map_toArray, List.map_cons, List.map_nil]); first | done | rfl | (simp only [List.length_drop, List.length_take]; rfl)) ?_; (with_reducible refine (name_Right.calls a0_0 false _ A4.out).mono ?_); rintro e w' ⟨rfl, ⟨nd, rfl⟩⟩; refine ⟨_, rfl, ?_⟩))
      go_meet
      case rel => exact ⟨_, (true), (by first | rfl | (simp; done) | (simp [*]; done)), H', ⟨by first | omega | exact Nat.le_refl _⟩, ⟨by (with_reducible repeat (first | refine blk_drewN ?_ _ | refine blk_drew ?_ | refine blk_alloc ?_ _)); exact BK109.out⟩, ⟨by repeat (first | (with_reducible first | exact HB.out | apply below_alloc | apply pw_below_drewN | apply below_drew1 | refine below_set ?_ GE109.out) | exact HB.out)⟩⟩
  case rest =>
    clear HC2
    try clear c1
    try clear c2
    try clear p2
    try clear c5
    try clear hcz7_0
    try clear hcz7_1
    try clear hcz7_2
    try clear hcz8_0
    try clear hcz8_1
    try clear hcz8_2
    try clear hfz7_0
    try clear hfz7_1
    try clear hfz7_2
    try clear hfz8_0
    try clear hfz8_1
    try clear hfz8_2
    obtain ⟨kq, x16_1, rfl, HA, HJ1, BK109, HB⟩ := hcut
    cases kq with
    | zero => exact absurd HA.out (by simp [sum_Right.j0])
    | succ kj1 =>
      have H := HA.out
      clear HA
      simp only [sum_Right.j0] at H
      by_cases c9 : x16_1 = true
      · subst c9
        have H1 : (some false) = some r := by rw [if_pos rfl] at H; exact H
        clear H
        have H := H1
        clear H1
        obtain rfl := Option.some.inj H
        go_wp2
        go_ret
        exact ⟨by first | rfl | (simp [errW_none, errW_some] <;> rfl) | (simp [*, errW_none, errW_some] <;> rfl), by repeat (first | (with_reducible first | exact HB.out | apply below_alloc | apply pw_below_drewN | apply below_drew1 | refine below_set ?_ GE109.out) | exact HB.out)⟩
      · replace c9 := Bool.eq_false_iff.mpr c9
        subst c9
        have H1 : (sum_Right.l0 kj1 l0_2 (l0_2.length : Int) 0) = some r := by rw [if_neg (show ¬ (false = true) by decide)] at H; exact H
        clear H
        have H := H1
        clear H1
        have H' := Aside0.mk H
        clear H
        have hcz10_0 : wc.cell? ⟨gb109, 0, none⟩ = some (.string a0_0) := (blk_cell BK109.out 0).trans rfl
        have hcz10_1 : wc.cell? ⟨gb109, 1, none⟩ = some (.string a0_1) := (blk_cell BK109.out 1).trans rfl
        have hcz10_2 : wc.cell? ⟨gb109, 2, none⟩ = some (.slice A0_2 l0_2.length c0_2) := (blk_cell BK109.out 2).trans rfl
        have hfz10_0 := blk_frozen BK109.out 0
        have hfz10_1 := blk_frozen BK109.out 1
        have hfz10_2 := blk_frozen BK109.out 2
        go_wp2
        go_loopg [20] kj1 (fun kq v20 w' => ∃ (x20_2 : Int), v20 = .int .i64 x20_2 ∧ Aside0 (sum_Right.l0 kq l0_2 (l0_2.length : Int) x20_2 = some r) ∧ Aside0 (kq ≤ kj1) ∧ Aside0 (w'.heap[gb109]? = some (.cells #[.string a0_0, .string a0_1, (.slice A0_2 l0_2.length c0_2)] 24 (0, 0))) ∧ Aside0 (Below w.heap.size w w'))
        case atStart => exact ⟨(0), (by first | rfl | (simp; done) | (simp [*]; done)), H', ⟨Nat.le_refl _⟩, ⟨by (with_reducible repeat (first | refine blk_drewN ?_ _ | refine blk_drew ?_ | refine blk_alloc ?_ _)); exact BK109.out⟩, ⟨by repeat (first | (with_reducible first | exact HB.out | apply below_alloc | apply pw_below_drewN | apply below_drew1 | refine below_set ?_ GE109.out) | exact HB.out)⟩⟩
        case round =>
          clear H'
          try clear c1
          try clear c2
          try clear p2
          try clear c5
          try clear c9
          try clear hcz10_0
          try clear hcz10_1
          try clear hcz10_2
          try clear hcz7_0
          try clear hcz7_1
          try clear hcz7_2
          try clear hcz8_0
          try clear hcz8_1
          try clear hcz8_2
          try clear hfz10_0
          try clear hfz10_1
          try clear hfz10_2
          try clear hfz7_0
          try clear hfz7_1
          try clear hfz7_2
          try clear hfz8_0
          try clear hfz8_1
          try clear hfz8_2
          try clear p2
          obtain ⟨x20_2, rfl, HA, HK2, BK109, HB⟩ := hrel
          cases gk with
          | zero => exact absurd HA.out (by simp [sum_Right.l0])
          | succ k2 =>
            have H := HA.out
            clear HA
            simp only [sum_Right.l0] at H
            by_cases c11 : x20_2 < (l0_2.length : Int)
            · rw [if_pos c11] at H
              have c11b0 : decide (x20_2 < (l0_2.length : Int)) = true := decide_eq_true c11
              clear c11
              by_cases c12 : 0 ≤ x20_2
              · rw [if_pos c12] at H
                have c12b0 : decide (0 ≤ x20_2) = true := decide_eq_true c12
                clear c12
                by_cases c13 : x20_2 < (l0_2.length : Int)
                · rw [if_pos c13] at H
                  have c13b0 : decide (x20_2 < (l0_2.length : Int)) = true := decide_eq_true c13
                  clear c13
                  replace H := Option.bind_eq_some_iff.mp H
                  obtain ⟨t114, A140, H⟩ := H
                  replace H : (if t114 = true then (sum_Right.l1 k2 l0_2 (l0_2.length : Int) x20_2 ((rd_T46 l0_2 x20_2).f1) (((rd_T46 l0_2 x20_2).f1).length : Int) 0) else (some false)) = some r := H
                  have A14 := Aside0.mk A140
                  clear A140
                  by_cases c15 : t114 = true
                  · subst c15
                    have H1 : (sum_Right.l1 k2 l0_2 (l0_2.length : Int) x20_2 ((rd_T46 l0_2 x20_2).f1) (((rd_T46 l0_2 x20_2).f1).length : Int) 0) = some r := by rw [if_pos rfl] at H; exact H
                    clear H
                    have H := H1
                    clear H1
                    have H' := Aside0.mk H
                    clear H
                    have p112 : 0 ≤ (x20_2 : Int) := of_decide_eq_true (by first | (with_reducible assumption) | assumption)
                    have q112 : x20_2 < (l0_2.length : Int) := of_decide_eq_true (by first | (with_reducible assumption) | assumption)
                    obtain ⟨ad112, A112_1, c112_1, e112, hx112_0, hx112_1, hl112_1, hi112_1⟩ := at_T46 HR0_2.out x20_2 p112 q112
                    cases e112
                    replace hx112_0 := (HB.out.cell (World.block_lt_of_cell? w _ hx112_0)).trans hx112_0
                    replace hx112_1 := (HB.out.cell (World.block_lt_of_cell? w _ hx112_1)).trans hx112_1
                    have HR112_1 := Aside0.mk hi112_1
                    have HC112_1 := Aside0.mk hl112_1
                    clear hi112_1 hl112_1
                    replace p112 := eq_true p112
                    replace q112 := eq_true q112
                    go_wp2_with (first | ((with_reducible refine gate_dst (N := 4) rfl ?_); refine box_event ?hg (N := 4) ?hd (cs := #[.string (⟨#[]⟩ : ByteArray), .slice none 0 0]) (t := 46) ?hr ?_; (case hd => rfl); (case hg => rfl); (case hr => first | (go_simp; done) | (go_simp; rfl)); intro gb113 hg w16 hbox hb; have n0_ := Aside0.mk (blk_below (g := gb109) (o := .cells #[.string a0_0, .string a0_1, .slice (some ad112) l0_2.length c0_2] 24 (0, 0)) (by (with_reducible repeat (first | refine blk_drewN ?_ _ | refine blk_drew ?_ | refine blk_alloc ?_ _)); exact BK109.out) hb); have n1_ := Aside0.mk (below_step (by repeat (first | (with_reducible first | exact HB.out | apply below_alloc | apply pw_below_drewN | apply below_drew1 | refine below_set ?_ GE109.out) | exact HB.out)) hb); have n2_ := Aside0.mk (hbox); have n3_ := Aside0.mk ((by rw [hg]; exact (below_size (by repeat (first | (with_reducible first | exact HB.out | apply below_alloc | apply pw_below_drewN | apply below_drew1 | refine below_set ?_ GE109.out) | exact HB.out))) : w.heap.size ≤ gb113)); have n4_ := Aside0.mk ((by rw [hg]; exact (below_size (by repeat (first | (with_reducible first | exact HB.out | apply below_alloc | apply pw_below_drewN | apply below_drew1 | refine below_set ?_ GE109.out) | exact HB.out))) : w.heap.size ≤ gb113)); have n5_ := Aside0.mk ((by rw [hg]; exact Nat.ne_of_lt (blk_lt (g := gb109) (o := .cells #[.string a0_0, .string a0_1, .slice (some ad112) l0_2.length c0_2] 24 (0, 0)) (by (with_reducible repeat (first | refine blk_drewN ?_ _ | refine blk_drew ?_ | refine blk_alloc ?_ _)); exact BK109.out)) : gb109 ≠ gb113)); have n6_ := Aside0.mk ((by rw [hg]; exact Nat.ne_of_gt (blk_lt (g := gb109) (o := .cells #[.string a0_0, .string a0_1, .slice (some ad112) l0_2.length c0_2] 24 (0, 0)) (by (with_reducible repeat (first | refine blk_drewN ?_ _ | refine blk_drew ?_ | refine blk_alloc ?_ _)); exact BK109.out)) : gb113 ≠ gb109)); clear BK109; clear HB; have BK109 := n0_; have HB := n1_; have BK113 := n2_; have GW113 := n3_; have GE113 := n4_; have NB109_113 := n5_; have NB113_109 := n6_; clear n0_ n1_ n2_ n3_ n4_ n5_ n6_; clear hb hbox hg; have hnb17 := NB113_109.out; have hnc17 := NB109_113.out; have hcz18_0 : w16.cell? ⟨gb113, 0, none⟩ = some (.string (⟨#[]⟩ : ByteArray)) := (blk_cell BK113.out 0).trans rfl; have hcz18_1 : w16.cell? ⟨gb113, 1, none⟩ = some (.slice none 0 0) := (blk_cell BK113.out 1).trans rfl; have hfz18_0 := blk_frozen BK113.out 0; have hfz18_1 := blk_frozen BK113.out 1) | ((with_reducible refine gate_callee (f := 24) rfl ?_); refine goesL_ (some 26) rfl rfl Tryd.func24 (by kernel_rfl) rfl #[.string ((rd_T46 l0_2 x20_2).f0)] rfl (by (try simp only [List.map_toArray, List.map_cons, List.map_nil]); first | done | rfl | (simp only [List.length_drop, List.length_take]; rfl)) ?_; (with_reducible refine (name_Right.calls ((rd_T46 l0_2 x20_2).f0) true _ A14.out).mono ?_); rintro e w' ⟨rfl, ⟨nd, rfl⟩⟩; refine ⟨_, rfl, ?_⟩))
                    go_loopg [31] k2 (fun kq v31 w' => ∃ (x31_3 : Int), v31 = .int .i64 x31_3 ∧ Aside0 (sum_Right.l1 kq l0_2 (l0_2.length : Int) x20_2 ((rd_T46 l0_2 x20_2).f1) (((rd_T46 l0_2 x20_2).f1).length : Int) x31_3 = some r) ∧ Aside0 (kq ≤ k2) ∧ Aside0 (w'.heap[gb109]? = some (.cells #[.string a0_0, .string a0_1, (.slice (some ad112) l0_2.length c0_2)] 24 (0, 0))) ∧ Aside0 (w'.heap[gb113]? = some (.cells #[.string ((rd_T46 l0_2 x20_2).f0), (.slice A112_1 ((rd_T46 l0_2 x20_2).f1).length c112_1)] 46 (0, 0))) ∧ Aside0 (Below w.heap.size w w'))
                    case atStart => exact ⟨(0), (by first | rfl | (simp; done) | (simp [*]; done)), H', ⟨Nat.le_refl _⟩, ⟨by (with_reducible repeat (first | refine blk_drewN ?_ _ | refine blk_drew ?_ | refine blk_alloc ?_ _)); refine blk_far ?_ NB109_113.out _; (with_reducible repeat (first | refine blk_drewN ?_ _ | refine blk_drew ?_ | refine blk_alloc ?_ _)); refine blk_far ?_ NB109_113.out _; (with_reducible repeat (first | refine blk_drewN ?_ _ | refine blk_drew ?_ | refine blk_alloc ?_ _)); exact BK109.out⟩, ⟨by (with_reducible repeat (first | refine blk_drewN ?_ _ | refine blk_drew ?_ | refine blk_alloc ?_ _)); refine blk_put (cs := #[.string ((rd_T46 l0_2 x20_2).f0), .slice none 0 0]) ?_ 1 _ rfl; (with_reducible repeat (first | refine blk_drewN ?_ _ | refine blk_drew ?_ | refine blk_alloc ?_ _)); refine blk_put (cs := #[.string (⟨#[]⟩ : ByteArray), .slice none 0 0]) ?_ 0 _ rfl; (with_reducible repeat (first | refine blk_drewN ?_ _ | refine blk_drew ?_ | refine blk_alloc ?_ _)); exact BK113.out⟩, ⟨by repeat (first | (with_reducible first | exact HB.out | apply below_alloc | apply pw_below_drewN | apply below_drew1 | refine below_set ?_ GE109.out | refine below_set ?_ GE113.out) | exact HB.out)⟩⟩
                    case round =>
                      clear H'
                      try clear c1
                      try clear p1
                      try clear q1
                      try clear hx1
                      try clear c2
                      try clear p2
                      try clear c5
                      try clear c9
                      try clear c11
                      try clear c11b0
                      try clear p11
                      try clear q11
                      try clear hx11
                      try clear c12
                      try clear c12b0
                      try clear c13
                      try clear c13b0
                      try clear c14
                      try clear c15
                      try clear c17
                      try clear hcz10_0
                      try clear hcz10_1
                      try clear hcz10_2
                      try clear hcz18_0
                      try clear hcz18_1
                      try clear hcz7_0
                      try clear hcz7_1
                      try clear hcz7_2
                      try clear hcz8_0
                      try clear hcz8_1
                      try clear hcz8_2
                      try clear hfz10_0
                      try clear hfz10_1
                      try clear hfz10_2
                      try clear hfz18_0
                      try clear hfz18_1
                      try clear hfz7_0
                      try clear hfz7_1
                      try clear hfz7_2
                      try clear hfz8_0
                      try clear hfz8_1
                      try clear hfz8_2
                      try clear hx112_0
                      try clear hx112_1
                      try clear p112
                      try clear p2
                      try clear q112
                      obtain ⟨x31_3, rfl, HA, HK3, BK109, BK113, HB⟩ := hrel
                      cases gk with
                      | zero => exact absurd HA.out (by simp [sum_Right.l1])
                      | succ k3 =>
                        have H := HA.out
                        clear HA
                        simp only [sum_Right.l1] at H
                        by_cases c19 : x31_3 < (((rd_T46 l0_2 x20_2).f1).length : Int)
                        · rw [if_pos c19] at H
                          have c19b0 : decide (x31_3 < (((rd_T46 l0_2 x20_2).f1).length : Int)) = true := decide_eq_true c19
                          clear c19
                          by_cases c20 : 0 ≤ x31_3
                          · rw [if_pos c20] at H
                            have c20b0 : decide (0 ≤ x31_3) = true := decide_eq_true c20
                            clear c20
                            by_cases c21 : x31_3 < (((rd_T46 l0_2 x20_2).f1).length : Int)
                            · rw [if_pos c21] at H
                              have c21b0 : decide (x31_3 < (((rd_T46 l0_2 x20_2).f1).length : Int)) = true := decide_eq_true c21
                              clear c21
                              replace H := Option.bind_eq_some_iff.mp H
                              obtain ⟨t117, A220, H⟩ := H
                              replace H : (if t117 = true then ((trace_Text.f ((rd_T49 ((rd_T46 l0_2 x20_2).f1) x31_3).f1)).bind fun t118 => (if t118.toList = ([] : List UInt8) then (some false) else (sum_Right.l1 k3 l0_2 (l0_2.length : Int) x20_2 ((rd_T46 l0_2 x20_2).f1) (((rd_T46 l0_2 x20_2).f1).length : Int) (wrap64 (x31_3 + 1))))) else (some false)) = some r := H
                              have A22 := Aside0.mk A220
                              clear A220
                              by_cases c23 : t117 = true
                              · subst c23
                                have H1 : ((trace_Text.f ((rd_T49 ((rd_T46 l0_2 x20_2).f1) x31_3).f1)).bind fun t118 => (if t118.toList = ([] : List UInt8) then (some false) else (sum_Right.l1 k3 l0_2 (l0_2.length : Int) x20_2 ((rd_T46 l0_2 x20_2).f1) (((rd_T46 l0_2 x20_2).f1).length : Int) (wrap64 (x31_3 + 1))))) = some r := by rw [if_pos rfl] at H; exact H
                                clear H
                                have H := H1
                                clear H1
                                replace H := Option.bind_eq_some_iff.mp H
                                obtain ⟨t118, A240, H⟩ := H
                                replace H : (if t118.toList = ([] : List UInt8) then (some false) else (sum_Right.l1 k3 l0_2 (l0_2.length : Int) x20_2 ((rd_T46 l0_2 x20_2).f1) (((rd_T46 l0_2 x20_2).f1).length : Int) (wrap64 (x31_3 + 1)))) = some r := H
                                have A24 := Aside0.mk A240
                                clear A240
                                by_cases c25 : t118.toList = ([] : List UInt8)
                                · rw [if_pos c25] at H
                                  have c25b0 : (t118.toList == ([] : List UInt8)) = true := beq_iff_eq.mpr c25
                                  have c25b1 : (t118.toList != ([] : List UInt8)) = false := bne_eq_false_iff_eq.mpr c25
                                  clear c25
                                  obtain rfl := Option.some.inj H
                                  have p115 : 0 ≤ (x31_3 : Int) := of_decide_eq_true (by first | (with_reducible assumption) | assumption)
                                  have q115 : x31_3 < (((rd_T46 l0_2 x20_2).f1).length : Int) := of_decide_eq_true (by first | (with_reducible assumption) | assumption)
                                  obtain ⟨ad115, e115, hx115_0, hx115_1⟩ := at_T49 HR112_1.out x31_3 p115 q115
                                  cases e115
                                  replace hx115_0 := (HB.out.cell (World.block_lt_of_cell? w _ hx115_0)).trans hx115_0
                                  replace hx115_1 := (HB.out.cell (World.block_lt_of_cell? w _ hx115_1)).trans hx115_1
                                  replace p115 := eq_true p115
                                  replace q115 := eq_true q115
                                  go_wp2_with (first | ((with_reducible refine gate_dst (N := 6) rfl ?_); refine box_event ?hg (N := 6) ?hd (cs := #[.string (⟨#[]⟩ : ByteArray), .int .i64 0]) (t := 49) ?hr ?_; (case hd => rfl); (case hg => rfl); (case hr => first | (go_simp; done) | (go_simp; rfl)); intro gb116 hg w26 hbox hb; have n0_ := Aside0.mk (blk_below (g := gb109) (o := .cells #[.string a0_0, .string a0_1, .slice (some ad112) l0_2.length c0_2] 24 (0, 0)) (by (with_reducible repeat (first | refine blk_drewN ?_ _ | refine blk_drew ?_ | refine blk_alloc ?_ _)); exact BK109.out) hb); have n1_ := Aside0.mk (blk_below (g := gb113) (o := .cells #[.string ((rd_T46 l0_2 x20_2).f0), .slice (some ad115) ((rd_T46 l0_2 x20_2).f1).length c112_1] 46 (0, 0)) (by (with_reducible repeat (first | refine blk_drewN ?_ _ | refine blk_drew ?_ | refine blk_alloc ?_ _)); exact BK113.out) hb); have n2_ := Aside0.mk (below_step (by repeat (first | (with_reducible first | exact HB.out | apply below_alloc | apply pw_below_drewN | apply below_drew1 | refine below_set ?_ GE109.out | refine below_set ?_ GE113.out) | exact HB.out)) hb); have n3_ := Aside0.mk (hbox); have n4_ := Aside0.mk ((by rw [hg]; exact (below_size (by repeat (first | (with_reducible first | exact HB.out | apply below_alloc | apply pw_below_drewN | apply below_drew1 | refine below_set ?_ GE109.out | refine below_set ?_ GE113.out) | exact HB.out))) : w.heap.size ≤ gb116)); have n5_ := Aside0.mk ((by rw [hg]; exact (below_size (by repeat (first | (with_reducible first | exact HB.out | apply below_alloc | apply pw_below_drewN | apply below_drew1 | refine below_set ?_ GE109.out | refine below_set ?_ GE113.out) | exact HB.out))) : w.heap.size ≤ gb116)); have n6_ := Aside0.mk ((by rw [hg]; exact Nat.ne_of_lt (blk_lt (g := gb109) (o := .cells #[.string a0_0, .string a0_1, .slice (some ad112) l0_2.length c0_2] 24 (0, 0)) (by (with_reducible repeat (first | refine blk_drewN ?_ _ | refine blk_drew ?_ | refine blk_alloc ?_ _)); exact BK109.out)) : gb109 ≠ gb116)); have n7_ := Aside0.mk ((by rw [hg]; exact Nat.ne_of_gt (blk_lt (g := gb109) (o := .cells #[.string a0_0, .string a0_1, .slice (some ad112) l0_2.length c0_2] 24 (0, 0)) (by (with_reducible repeat (first | refine blk_drewN ?_ _ | refine blk_drew ?_ | refine blk_alloc ?_ _)); exact BK109.out)) : gb116 ≠ gb109)); have n8_ := Aside0.mk ((by rw [hg]; exact Nat.ne_of_lt (blk_lt (g := gb113) (o := .cells #[.string ((rd_T46 l0_2 x20_2).f0), .slice (some ad115) ((rd_T46 l0_2 x20_2).f1).length c112_1] 46 (0, 0)) (by (with_reducible repeat (first | refine blk_drewN ?_ _ | refine blk_drew ?_ | refine blk_alloc ?_ _)); exact BK113.out)) : gb113 ≠ gb116)); have n9_ := Aside0.mk ((by rw [hg]; exact Nat.ne_of_gt (blk_lt (g := gb113) (o := .cells #[.string ((rd_T46 l0_2 x20_2).f0), .slice (some ad115) ((rd_T46 l0_2 x20_2).f1).length c112_1] 46 (0, 0)) (by (with_reducible repeat (first | refine blk_drewN ?_ _ | refine blk_drew ?_ | refine blk_alloc ?_ _)); exact BK113.out)) : gb116 ≠ gb113)); clear BK109; clear BK113; clear HB; have BK109 := n0_; have BK113 := n1_; have HB := n2_; have BK116 := n3_; have GW116 := n4_; have GE116 := n5_; have NB109_116 := n6_; have NB116_109 := n7_; have NB113_116 := n8_; have NB116_113 := n9_; clear n0_ n1_ n2_ n3_ n4_ n5_ n6_ n7_ n8_ n9_; clear hb hbox hg; have hnb27 := NB116_109.out; have hnc27 := NB109_116.out; have hnb28 := NB116_113.out; have hnc28 := NB113_116.out; have hcz29_0 : w26.cell? ⟨gb116, 0, none⟩ = some (.string (⟨#[]⟩ : ByteArray)) := (blk_cell BK116.out 0).trans rfl; have hcz29_1 : w26.cell? ⟨gb116, 1, none⟩ = some (.int .i64 0) := (blk_cell BK116.out 1).trans rfl; have hfz29_0 := blk_frozen BK116.out 0; have hfz29_1 := blk_frozen BK116.out 1) | ((with_reducible refine gate_callee (f := 24) rfl ?_); refine goesL_ (some 37) rfl rfl Tryd.func24 (by kernel_rfl) rfl #[.string ((rd_T49 ((rd_T46 l0_2 x20_2).f1) x31_3).f0)] rfl (by (try simp only [List.map_toArray, List.map_cons, List.map_nil]); first | done | rfl | (simp only [List.length_drop, List.length_take]; rfl)) ?_; (with_reducible refine (name_Right.calls ((rd_T49 ((rd_T46 l0_2 x20_2).f1) x31_3).f0) true _ A22.out).mono ?_); rintro e w' ⟨rfl, ⟨nd, rfl⟩⟩; refine ⟨_, rfl, ?_⟩) | (go_at_call 25; (with_reducible refine (trace_Text.calls ((rd_T49 ((rd_T46 l0_2 x20_2).f1) x31_3).f1) t118 _ A24.out).mono ?_); rintro e w30 ⟨rfl, hb⟩; have n0_ := Aside0.mk (blk_below (g := gb109) (o := .cells #[.string a0_0, .string a0_1, .slice (some ad112) l0_2.length c0_2] 24 (0, 0)) (by (with_reducible repeat (first | refine blk_drewN ?_ _ | refine blk_drew ?_ | refine blk_alloc ?_ _)); refine blk_far ?_ NB109_116.out _; (with_reducible repeat (first | refine blk_drewN ?_ _ | refine blk_drew ?_ | refine blk_alloc ?_ _)); refine blk_far ?_ NB109_116.out _; (with_reducible repeat (first | refine blk_drewN ?_ _ | refine blk_drew ?_ | refine blk_alloc ?_ _)); exact BK109.out) hb); have n1_ := Aside0.mk (blk_below (g := gb113) (o := .cells #[.string ((rd_T46 l0_2 x20_2).f0), .slice (some ad115) ((rd_T46 l0_2 x20_2).f1).length c112_1] 46 (0, 0)) (by (with_reducible repeat (first | refine blk_drewN ?_ _ | refine blk_drew ?_ | refine blk_alloc ?_ _)); refine blk_far ?_ NB113_116.out _; (with_reducible repeat (first | refine blk_drewN ?_ _ | refine blk_drew ?_ | refine blk_alloc ?_ _)); refine blk_far ?_ NB113_116.out _; (with_reducible repeat (first | refine blk_drewN ?_ _ | refine blk_drew ?_ | refine blk_alloc ?_ _)); exact BK113.out) hb); have n2_ := Aside0.mk (blk_below (g := gb116) (o := .cells #[.string ((rd_T49 ((rd_T46 l0_2 x20_2).f1) x31_3).f0), .int .i64 ((rd_T49 ((rd_T46 l0_2 x20_2).f1) x31_3).f1)] 49 (0, 0)) (by (with_reducible repeat (first | refine blk_drewN ?_ _ | refine blk_drew ?_ | refine blk_alloc ?_ _)); refine blk_put (cs := #[.string ((rd_T49 ((rd_T46 l0_2 x20_2).f1) x31_3).f0), .int .i64 0]) ?_ 1 _ rfl; (with_reducible repeat (first | refine blk_drewN ?_ _ | refine blk_drew ?_ | refine blk_alloc ?_ _)); refine blk_put (cs := #[.string (⟨#[]⟩ : ByteArray), .int .i64 0]) ?_ 0 _ rfl; (with_reducible repeat (first | refine blk_drewN ?_ _ | refine blk_drew ?_ | refine blk_alloc ?_ _)); exact BK116.out) hb); have n3_ := Aside0.mk (below_step (by repeat (first | (with_reducible first | exact HB.out | apply below_alloc | apply pw_below_drewN | apply below_drew1 | refine below_set ?_ GE109.out | refine below_set ?_ GE113.out | refine below_set ?_ GE116.out) | exact HB.out)) hb); clear BK109; clear BK113; clear BK116; clear HB; have BK109 := n0_; have BK113 := n1_; have BK116 := n2_; have HB := n3_; clear n0_ n1_ n2_ n3_; (try clear hb); (try clear hb2); (try clear hk); (try clear hi)))
                                  go_ret
                                  exact ⟨by first | rfl | (simp [errW_none, errW_some] <;> rfl) | (simp [*, errW_none, errW_some] <;> rfl), by repeat (first | (with_reducible first | exact HB.out | apply below_alloc | apply pw_below_drewN | apply below_drew1 | refine below_set ?_ GE109.out | refine below_set ?_ GE113.out | refine below_set ?_ GE116.out) | exact HB.out)⟩
                                · rw [if_neg c25] at H
                                  have c25b0 : (t118.toList == ([] : List UInt8)) = false := beq_eq_false_iff_ne.mpr c25
                                  have c25b1 : (t118.toList != ([] : List UInt8)) = true := bne_iff_ne.mpr c25
                                  have H' := Aside0.mk H
                                  clear H
                                  have p115 : 0 ≤ (x31_3 : Int) := of_decide_eq_true (by first | (with_reducible assumption) | assumption)
                                  have q115 : x31_3 < (((rd_T46 l0_2 x20_2).f1).length : Int) := of_decide_eq_true (by first | (with_reducible assumption) | assumption)
                                  obtain ⟨ad115, e115, hx115_0, hx115_1⟩ := at_T49 HR112_1.out x31_3 p115 q115
                                  cases e115
                                  replace hx115_0 := (HB.out.cell (World.block_lt_of_cell? w _ hx115_0)).trans hx115_0
                                  replace hx115_1 := (HB.out.cell (World.block_lt_of_cell? w _ hx115_1)).trans hx115_1
                                  replace p115 := eq_true p115
                                  replace q115 := eq_true q115
                                  go_wp2_with (first | ((with_reducible refine gate_dst (N := 6) rfl ?_); refine box_event ?hg (N := 6) ?hd (cs := #[.string (⟨#[]⟩ : ByteArray), .int .i64 0]) (t := 49) ?hr ?_; (case hd => rfl); (case hg => rfl); (case hr => first | (go_simp; done) | (go_simp; rfl)); intro gb116 hg w31 hbox hb; have n0_ := Aside0.mk (blk_below (g := gb109) (o := .cells #[.string a0_0, .string a0_1, .slice (some ad112) l0_2.length c0_2] 24 (0, 0)) (by (with_reducible repeat (first | refine blk_drewN ?_ _ | refine blk_drew ?_ | refine blk_alloc ?_ _)); exact BK109.out) hb); have n1_ := Aside0.mk (blk_below (g := gb113) (o := .cells #[.string ((rd_T46 l0_2 x20_2).f0), .slice (some ad115) ((rd_T46 l0_2 x20_2).f1).length c112_1] 46 (0, 0)) (by (with_reducible repeat (first | refine blk_drewN ?_ _ | refine blk_drew ?_ | refine blk_alloc ?_ _)); exact BK113.out) hb); have n2_ := Aside0.mk (below_step (by repeat (first | (with_reducible first | exact HB.out | apply below_alloc | apply pw_below_drewN | apply below_drew1 | refine below_set ?_ GE109.out | refine below_set ?_ GE113.out) | exact HB.out)) hb); have n3_ := Aside0.mk (hbox); have n4_ := Aside0.mk ((by rw [hg]; exact (below_size (by repeat (first | (with_reducible first | exact HB.out | apply below_alloc | apply pw_below_drewN | apply below_drew1 | refine below_set ?_ GE109.out | refine below_set ?_ GE113.out) | exact HB.out))) : w.heap.size ≤ gb116)); have n5_ := Aside0.mk ((by rw [hg]; exact (below_size (by repeat (first | (with_reducible first | exact HB.out | apply below_alloc | apply pw_below_drewN | apply below_drew1 | refine below_set ?_ GE109.out | refine below_set ?_ GE113.out) | exact HB.out))) : w.heap.size ≤ gb116)); have n6_ := Aside0.mk ((by rw [hg]; exact Nat.ne_of_lt (blk_lt (g := gb109) (o := .cells #[.string a0_0, .string a0_1, .slice (some ad112) l0_2.length c0_2] 24 (0, 0)) (by (with_reducible repeat (first | refine blk_drewN ?_ _ | refine blk_drew ?_ | refine blk_alloc ?_ _)); exact BK109.out)) : gb109 ≠ gb116)); have n7_ := Aside0.mk ((by rw [hg]; exact Nat.ne_of_gt (blk_lt (g := gb109) (o := .cells #[.string a0_0, .string a0_1, .slice (some ad112) l0_2.length c0_2] 24 (0, 0)) (by (with_reducible repeat (first | refine blk_drewN ?_ _ | refine blk_drew ?_ | refine blk_alloc ?_ _)); exact BK109.out)) : gb116 ≠ gb109)); have n8_ := Aside0.mk ((by rw [hg]; exact Nat.ne_of_lt (blk_lt (g := gb113) (o := .cells #[.string ((rd_T46 l0_2 x20_2).f0), .slice (some ad115) ((rd_T46 l0_2 x20_2).f1).length c112_1] 46 (0, 0)) (by (with_reducible repeat (first | refine blk_drewN ?_ _ | refine blk_drew ?_ | refine blk_alloc ?_ _)); exact BK113.out)) : gb113 ≠ gb116)); have n9_ := Aside0.mk ((by rw [hg]; exact Nat.ne_of_gt (blk_lt (g := gb113) (o := .cells #[.string ((rd_T46 l0_2 x20_2).f0), .slice (some ad115) ((rd_T46 l0_2 x20_2).f1).length c112_1] 46 (0, 0)) (by (with_reducible repeat (first | refine blk_drewN ?_ _ | refine blk_drew ?_ | refine blk_alloc ?_ _)); exact BK113.out)) : gb116 ≠ gb113)); clear BK109; clear BK113; clear HB; have BK109 := n0_; have BK113 := n1_; have HB := n2_; have BK116 := n3_; have GW116 := n4_; have GE116 := n5_; have NB109_116 := n6_; have NB116_109 := n7_; have NB113_116 := n8_; have NB116_113 := n9_; clear n0_ n1_ n2_ n3_ n4_ n5_ n6_ n7_ n8_ n9_; clear hb hbox hg; have hnb32 := NB116_109.out; have hnc32 := NB109_116.out; have hnb33 := NB116_113.out; have hnc33 := NB113_116.out; have hcz34_0 : w31.cell? ⟨gb116, 0, none⟩ = some (.string (⟨#[]⟩ : ByteArray)) := (blk_cell BK116.out 0).trans rfl; have hcz34_1 : w31.cell? ⟨gb116, 1, none⟩ = some (.int .i64 0) := (blk_cell BK116.out 1).trans rfl; have hfz34_0 := blk_frozen BK116.out 0; have hfz34_1 := blk_frozen BK116.out 1) | ((with_reducible refine gate_callee (f := 24) rfl ?_); refine goesL_ (some 37) rfl rfl Tryd.func24 (by kernel_rfl) rfl #[.string ((rd_T49 ((rd_T46 l0_2 x20_2).f1) x31_3).f0)] rfl (by (try simp only [List.map_toArray, List.map_cons, List.map_nil]); first | done | rfl | (simp only [List.length_drop, List.length_take]; rfl)) ?_; (with_reducible refine (name_Right.calls ((rd_T49 ((rd_T46 l0_2 x20_2).f1) x31_3).f0) true _ A22.out).mono ?_); rintro e w' ⟨rfl, ⟨nd, rfl⟩⟩; refine ⟨_, rfl, ?_⟩) | (go_at_call 25; (with_reducible refine (trace_Text.calls ((rd_T49 ((rd_T46 l0_2 x20_2).f1) x31_3).f1) t118 _ A24.out).mono ?_); rintro e w35 ⟨rfl, hb⟩; have n0_ := Aside0.mk (blk_below (g := gb109) (o := .cells #[.string a0_0, .string a0_1, .slice (some ad112) l0_2.length c0_2] 24 (0, 0)) (by (with_reducible repeat (first | refine blk_drewN ?_ _ | refine blk_drew ?_ | refine blk_alloc ?_ _)); refine blk_far ?_ NB109_116.out _; (with_reducible repeat (first | refine blk_drewN ?_ _ | refine blk_drew ?_ | refine blk_alloc ?_ _)); refine blk_far ?_ NB109_116.out _; (with_reducible repeat (first | refine blk_drewN ?_ _ | refine blk_drew ?_ | refine blk_alloc ?_ _)); exact BK109.out) hb); have n1_ := Aside0.mk (blk_below (g := gb113) (o := .cells #[.string ((rd_T46 l0_2 x20_2).f0), .slice (some ad115) ((rd_T46 l0_2 x20_2).f1).length c112_1] 46 (0, 0)) (by (with_reducible repeat (first | refine blk_drewN ?_ _ | refine blk_drew ?_ | refine blk_alloc ?_ _)); refine blk_far ?_ NB113_116.out _; (with_reducible repeat (first | refine blk_drewN ?_ _ | refine blk_drew ?_ | refine blk_alloc ?_ _)); refine blk_far ?_ NB113_116.out _; (with_reducible repeat (first | refine blk_drewN ?_ _ | refine blk_drew ?_ | refine blk_alloc ?_ _)); exact BK113.out) hb); have n2_ := Aside0.mk (blk_below (g := gb116) (o := .cells #[.string ((rd_T49 ((rd_T46 l0_2 x20_2).f1) x31_3).f0), .int .i64 ((rd_T49 ((rd_T46 l0_2 x20_2).f1) x31_3).f1)] 49 (0, 0)) (by (with_reducible repeat (first | refine blk_drewN ?_ _ | refine blk_drew ?_ | refine blk_alloc ?_ _)); refine blk_put (cs := #[.string ((rd_T49 ((rd_T46 l0_2 x20_2).f1) x31_3).f0), .int .i64 0]) ?_ 1 _ rfl; (with_reducible repeat (first | refine blk_drewN ?_ _ | refine blk_drew ?_ | refine blk_alloc ?_ _)); refine blk_put (cs := #[.string (⟨#[]⟩ : ByteArray), .int .i64 0]) ?_ 0 _ rfl; (with_reducible repeat (first | refine blk_drewN ?_ _ | refine blk_drew ?_ | refine blk_alloc ?_ _)); exact BK116.out) hb); have n3_ := Aside0.mk (below_step (by repeat (first | (with_reducible first | exact HB.out | apply below_alloc | apply pw_below_drewN | apply below_drew1 | refine below_set ?_ GE109.out | refine below_set ?_ GE113.out | refine below_set ?_ GE116.out) | exact HB.out)) hb); clear BK109; clear BK113; clear BK116; clear HB; have BK109 := n0_; have BK113 := n1_; have BK116 := n2_; have HB := n3_; clear n0_ n1_ n2_ n3_; (try clear hb); (try clear hb2); (try clear hk); (try clear hi)))
                                  go_roundg k3
                                  case measure => have := HJ1.out; have := HK2.out; have := HK3.out; omega
                                  case rel => exact ⟨(wrap64 (x31_3 + 1)), (by first | rfl | (simp; done) | (simp [*]; done)), H', ⟨by have := HJ1.out; have := HK2.out; have := HK3.out; omega⟩, ⟨by (with_reducible repeat (first | refine blk_drewN ?_ _ | refine blk_drew ?_ | refine blk_alloc ?_ _)); exact BK109.out⟩, ⟨by (with_reducible repeat (first | refine blk_drewN ?_ _ | refine blk_drew ?_ | refine blk_alloc ?_ _)); exact BK113.out⟩, ⟨by repeat (first | (with_reducible first | exact HB.out | apply below_alloc | apply pw_below_drewN | apply below_drew1 | refine below_set ?_ GE109.out | refine below_set ?_ GE113.out | refine below_set ?_ GE116.out) | exact HB.out)⟩⟩
                              · replace c23 := Bool.eq_false_iff.mpr c23
                                subst c23
                                have H1 : (some false) = some r := by rw [if_neg (show ¬ (false = true) by decide)] at H; exact H
                                clear H
                                have H := H1
                                clear H1
                                obtain rfl := Option.some.inj H
                                have p115 : 0 ≤ (x31_3 : Int) := of_decide_eq_true (by first | (with_reducible assumption) | assumption)
                                have q115 : x31_3 < (((rd_T46 l0_2 x20_2).f1).length : Int) := of_decide_eq_true (by first | (with_reducible assumption) | assumption)
                                obtain ⟨ad115, e115, hx115_0, hx115_1⟩ := at_T49 HR112_1.out x31_3 p115 q115
                                cases e115
                                replace hx115_0 := (HB.out.cell (World.block_lt_of_cell? w _ hx115_0)).trans hx115_0
                                replace hx115_1 := (HB.out.cell (World.block_lt_of_cell? w _ hx115_1)).trans hx115_1
                                replace p115 := eq_true p115
                                replace q115 := eq_true q115
                                go_wp2_with (first | ((with_reducible refine gate_dst (N := 6) rfl ?_); refine box_event ?hg (N := 6) ?hd (cs := #[.string (⟨#[]⟩ : ByteArray), .int .i64 0]) (t := 49) ?hr ?_; (case hd => rfl); (case hg => rfl); (case hr => first | (go_simp; done) | (go_simp; rfl)); intro gb116 hg w36 hbox hb; have n0_ := Aside0.mk (blk_below (g := gb109) (o := .cells #[.string a0_0, .string a0_1, .slice (some ad112) l0_2.length c0_2] 24 (0, 0)) (by (with_reducible repeat (first | refine blk_drewN ?_ _ | refine blk_drew ?_ | refine blk_alloc ?_ _)); exact BK109.out) hb); have n1_ := Aside0.mk (blk_below (g := gb113) (o := .cells #[.string ((rd_T46 l0_2 x20_2).f0), .slice (some ad115) ((rd_T46 l0_2 x20_2).f1).length c112_1] 46 (0, 0)) (by (with_reducible repeat (first | refine blk_drewN ?_ _ | refine blk_drew ?_ | refine blk_alloc ?_ _)); exact BK113.out) hb); have n2_ := Aside0.mk (below_step (by repeat (first | (with_reducible first | exact HB.out | apply below_alloc | apply pw_below_drewN | apply below_drew1 | refine below_set ?_ GE109.out | refine below_set ?_ GE113.out) | exact HB.out)) hb); have n3_ := Aside0.mk (hbox); have n4_ := Aside0.mk ((by rw [hg]; exact (below_size (by repeat (first | (with_reducible first | exact HB.out | apply below_alloc | apply pw_below_drewN | apply below_drew1 | refine below_set ?_ GE109.out | refine below_set ?_ GE113.out) | exact HB.out))) : w.heap.size ≤ gb116)); have n5_ := Aside0.mk ((by rw [hg]; exact (below_size (by repeat (first | (with_reducible first | exact HB.out | apply below_alloc | apply pw_below_drewN | apply below_drew1 | refine below_set ?_ GE109.out | refine below_set ?_ GE113.out) | exact HB.out))) : w.heap.size ≤ gb116)); have n6_ := Aside0.mk ((by rw [hg]; exact Nat.ne_of_lt (blk_lt (g := gb109) (o := .cells #[.string a0_0, .string a0_1, .slice (some ad112) l0_2.length c0_2] 24 (0, 0)) (by (with_reducible repeat (first | refine blk_drewN ?_ _ | refine blk_drew ?_ | refine blk_alloc ?_ _)); exact BK109.out)) : gb109 ≠ gb116)); have n7_ := Aside0.mk ((by rw [hg]; exact Nat.ne_of_gt (blk_lt (g := gb109) (o := .cells #[.string a0_0, .string a0_1, .slice (some ad112) l0_2.length c0_2] 24 (0, 0)) (by (with_reducible repeat (first | refine blk_drewN ?_ _ | refine blk_drew ?_ | refine blk_alloc ?_ _)); exact BK109.out)) : gb116 ≠ gb109)); have n8_ := Aside0.mk ((by rw [hg]; exact Nat.ne_of_lt (blk_lt (g := gb113) (o := .cells #[.string ((rd_T46 l0_2 x20_2).f0), .slice (some ad115) ((rd_T46 l0_2 x20_2).f1).length c112_1] 46 (0, 0)) (by (with_reducible repeat (first | refine blk_drewN ?_ _ | refine blk_drew ?_ | refine blk_alloc ?_ _)); exact BK113.out)) : gb113 ≠ gb116)); have n9_ := Aside0.mk ((by rw [hg]; exact Nat.ne_of_gt (blk_lt (g := gb113) (o := .cells #[.string ((rd_T46 l0_2 x20_2).f0), .slice (some ad115) ((rd_T46 l0_2 x20_2).f1).length c112_1] 46 (0, 0)) (by (with_reducible repeat (first | refine blk_drewN ?_ _ | refine blk_drew ?_ | refine blk_alloc ?_ _)); exact BK113.out)) : gb116 ≠ gb113)); clear BK109; clear BK113; clear HB; have BK109 := n0_; have BK113 := n1_; have HB := n2_; have BK116 := n3_; have GW116 := n4_; have GE116 := n5_; have NB109_116 := n6_; have NB116_109 := n7_; have NB113_116 := n8_; have NB116_113 := n9_; clear n0_ n1_ n2_ n3_ n4_ n5_ n6_ n7_ n8_ n9_; clear hb hbox hg; have hnb37 := NB116_109.out; have hnc37 := NB109_116.out; have hnb38 := NB116_113.out; have hnc38 := NB113_116.out; have hcz39_0 : w36.cell? ⟨gb116, 0, none⟩ = some (.string (⟨#[]⟩ : ByteArray)) := (blk_cell BK116.out 0).trans rfl; have hcz39_1 : w36.cell? ⟨gb116, 1, none⟩ = some (.int .i64 0) := (blk_cell BK116.out 1).trans rfl; have hfz39_0 := blk_frozen BK116.out 0; have hfz39_1 := blk_frozen BK116.out 1) | ((with_reducible refine gate_callee (f := 24) rfl ?_); refine goesL_ (some 37) rfl rfl Tryd.func24 (by kernel_rfl) rfl #[.string ((rd_T49 ((rd_T46 l0_2 x20_2).f1) x31_3).f0)] rfl (by (try simp only [List.map_toArray, List.map_cons, List.map_nil]); first | done | rfl | (simp only [List.length_drop, List.length_take]; rfl)) ?_; (with_reducible refine (name_Right.calls ((rd_T49 ((rd_T46 l0_2 x20_2).f1) x31_3).f0) false _ A22.out).mono ?_); rintro e w' ⟨rfl, ⟨nd, rfl⟩⟩; refine ⟨_, rfl, ?_⟩))
                                go_ret
                                exact ⟨by first | rfl | (simp [errW_none, errW_some] <;> rfl) | (simp [*, errW_none, errW_some] <;> rfl), by repeat (first | (with_reducible first | exact HB.out | apply below_alloc | apply pw_below_drewN | apply below_drew1 | refine below_set ?_ GE109.out | refine below_set ?_ GE113.out | refine below_set ?_ GE116.out) | exact HB.out)⟩
                            · rw [if_neg c21] at H
                              exact absurd H (by simp)
                          · rw [if_neg c20] at H
                            exact absurd H (by simp)
                        · rw [if_neg c19] at H
                          have c19b0 : decide (x31_3 < (((rd_T46 l0_2 x20_2).f1).length : Int)) = false := decide_eq_false c19
                          clear c19
                          have H' := Aside0.mk H
                          clear H
                          go_wp2
                          go_roundg k3
                          case measure => have := HJ1.out; have := HK2.out; have := HK3.out; omega
                          case rel => exact ⟨(wrap64 (x20_2 + 1)), (by first | rfl | (simp; done) | (simp [*]; done)), H', ⟨by have := HJ1.out; have := HK2.out; have := HK3.out; omega⟩, ⟨by (with_reducible repeat (first | refine blk_drewN ?_ _ | refine blk_drew ?_ | refine blk_alloc ?_ _)); exact BK109.out⟩, ⟨by repeat (first | (with_reducible first | exact HB.out | apply below_alloc | apply pw_below_drewN | apply below_drew1 | refine below_set ?_ GE109.out | refine below_set ?_ GE113.out) | exact HB.out)⟩⟩
                  · replace c15 := Bool.eq_false_iff.mpr c15
                    subst c15
                    have H1 : (some false) = some r := by rw [if_neg (show ¬ (false = true) by decide)] at H; exact H
                    clear H
                    have H := H1
                    clear H1
                    obtain rfl := Option.some.inj H
                    have p112 : 0 ≤ (x20_2 : Int) := of_decide_eq_true (by first | (with_reducible assumption) | assumption)
                    have q112 : x20_2 < (l0_2.length : Int) := of_decide_eq_true (by first | (with_reducible assumption) | assumption)
                    obtain ⟨ad112, A112_1, c112_1, e112, hx112_0, hx112_1, hl112_1, hi112_1⟩ := at_T46 HR0_2.out x20_2 p112 q112
                    cases e112
                    replace hx112_0 := (HB.out.cell (World.block_lt_of_cell? w _ hx112_0)).trans hx112_0
                    replace hx112_1 := (HB.out.cell (World.block_lt_of_cell? w _ hx112_1)).trans hx112_1
                    have HR112_1 := Aside0.mk hi112_1
                    have HC112_1 := Aside0.mk hl112_1
                    clear hi112_1 hl112_1
                    replace p112 := eq_true p112
                    replace q112 := eq_true q112
                    go_wp2_with (first | ((with_reducible refine gate_dst (N := 4) rfl ?_); refine box_event ?hg (N := 4) ?hd (cs := #[.string (⟨#[]⟩ : ByteArray), .slice none 0 0]) (t := 46) ?hr ?_; (case hd => rfl); (case hg => rfl); (case hr => first | (go_simp; done) | (go_simp; rfl)); intro gb113 hg w40 hbox hb; have n0_ := Aside0.mk (blk_below (g := gb109) (o := .cells #[.string a0_0, .string a0_1, .slice (some ad112) l0_2.length c0_2] 24 (0, 0)) (by (with_reducible repeat (first | refine blk_drewN ?_ _ | refine blk_drew ?_ | refine blk_alloc ?_ _)); exact BK109.out) hb); have n1_ := Aside0.mk (below_step (by repeat (first | (with_reducible first | exact HB.out | apply below_alloc | apply pw_below_drewN | apply below_drew1 | refine below_set ?_ GE109.out) | exact HB.out)) hb); have n2_ := Aside0.mk (hbox); have n3_ := Aside0.mk ((by rw [hg]; exact (below_size (by repeat (first | (with_reducible first | exact HB.out | apply below_alloc | apply pw_below_drewN | apply below_drew1 | refine below_set ?_ GE109.out) | exact HB.out))) : w.heap.size ≤ gb113)); have n4_ := Aside0.mk ((by rw [hg]; exact (below_size (by repeat (first | (with_reducible first | exact HB.out | apply below_alloc | apply pw_below_drewN | apply below_drew1 | refine below_set ?_ GE109.out) | exact HB.out))) : w.heap.size ≤ gb113)); have n5_ := Aside0.mk ((by rw [hg]; exact Nat.ne_of_lt (blk_lt (g := gb109) (o := .cells #[.string a0_0, .string a0_1, .slice (some ad112) l0_2.length c0_2] 24 (0, 0)) (by (with_reducible repeat (first | refine blk_drewN ?_ _ | refine blk_drew ?_ | refine blk_alloc ?_ _)); exact BK109.out)) : gb109 ≠ gb113)); have n6_ := Aside0.mk ((by rw [hg]; exact Nat.ne_of_gt (blk_lt (g := gb109) (o := .cells #[.string a0_0, .string a0_1, .slice (some ad112) l0_2.length c0_2] 24 (0, 0)) (by (with_reducible repeat (first | refine blk_drewN ?_ _ | refine blk_drew ?_ | refine blk_alloc ?_ _)); exact BK109.out)) : gb113 ≠ gb109)); clear BK109; clear HB; have BK109 := n0_; have HB := n1_; have BK113 := n2_; have GW113 := n3_; have GE113 := n4_; have NB109_113 := n5_; have NB113_109 := n6_; clear n0_ n1_ n2_ n3_ n4_ n5_ n6_; clear hb hbox hg; have hnb41 := NB113_109.out; have hnc41 := NB109_113.out; have hcz42_0 : w40.cell? ⟨gb113, 0, none⟩ = some (.string (⟨#[]⟩ : ByteArray)) := (blk_cell BK113.out 0).trans rfl; have hcz42_1 : w40.cell? ⟨gb113, 1, none⟩ = some (.slice none 0 0) := (blk_cell BK113.out 1).trans rfl; have hfz42_0 := blk_frozen BK113.out 0; have hfz42_1 := blk_frozen BK113.out 1) | ((with_reducible refine gate_callee (f := 24) rfl ?_); refine goesL_ (some 26) rfl rfl Tryd.func24 (by kernel_rfl) rfl #[.string ((rd_T46 l0_2 x20_2).f0)] rfl (by (try simp only [List.map_toArray, List.map_cons, List.map_nil]); first | done | rfl | (simp only [List.length_drop, List.length_take]; rfl)) ?_; (with_reducible refine (name_Right.calls ((rd_T46 l0_2 x20_2).f0) false _ A14.out).mono ?_); rintro e w' ⟨rfl, ⟨nd, rfl⟩⟩; refine ⟨_, rfl, ?_⟩))
                    go_ret
                    exact ⟨by first | rfl | (simp [errW_none, errW_some] <;> rfl) | (simp [*, errW_none, errW_some] <;> rfl), by repeat (first | (with_reducible first | exact HB.out | apply below_alloc | apply pw_below_drewN | apply below_drew1 | refine below_set ?_ GE109.out | refine below_set ?_ GE113.out) | exact HB.out)⟩
                · rw [if_neg c13] at H
                  exact absurd H (by simp)
              · rw [if_neg c12] at H
                exact absurd H (by simp)
            · rw [if_neg c11] at H
              have c11b0 : decide (x20_2 < (l0_2.length : Int)) = false := decide_eq_false c11
              clear c11
              obtain rfl := Option.some.inj H
              go_wp2
              go_ret
              exact ⟨by first | rfl | (simp [errW_none, errW_some] <;> rfl) | (simp [*, errW_none, errW_some] <;> rfl), by repeat (first | (with_reducible first | exact HB.out | apply below_alloc | apply pw_below_drewN | apply below_drew1 | refine below_set ?_ GE109.out) | exact HB.out)⟩
end
section
attribute [local go_sem] max2_int min2_int max_two min_two max_three min_three max_four min_four   -- for this text's walks alone
def colloquylaw20_few.l0 : Nat → Int → Int → ByteArray → ByteArray → List (S46) → Option (Bool)
  | 0, _, _, _, _, _ => none
  | k + 1, x3, x4, x208000, x208001, x208002 => if x4 < (x208002.length : Int) then (if x3 ≤ 2000 then (if 0 ≤ x4 then (colloquylaw20_few.l0 k (wrap64 (x3 + (((rd_T46 x208002 x4).f1).length : Int))) (wrap64 (x4 + 1)) x208000 x208001 x208002) else (none)) else (some (decide (x3 ≤ 2000)))) else (some (decide (x3 ≤ 2000)))
def colloquylaw20_few.f (k : Nat) (a0_0 : ByteArray) (a0_1 : ByteArray) (l0_2 : List (S46)) : Option (Bool) := colloquylaw20_few.l0 k (l0_2.length : Int) 0 a0_0 a0_1 l0_2
theorem colloquylaw20_few.mono_l : ∀ k, (∀ y0 y1 y2 y3 y4, LeO (colloquylaw20_few.l0 k y0 y1 y2 y3 y4) (colloquylaw20_few.l0 (k + 1) y0 y1 y2 y3 y4))
  | 0 => fun _ _ _ _ _ r h => by simp [colloquylaw20_few.l0] at h
  | k + 1 => by
    have ih0 := colloquylaw20_few.mono_l k
    · intro y0 y1 y2 y3 y4
      unfold colloquylaw20_few.l0
      repeat' first
      | (with_reducible exact ih0 _ _ _ _ _)
      | (with_reducible exact LeO.refl _)
      | (with_reducible exact LeO.none _)
      | (with_reducible refine LeO.ite ?_ ?_)
      | (with_reducible refine LeO.bind ?_ (fun _ => ?_))
      | exact ih0 _ _ _ _ _
      | exact LeO.none _
      | refine LeO.ite ?_ ?_
      | refine LeO.bind ?_ (fun _ => ?_)
theorem colloquylaw20_few.mono : ∀ a0 a1 a2 k, LeO (colloquylaw20_few.f k a0 a1 a2) (colloquylaw20_few.f (k + 1) a0 a1 a2) := by
  intro a0 a1 a2 k
  have ih0 := colloquylaw20_few.mono_l k
  unfold colloquylaw20_few.f
  repeat' first
      | (with_reducible exact ih0 _ _ _ _ _)
      | (with_reducible exact LeO.refl _)
      | (with_reducible exact LeO.none _)
      | (with_reducible refine LeO.ite ?_ ?_)
      | (with_reducible refine LeO.bind ?_ (fun _ => ?_))
      | exact ih0 _ _ _ _ _
      | exact LeO.none _
      | refine LeO.ite ?_ ?_
      | refine LeO.bind ?_ (fun _ => ?_)
theorem colloquylaw20_few.calls (k : Nat) (a0_0 : ByteArray) (a0_1 : ByteArray) (A0_2 : Option Addr) (c0_2 : Nat) (l0_2 : List (S46)) (r : Bool) (w : World) (hr0_2 : Kd.C k46 w A0_2 l0_2.length l0_2) (hc0_2 : l0_2.length ≤ c0_2) (h : colloquylaw20_few.f k a0_0 a0_1 l0_2 = some r) :
    Calls Tryd.prog 10 #[.agg #[.string a0_0, .string a0_1, .slice A0_2 l0_2.length c0_2]] w fun e w' => e = .returned (.bool r) ∧ Below w.heap.size w w' := by
  have hu24 := Tryd.underlying24
  have HR0_2 := Aside0.mk hr0_2
  have HC0_2 := Aside0.mk hc0_2
  clear hr0_2 hc0_2
  have HB := Aside0.mk (Below.refl w.heap.size w)
  have H : (colloquylaw20_few.l0 k (l0_2.length : Int) 0 a0_0 a0_1 l0_2) = some r := h
  clear h
  have H' := Aside0.mk H
  clear H
  go_enter Tryd.func10, Tryd.ntmps10
  go_wp2_with (first | ((with_reducible refine gate_dst (N := 1) rfl ?_); refine box_event ?hg (N := 1) ?hd (cs := #[.string a0_0, .string a0_1, .slice A0_2 l0_2.length c0_2]) (t := 24) ?hr ?_; (case hd => rfl); (case hg => rfl); (case hr => first | (go_simp; done) | (go_simp; rfl)); intro gb207 hg w2 hbox hb; have n0_ := Aside0.mk (below_step (by repeat (first | (with_reducible first | exact HB.out | apply below_alloc | apply pw_below_drewN | apply below_drew1) | exact HB.out)) hb); have n1_ := Aside0.mk (hbox); have n2_ := Aside0.mk ((by rw [hg]; exact (below_size (by repeat (first | (with_reducible first | exact HB.out | apply below_alloc | apply pw_below_drewN | apply below_drew1) | exact HB.out))) : w.heap.size ≤ gb207)); have n3_ := Aside0.mk ((by rw [hg]; exact (below_size (by repeat (first | (with_reducible first | exact HB.out | apply below_alloc | apply pw_below_drewN | apply below_drew1) | exact HB.out))) : w.heap.size ≤ gb207)); clear HB; have HB := n0_; have BK207 := n1_; have GW207 := n2_; have GE207 := n3_; clear n0_ n1_ n2_ n3_; clear hb hbox hg; have hcz3_0 : w2.cell? ⟨gb207, 0, none⟩ = some (.string a0_0) := (blk_cell BK207.out 0).trans rfl; have hcz3_1 : w2.cell? ⟨gb207, 1, none⟩ = some (.string a0_1) := (blk_cell BK207.out 1).trans rfl; have hcz3_2 : w2.cell? ⟨gb207, 2, none⟩ = some (.slice A0_2 l0_2.length c0_2) := (blk_cell BK207.out 2).trans rfl; have hfz3_0 := blk_frozen BK207.out 0; have hfz3_1 := blk_frozen BK207.out 1; have hfz3_2 := blk_frozen BK207.out 2))
  go_loopg [3, 4] k (fun kq v3 v4 w' => ∃ (x3_1 : Int) (x4_1 : Int), v3 = .int .i64 x3_1 ∧ v4 = .int .i64 x4_1 ∧ Aside0 (colloquylaw20_few.l0 kq x3_1 x4_1 a0_0 a0_1 l0_2 = some r) ∧ Aside0 (kq ≤ k) ∧ Aside0 (w'.heap[gb207]? = some (.cells #[.string a0_0, .string a0_1, (.slice A0_2 l0_2.length c0_2)] 24 (0, 0))) ∧ Aside0 (Below w.heap.size w w'))
  case atStart => exact ⟨((l0_2.length : Int)), (0), (by first | rfl | (simp; done) | (simp [*]; done)), (by first | rfl | (simp; done) | (simp [*]; done)), H', ⟨Nat.le_refl _⟩, ⟨by (with_reducible repeat (first | refine blk_drewN ?_ _ | refine blk_drew ?_ | refine blk_alloc ?_ _)); exact BK207.out⟩, ⟨by repeat (first | (with_reducible first | exact HB.out | apply below_alloc | apply pw_below_drewN | apply below_drew1 | refine below_set ?_ GE207.out) | exact HB.out)⟩⟩
  case round =>
    clear H'
    try clear c1
    try clear p2
    try clear hcz3_0
    try clear hcz3_1
    try clear hcz3_2
    try clear hfz3_0
    try clear hfz3_1
    try clear hfz3_2
    obtain ⟨x3_1, x4_1, rfl, rfl, HA, HK1, BK207, HB⟩ := hrel
    cases gk with
    | zero => exact absurd HA.out (by simp [colloquylaw20_few.l0])
    | succ k1 =>
      have H := HA.out
      clear HA
      simp only [colloquylaw20_few.l0] at H
      by_cases c4 : x4_1 < (l0_2.length : Int)
      · rw [if_pos c4] at H
        have c4b0 : decide (x4_1 < (l0_2.length : Int)) = true := decide_eq_true c4
        clear c4
        by_cases c5 : x3_1 ≤ 2000
        · rw [if_pos c5] at H
          have c5b0 : decide (x3_1 ≤ 2000) = true := decide_eq_true c5
          clear c5
          by_cases c6 : 0 ≤ x4_1
          · rw [if_pos c6] at H
            have c6b0 : decide (0 ≤ x4_1) = true := decide_eq_true c6
            clear c6
            have H' := Aside0.mk H
            clear H
            have hcz7_0 : wr.cell? ⟨gb207, 0, none⟩ = some (.string a0_0) := (blk_cell BK207.out 0).trans rfl
            have hcz7_1 : wr.cell? ⟨gb207, 1, none⟩ = some (.string a0_1) := (blk_cell BK207.out 1).trans rfl
            have hcz7_2 : wr.cell? ⟨gb207, 2, none⟩ = some (.slice A0_2 l0_2.length c0_2) := (blk_cell BK207.out 2).trans rfl
            have hfz7_0 := blk_frozen BK207.out 0
            have hfz7_1 := blk_frozen BK207.out 1
            have hfz7_2 := blk_frozen BK207.out 2
            have p208 : 0 ≤ (x4_1 : Int) := of_decide_eq_true (by first | (with_reducible assumption) | assumption)
            have q208 : x4_1 < (l0_2.length : Int) := of_decide_eq_true (by first | (with_reducible assumption) | assumption)
            obtain ⟨ad208, A208_1, c208_1, e208, hx208_0, hx208_1, hl208_1, hi208_1⟩ := at_T46 HR0_2.out x4_1 p208 q208
            cases e208
            replace hx208_0 := (HB.out.cell (World.block_lt_of_cell? w _ hx208_0)).trans hx208_0
            replace hx208_1 := (HB.out.cell (World.block_lt_of_cell? w _ hx208_1)).trans hx208_1
            have HR208_1 := Aside0.mk hi208_1
            have HC208_1 := Aside0.mk hl208_1
            clear hi208_1 hl208_1
            replace p208 := eq_true p208
            replace q208 := eq_true q208
            go_wp2
            go_roundg k1
            case measure => have := HK1.out; omega
            case rel => exact ⟨(wrap64 (x3_1 + (((rd_T46 l0_2 x4_1).f1).length : Int))), (wrap64 (x4_1 + 1)), (by first | rfl | (simp; done) | (simp [*]; done)), (by first | rfl | (simp; done) | (simp [*]; done)), H', ⟨by have := HK1.out; omega⟩, ⟨by (with_reducible repeat (first | refine blk_drewN ?_ _ | refine blk_drew ?_ | refine blk_alloc ?_ _)); exact BK207.out⟩, ⟨by repeat (first | (with_reducible first | exact HB.out | apply below_alloc | apply pw_below_drewN | apply below_drew1 | refine below_set ?_ GE207.out) | exact HB.out)⟩⟩
          · rw [if_neg c6] at H
            exact absurd H (by simp)
        · rw [if_neg c5] at H
          have c5b0 : decide (x3_1 ≤ 2000) = false := decide_eq_false c5
          clear c5
          obtain rfl := Option.some.inj H
          have hcz8_0 : wr.cell? ⟨gb207, 0, none⟩ = some (.string a0_0) := (blk_cell BK207.out 0).trans rfl
          have hcz8_1 : wr.cell? ⟨gb207, 1, none⟩ = some (.string a0_1) := (blk_cell BK207.out 1).trans rfl
          have hcz8_2 : wr.cell? ⟨gb207, 2, none⟩ = some (.slice A0_2 l0_2.length c0_2) := (blk_cell BK207.out 2).trans rfl
          have hfz8_0 := blk_frozen BK207.out 0
          have hfz8_1 := blk_frozen BK207.out 1
          have hfz8_2 := blk_frozen BK207.out 2
          go_wp2
          go_ret
          exact ⟨by first | rfl | (simp [errW_none, errW_some] <;> rfl) | (simp [*, errW_none, errW_some] <;> rfl), by repeat (first | (with_reducible first | exact HB.out | apply below_alloc | apply pw_below_drewN | apply below_drew1 | refine below_set ?_ GE207.out) | exact HB.out)⟩
      · rw [if_neg c4] at H
        have c4b0 : decide (x4_1 < (l0_2.length : Int)) = false := decide_eq_false c4
        clear c4
        obtain rfl := Option.some.inj H
        have hcz9_0 : wr.cell? ⟨gb207, 0, none⟩ = some (.string a0_0) := (blk_cell BK207.out 0).trans rfl
        have hcz9_1 : wr.cell? ⟨gb207, 1, none⟩ = some (.string a0_1) := (blk_cell BK207.out 1).trans rfl
        have hcz9_2 : wr.cell? ⟨gb207, 2, none⟩ = some (.slice A0_2 l0_2.length c0_2) := (blk_cell BK207.out 2).trans rfl
        have hfz9_0 := blk_frozen BK207.out 0
        have hfz9_1 := blk_frozen BK207.out 1
        have hfz9_2 := blk_frozen BK207.out 2
        go_wp2
        go_ret
        exact ⟨by first | rfl | (simp [errW_none, errW_some] <;> rfl) | (simp [*, errW_none, errW_some] <;> rfl), by repeat (first | (with_reducible first | exact HB.out | apply below_alloc | apply pw_below_drewN | apply below_drew1 | refine below_set ?_ GE207.out) | exact HB.out)⟩
end
abbrev QQ := S53
abbrev KQ := k53
def cv (p : PP) : QQ := ⟨p.f0, p.f1⟩
theorem rdP (pre suf : List PP) (p : PP) : rd_T46 (pre ++ p :: suf) (pre.length : Int) = p := by
  unfold rd_T46
  simp
theorem rdQ (pre suf : List PP) (p : PP) : rd_T53 ((pre ++ p :: suf).map cv) (pre.length : Int) = cv p := by
  unfold rd_T53
  simp
theorem rdR (pre suf : List RS) (p : RS) : rd_T49 (pre ++ p :: suf) (pre.length : Int) = p := by
  unfold rd_T49
  simp
theorem wr1 {α : Type} (pre : List α) (x : α) (h : pre.length < 9223372036854775807) : wrap64 ((pre.length : Int) + 1) = ((pre ++ [x]).length : Int) := by
  rw [Pure.wrap_id (by omega) (by omega), List.length_append, List.length_singleton]
  omega
theorem app1 {α : Type} (pre suf : List α) (x : α) : pre ++ x :: suf = (pre ++ [x]) ++ suf := by simp
theorem ltA {α : Type} (pre suf : List α) (x : α) : (pre.length : Int) < ((pre ++ x :: suf).length : Int) := by simp; omega
theorem nltA {α : Type} (pre : List α) : ¬ (pre.length : Int) < ((pre ++ []).length : Int) := by simp
def resOK (r : RS) : Bool := Pure.rightB r.f0 && decide (1 ≤ r.f1 ∧ r.f1 ≤ 7)
def partOK (p : PP) : Bool := Pure.rightB p.f0 && p.f1.all resOK
def rightS (su bo : ByteArray) (ps : List PP) : Bool := Pure.rightB su && Pure.rightB bo && ps.all partOK
theorem vt_f (v : Int) : trace_Text.f v = some (vtB v) := rfl
theorem vt_nil (v : Int) : (vtB v).toList = [] ↔ ¬ (1 ≤ v ∧ v ≤ 7) := by
  by_cases h : v < 0 ∨ 7 < v
  · have e : vtB v = ⟨#[]⟩ := by unfold vtB trace_Text.f; rw [Option.getD_some, if_pos h]
    rw [e]
    constructor
    · intro _; omega
    · intro _; decide +kernel
  · have : v = 0 ∨ v = 1 ∨ v = 2 ∨ v = 3 ∨ v = 4 ∨ v = 5 ∨ v = 6 ∨ v = 7 := by omega
    rcases this with rfl | rfl | rfl | rfl | rfl | rfl | rfl | rfl <;> decide +kernel
theorem right_l1 (ps : List PP) (n i : Int) (hi : wrap64 (i + 1) = i + 1) (b : Bool) (hb : Ev (fun k => sum_Right.l0 k ps n (i + 1)) b) : ∀ (rsuf rpre : List RS), (rpre ++ rsuf).length ≤ 9223372036854775807 → Ev (fun k => sum_Right.l1 k ps n i (rpre ++ rsuf) ((rpre ++ rsuf).length : Int) (rpre.length : Int)) (rsuf.all resOK && b)
  | [], rpre, _ => Ev.step (f := fun k => sum_Right.l0 k ps n (i + 1)) (fun k => by rw [sum_Right.l1, if_neg (nltA _), hi]) hb
  | r :: rs, rpre, h => by
    have ih := right_l1 ps n i hi b hb rs (rpre ++ [r]) (by rw [← app1]; exact h)
    rw [← app1] at ih
    have hl : rpre.length < 9223372036854775807 := by simp at h; omega
    have e0 : ∀ k, sum_Right.l1 (k + 1) ps n i (rpre ++ r :: rs) ((rpre ++ r :: rs).length : Int) (rpre.length : Int) = if Pure.rightB r.f0 = true then (if (vtB r.f1).toList = [] then some false else sum_Right.l1 k ps n i (rpre ++ r :: rs) ((rpre ++ r :: rs).length : Int) ((rpre ++ [r]).length : Int)) else some false := fun k => by
      rw [sum_Right.l1, if_pos (ltA _ _ _), if_pos (by omega), if_pos (ltA _ _ _), rdR, Pure.right_eq, Option.bind_some, vt_f, Option.bind_some, wr1 rpre r hl]
    by_cases h1 : Pure.rightB r.f0 = true
    · by_cases h2 : (vtB r.f1).toList = []
      · have e : ((r :: rs).all resOK && b) = false := by rw [List.all_cons, resOK, decide_eq_false ((vt_nil _).1 h2), Bool.and_false, Bool.false_and, Bool.false_and]
        rw [e]
        exact Ev.step (f := fun _ => some false) (fun k => by rw [e0, if_pos h1, if_pos h2]) (Ev.now _)
      · have e : ((r :: rs).all resOK && b) = (rs.all resOK && b) := by rw [List.all_cons, resOK, h1, decide_eq_true (Decidable.not_not.1 fun h3 => h2 ((vt_nil _).2 h3)), Bool.true_and, Bool.true_and]
        rw [e]
        exact Ev.step (fun k => by rw [e0, if_pos h1, if_neg h2]) ih
    · have e : ((r :: rs).all resOK && b) = false := by rw [List.all_cons, resOK, Bool.eq_false_iff.2 h1, Bool.false_and, Bool.false_and, Bool.false_and]
      rw [e]
      exact Ev.step (f := fun _ => some false) (fun k => by rw [e0, if_neg h1]) (Ev.now _)
def szP (ps : List PP) : Prop := ps.length ≤ 3518437208883 ∧ ∀ p ∈ ps, p.f1.length ≤ 8796093022208
theorem right_l0 (ps : List PP) (hs : szP ps) : ∀ suf pre, pre ++ suf = ps → Ev (fun k => sum_Right.l0 k ps (ps.length : Int) (pre.length : Int)) (suf.all partOK)
  | [], pre, h => by
    subst h
    exact Ev.step (f := fun _ => some true) (fun k => by rw [sum_Right.l0, if_neg (nltA _)]) (Ev.now _)
  | p :: suf, pre, h => by
    have ih := right_l0 ps hs suf (pre ++ [p]) (by rw [← app1]; exact h)
    subst h
    have hl : pre.length < 9223372036854775807 := by have h_ := hs.1; simp at h_; omega
    have hw := wr1 pre p hl
    rw [show ((pre ++ [p]).length : Int) = (pre.length : Int) + 1 by simp] at ih hw
    have h1 := right_l1 (pre ++ p :: suf) ((pre ++ p :: suf).length : Int) (pre.length : Int) hw _ ih p.f1 [] (by have := hs.2 p (by simp); rw [List.nil_append]; omega)
    have e0 : ∀ k, sum_Right.l0 (k + 1) (pre ++ p :: suf) ((pre ++ p :: suf).length : Int) (pre.length : Int) = if Pure.rightB p.f0 = true then sum_Right.l1 k (pre ++ p :: suf) ((pre ++ p :: suf).length : Int) (pre.length : Int) p.f1 (p.f1.length : Int) 0 else some false := fun k => by
      rw [sum_Right.l0, if_pos (ltA _ _ _), if_pos (by omega), if_pos (ltA _ _ _), rdP, Pure.right_eq, Option.bind_some]
    by_cases hp : Pure.rightB p.f0 = true
    · have e : (p :: suf).all partOK = (p.f1.all resOK && suf.all partOK) := by rw [List.all_cons, partOK, hp, Bool.true_and]
      rw [e]
      exact Ev.step (fun k => by rw [e0, if_pos hp]; rfl) h1
    · have e : (p :: suf).all partOK = false := by rw [List.all_cons, partOK, Bool.eq_false_iff.2 hp, Bool.false_and, Bool.false_and]
      rw [e]
      exact Ev.step (f := fun _ => some false) (fun k => by rw [e0, if_neg hp]) (Ev.now _)
theorem right_ev (su bo : ByteArray) (ps : List PP) (hs : szP ps) : Ev (fun k => sum_Right.f k su bo ps) (rightS su bo ps) := by
  have h0 := right_l0 ps hs ps [] rfl
  unfold rightS
  by_cases h1 : Pure.rightB su = true
  · by_cases h2 : Pure.rightB bo = true
    · rw [h1, h2, Bool.true_and, Bool.true_and]
      refine Ev.congr (f := fun k => sum_Right.j0 k false su bo ps) (fun k => ?_) (Ev.step (fun k => ?_) h0)
      · rw [sum_Right.f, Pure.right_eq, Option.bind_some, if_pos h1, Pure.right_eq, Option.bind_some, h2]; rfl
      · rw [sum_Right.j0, if_neg (by decide)]; rfl
    · rw [h1, Bool.eq_false_iff.2 h2, Bool.true_and, Bool.false_and]
      refine Ev.congr (f := fun k => sum_Right.j0 k true su bo ps) (fun k => ?_) (Ev.step (f := fun _ => some false) (fun k => ?_) (Ev.now _))
      · rw [sum_Right.f, Pure.right_eq, Option.bind_some, if_pos h1, Pure.right_eq, Option.bind_some, Bool.eq_false_iff.2 h2]; rfl
      · rw [sum_Right.j0, if_pos rfl]
  · rw [Bool.eq_false_iff.2 h1, Bool.false_and, Bool.false_and]
    refine Ev.congr (f := fun k => sum_Right.j0 k true su bo ps) (fun k => ?_) (Ev.step (f := fun _ => some false) (fun k => ?_) (Ev.now _))
    · rw [sum_Right.f, Pure.right_eq, Option.bind_some, if_neg h1]
    · rw [sum_Right.j0, if_pos rfl]
theorem few_l0 (su bo : ByteArray) (ps : List PP) (hs : szP ps) : ∀ (suf pre : List PP) (n : Int), pre ++ suf = ps → 0 ≤ n → (suf = [] ∨ n ≤ 2000 ∨ 2000 < n) → n ≤ 8796093022208 + 2000 → Ev (fun k => colloquylaw20_few.l0 k n (pre.length : Int) su bo ps) (decide (n + sumL suf ≤ 2000))
  | [], pre, n, h, _, _, _ => by
    subst h
    have e : n + ((sumL [] : Nat) : Int) = n := by simp [sumL]
    rw [e]
    exact Ev.step (f := fun _ => some (decide (n ≤ 2000))) (fun k => by rw [colloquylaw20_few.l0, if_neg (nltA _)]) (Ev.now _)
  | p :: suf, pre, n, h, h0, _, hn => by
    subst h
    have hl : pre.length < 9223372036854775807 := by have h_ := hs.1; simp at h_; omega
    have hp := hs.2 p (by simp)
    have e : ((sumL (p :: suf) : Nat) : Int) = p.f1.length + sumL suf := by simp [sumL]
    by_cases h1 : n ≤ 2000
    · have ih := few_l0 su bo (pre ++ p :: suf) hs suf (pre ++ [p]) (n + p.f1.length) (by rw [← app1]) (by omega) (by omega) (by omega)
      rw [e, ← Int.add_assoc]
      refine Ev.step (fun k => ?_) ih
      rw [colloquylaw20_few.l0, if_pos (ltA _ _ _), if_pos h1, if_pos (by omega), rdP, wr1 pre p hl, Pure.wrap_id (by omega) (by omega)]
    · rw [decide_eq_false (show ¬ n + ((sumL (p :: suf) : Nat) : Int) ≤ 2000 by omega)]
      exact Ev.step (f := fun _ => some false) (fun k => by rw [colloquylaw20_few.l0, if_pos (ltA _ _ _), if_neg h1, decide_eq_false h1]) (Ev.now _)
theorem few_ev (su bo : ByteArray) (ps : List PP) (hs : szP ps) : Ev (fun k => colloquylaw20_few.f k su bo ps) (decide ((ps.length : Int) + sumL ps ≤ 2000)) :=
  few_l0 su bo ps hs ps [] (ps.length : Int) rfl (by omega) (by omega) (by have := hs.1; omega)
theorem ltQ (pre suf : List PP) (p : PP) : (pre.length : Int) < (((pre ++ p :: suf).map cv).length : Int) := by simp; omega
theorem nltQ (pre : List PP) : ¬ (pre.length : Int) < (((pre ++ []).map cv).length : Int) := by simp
abbrev endB : ByteArray := ⟨#[35, 32, 101, 110, 100]⟩
def catL : List ByteArray → ByteArray
  | [] => eB
  | x :: xs => (x ++ lfB) ++ catL xs
def textL (su bo : ByteArray) (ps : List PP) : ByteArray := if rightS su bo ps = true then catL (linesL su bo ps) else eB
theorem line_sz (su bo : ByteArray) (ps : List PP) (hsm : sumL ps ≤ 1000000000) : ∀ x ∈ linesL su bo ps, x.size ≤ 399 := by
  intro x hx
  have a1 : ∀ s : ByteArray, (nwB s).size ≤ 240 := nw_size
  unfold linesL bodyL headL at hx
  simp only [List.mem_append, List.mem_cons, List.mem_nil_iff, or_false, List.mem_flatMap] at hx
  rcases hx with ((((rfl | rfl) | ⟨p, _, hp⟩) | hx) | rfl)
  · rw [size_cat]; have := nw_size su; have z : (⟨#[84, 101, 115, 116, 32, 114, 117, 110, 32, 111, 102, 32]⟩ : ByteArray).size = 12 := rfl; omega
  · rw [size_cat]; have := nw_size bo; have z : (⟨#[66, 111, 97, 114, 100, 32]⟩ : ByteArray).size = 6 := rfl; omega
  · unfold partL at hp
    rcases List.mem_cons.1 hp with rfl | hp
    · rw [size_cat]; have := nw_size p.f0; have z : (⟨#[103, 114, 111, 117, 112, 32]⟩ : ByteArray).size = 6 := rfl; omega
    · obtain ⟨r, _, rfl⟩ := List.mem_map.1 hp
      unfold resL
      rw [size_cat, size_cat]
      have := nw_size r.f0
      have := vt_size r.f1
      have z : (⟨#[58, 32]⟩ : ByteArray).size = 2 := rfl
      omega
  · unfold totsL at hx
    obtain ⟨v, _, hv⟩ := List.mem_flatMap.1 hx
    unfold totT at hv
    split at hv
    · rw [List.mem_singleton.1 hv]
      simp only [size_cat]
      have := vt_size (v : Int)
      have hb := tot_b ps (v : Int)
      have := it_size (totL ps (v : Int)) (by omega)
      have z2 : (⟨#[35, 32]⟩ : ByteArray).size = 2 := rfl
      have z1 : (⟨#[32]⟩ : ByteArray).size = 1 := rfl
      omega
    · cases hv
  · decide
def joinB (xs : List ByteArray) : ByteArray := ⟨(Lib.join (xs.map (·.data.toList)) [10]).toArray⟩
theorem join_flat : ∀ (r : List ByteArray) (x : ByteArray), x.data.toList ++ Lib.joinTail [10] (r.map (·.data.toList)) ++ [10] = (catL (x :: r)).data.toList
  | [], x => by
    show x.data.toList ++ [] ++ [10] = ((x ++ lfB) ++ eB).data.toList
    rw [ByteArray.data_append, ByteArray.data_append]
    simp
  | y :: r, x => by
    have ih := join_flat r y
    show x.data.toList ++ (([10] ++ y.data.toList) ++ Lib.joinTail [10] (r.map (·.data.toList))) ++ [10] = ((x ++ lfB) ++ catL (y :: r)).data.toList
    rw [ByteArray.data_append, Array.toList_append, ← ih, ByteArray.data_append, Array.toList_append]
    simp
theorem join_cat (xs : List ByteArray) (h : xs ≠ []) : joinB xs ++ lfB = catL xs := by
  cases xs with
  | nil => exact absurd rfl h
  | cons x r =>
    apply ByteArray.ext
    apply Array.ext'
    rw [← join_flat, ByteArray.data_append, Array.toList_append]
    show Lib.join _ _ ++ _ = _
    rw [List.map_cons, Lib.join_cons]
theorem join_size (xs : List ByteArray) (h : xs ≠ []) : (Lib.join (xs.map (·.data.toList)) [10]).length + 1 = (catL xs).size := by
  have h1 := congrArg ByteArray.size (join_cat xs h)
  rw [size_cat] at h1
  have h2 : (joinB xs).size = (Lib.join (xs.map (·.data.toList)) [10]).length := List.size_toArray ..
  rw [← h1, ← h2]
  rfl
theorem cat_size (xs : List ByteArray) (h : ∀ x ∈ xs, x.size ≤ 399) : (catL xs).size ≤ 400 * xs.length := by
  induction xs with
  | nil => exact Nat.zero_le _
  | cons x xs ih =>
    have h1 := h x (List.mem_cons_self ..)
    have h2 := ih fun y hy => h y (List.mem_cons_of_mem _ hy)
    show ((x ++ lfB) ++ catL xs).size ≤ _
    have z1 : lfB.size = 1 := rfl
    rw [size_cat, size_cat, List.length_cons]
    omega
theorem text_size (su bo : ByteArray) (ps : List PP) (hsm : ps.length + sumL ps ≤ 1000000000) : (textL su bo ps).size ≤ 400 * (11 + ps.length + sumL ps) := by
  unfold textL
  split
  · have := cat_size _ (line_sz su bo ps (by omega))
    have := (lines_len su bo ps).2
    omega
  · exact Nat.zero_le _
theorem join_row {w : World} {A : Option Addr} {c base : Nat} {S : Nat → Prop} {xs : List ByteArray} (h : Kd.string.R 9 w base S (.slice A xs.length c) xs) (h0 : xs ≠ []) (hN : xs.length ≤ 140737488355328) (hlen : (catL xs).size ≤ 140737488355328) :
    Calls Tryd.prog 27 #[.slice A xs.length c, .string lfB] w fun e w' => e = .returned (.string (joinB xs)) ∧ Below w.heap.size w w' := by
  have hpos : 0 < xs.length := List.length_pos_iff.2 h0
  obtain ⟨g, cap, hv, _⟩ := Kd.R_form h hpos
  injection hv with hA hn hc
  subst hA hc
  obtain ⟨_, hcap, hC⟩ := Kd.R_reads' h
  obtain ⟨ad, had, hcl⟩ := hC.2.2 hpos
  obtain rfl := Option.some.inj had
  have cells : ∀ (j : Nat) x, xs[j]? = some x → w.cell? ⟨g, 0 + j, none⟩ = some (.string x) := fun j x hj => by
    obtain ⟨cs, hl, hk, hcc⟩ := hcl j x hj
    have hk' : cs = [.string x] := hk
    have := hcc 0 (.string x) (by rw [hk']; rfl)
    rw [add_plain, show j * Kd.string.sz + 0 = j by show j * 1 + 0 = j; omega] at this
    rw [Nat.zero_add]
    exact this
  have hj := join_size xs h0
  refine Tryd.strings_Join g 0 c xs lfB w cells ?_ hN hcap ?_
  · exact World.block_lt_of_cell? _ _ (cells 0 xs[0] (List.getElem?_eq_getElem hpos))
  · show (Lib.join (xs.map (·.data.toList)) [10]).length ≤ _
    omega
section
theorem bext {a b : ByteArray} (h : a.data.toList = b.data.toList) : a = b := ByteArray.ext (Array.ext' h)
theorem dcat (a b : ByteArray) : (a ++ b).data.toList = a.data.toList ++ b.data.toList := by rw [ByteArray.data_append, Array.toList_append]
theorem index_mid (c : UInt8) (t : List UInt8) : ∀ (l r : List UInt8), c ∉ l → Lib.index (l ++ ((c :: t) ++ r)) (c :: t) = l.length
  | [], r, _ => by
    show Lib.index (c :: (t ++ r)) (c :: t) = _
    have hp : (c :: t).isPrefixOf (c :: (t ++ r)) = true := List.isPrefixOf_iff_prefix.2 ⟨r, rfl⟩
    unfold Lib.index
    rw [if_pos hp]
    rfl
  | b :: l, r, h => by
    have hb : c ≠ b := fun e => h (by rw [e]; exact List.mem_cons_self ..)
    have ih := index_mid c t l r (fun hc => h (List.mem_cons_of_mem _ hc))
    show Lib.index (b :: (l ++ ((c :: t) ++ r))) (c :: t) = _
    unfold Lib.index
    rw [ih, if_neg (by simp [List.isPrefixOf, hb]), if_neg (by simp <;> omega), List.length_cons]
    omega
theorem index_no (c : UInt8) : ∀ (l : List UInt8), c ∉ l → Lib.index l [c] = -1
  | [], _ => by unfold Lib.index; simp
  | b :: l, h => by
    have hb : c ≠ b := fun e => h (by rw [e]; exact List.mem_cons_self ..)
    have ih := index_no c l (fun hc => h (List.mem_cons_of_mem _ hc))
    unfold Lib.index
    rw [ih, if_neg (by simp [List.isPrefixOf, hb]), if_pos (by decide)]
theorem pcN_eq (s : ByteArray) : pcN s - 1 = Lib.countB s nlB := by
  have := Lib.countB_le nlB (by decide) s.size s (Nat.le_refl _)
  unfold pcN
  omega
theorem pcs_eq (s : ByteArray) : pcs s = Lib.splitB nlB 1 (Lib.countB s nlB) s := by unfold pcs; rw [pcN_eq]
theorem pcs_no (s : ByteArray) (h : (10 : UInt8) ∉ s.data.toList) : pcs s = [s] := by
  rw [pcs_eq]
  exact Lib.splitB_miss _ _ _ _ (index_no 10 _ h)
theorem pcs_hit (x r : ByteArray) (h : (10 : UInt8) ∉ x.data.toList) : pcs ((x ++ lfB) ++ r) = (x ++ lfB) :: pcs r := by
  have hi : Lib.indexB ((x ++ lfB) ++ r) nlB = (x.size : Int) := by
    show Lib.index ((x ++ lfB) ++ r).data.toList [10] = _
    rw [dcat, dcat, List.append_assoc]
    rw [show lfB.data.toList = [10] from rfl, index_mid 10 [] x.data.toList r.data.toList h]
    rfl
  have e1 : ((x ++ lfB) ++ r).extract 0 (x.size + 1) = x ++ lfB := by
    apply bext
    rw [Lib.extract_from_zero, dcat]
    have : (x ++ lfB).data.toList.length = x.size + 1 := by rw [dcat, List.length_append]; rfl
    rw [← this, List.take_left]
  have e2 : ((x ++ lfB) ++ r).extract (x.size + nlB.size) ((x ++ lfB) ++ r).size = r := by
    apply bext
    rw [Lib.extract_to_end, dcat]
    have : (x ++ lfB).data.toList.length = x.size + nlB.size := by rw [dcat, List.length_append]; rfl
    rw [← this, List.drop_left]
  rw [pcs_eq, Lib.countB_hit _ _ _ (by decide) hi, Nat.add_comm, Lib.splitB_hit _ _ _ _ _ hi, e1, e2, ← pcs_eq]
theorem pcs_cat : ∀ ls : List ByteArray, (∀ x ∈ ls, (10 : UInt8) ∉ x.data.toList) → pcs (catL ls) = ls.map (· ++ lfB) ++ [eB]
  | [], _ => pcs_no eB (by simp)
  | x :: ls, h => by
    show pcs ((x ++ lfB) ++ catL ls) = _
    rw [pcs_hit x _ (h x (List.mem_cons_self ..)), pcs_cat ls fun y hy => h y (List.mem_cons_of_mem _ hy)]
    rfl
theorem allL_cat (ls : List ByteArray) (h : ∀ x ∈ ls, (10 : UInt8) ∉ x.data.toList) : allL (catL ls) = ls.map (· ++ lfB) := by
  unfold allL
  rw [pcs_cat ls h]
  have e : (ls.map (· ++ lfB) ++ [eB]).length - 1 = (ls.map (· ++ lfB)).length := by simp
  rw [e, List.take_left, if_pos]
  rw [List.getD_eq_getElem?_getD, List.getElem?_append_right (Nat.le_refl _), Nat.sub_self]
  rfl
theorem hp_app (p y : ByteArray) : hpB (p ++ y) p = true := by
  unfold hpB Lib.hasPrefix
  rw [dcat]
  exact List.isPrefixOf_iff_prefix.2 ⟨_, rfl⟩
theorem tp_app (p y : ByteArray) : tpB (p ++ y) p = y := by
  apply bext
  unfold tpB Lib.trimPrefix
  have h : Lib.hasPrefix (p ++ y).data.toList p.data.toList = true := hp_app p y
  rw [h, if_pos rfl, dcat, List.drop_left]
theorem hs_app (x : ByteArray) : hsB (x ++ lfB) lfB = true := by
  unfold hsB Lib.hasSuffix
  rw [dcat]
  exact List.isSuffixOf_iff_suffix.2 ⟨_, rfl⟩
theorem ts_app (x : ByteArray) : tsB (x ++ lfB) lfB = x := by
  apply bext
  unfold tsB Lib.trimSuffix
  have h : Lib.hasSuffix (x ++ lfB).data.toList lfB.data.toList = true := hs_app x
  rw [h, if_pos rfl, dcat]
  show (List.take ((x.data.toList ++ [10]).length - 1) (x.data.toList ++ [10])).toArray.toList = _
  rw [List.length_append, List.length_singleton, Nat.add_sub_cancel, List.take_left]
theorem hp_ne {s p : ByteArray} {b c : UInt8} {l t : List UInt8} (hs : s.data.toList = b :: l) (hp : p.data.toList = c :: t) (h : c ≠ b) : hpB s p = false := by
  unfold hpB Lib.hasPrefix
  rw [hs, hp]
  simp [List.isPrefixOf, h]
theorem cut_app (w r : ByteArray) (h : (58 : UInt8) ∉ w.data.toList) : cuA (w ++ sepB ++ r) sepB = w ∧ cuB (w ++ sepB ++ r) sepB = r ∧ cuO (w ++ sepB ++ r) sepB = true := by
  have hd : (w ++ sepB ++ r).data.toList = w.data.toList ++ ((58 :: [32]) ++ r.data.toList) := by rw [dcat, dcat, List.append_assoc]
  have hi : Lib.index (w ++ sepB ++ r).data.toList sepB.data.toList = (w.data.toList.length : Int) := by rw [hd]; exact index_mid 58 [32] w.data.toList r.data.toList h
  have hc : Lib.cut (w ++ sepB ++ r).data.toList sepB.data.toList = (w.data.toList, r.data.toList, true) := by
    unfold Lib.cut
    rw [hi, if_pos (by omega), Int.toNat_natCast, hd, List.take_left]
    have e : w.data.toList.length + sepB.data.toList.length = (w.data.toList ++ (58 :: [32])).length := by rw [List.length_append]
    rw [e, ← List.append_assoc, List.drop_left]
  unfold cuA cuB cuO
  rw [hc]
  exact ⟨rfl, rfl, rfl⟩
theorem readN_nw (s : ByteArray) (h : Pure.rightB s = true) : readN (nwB s) = (s, true) := by
  have h' := of_decide_eq_true h
  have hz := nw_size s
  exact Pure.ev_one (read_ev (nwB s) (by omega)) (Pure.back_ev s h')
theorem nm_app (p s : ByteArray) (h : Pure.rightB s = true) : nmO (p ++ nwB s) p = true ∧ nmB (p ++ nwB s) p = s := by
  unfold nmO nmB
  rw [hp_app, tp_app, readN_nw s h]
  exact ⟨rfl, rfl⟩
def plainB (s : ByteArray) : Prop := ∀ b ∈ s.data.toList, 32 ≤ b.toNat ∧ b.toNat ≤ 126
theorem plain_app {a b : ByteArray} (ha : plainB a) (hb : plainB b) : plainB (a ++ b) := fun x hx => by
  rw [dcat] at hx
  exact (List.mem_append.1 hx).elim (ha x) (hb x)
theorem plain_nw (s : ByteArray) : plainB (nwB s) := by
  intro b hb
  have hw : nwB s = Pure.wr s := rfl
  rw [hw] at hb
  unfold Pure.wr at hb
  split at hb
  · rename_i h
    rw [strOfNums_data] at hb
    obtain ⟨x, hx, rfl⟩ := List.mem_map.1 hb
    have h2 := Pure.pre_plain s h.2 s.size (Nat.le_refl _) x hx
    have : x.toNat < 256 := by omega
    rw [UInt8.toNat_ofNat']
    omega
  · simp at hb
theorem vt_case (v : Int) : (¬ (1 ≤ v ∧ v ≤ 7) ∧ vtB v = eB) ∨ v = 1 ∨ v = 2 ∨ v = 3 ∨ v = 4 ∨ v = 5 ∨ v = 6 ∨ v = 7 := by
  by_cases h : 1 ≤ v ∧ v ≤ 7
  · omega
  · have := (vt_nil v).2 h
    exact .inl ⟨h, Pure.bytes_eq (this.trans (show ([] : List UInt8) = eB.toList by decide +kernel))⟩
theorem plain_vt (v : Int) : plainB (vtB v) := by
  rcases vt_case v with ⟨_, h⟩ | rfl | rfl | rfl | rfl | rfl | rfl | rfl
  · rw [h]; intro b hb; simp at hb
  all_goals (unfold plainB; decide +kernel)
theorem vt_no58 (v : Int) : (58 : UInt8) ∉ (vtB v).data.toList := by
  rcases vt_case v with ⟨_, h⟩ | rfl | rfl | rfl | rfl | rfl | rfl | rfl
  · rw [h]; simp
  all_goals decide +kernel
theorem vp_vt (v : Int) (h : 1 ≤ v ∧ v ≤ 7) : vpB (vtB v) = v := by
  rcases vt_case v with ⟨h2, _⟩ | rfl | rfl | rfl | rfl | rfl | rfl | rfl
  · exact absurd h h2
  all_goals decide +kernel
theorem vt_head (v : Int) (h : 1 ≤ v ∧ v ≤ 7) : ∃ b l, (vtB v).data.toList = b :: l ∧ b ≠ 103 ∧ b ≠ 35 := by
  rcases vt_case v with ⟨h2, _⟩ | rfl | rfl | rfl | rfl | rfl | rfl | rfl
  · exact absurd h h2
  all_goals exact ⟨_, _, rfl, by decide, by decide⟩
theorem plain_dec (u : Nat) : ∀ b ∈ Lib.decDigits u, 48 ≤ b.toNat ∧ b.toNat ≤ 57 := by
  induction u using Nat.strongRecOn with
  | ind u ih =>
    intro b hb
    rw [Lib.decDigits] at hb
    split at hb
    · rw [List.mem_singleton.1 hb, UInt8.toNat_ofNat']; omega
    · rcases List.mem_append.1 hb with hb | hb
      · exact ih (u / 10) (by omega) b hb
      · rw [List.mem_singleton.1 hb, UInt8.toNat_ofNat']; omega
theorem plain_it (n : Int) (h : 0 ≤ n) : plainB (itB n) := by
  intro b hb
  have hb' : b ∈ Lib.itoa n := by simpa [itB] using hb
  unfold Lib.itoa at hb'
  rw [if_neg (by omega)] at hb'
  have := plain_dec _ b hb'
  omega
theorem plain_lines (su bo : ByteArray) (ps : List PP) : ∀ x ∈ linesL su bo ps, plainB x := by
  intro x hx
  unfold linesL bodyL headL at hx
  simp only [List.mem_append, List.mem_cons, List.mem_nil_iff, or_false, List.mem_flatMap] at hx
  rcases hx with ((((rfl | rfl) | ⟨p, _, hp⟩) | hx) | rfl)
  · exact plain_app (by unfold plainB; decide +kernel) (plain_nw su)
  · exact plain_app (by unfold plainB; decide +kernel) (plain_nw bo)
  · unfold partL at hp
    rcases List.mem_cons.1 hp with rfl | hp
    · exact plain_app (by unfold plainB; decide +kernel) (plain_nw _)
    · obtain ⟨r, _, rfl⟩ := List.mem_map.1 hp
      exact plain_app (plain_app (plain_vt _) (by unfold plainB; decide +kernel)) (plain_nw _)
  · unfold totsL at hx
    obtain ⟨v, _, hv⟩ := List.mem_flatMap.1 hx
    unfold totT at hv
    split at hv
    · rw [List.mem_singleton.1 hv]
      exact plain_app (plain_app (plain_app (by unfold plainB; decide +kernel) (plain_vt _)) (by unfold plainB; decide +kernel)) (plain_it _ (tot_b _ _).1)
    · cases hv
  · unfold plainB; decide +kernel
theorem plain_no10 {s : ByteArray} (h : plainB s) : (10 : UInt8) ∉ s.data.toList := fun hb => by
  have := h 10 hb
  revert this
  decide
theorem tail_head (ps : List PP) : ∀ x ∈ totsL ps 8 ++ [endB], ∃ l, x.data.toList = 35 :: l := by
  intro x hx
  rcases List.mem_append.1 hx with hx | hx
  · unfold totsL at hx
    obtain ⟨v, _, hv⟩ := List.mem_flatMap.1 hx
    unfold totT at hv
    split at hv
    · rw [List.mem_singleton.1 hv, dcat, dcat, dcat]
      exact ⟨_, rfl⟩
    · cases hv
  · rw [List.mem_singleton.1 hx]
    exact ⟨_, rfl⟩
theorem pl_tail (su bo : ByteArray) (ps : List PP) : ∀ (xs : List ByteArray) (i : Int), 2 ≤ i → parsL (xs.map (· ++ lfB)) i su bo ps false xs = (some (su, bo, ps), 0)
  | [], i, _ => by unfold parsL; exact if_neg (by decide)
  | x :: xs, i, h => by
    show parsL ((x ++ lfB) :: xs.map (· ++ lfB)) i su bo ps false (x :: xs) = _
    rw [pl_t (x :: xs) (by rw [if_neg (by decide)]) (hs_app x) (by omega) (by omega) (by rfl) ⟨by simp <;> omega, by rw [ts_app]; rfl⟩]
    exact pl_tail su bo ps xs (i + 1) (by omega)
attribute [local irreducible] parsL
theorem pl_res (su bo : ByteArray) (qs : List PP) (g : ByteArray) (r : RS) (hr : resOK r = true) (xs : List RS) (rest : List ByteArray) (i : Int) (hi : 2 ≤ i) : parsL ((resL r ++ lfB) :: rest) i su bo (qs ++ [⟨g, xs⟩]) true [] = parsL rest (i + 1) su bo (qs ++ [⟨g, xs ++ [r]⟩]) true [] := by
  unfold resOK at hr
  obtain ⟨h1, h2⟩ := (Bool.and_eq_true _ _).mp hr
  have h2' := of_decide_eq_true h2
  obtain ⟨b, l, hb, hb1, hb2⟩ := vt_head r.f1 h2'
  have hd : (resL r).data.toList = b :: (l ++ (sepB.data.toList ++ (nwB r.f0).data.toList)) := by unfold resL; rw [dcat, dcat, hb]; simp
  have hg : hpB (resL r) grpB = false := hp_ne hd (c := 103) (t := [114, 111, 117, 112, 32]) rfl (fun e => hb1 e.symm)
  have hh : hpB (resL r) hashB = false := hp_ne hd (c := 35) (t := []) rfl (fun e => hb2 e.symm)
  have hc := cut_app (vtB r.f1) (nwB r.f0) (vt_no58 r.f1)
  have hO : resO (qs ++ [⟨g, xs⟩]) (resL r) = true := by
    unfold resO resL
    rw [hc.1, hc.2.1, hc.2.2, vp_vt _ h2', readN_nw _ h1, snoc_ne, decide_eq_false (by omega)]
    rfl
  have hl : lineO (qs ++ [⟨g, xs⟩]) (resL r) = true := by unfold lineO; rw [if_neg (by rw [hg]; decide), hO]
  have hS : lineS (qs ++ [⟨g, xs⟩]) (resL r) = qs ++ [⟨g, xs ++ [r]⟩] := by
    unfold lineS
    rw [if_neg (by rw [hg]; decide), if_pos hO, addL_snoc]
    unfold resL
    rw [hc.1, hc.2.1, vp_vt _ h2', readN_nw _ h1]
  rw [pl_l (hs_app _) (by omega) (by omega) (by rw [ts_app, hh]; rfl) (by rw [ts_app]; exact hl), ts_app, hS]
theorem pl_ress (su bo : ByteArray) (qs : List PP) (g : ByteArray) (rest : List ByteArray) : ∀ (rs xs : List RS) (i : Int), 2 ≤ i → rs.all resOK = true → parsL ((rs.map resL).map (· ++ lfB) ++ rest) i su bo (qs ++ [⟨g, xs⟩]) true [] = parsL rest (i + rs.length) su bo (qs ++ [⟨g, xs ++ rs⟩]) true []
  | [], xs, i, _, _ => by simp
  | r :: rs, xs, i, hi, h => by
    rw [List.all_cons, Bool.and_eq_true] at h
    show parsL ((resL r ++ lfB) :: ((rs.map resL).map (· ++ lfB) ++ rest)) i su bo (qs ++ [⟨g, xs⟩]) true [] = _
    have e2 : i + ((r :: rs).length : Int) = i + 1 + (rs.length : Int) := by rw [List.length_cons]; omega
    rw [e2, app1 xs rs r]
    have h2 := pl_ress su bo qs g rest rs (xs ++ [r]) (i + 1) (by omega) h.2
    rw [pl_res su bo qs g r h.1 xs _ i hi]
    exact h2
theorem pl_grp (su bo : ByteArray) (qs : List PP) (g : ByteArray) (hg : Pure.rightB g = true) (rest : List ByteArray) (i : Int) (hi : 2 ≤ i) : parsL ((grpB ++ nwB g ++ lfB) :: rest) i su bo qs true [] = parsL rest (i + 1) su bo (qs ++ [⟨g, []⟩]) true [] := by
  have hd : (grpB ++ nwB g).data.toList = 103 :: ([114, 111, 117, 112, 32] ++ (nwB g).data.toList) := by rw [dcat]; rfl
  have hh : hpB (grpB ++ nwB g) hashB = false := hp_ne hd (c := 35) (t := []) rfl (by decide)
  have hn := nm_app grpB g hg
  have hl : lineO qs (grpB ++ nwB g) = true := by unfold lineO; rw [if_pos (hp_app _ _)]; exact hn.1
  have hS : lineS qs (grpB ++ nwB g) = qs ++ [⟨g, []⟩] := by unfold lineS; rw [if_pos (hp_app _ _), hn.2]
  rw [pl_l (hs_app _) (by omega) (by omega) (by rw [ts_app, hh]; rfl) (by rw [ts_app]; exact hl), ts_app, hS]
theorem pl_parts (su bo : ByteArray) (rest : List ByteArray) : ∀ (ps qs : List PP) (i : Int), 2 ≤ i → ps.all partOK = true → parsL ((ps.flatMap partL).map (· ++ lfB) ++ rest) i su bo qs true [] = parsL rest (i + ps.length + sumL ps) su bo (qs ++ ps) true []
  | [], qs, i, _, _ => by simp [sumL]
  | p :: ps, qs, i, hi, h => by
    rw [List.all_cons, Bool.and_eq_true] at h
    have hp := h.1
    unfold partOK at hp
    rw [Bool.and_eq_true] at hp
    have e : ((p :: ps).flatMap partL).map (· ++ lfB) ++ rest = (grpB ++ nwB p.f0 ++ lfB) :: ((p.f1.map resL).map (· ++ lfB) ++ ((ps.flatMap partL).map (· ++ lfB) ++ rest)) := by
      rw [List.flatMap_cons, List.map_append, List.append_assoc]
      rfl
    have e2 : i + ((p :: ps).length : Int) + (sumL (p :: ps) : Int) = i + 1 + (p.f1.length : Int) + (ps.length : Int) + (sumL ps : Int) := by rw [List.length_cons]; simp only [sumL]; omega
    rw [e, e2, app1 qs ps p]
    exact ((pl_grp su bo qs p.f0 hp.1 _ i hi).trans (pl_ress su bo qs p.f0 _ p.f1 [] (i + 1) (by omega) hp.2)).trans (pl_parts su bo rest ps (qs ++ [p]) (i + 1 + p.f1.length) (by omega) h.2)
theorem parse_text (su bo : ByteArray) (ps : List PP) (h : rightS su bo ps = true) : parseP (textL su bo ps) = (some (su, bo, ps), 0) := by
  unfold textL
  rw [if_pos h]
  unfold rightS at h
  rw [Bool.and_eq_true, Bool.and_eq_true] at h
  unfold parseP
  rw [allL_cat _ fun x hx => plain_no10 (plain_lines su bo ps x hx)]
  have e : (linesL su bo ps).map (· ++ lfB) = (w1B ++ nwB su ++ lfB) :: (w2B ++ nwB bo ++ lfB) :: ((ps.flatMap partL).map (· ++ lfB) ++ (totsL ps 8 ++ [endB]).map (· ++ lfB)) := by
    unfold linesL bodyL headL
    simp
  have n1 := nm_app w1B su h.1.1
  have n2 := nm_app w2B bo h.1.2
  rw [e, pl_0 (hs_app _) rfl (by rw [ts_app]; exact n1.1), ts_app, n1.2, pl_1 (hs_app _) (by decide) (by rw [ts_app]; exact n2.1), ts_app, n2.2]
  show parsL _ 2 su bo [] true [] = _
  rw [pl_parts su bo _ ps [] 2 (by decide) h.2, List.nil_append]
  have hd : (linesL su bo ps).drop (2 + (ps.length : Int) + (sumL ps : Int)).toNat = totsL ps 8 ++ [endB] := by
    unfold linesL
    have hb := body_len su bo ps
    rw [show (2 + (ps.length : Int) + (sumL ps : Int)).toNat = (bodyL su bo ps).length by omega, List.append_assoc, List.drop_left]
  have hne : totsL ps 8 ++ [endB] ≠ [] := by simp
  have hth := tail_head ps
  generalize totsL ps 8 ++ [endB] = T at hd hne hth
  cases T with
  | nil => exact absurd rfl hne
  | cons x xs =>
    obtain ⟨l, hx⟩ := hth x (List.mem_cons_self ..)
    have hh : hpB x hashB = true := by
      unfold hpB Lib.hasPrefix
      rw [hx]
      rfl
    show parsL ((x ++ lfB) :: xs.map (· ++ lfB)) _ su bo ps true [] = _
    rw [pl_t (x :: xs) (by rw [if_pos rfl, hd]) (hs_app x) (by omega) (by omega) (by rw [ts_app, hh]; rfl) ⟨by simp <;> omega, by rw [ts_app]; rfl⟩]
    exact pl_tail su bo ps xs _ (by omega)
end
section
def Chunk.frz (w1 : World) (S : Nat → Prop) : Chunk := ⟨S, fun w => ∀ k, S k → w.heap[k]? = w1.heap[k]?, fun h hm k hk => (hm k hk).trans (h k hk)⟩
section
variable {α β : Type} {d : Kd α} {d' : Kd β} {e base n c i : Nat} {S S' : Nat → Prop} {A : Option Addr} {xs : List α} {w0 w w' w1 : World} {L : List Chunk}
abbrev okF (w0 : World) (S : Nat → Prop) : Nat → Prop := fun k => k < w0.heap.size ∨ S k
theorem Own.frz (h : Own w0 w L) (i : Nat) {c : Chunk} (hi : L[i]? = some c) : Own w0 w (L.set i (Chunk.frz w c.S)) :=
  h.calls (cs := []) i hi (Out.one (Out.refl w _) (c := Chunk.frz w c.S) (fun _ _ => rfl) fun k hk => ⟨.inl hk, (h.lt i hi hk).2⟩)
theorem frz_C (HO : Own w0 w L) (hi : L[i]? = some (Chunk.frz w1 S)) (hb : Below w0.heap.size w0 w1) (hF : d.F w1 (okF w0 S) A n xs) : d.C w A n xs :=
  hF w fun k hk _ => hk.elim (fun h => (HO.below.block k h).trans (hb.block k h).symm) fun h => HO.get i hi k h
theorem frz_F (HO : Own w0 w L) (hi : L[i]? = some (Chunk.frz w1 S)) (hb : Below w0.heap.size w0 w1) (hF : d.F w1 (okF w0 S) A n xs) : d.F w (okF w0 S) A n xs :=
  Kd.F_step hF fun k hk _ => hk.elim (fun h => (HO.below.block k h).trans (hb.block k h).symm) fun h => HO.get i hi k h
theorem frz_cells {ad : Addr} {m : Nat} {cs : List Value} (HO : Own w0 w L) (hi : L[i]? = some (Chunk.frz w1 S)) (hb : Below w0.heap.size w0 w1) (hok : okF w0 S ad.block) (hc : ∀ j u, cs[j]? = some u → w1.cell? (ad.add (m + j)) = some u) : ∀ j u, cs[j]? = some u → w.cell? ((ad.add m).add j) = some u := fun j u hj => by
  have hk : w.heap[ad.block]? = w1.heap[ad.block]? := hok.elim (fun h => (HO.below.block _ h).trans (hb.block _ h).symm) fun h => HO.get i hi _ h
  rw [add_add, cell_same, hc j u hj]
  rw [add_block]
  exact hk
theorem frz_view (h : Own w0 w L) (i : Nat) (hi : L[i]? = some (Chunk.view d S A n c xs)) : Own w0 w (L.set i (Chunk.frz w S)) ∧ Kd.F d w (okF w0 S) A n xs ∧ n ≤ c ∧ Below w0.heap.size w0 w := by
  have hV := h.get i hi
  exact ⟨h.frz i hi, Kd.F_mono hV.1 (fun k hk => .inr hk), hV.2.1, h.below⟩
theorem frz_new (h : Own w0 w L) (hb : Below w.heap.size w w') : Own w0 w' (Chunk.frz w' (fun k => w.heap.size ≤ k ∧ k < w'.heap.size) :: L) :=
  h.fresh (cs := [Chunk.frz w' fun k => w.heap.size ≤ k ∧ k < w'.heap.size]) (Out.one (Out.of_below hb _) (c := Chunk.frz w' fun k => w.heap.size ≤ k ∧ k < w'.heap.size) (fun _ _ => rfl) fun k hk => ⟨.inr hk.1, hk.2⟩)
theorem frz_grow (h : Own w0 w L) (i : Nat) (hi : L[i]? = some (Chunk.frz w1 S)) (hb : Below w.heap.size w w') : Own w0 w' (L.set i (Chunk.frz w' (fun k => S k ∨ w.heap.size ≤ k ∧ k < w'.heap.size))) :=
  h.calls (cs := []) i hi (Out.one (Out.of_below hb _) (c := Chunk.frz w' fun k => S k ∨ w.heap.size ≤ k ∧ k < w'.heap.size) (fun _ _ => rfl) fun k hk => hk.elim (fun h2 => ⟨.inl h2, Nat.lt_of_lt_of_le (h.lt i hi h2).2 hb.size⟩) fun h2 => ⟨.inr h2.1, h2.2⟩)
end
end
namespace GParse_
theorem parse_calls (s : ByteArray) (w : World) (hs : s.size ≤ 100000000) (hL : LaidW w) :
    Calls Tryd.prog 18 #[.string s] w fun e w' => ∃ A_ c_ S_, e = .returned (.tuple #[(.agg #[.string (outS s).1, .string (outS s).2.1, .slice A_ (outS s).2.2.length c_]), .int .i64 (codeP s), .int .i64 (parseP s).2]) ∧ Out w w' (fun _ => False) [Chunk.view KP S_ A_ (outS s).2.2.length c_ (outS s).2.2] := by
 have hpl := pcs_len s
 have hpe := pcs_le s
 refine gw_start (N := 98) (vs := [.string s]) Tryd.func18 rfl rfl (by simp) fun a HF HO => ?_
 replace HO : Own w w [] := HO
 refine gR fun K1 hK1 => ?_
 refine gw_new HF HO (want_none rfl) rfl (by decide) (op_alloc gwzer24 rfl) ?_
 intro g2 _ w4 H5 O6; clear HF HO
 have O7 : Own w w4 [Bk g2 [.string (⟨#[]⟩ : ByteArray), .string (⟨#[]⟩ : ByteArray), .slice none 0 0] 24] := O6
 clear O6
 refine Vc H5 fun _ H9 => ?_
 refine Vc H9 fun _ H11 => ?_
 refine gE hK1 ?_
 refine gR fun K12 hK12 => ?_
 clear H5 H9
 refine gw_new H11 O7 (want_none rfl) rfl (by decide) (op_alloc gwzer24 rfl) ?_
 intro g13 _ w15 H16 O17; clear H11 O7
 have O18 : Own w w15 [Bk g13 [.string (⟨#[]⟩ : ByteArray), .string (⟨#[]⟩ : ByteArray), .slice none 0 0] 24, Bk g2 [.string (⟨#[]⟩ : ByteArray), .string (⟨#[]⟩ : ByteArray), .slice none 0 0] 24] := O17
 clear O17
 obtain ⟨S20, O19⟩ := O18.sp_start
 clear O18
 refine gE hK12 ?_
 refine gR fun K21 hK21 => ?_
 refine Vm H16 fun _ H23 => ?_
 clear H16
 refine Wk H23 Tryd.func30 rfl (ar_cons (H23.ev rfl) (ar_cons (ev_c _ _) ar_nil)) (split_calls s _ (by omega) (hL.own O19)) ?_
 rintro e28 w29 ⟨A24, c25, S26, rfl, hb30⟩
 refine ⟨_, rfl, fun _ H32 => ?_⟩
 have O33 := O19.fresh hb30
 clear H23 O19 hb30
 refine Va H32 fun _ H36 => ?_
 refine gE hK21 ?_
 clear H32
 refine gw_joinS (fun a_ w_ => ∃ (AL : List ByteArray) (A6 : Option Addr) (c6 : Nat) (S6 : Nat → Prop), Fr 98 a_ [(6, .slice A6 AL.length c6), (2, .pointer (some ⟨g2, 0, none⟩)), (3, J 0), (4, J 0), (5, .pointer (some ⟨g13, 0, none⟩))] ∧ Own w w_ [Chunk.view Kd.string S6 A6 AL.length c6 AL, Chunk.sp w.heap.size S20 none 0 ([] : List PP), Bk g13 [.string (⟨#[]⟩ : ByteArray), .string (⟨#[]⟩ : ByteArray), .slice none 0 0] 24, Bk g2 [.string (⟨#[]⟩ : ByteArray), .string (⟨#[]⟩ : ByteArray), .slice none 0 0] 24] ∧ (AL = allL s)) ?_ ?_
 ·
  refine gR fun K37 hK37 => ?_
  refine Vm H36 fun _ H39 => ?_
  refine V H39 (op_len Tryd.underlying58 rfl (H39.ev rfl)) fun _ H41 => ?_
  refine V H41 (op_sub rfl (H41.ev rfl) (ev_c _ _) (by omega)) fun _ H43 => ?_
  refine Va H43 fun _ H45 => ?_
  refine gE hK37 ?_
  refine gR fun K46 hK46 => ?_
  refine Vm H45 fun _ H48 => ?_
  refine Vm H48 fun _ H50 => ?_
  clear H36 H39 H41 H43 H45 H48
  have O57 := O33.pin 0 rfl
  clear O33
  have O58 : Own w w29 [Chunk.viewAt w29 Kd.string S26 A24 ((pcs s).length) c25 (pcs s), Chunk.sp w.heap.size S20 none 0 ([] : List PP), Bk g13 [.string (⟨#[]⟩ : ByteArray), .string (⟨#[]⟩ : ByteArray), .slice none 0 0] 24, Bk g2 [.string (⟨#[]⟩ : ByteArray), .string (⟨#[]⟩ : ByteArray), .slice none 0 0] 24] := O57
  clear O57
  obtain ⟨ad51, cs54, hA52, hl55, hK56, hc53, _⟩ := Kd.F_get (viewAt_F (O58.get 0 rfl)) (⟨#[]⟩ : ByteArray) ((((pcs s).length) : Int) - 1) (by omega) (by omega)
  obtain rfl := str_openF hK56
  clear hl55
  refine V H50 (op_index Tryd.underlying58 gwsiz9 rfl (H50.ev rfl) (H50.ev rfl) hA52 (⟨by omega, by omega⟩)) fun _ H60 => ?_
  refine V H60 (op_load1 gwagg9 rfl (H60.ev rfl) (((pin_cells (O58.get 0 rfl) hA52 hc53) 0 _ rfl))) fun _ H62 => ?_
  refine V H62 (op_eqs rfl (H62.ev rfl) (ev_c _ _)) fun _ H64 => ?_
  refine gE hK46 ?_
  clear H50 H60 H62
  refine gw_cond H64 rfl (fun hb65 => ?_) (fun hb65 => ?_)
  ·
   have H66 := H64.subst_ (d := 22) (b := true) rfl hb65
   clear H64
   (try simp only [beq_iff_eq, beq_eq_false_iff_ne, ne_eq] at hb65)
   have hlast := hb65
   refine wp_region_lit ?_
   refine Vm H66 fun _ H68 => ?_
   refine Vm H68 fun _ H70 => ?_
   clear H66 H68
   obtain ⟨hr71, hc72, hC73⟩ := cut_hi (P := Tryd.prog) (d := Kd.string) (t := 58) (e := 9) Tryd.underlying58 gwsiz9 A24 c25 (pcs s) (viewAt_le (O58.get 0 rfl)) ((((pcs s).length) : Int) - 1) (by omega) (by omega)
   refine V H70 (op_cut Tryd.underlying58 hr71 rfl (H70.ev rfl) rfl (some_ev (H70.ev rfl))) fun _ H75 => ?_
   clear H70
   have O76 := O58.unpin 0 rfl
   clear O58
   have O77 : Own w w29 [Chunk.view Kd.string S26 A24 ((pcs s).length) c25 (pcs s), Chunk.sp w.heap.size S20 none 0 ([] : List PP), Bk g13 [.string (⟨#[]⟩ : ByteArray), .string (⟨#[]⟩ : ByteArray), .slice none 0 0] 24, Bk g2 [.string (⟨#[]⟩ : ByteArray), .string (⟨#[]⟩ : ByteArray), .slice none 0 0] 24] := O76
   clear O76
   have O78 := O77.view_cut 0 rfl (A' := A24) (n' := (((pcs s).take ((((pcs s).length) : Int) - 1).toNat).length)) (c' := c25) (ys := ((pcs s).take ((((pcs s).length) : Int) - 1).toNat)) hc72 hC73 (fun ad e => ⟨ad, e, rfl⟩)
   clear O77
   have O79 : Own w w29 [Chunk.view Kd.string S26 A24 (((pcs s).take ((((pcs s).length) : Int) - 1).toNat).length) c25 ((pcs s).take ((((pcs s).length) : Int) - 1).toNat), Chunk.sp w.heap.size S20 none 0 ([] : List PP), Bk g13 [.string (⟨#[]⟩ : ByteArray), .string (⟨#[]⟩ : ByteArray), .slice none 0 0] 24, Bk g2 [.string (⟨#[]⟩ : ByteArray), .string (⟨#[]⟩ : ByteArray), .slice none 0 0] 24] := O78
   clear O78
   refine Va H75 fun _ H81 => ?_
   clear H75
   refine wpList_nil ?_
   refine gw_nx ⟨((pcs s).take ((((pcs s).length) : Int) - 1).toNat), A24, c25, S26, (H81.pick (t := 6) rfl (H81.pick (t := 2) rfl (H81.pick (t := 3) rfl (H81.pick (t := 4) rfl (H81.pick (t := 5) rfl H81.nil))))), O79.sel [0, 1, 2, 3] (by decide), ?_⟩
   exact allL_yes s hlast
  have H82 := H64.subst_ (d := 22) (b := false) rfl hb65
  clear H64
  (try simp only [beq_iff_eq, beq_eq_false_iff_ne, ne_eq] at hb65)
  have hlast := hb65
  refine wp_skip ?_
  have O83 := O58.unpin 0 rfl
  clear O58
  have O84 : Own w w29 [Chunk.view Kd.string S26 A24 ((pcs s).length) c25 (pcs s), Chunk.sp w.heap.size S20 none 0 ([] : List PP), Bk g13 [.string (⟨#[]⟩ : ByteArray), .string (⟨#[]⟩ : ByteArray), .slice none 0 0] 24, Bk g2 [.string (⟨#[]⟩ : ByteArray), .string (⟨#[]⟩ : ByteArray), .slice none 0 0] 24] := O83
  clear O83
  refine gw_nx ⟨(pcs s), A24, c25, S26, (H82.pick (t := 6) rfl (H82.pick (t := 2) rfl (H82.pick (t := 3) rfl (H82.pick (t := 4) rfl (H82.pick (t := 5) rfl H82.nil))))), O84.sel [0, 1, 2, 3] (by decide), ?_⟩
  exact allL_no s hlast
 rintro _ w86 ⟨AL, A6, c6, S6, H87, O88, hAL⟩
 refine gR fun K89 hK89 => ?_
 refine Vc H87 fun _ H91 => ?_
 refine gE hK89 ?_
 refine gw_seq fun K92 hK92 => ?_
 refine gR fun K93 hK93 => ?_
 refine Vm H91 fun _ H95 => ?_
 refine V H95 (op_len Tryd.underlying58 rfl (H95.ev rfl)) fun _ H97 => ?_
 refine V H97 (op_move rfl (ev_c _ _)) fun _ H99 => ?_
 refine gE hK93 ?_
 clear H87 H91 H95 H97
 refine wp_block ?_
 have O100 := O88.row_nil Kd.string 9 w.heap.size
 clear O88
 have O101 : Own w w86 [Chunk.row Kd.string 9 w.heap.size (fun _ => False) (.slice none (([] : List ByteArray).length) 0) ([] : List ByteArray), Chunk.view Kd.string S6 A6 AL.length c6 AL, Chunk.sp w.heap.size S20 none 0 ([] : List PP), Bk g13 [.string (⟨#[]⟩ : ByteArray), .string (⟨#[]⟩ : ByteArray), .slice none 0 0] 24, Bk g2 [.string (⟨#[]⟩ : ByteArray), .string (⟨#[]⟩ : ByteArray), .slice none 0 0] 24] := O100
 clear O100
 have O102 := O101.row_view 0 rfl
 clear O101
 have O103 : Own w w86 [Chunk.view Kd.string (fun _ => False) none (([] : List ByteArray).length) 0 ([] : List ByteArray), Chunk.view Kd.string S6 A6 AL.length c6 AL, Chunk.sp w.heap.size S20 none 0 ([] : List PP), Bk g13 [.string (⟨#[]⟩ : ByteArray), .string (⟨#[]⟩ : ByteArray), .slice none 0 0] 24, Bk g2 [.string (⟨#[]⟩ : ByteArray), .string (⟨#[]⟩ : ByteArray), .slice none 0 0] 24] := O102
 clear O102
 have hal := allL_len s
 rw [← hAL] at hal
 refine gw_loop (fun m_ a_ w_ => ∃ (i : Int) (su : ByteArray) (bo : ByteArray) (ps : List PP) (A : Option Addr) (c : Nat) (S : Nat → Prop) (At : Option Addr) (ct : Nat) (St : Nat → Prop) (TL : List ByteArray), Fr 98 a_ [(28, J i), (8, .slice At TL.length ct), (6, .slice A6 AL.length c6), (2, .pointer (some ⟨g2, 0, none⟩)), (5, .pointer (some ⟨g13, 0, none⟩)), (26, .slice A6 AL.length c6), (27, J (AL.length : Int))] ∧ Own w w_ [Chunk.view Kd.string St At TL.length ct TL, Chunk.view Kd.string S6 A6 AL.length c6 AL, Chunk.sp w.heap.size S A c ps, Bk g13 [.string su, .string bo, .slice A ps.length c] 24, Bk g2 [.string (⟨#[]⟩ : ByteArray), .string (⟨#[]⟩ : ByteArray), .slice none 0 0] 24] ∧ (0 ≤ i ∧ i ≤ AL.length) ∧ ((ps.length : Int) + sumL ps ≤ i ∧ (Option.isNone At = true → i ≤ 2 + (ps.length : Int) + sumL ps)) ∧ (parsL (AL.drop i.toNat) i su bo ps (Option.isNone At) TL = parseP s) ∧ m_ = (AL.length - i.toNat)) ((AL.length - (0 : Int).toNat)) ?_ ?_
 ·
  refine ⟨0, _, _, ([] : List PP), none, 0, _, none, 0, _, ([] : List ByteArray), (H99.pick (t := 28) rfl (H99.pick (t := 8) rfl (H99.pick (t := 6) rfl (H99.pick (t := 2) rfl (H99.pick (t := 5) rfl (H99.pick (t := 26) rfl (H99.pick (t := 27) rfl H99.nil))))))), O103.sel [0, 1, 2, 3, 4] (by decide), ?_, ?_, ?_, rfl⟩
  ·
   omega
  ·
   exact ⟨by simp [sumL], fun _ => by simp [sumL]⟩
  show parsL (AL.drop 0) 0 eB eB [] true [] = parseP s; rw [List.drop_zero, hAL]; rfl
 rintro m105 _ w107 ⟨i, su, bo, ps, A, c, S, At, ct, St, TL, H108, O109, hi, hcnt, hP, hm110⟩
 have hts := ts_size (AL.getD i.toNat (⟨#[]⟩ : ByteArray)) (⟨#[10]⟩ : ByteArray)
 have hAs : (AL.getD i.toNat (⟨#[]⟩ : ByteArray)).size ≤ s.size := by rw [hAL]; exact allL_at s i
 refine gR fun K111 hK111 => ?_
 refine V H108 (op_lss rfl (H108.ev rfl) (H108.ev rfl)) fun _ H113 => ?_
 refine gE hK111 ?_
 refine gw_seq fun K114 hK114 => ?_
 clear H108
 refine gw_cond H113 rfl (fun hb115 => ?_) (fun hb115 => ?_)
 ·
  have H116 := H113.subst_ (d := 29) (b := true) rfl hb115
  clear H113
  (try simp only [decide_eq_true_eq] at hb115)
  refine gS hK114 ?_
  refine gw_seq fun K117 hK117 => ?_
  refine wp_block ?_
  refine gR fun K118 hK118 => ?_
  refine Vm H116 fun _ H120 => ?_
  clear H116
  have O127 := O109.pin 1 rfl
  clear O109
  have O128 : Own w w107 [Chunk.view Kd.string St At TL.length ct TL, Chunk.viewAt w107 Kd.string S6 A6 AL.length c6 AL, Chunk.sp w.heap.size S A c ps, Bk g13 [.string su, .string bo, .slice A ps.length c] 24, Bk g2 [.string (⟨#[]⟩ : ByteArray), .string (⟨#[]⟩ : ByteArray), .slice none 0 0] 24] := O127
  clear O127
  obtain ⟨ad121, cs124, hA122, hl125, hK126, hc123, _⟩ := Kd.F_get (viewAt_F (O128.get 1 rfl)) (⟨#[]⟩ : ByteArray) i (by omega) (by omega)
  obtain rfl := str_openF hK126
  clear hl125
  refine V H120 (op_index Tryd.underlying58 gwsiz9 rfl (H120.ev rfl) (H120.ev rfl) hA122 (⟨by omega, by omega⟩)) fun _ H130 => ?_
  refine V H130 (op_load1 gwagg9 rfl (H130.ev rfl) (((pin_cells (O128.get 1 rfl) hA122 hc123) 0 _ rfl))) fun _ H132 => ?_
  refine Va H132 fun _ H134 => ?_
  refine Va H134 fun _ H136 => ?_
  refine gE hK118 ?_
  refine gR fun K137 hK137 => ?_
  refine Vm H136 fun _ H139 => ?_
  clear H120 H130 H132 H134 H136
  refine Wk H139 Tryd.func31 rfl (ar_cons (H139.ev rfl) (ar_cons (ev_c _ _) ar_nil)) (cs_calls (AL.getD i.toNat (⟨#[]⟩ : ByteArray)) (⟨#[10]⟩ : ByteArray) (by omega) _) ?_
  rintro e140 w141 ⟨rfl, hb142⟩
  refine ⟨_, rfl, fun _ H144 => ?_⟩
  have O145 := O128.after hb142
  clear H139 O128 hb142
  refine Vm H144 fun _ H148 => ?_
  refine Vx H148 fun _ H150 => ?_
  refine Vx H150 fun _ H152 => ?_
  refine Va H152 fun _ H154 => ?_
  refine Va H154 fun _ H156 => ?_
  refine gE hK137 ?_
  refine gw_seq fun K157 hK157 => ?_
  clear H144 H148 H150 H152 H154
  refine wp_block ?_
  refine gR fun K158 hK158 => ?_
  refine Vm H156 fun _ H160 => ?_
  refine V H160 (op_not rfl (H160.ev rfl)) fun _ H162 => ?_
  refine Va H162 fun _ H164 => ?_
  refine gE hK158 ?_
  clear H156 H160 H162
  refine gw_cond H164 rfl (fun hb165 => ?_) (fun hb165 => ?_)
  ·
   have H166 := H164.subst_ (d := 57) (b := true) rfl hb165
   clear H164
   (try simp only [Bool.and_eq_true, Bool.and_eq_false_iff, Bool.not_and, Bool.or_eq_true, Bool.or_eq_false_iff, Bool.not_or, Bool.not_not, Bool.not_eq_true', Bool.not_eq_false', Bool.not_eq_true, Bool.not_eq_false] at hb165)
   have hok : hsB (AL.getD i.toNat (⟨#[]⟩ : ByteArray)) lfB = false := by have hb_ := hb165; revert hb_; cases hsB (AL.getD i.toNat (⟨#[]⟩ : ByteArray)) (⟨#[10]⟩ : ByteArray) <;> simp
   refine wp_skip ?_
   refine gw_blk ?_
   refine gw_nx (hK157 _ _ ?_)
   refine gR fun K167 hK167 => ?_
   refine Vm H166 fun _ H169 => ?_
   refine V H169 (op_not rfl (H169.ev rfl)) fun _ H171 => ?_
   clear H166 H169
   have H172 := H171.lit (b := true) (by rw [hok]; rfl)
   clear H171
   refine gE hK167 ?_
   refine gw_cond H172 rfl (fun hb173 => ?_) (fun hb173 => ?_)
   rotate_left
   ·
    cases hb173
   refine gR fun K174 hK174 => ?_
   refine V H172 (op_build (cells := #[.string (⟨#[]⟩ : ByteArray), .string (⟨#[]⟩ : ByteArray), .slice none 0 0]) rfl pt_nil (by kernel_rfl)) fun _ H176 => ?_
   refine Vm H176 fun _ H178 => ?_
   clear H172 H176
   refine gw_setn 4 H178 O145 rfl (want_none rfl) rfl (op_storen gwsiz24 rfl (H178.ev rfl) (H178.ev rfl) (O145.get 4 rfl) rfl (by simp) (by simp [Value.oneCell'])) ?_
   intro _ w181 H180 O182; clear H178 O145
   refine Vc H180 fun _ H184 => ?_
   refine Va H184 fun _ H186 => ?_
   refine gE hK174 ?_
   refine wp_ret ?_
   clear H180 H184
   refine gw_blr ?_
   refine gw_thr ?_
   refine gw_thr ?_
   refine gw_blr ?_
   refine gw_thr ?_
   have O187 := O182.unpin 1 rfl
   clear O182
   have O188 : Own w w181 [Chunk.view Kd.string St At TL.length ct TL, Chunk.view Kd.string S6 A6 AL.length c6 AL, Chunk.sp w.heap.size S A c ps, Bk g13 [.string su, .string bo, .slice A ps.length c] 24, Bk g2 [.string (⟨#[]⟩ : ByteArray), .string (⟨#[]⟩ : ByteArray), .slice none 0 0] 24] := O187
   clear O187
   refine gw_rets3 H186 rfl (rv_celln H186 rfl gwagg24 gwsiz24 (O188.get 4 rfl) rfl) (rv_tmp H186 rfl) (rv_tmp H186 rfl) ?_
   have hr : parseP s = (none, i) := by rw [← hP, drop_at AL i (by omega) (by omega)]; exact pl_bad hok
   have ho_ : outS s = (eB, eB, []) := by unfold outS; rw [hr]; rfl
   have hc_ : codeP s = 80 := by unfold codeP; rw [hr]; rfl
   have O189_1 := (O188.row_nil KP 46 w.heap.size).row_view 0 rfl
   rw [ho_, hc_, hr]
   exact ⟨none, 0, _, rfl, (O189_1.sel [0] (by decide)).out⟩
  have H190 := H164.subst_ (d := 57) (b := false) rfl hb165
  clear H164
  (try simp only [Bool.and_eq_true, Bool.and_eq_false_iff, Bool.not_and, Bool.or_eq_true, Bool.or_eq_false_iff, Bool.not_or, Bool.not_not, Bool.not_eq_true', Bool.not_eq_false', Bool.not_eq_true, Bool.not_eq_false] at hb165)
  have hok : hsB (AL.getD i.toNat (⟨#[]⟩ : ByteArray)) lfB = true := by have hb_ := hb165; revert hb_; cases hsB (AL.getD i.toNat (⟨#[]⟩ : ByteArray)) (⟨#[10]⟩ : ByteArray) <;> simp
  refine gR fun K191 hK191 => ?_
  refine Vm H190 fun _ H193 => ?_
  refine V H193 (op_eqi rfl (H193.ev rfl) (ev_c _ _)) fun _ H195 => ?_
  refine Va H195 fun _ H197 => ?_
  refine gE hK191 ?_
  clear H190 H193 H195
  refine gw_cond H197 rfl (fun hb198 => ?_) (fun hb198 => ?_)
  ·
   have H199 := H197.subst_ (d := 60) (b := true) rfl hb198
   clear H197
   (try simp only [decide_eq_true_eq] at hb198)
   have hi0 := hb198
   refine wp_region_lit ?_
   refine Vm H199 fun _ H201 => ?_
   refine Vf H201 (gwfld24_0 _ _) fun _ H203 => ?_
   clear H199 H201
   have O210 : Own w _ [(Chunk.all [Chunk.view Kd.string St At TL.length ct TL, Chunk.viewAt w107 Kd.string S6 A6 AL.length c6 AL, Chunk.sp w.heap.size S A c ps, Bk g2 [.string (⟨#[]⟩ : ByteArray), .string (⟨#[]⟩ : ByteArray), .slice none 0 0] 24]), Bk g13 [.string su, .string bo, .slice A ps.length c] 24] := Own.bundle (O145.sel [0, 1, 2, 4, 3] (by decide))
   refine Wk H203 Tryd.func32 rfl (ar_cons (H203.ev rfl) (ar_cons (ev_c _ _) (ar_cons (H203.ev rfl) ar_nil))) (named_0 w (Chunk.all [Chunk.view Kd.string St At TL.length ct TL, Chunk.viewAt w107 Kd.string S6 A6 AL.length c6 AL, Chunk.sp w.heap.size S A c ps, Bk g2 [.string (⟨#[]⟩ : ByteArray), .string (⟨#[]⟩ : ByteArray), .slice none 0 0] 24]) g13 (tsB (AL.getD i.toNat (⟨#[]⟩ : ByteArray)) (⟨#[10]⟩ : ByteArray)) (⟨#[84, 101, 115, 116, 32, 114, 117, 110, 32, 111, 102, 32]⟩ : ByteArray) su (.string bo) (.slice A ps.length c) _ (by omega) O210) ?_
   rintro e204 w205 ⟨rfl, hb206⟩
   refine ⟨_, rfl, fun _ H208 => ?_⟩
   have O209 : Own w w205 [Chunk.view Kd.string St At TL.length ct TL, Chunk.viewAt w107 Kd.string S6 A6 AL.length c6 AL, Chunk.sp w.heap.size S A c ps, Bk g2 [.string (⟨#[]⟩ : ByteArray), .string (⟨#[]⟩ : ByteArray), .slice none 0 0] 24, Bk g13 [.string (nmB (tsB (AL.getD i.toNat (⟨#[]⟩ : ByteArray)) (⟨#[10]⟩ : ByteArray)) (⟨#[84, 101, 115, 116, 32, 114, 117, 110, 32, 111, 102, 32]⟩ : ByteArray)), .string bo, .slice A ps.length c] 24] := Own.unbundle (hb206.sel [0, 1] (by decide))
   clear O210
   clear H203 O145 hb206
   refine Va H208 fun _ H213 => ?_
   clear H208
   refine wpList_nil ?_
   refine gw_blk ?_
   refine gw_nx (hK157 _ _ ?_)
   refine gR fun K214 hK214 => ?_
   refine Vm H213 fun _ H216 => ?_
   refine V H216 (op_not rfl (H216.ev rfl)) fun _ H218 => ?_
   refine gE hK214 ?_
   clear H213 H216
   refine gw_cond H218 rfl (fun hb219 => ?_) (fun hb219 => ?_)
   ·
    have H220 := H218.subst_ (d := 83) (b := true) rfl hb219
    clear H218
    (try simp only [Bool.and_eq_true, Bool.and_eq_false_iff, Bool.not_and, Bool.or_eq_true, Bool.or_eq_false_iff, Bool.not_or, Bool.not_not, Bool.not_eq_true', Bool.not_eq_false', Bool.not_eq_true, Bool.not_eq_false] at hb219)
    have hnm := hb219
    refine gR fun K221 hK221 => ?_
    refine V H220 (op_build (cells := #[.string (⟨#[]⟩ : ByteArray), .string (⟨#[]⟩ : ByteArray), .slice none 0 0]) rfl pt_nil (by kernel_rfl)) fun _ H223 => ?_
    refine Vm H223 fun _ H225 => ?_
    clear H220 H223
    refine gw_setn 3 H225 O209 rfl (want_none rfl) rfl (op_storen gwsiz24 rfl (H225.ev rfl) (H225.ev rfl) (O209.get 3 rfl) rfl (by simp) (by simp [Value.oneCell'])) ?_
    intro _ w228 H227 O229; clear H225 O209
    refine Vc H227 fun _ H231 => ?_
    refine Va H231 fun _ H233 => ?_
    refine gE hK221 ?_
    refine wp_ret ?_
    clear H227 H231
    refine gw_blr ?_
    refine gw_thr ?_
    refine gw_thr ?_
    refine gw_blr ?_
    refine gw_thr ?_
    have O234 := O229.unpin 1 rfl
    clear O229
    have O235 : Own w w228 [Chunk.view Kd.string St At TL.length ct TL, Chunk.view Kd.string S6 A6 AL.length c6 AL, Chunk.sp w.heap.size S A c ps, Bk g2 [.string (⟨#[]⟩ : ByteArray), .string (⟨#[]⟩ : ByteArray), .slice none 0 0] 24, Bk g13 [.string (nmB (tsB (AL.getD i.toNat (⟨#[]⟩ : ByteArray)) (⟨#[10]⟩ : ByteArray)) (⟨#[84, 101, 115, 116, 32, 114, 117, 110, 32, 111, 102, 32]⟩ : ByteArray)), .string bo, .slice A ps.length c] 24] := O234
    clear O234
    refine gw_rets3 H233 rfl (rv_celln H233 rfl gwagg24 gwsiz24 (O235.get 3 rfl) rfl) (rv_tmp H233 rfl) (rv_tmp H233 rfl) ?_
    have hr : parseP s = (none, i) := by rw [← hP, drop_at AL i (by omega) (by omega)]; exact pl_0x hok (by omega) hnm
    have ho_ : outS s = (eB, eB, []) := by unfold outS; rw [hr]; rfl
    have hc_ : codeP s = 80 := by unfold codeP; rw [hr]; rfl
    have O236_1 := (O235.row_nil KP 46 w.heap.size).row_view 0 rfl
    rw [ho_, hc_, hr]
    exact ⟨none, 0, _, rfl, (O236_1.sel [0] (by decide)).out⟩
   have H237 := H218.subst_ (d := 83) (b := false) rfl hb219
   clear H218
   (try simp only [Bool.and_eq_true, Bool.and_eq_false_iff, Bool.not_and, Bool.or_eq_true, Bool.or_eq_false_iff, Bool.not_or, Bool.not_not, Bool.not_eq_true', Bool.not_eq_false', Bool.not_eq_true, Bool.not_eq_false] at hb219)
   have hnm := hb219
   refine wp_skip ?_
   refine gw_blk ?_
   refine gw_nx (hK117 _ _ ?_)
   refine wp_region_lit ?_
   refine V H237 (op_add rfl (H237.ev rfl) (ev_c _ _) (by omega)) fun _ H239 => ?_
   refine Vm H239 fun _ H241 => ?_
   clear H237 H239
   refine wpList_nil ?_
   have O242 := O209.unpin 1 rfl
   clear O209
   have O243 : Own w w205 [Chunk.view Kd.string St At TL.length ct TL, Chunk.view Kd.string S6 A6 AL.length c6 AL, Chunk.sp w.heap.size S A c ps, Bk g2 [.string (⟨#[]⟩ : ByteArray), .string (⟨#[]⟩ : ByteArray), .slice none 0 0] 24, Bk g13 [.string (nmB (tsB (AL.getD i.toNat (⟨#[]⟩ : ByteArray)) (⟨#[10]⟩ : ByteArray)) (⟨#[84, 101, 115, 116, 32, 114, 117, 110, 32, 111, 102, 32]⟩ : ByteArray)), .string bo, .slice A ps.length c] 24] := O242
   clear O242
   refine gw_nx ⟨_, ?_, i + 1, (nmB (tsB (AL.getD i.toNat (⟨#[]⟩ : ByteArray)) (⟨#[10]⟩ : ByteArray)) (⟨#[84, 101, 115, 116, 32, 114, 117, 110, 32, 111, 102, 32]⟩ : ByteArray)), bo, ps, A, c, S, At, ct, St, TL, (H241.pick (t := 28) rfl (H241.pick (t := 8) rfl (H241.pick (t := 6) rfl (H241.pick (t := 2) rfl (H241.pick (t := 5) rfl (H241.pick (t := 26) rfl (H241.pick (t := 27) rfl H241.nil))))))), O243.sel [0, 1, 2, 4, 3] (by decide), ?_, ?_, ?_, rfl⟩
   ·
    rw [hm110]; omega
   ·
    omega
   ·
    exact ⟨by omega, fun _ => by omega⟩
   rw [← hP, drop_at AL i (by omega) (by omega)]; symm; exact pl_0 hok (by omega) hnm
  have H244 := H197.subst_ (d := 60) (b := false) rfl hb198
  clear H197
  (try simp only [decide_eq_false_iff_not] at hb198)
  have hi0 := hb198
  refine gR fun K245 hK245 => ?_
  refine Vm H244 fun _ H247 => ?_
  refine V H247 (op_eqi rfl (H247.ev rfl) (ev_c _ _)) fun _ H249 => ?_
  refine Va H249 fun _ H251 => ?_
  refine gE hK245 ?_
  clear H244 H247 H249
  refine gw_cond H251 rfl (fun hb252 => ?_) (fun hb252 => ?_)
  ·
   have H253 := H251.subst_ (d := 66) (b := true) rfl hb252
   clear H251
   (try simp only [decide_eq_true_eq] at hb252)
   have hi1 := hb252
   refine wp_region_lit ?_
   refine Vm H253 fun _ H255 => ?_
   refine Vf H255 (gwfld24_1 _ _) fun _ H257 => ?_
   clear H253 H255
   have O264 : Own w _ [(Chunk.all [Chunk.view Kd.string St At TL.length ct TL, Chunk.viewAt w107 Kd.string S6 A6 AL.length c6 AL, Chunk.sp w.heap.size S A c ps, Bk g2 [.string (⟨#[]⟩ : ByteArray), .string (⟨#[]⟩ : ByteArray), .slice none 0 0] 24]), Bk g13 [.string su, .string bo, .slice A ps.length c] 24] := Own.bundle (O145.sel [0, 1, 2, 4, 3] (by decide))
   refine Wk H257 Tryd.func32 rfl (ar_cons (H257.ev rfl) (ar_cons (ev_c _ _) (ar_cons (H257.ev rfl) ar_nil))) (named_1 w (Chunk.all [Chunk.view Kd.string St At TL.length ct TL, Chunk.viewAt w107 Kd.string S6 A6 AL.length c6 AL, Chunk.sp w.heap.size S A c ps, Bk g2 [.string (⟨#[]⟩ : ByteArray), .string (⟨#[]⟩ : ByteArray), .slice none 0 0] 24]) g13 (tsB (AL.getD i.toNat (⟨#[]⟩ : ByteArray)) (⟨#[10]⟩ : ByteArray)) (⟨#[66, 111, 97, 114, 100, 32]⟩ : ByteArray) bo (.string su) (.slice A ps.length c) _ (by omega) O264) ?_
   rintro e258 w259 ⟨rfl, hb260⟩
   refine ⟨_, rfl, fun _ H262 => ?_⟩
   have O263 : Own w w259 [Chunk.view Kd.string St At TL.length ct TL, Chunk.viewAt w107 Kd.string S6 A6 AL.length c6 AL, Chunk.sp w.heap.size S A c ps, Bk g2 [.string (⟨#[]⟩ : ByteArray), .string (⟨#[]⟩ : ByteArray), .slice none 0 0] 24, Bk g13 [.string su, .string (nmB (tsB (AL.getD i.toNat (⟨#[]⟩ : ByteArray)) (⟨#[10]⟩ : ByteArray)) (⟨#[66, 111, 97, 114, 100, 32]⟩ : ByteArray)), .slice A ps.length c] 24] := Own.unbundle (hb260.sel [0, 1] (by decide))
   clear O264
   clear H257 O145 hb260
   refine Va H262 fun _ H267 => ?_
   clear H262
   refine wpList_nil ?_
   refine gw_blk ?_
   refine gw_nx (hK157 _ _ ?_)
   refine gR fun K268 hK268 => ?_
   refine Vm H267 fun _ H270 => ?_
   refine V H270 (op_not rfl (H270.ev rfl)) fun _ H272 => ?_
   refine gE hK268 ?_
   clear H267 H270
   refine gw_cond H272 rfl (fun hb273 => ?_) (fun hb273 => ?_)
   ·
    have H274 := H272.subst_ (d := 83) (b := true) rfl hb273
    clear H272
    (try simp only [Bool.and_eq_true, Bool.and_eq_false_iff, Bool.not_and, Bool.or_eq_true, Bool.or_eq_false_iff, Bool.not_or, Bool.not_not, Bool.not_eq_true', Bool.not_eq_false', Bool.not_eq_true, Bool.not_eq_false] at hb273)
    have hnm := hb273
    refine gR fun K275 hK275 => ?_
    refine V H274 (op_build (cells := #[.string (⟨#[]⟩ : ByteArray), .string (⟨#[]⟩ : ByteArray), .slice none 0 0]) rfl pt_nil (by kernel_rfl)) fun _ H277 => ?_
    refine Vm H277 fun _ H279 => ?_
    clear H274 H277
    refine gw_setn 3 H279 O263 rfl (want_none rfl) rfl (op_storen gwsiz24 rfl (H279.ev rfl) (H279.ev rfl) (O263.get 3 rfl) rfl (by simp) (by simp [Value.oneCell'])) ?_
    intro _ w282 H281 O283; clear H279 O263
    refine Vc H281 fun _ H285 => ?_
    refine Va H285 fun _ H287 => ?_
    refine gE hK275 ?_
    refine wp_ret ?_
    clear H281 H285
    refine gw_blr ?_
    refine gw_thr ?_
    refine gw_thr ?_
    refine gw_blr ?_
    refine gw_thr ?_
    have O288 := O283.unpin 1 rfl
    clear O283
    have O289 : Own w w282 [Chunk.view Kd.string St At TL.length ct TL, Chunk.view Kd.string S6 A6 AL.length c6 AL, Chunk.sp w.heap.size S A c ps, Bk g2 [.string (⟨#[]⟩ : ByteArray), .string (⟨#[]⟩ : ByteArray), .slice none 0 0] 24, Bk g13 [.string su, .string (nmB (tsB (AL.getD i.toNat (⟨#[]⟩ : ByteArray)) (⟨#[10]⟩ : ByteArray)) (⟨#[66, 111, 97, 114, 100, 32]⟩ : ByteArray)), .slice A ps.length c] 24] := O288
    clear O288
    refine gw_rets3 H287 rfl (rv_celln H287 rfl gwagg24 gwsiz24 (O289.get 3 rfl) rfl) (rv_tmp H287 rfl) (rv_tmp H287 rfl) ?_
    have hr : parseP s = (none, i) := by rw [← hP, drop_at AL i (by omega) (by omega)]; exact pl_1x hok (by omega) hnm
    have ho_ : outS s = (eB, eB, []) := by unfold outS; rw [hr]; rfl
    have hc_ : codeP s = 80 := by unfold codeP; rw [hr]; rfl
    have O290_1 := (O289.row_nil KP 46 w.heap.size).row_view 0 rfl
    rw [ho_, hc_, hr]
    exact ⟨none, 0, _, rfl, (O290_1.sel [0] (by decide)).out⟩
   have H291 := H272.subst_ (d := 83) (b := false) rfl hb273
   clear H272
   (try simp only [Bool.and_eq_true, Bool.and_eq_false_iff, Bool.not_and, Bool.or_eq_true, Bool.or_eq_false_iff, Bool.not_or, Bool.not_not, Bool.not_eq_true', Bool.not_eq_false', Bool.not_eq_true, Bool.not_eq_false] at hb273)
   have hnm := hb273
   refine wp_skip ?_
   refine gw_blk ?_
   refine gw_nx (hK117 _ _ ?_)
   refine wp_region_lit ?_
   refine V H291 (op_add rfl (H291.ev rfl) (ev_c _ _) (by omega)) fun _ H293 => ?_
   refine Vm H293 fun _ H295 => ?_
   clear H291 H293
   refine wpList_nil ?_
   have O296 := O263.unpin 1 rfl
   clear O263
   have O297 : Own w w259 [Chunk.view Kd.string St At TL.length ct TL, Chunk.view Kd.string S6 A6 AL.length c6 AL, Chunk.sp w.heap.size S A c ps, Bk g2 [.string (⟨#[]⟩ : ByteArray), .string (⟨#[]⟩ : ByteArray), .slice none 0 0] 24, Bk g13 [.string su, .string (nmB (tsB (AL.getD i.toNat (⟨#[]⟩ : ByteArray)) (⟨#[10]⟩ : ByteArray)) (⟨#[66, 111, 97, 114, 100, 32]⟩ : ByteArray)), .slice A ps.length c] 24] := O296
   clear O296
   refine gw_nx ⟨_, ?_, i + 1, su, (nmB (tsB (AL.getD i.toNat (⟨#[]⟩ : ByteArray)) (⟨#[10]⟩ : ByteArray)) (⟨#[66, 111, 97, 114, 100, 32]⟩ : ByteArray)), ps, A, c, S, At, ct, St, TL, (H295.pick (t := 28) rfl (H295.pick (t := 8) rfl (H295.pick (t := 6) rfl (H295.pick (t := 2) rfl (H295.pick (t := 5) rfl (H295.pick (t := 26) rfl (H295.pick (t := 27) rfl H295.nil))))))), O297.sel [0, 1, 2, 4, 3] (by decide), ?_, ?_, ?_, rfl⟩
   ·
    rw [hm110]; omega
   ·
    omega
   ·
    exact ⟨by omega, fun _ => by omega⟩
   rw [← hP, drop_at AL i (by omega) (by omega)]; symm; exact pl_1 hok (by omega) hnm
  have H298 := H251.subst_ (d := 66) (b := false) rfl hb252
  clear H251
  (try simp only [decide_eq_false_iff_not] at hb252)
  have hi1 := hb252
  refine gR fun K299 hK299 => ?_
  refine Vm H298 fun _ H301 => ?_
  refine V H301 (op_bin_run (r := .bool (Option.isNone At)) rfl (H301.ev rfl) (ev_c _ _) (ssn_eq Tryd.underlying58)) fun _ H303 => ?_
  refine Vm H303 fun _ H305 => ?_
  clear H298 H301 H303
  refine gw_evG H305 rfl rfl rfl rfl (on_t _) rfl (by decide) (fun h_ => (op_move rfl (H305.ev rfl))) ?_
  intro _ H307; clear H305
  refine gw_callG H307 rfl rfl rfl rfl (on_t _) rfl (by decide) (fun h_ => (op_callL Tryd.func33 (by kernel_rfl) rfl rfl (ar_cons (ev_gv (H307.ev rfl) h_) (ar_cons (ev_c _ _) ar_nil)))) (fun h_ => hp_calls (tsB (AL.getD i.toNat (⟨#[]⟩ : ByteArray)) (⟨#[10]⟩ : ByteArray)) (⟨#[35]⟩ : ByteArray) _) ?_
  intro _ w310 hb311 H309
  have O312 := O145.after hb311; clear H307 O145 hb311
  refine gw_evG H309 rfl rfl rfl rfl (on_t _) rfl (by decide) (fun h_ => (op_not rfl (ev_gv (H309.ev rfl) h_))) ?_
  intro _ H314; clear H309
  refine V H314 (op_pick_and rfl (H314.ev rfl) (fun hp_ => (ev_gv (H314.ev rfl) hp_)) (ev_c _ _)) fun _ H316 => ?_
  refine Va H316 fun _ H318 => ?_
  refine gE hK299 ?_
  clear H314 H316
  refine gw_cond H318 rfl (fun hb319 => ?_) (fun hb319 => ?_)
  ·
   have H320 := H318.subst_ (d := 72) (b := true) rfl hb319
   clear H318
   (try simp only [Bool.and_eq_true, Bool.and_eq_false_iff, Bool.not_and, Bool.or_eq_true, Bool.or_eq_false_iff, Bool.not_or, Bool.not_not, Bool.not_eq_true', Bool.not_eq_false', Bool.not_eq_true, Bool.not_eq_false] at hb319)
   have hcl : (Option.isNone At && !(hpB (tsB (AL.getD i.toNat (⟨#[]⟩ : ByteArray)) (⟨#[10]⟩ : ByteArray)) hashB)) = true := by obtain ⟨h1_, h2_⟩ := hb319; rw [h1_, show hpB (tsB (AL.getD i.toNat (⟨#[]⟩ : ByteArray)) (⟨#[10]⟩ : ByteArray)) hashB = false from h2_]; rfl
   refine wp_region_lit ?_
   refine Vm H320 fun _ H322 => ?_
   clear H320
   have O332 : Own w _ [(Chunk.all [Chunk.view Kd.string St At TL.length ct TL, Chunk.viewAt w107 Kd.string S6 A6 AL.length c6 AL, Bk g2 [.string (⟨#[]⟩ : ByteArray), .string (⟨#[]⟩ : ByteArray), .slice none 0 0] 24]), Bk g13 [.string su, .string bo, .slice A ps.length c] 24, Chunk.sp w.heap.size S A c ps] := Own.bundle (O312.sel [0, 1, 4, 3, 2] (by decide))
   refine Wk H322 Tryd.func34 rfl (ar_cons (H322.ev rfl) (ar_cons (H322.ev rfl) ar_nil)) (line_own w (Chunk.all [Chunk.view Kd.string St At TL.length ct TL, Chunk.viewAt w107 Kd.string S6 A6 AL.length c6 AL, Bk g2 [.string (⟨#[]⟩ : ByteArray), .string (⟨#[]⟩ : ByteArray), .slice none 0 0] 24]) g13 su bo (tsB (AL.getD i.toNat (⟨#[]⟩ : ByteArray)) (⟨#[10]⟩ : ByteArray)) A c S ps _ (by omega) hL (by omega) O332) ?_
   rintro e326 w327 ⟨A323, c324, S325, rfl, hb328⟩
   refine ⟨_, rfl, fun _ H330 => ?_⟩
   have O331 : Own w w327 [Chunk.view Kd.string St At TL.length ct TL, Chunk.viewAt w107 Kd.string S6 A6 AL.length c6 AL, Bk g2 [.string (⟨#[]⟩ : ByteArray), .string (⟨#[]⟩ : ByteArray), .slice none 0 0] 24, Bk g13 [.string su, .string bo, .slice A323 ((lineS ps (tsB (AL.getD i.toNat (⟨#[]⟩ : ByteArray)) (⟨#[10]⟩ : ByteArray))).length) c324] 24, Chunk.sp w.heap.size S325 A323 c324 (lineS ps (tsB (AL.getD i.toNat (⟨#[]⟩ : ByteArray)) (⟨#[10]⟩ : ByteArray)))] := Own.unbundle (hb328.sel [0, 1, 2] (by decide))
   clear O332
   clear H322 O312 hb328
   refine Va H330 fun _ H335 => ?_
   clear H330
   refine wpList_nil ?_
   refine gw_blk ?_
   refine gw_nx (hK157 _ _ ?_)
   refine gR fun K336 hK336 => ?_
   refine Vm H335 fun _ H338 => ?_
   refine V H338 (op_not rfl (H338.ev rfl)) fun _ H340 => ?_
   refine gE hK336 ?_
   clear H335 H338
   refine gw_cond H340 rfl (fun hb341 => ?_) (fun hb341 => ?_)
   ·
    have H342 := H340.subst_ (d := 83) (b := true) rfl hb341
    clear H340
    (try simp only [Bool.and_eq_true, Bool.and_eq_false_iff, Bool.not_and, Bool.or_eq_true, Bool.or_eq_false_iff, Bool.not_or, Bool.not_not, Bool.not_eq_true', Bool.not_eq_false', Bool.not_eq_true, Bool.not_eq_false] at hb341)
    have hnm := hb341
    refine gR fun K343 hK343 => ?_
    refine V H342 (op_build (cells := #[.string (⟨#[]⟩ : ByteArray), .string (⟨#[]⟩ : ByteArray), .slice none 0 0]) rfl pt_nil (by kernel_rfl)) fun _ H345 => ?_
    refine Vm H345 fun _ H347 => ?_
    clear H342 H345
    refine gw_setn 2 H347 O331 rfl (want_none rfl) rfl (op_storen gwsiz24 rfl (H347.ev rfl) (H347.ev rfl) (O331.get 2 rfl) rfl (by simp) (by simp [Value.oneCell'])) ?_
    intro _ w350 H349 O351; clear H347 O331
    refine Vc H349 fun _ H353 => ?_
    refine Va H353 fun _ H355 => ?_
    refine gE hK343 ?_
    refine wp_ret ?_
    clear H349 H353
    refine gw_blr ?_
    refine gw_thr ?_
    refine gw_thr ?_
    refine gw_blr ?_
    refine gw_thr ?_
    have O356 := O351.unpin 1 rfl
    clear O351
    have O357 : Own w w350 [Chunk.view Kd.string St At TL.length ct TL, Chunk.view Kd.string S6 A6 AL.length c6 AL, Bk g2 [.string (⟨#[]⟩ : ByteArray), .string (⟨#[]⟩ : ByteArray), .slice none 0 0] 24, Bk g13 [.string su, .string bo, .slice A323 ((lineS ps (tsB (AL.getD i.toNat (⟨#[]⟩ : ByteArray)) (⟨#[10]⟩ : ByteArray))).length) c324] 24, Chunk.sp w.heap.size S325 A323 c324 (lineS ps (tsB (AL.getD i.toNat (⟨#[]⟩ : ByteArray)) (⟨#[10]⟩ : ByteArray)))] := O356
    clear O356
    refine gw_rets3 H355 rfl (rv_celln H355 rfl gwagg24 gwsiz24 (O357.get 2 rfl) rfl) (rv_tmp H355 rfl) (rv_tmp H355 rfl) ?_
    have hr : parseP s = (none, i) := by rw [← hP, drop_at AL i (by omega) (by omega)]; exact pl_lx hok (by omega) (by omega) hcl hnm
    have ho_ : outS s = (eB, eB, []) := by unfold outS; rw [hr]; rfl
    have hc_ : codeP s = 80 := by unfold codeP; rw [hr]; rfl
    have O358_1 := (O357.row_nil KP 46 w.heap.size).row_view 0 rfl
    rw [ho_, hc_, hr]
    exact ⟨none, 0, _, rfl, (O358_1.sel [0] (by decide)).out⟩
   have H359 := H340.subst_ (d := 83) (b := false) rfl hb341
   clear H340
   (try simp only [Bool.and_eq_true, Bool.and_eq_false_iff, Bool.not_and, Bool.or_eq_true, Bool.or_eq_false_iff, Bool.not_or, Bool.not_not, Bool.not_eq_true', Bool.not_eq_false', Bool.not_eq_true, Bool.not_eq_false] at hb341)
   have hnm := hb341
   refine wp_skip ?_
   refine gw_blk ?_
   refine gw_nx (hK117 _ _ ?_)
   refine wp_region_lit ?_
   refine V H359 (op_add rfl (H359.ev rfl) (ev_c _ _) (by omega)) fun _ H361 => ?_
   refine Vm H361 fun _ H363 => ?_
   clear H359 H361
   refine wpList_nil ?_
   have O364 := O331.unpin 1 rfl
   clear O331
   have O365 : Own w w327 [Chunk.view Kd.string St At TL.length ct TL, Chunk.view Kd.string S6 A6 AL.length c6 AL, Bk g2 [.string (⟨#[]⟩ : ByteArray), .string (⟨#[]⟩ : ByteArray), .slice none 0 0] 24, Bk g13 [.string su, .string bo, .slice A323 ((lineS ps (tsB (AL.getD i.toNat (⟨#[]⟩ : ByteArray)) (⟨#[10]⟩ : ByteArray))).length) c324] 24, Chunk.sp w.heap.size S325 A323 c324 (lineS ps (tsB (AL.getD i.toNat (⟨#[]⟩ : ByteArray)) (⟨#[10]⟩ : ByteArray)))] := O364
   clear O364
   refine gw_nx ⟨_, ?_, i + 1, su, bo, (lineS ps (tsB (AL.getD i.toNat (⟨#[]⟩ : ByteArray)) (⟨#[10]⟩ : ByteArray))), A323, c324, S325, At, ct, St, TL, (H363.pick (t := 28) rfl (H363.pick (t := 8) rfl (H363.pick (t := 6) rfl (H363.pick (t := 2) rfl (H363.pick (t := 5) rfl (H363.pick (t := 26) rfl (H363.pick (t := 27) rfl H363.nil))))))), O365.sel [0, 1, 4, 3, 2] (by decide), ?_, ?_, ?_, rfl⟩
   ·
    rw [hm110]; omega
   ·
    omega
   ·
    have h_ := line_count ps (tsB (AL.getD i.toNat (⟨#[]⟩ : ByteArray)) (⟨#[10]⟩ : ByteArray)) hnm; exact ⟨by omega, fun h2_ => by have h3_ := hcnt.2 h2_; omega⟩
   rw [← hP, drop_at AL i (by omega) (by omega)]; symm; exact pl_l hok (by omega) (by omega) hcl hnm
  have H366 := H318.subst_ (d := 72) (b := false) rfl hb319
  clear H318
  (try simp only [Bool.and_eq_true, Bool.and_eq_false_iff, Bool.not_and, Bool.or_eq_true, Bool.or_eq_false_iff, Bool.not_or, Bool.not_not, Bool.not_eq_true', Bool.not_eq_false', Bool.not_eq_true, Bool.not_eq_false] at hb319)
  have hcl : (Option.isNone At && !(hpB (tsB (AL.getD i.toNat (⟨#[]⟩ : ByteArray)) (⟨#[10]⟩ : ByteArray)) hashB)) = false := by have hb_ := hb319; revert hb_; cases Option.isNone At <;> cases hpB (tsB (AL.getD i.toNat (⟨#[]⟩ : ByteArray)) (⟨#[10]⟩ : ByteArray)) (⟨#[35]⟩ : ByteArray) <;> simp
  refine gw_seq fun K367 hK367 => ?_
  refine gR fun K368 hK368 => ?_
  refine Vm H366 fun _ H370 => ?_
  refine V H370 (op_bin_run (r := .bool (Option.isNone At)) rfl (H370.ev rfl) (ev_c _ _) (ssn_eq Tryd.underlying58)) fun _ H372 => ?_
  refine gE hK368 ?_
  clear H366 H370
  refine gw_cond H372 rfl (fun hb373 => ?_) (fun hb373 => ?_)
  ·
   have H374 := H372.subst_ (d := 39) (b := true) rfl hb373
   clear H372
   (try simp only [Bool.not_eq_true] at hb373)
   have hnil := hb373
   refine wp_region_lit ?_
   refine V H374 (op_loadn gwagg24 gwsiz24 rfl (H374.ev rfl) (O312.get 3 rfl) rfl rfl) fun _ H376 => ?_
   clear H374
   refine Wk H376 Tryd.func28 rfl (ar_cons (H376.ev rfl) ar_nil) (lines_calls su bo A c ps _ (sp_C (O312.get 2 rfl)).1 (sp_C (O312.get 2 rfl)).2 (by omega) (hL.own O312)) ?_
   rintro e380 w381 ⟨A377, c378, S379, rfl, hb382⟩
   refine ⟨_, rfl, fun _ H384 => ?_⟩
   have O385 := O312.fresh hb382
   have hbel386 := O312.below
   clear H376 O312 hb382
   have O387 := O385.lowrow 0 rfl (base' := w.heap.size) (Below.size hbel386)
   have hll := lines_len su bo ps
   have hcn := hcnt.2 hnil
   have hsm41 := some_of_C (Kd.R_reads' (O387.get 0 rfl)).2.2 (by omega)
   refine Vm H384 fun _ H389 => ?_
   clear H384
   obtain ⟨A390, c391, hr392, hc393, hC394, hA395, hN396⟩ := cut_loN (P := Tryd.prog) (d := Kd.string) (t := 58) (e := 9) Tryd.underlying58 gwsiz9 A377 c378 (linesL su bo ps) (row_cap (O387.get 0 rfl)) i (by omega) (by omega)
   refine V H389 (op_cut Tryd.underlying58 hr392 rfl (H389.ev rfl) (some_ev (H389.ev rfl)) rfl) fun _ H398 => ?_
   clear H389
   rw [hsm41] at hN396
   have O399 := O387.row_view 0 rfl
   clear O387
   have O400 : Own w w381 [Chunk.view Kd.string S379 A377 ((linesL su bo ps).length) c378 (linesL su bo ps), Chunk.view Kd.string St At TL.length ct TL, Chunk.viewAt w107 Kd.string S6 A6 AL.length c6 AL, Chunk.sp w.heap.size S A c ps, Bk g13 [.string su, .string bo, .slice A ps.length c] 24, Bk g2 [.string (⟨#[]⟩ : ByteArray), .string (⟨#[]⟩ : ByteArray), .slice none 0 0] 24] := O399
   clear O399
   have O401 := O400.view_cut 0 rfl (A' := A390) (n' := (((linesL su bo ps).drop i.toNat).length)) (c' := c391) (ys := ((linesL su bo ps).drop i.toNat)) hc393 hC394 hA395
   clear O400
   have O402 : Own w w381 [Chunk.view Kd.string S379 A390 (((linesL su bo ps).drop i.toNat).length) c391 ((linesL su bo ps).drop i.toNat), Chunk.view Kd.string St At TL.length ct TL, Chunk.viewAt w107 Kd.string S6 A6 AL.length c6 AL, Chunk.sp w.heap.size S A c ps, Bk g13 [.string su, .string bo, .slice A ps.length c] 24, Bk g2 [.string (⟨#[]⟩ : ByteArray), .string (⟨#[]⟩ : ByteArray), .slice none 0 0] 24] := O401
   clear O401
   refine Va H398 fun _ H404 => ?_
   refine gE hK367 ?_
   refine gR fun K405 hK405 => ?_
   refine Vm H404 fun _ H407 => ?_
   refine V H407 (op_len Tryd.underlying58 rfl (H407.ev rfl)) fun _ H409 => ?_
   refine V H409 (op_gtr rfl (H409.ev rfl) (ev_c _ _)) fun _ H411 => ?_
   refine Vm H411 fun _ H413 => ?_
   clear H398 H404 H407 H409 H411
   refine gw_evG H413 rfl rfl rfl rfl (on_t _) rfl (by decide) (fun h_ => (op_move rfl (H413.ev rfl))) ?_
   intro _ H415; clear H413
   have O425 := O402.pin 0 rfl
   clear O402
   have O426 : Own w w381 [Chunk.viewAt w381 Kd.string S379 A390 (((linesL su bo ps).drop i.toNat).length) c391 ((linesL su bo ps).drop i.toNat), Chunk.view Kd.string St At TL.length ct TL, Chunk.viewAt w107 Kd.string S6 A6 AL.length c6 AL, Chunk.sp w.heap.size S A c ps, Bk g13 [.string su, .string bo, .slice A ps.length c] 24, Bk g2 [.string (⟨#[]⟩ : ByteArray), .string (⟨#[]⟩ : ByteArray), .slice none 0 0] 24] := O425
   clear O425
   obtain ⟨ad419, cs422, hA420, hl423, hK424, hc421⟩ := F_getT (viewAt_F (O426.get 0 rfl)) (⟨#[]⟩ : ByteArray) 0 (⟨_, fun _ _ => rfl⟩)
   obtain rfl := str_openF hK424
   clear hl423
   refine gw_evG H415 rfl rfl rfl rfl (on_t _) rfl (by decide) (fun h_ => (op_index Tryd.underlying58 gwsiz9 rfl (ev_gv (H415.ev rfl) h_) (ev_c _ _) (hA420 ⟨by (try simp only [bxs_, ne_eq, bne_iff_ne, beq_iff_eq, bne_eq_false_iff_eq, beq_eq_false_iff_ne] at h_); omega, by (try simp only [bxs_, ne_eq, bne_iff_ne, beq_iff_eq, bne_eq_false_iff_eq, beq_eq_false_iff_ne] at h_); omega⟩) (⟨by (try simp only [bxs_, ne_eq, bne_iff_ne, beq_iff_eq, bne_eq_false_iff_eq, beq_eq_false_iff_ne] at h_); omega, by (try simp only [bxs_, ne_eq, bne_iff_ne, beq_iff_eq, bne_eq_false_iff_eq, beq_eq_false_iff_ne] at h_); omega⟩))) ?_
   intro _ H428; clear H415
   refine gw_evG H428 rfl rfl rfl rfl (on_t _) rfl (by decide) (fun h_ => (op_load1 gwagg9 rfl (ev_gv (H428.ev rfl) h_) (((pin_cells (O426.get 0 rfl) (hA420 ⟨by (try simp only [bxs_, ne_eq, bne_iff_ne, beq_iff_eq, bne_eq_false_iff_eq, beq_eq_false_iff_ne] at h_); omega, by (try simp only [bxs_, ne_eq, bne_iff_ne, beq_iff_eq, bne_eq_false_iff_eq, beq_eq_false_iff_ne] at h_); omega⟩) (hc421 ⟨by (try simp only [bxs_, ne_eq, bne_iff_ne, beq_iff_eq, bne_eq_false_iff_eq, beq_eq_false_iff_ne] at h_); omega, by (try simp only [bxs_, ne_eq, bne_iff_ne, beq_iff_eq, bne_eq_false_iff_eq, beq_eq_false_iff_ne] at h_); omega⟩)) 0 _ rfl)))) ?_
   intro _ H430; clear H428
   refine gw_evG H430 rfl rfl rfl rfl (on_t _) rfl (by decide) (fun h_ => (op_move rfl (H430.ev rfl))) ?_
   intro _ H432; clear H430
   refine gw_evG H432 rfl rfl rfl rfl (on_t _) rfl (by decide) (fun h_ => (op_eqs rfl (ev_gv (H432.ev rfl) h_) (ev_gv (H432.ev rfl) h_))) ?_
   intro _ H434; clear H432
   refine V H434 (op_pick_and rfl (H434.ev rfl) (fun hp_ => (ev_gv (H434.ev rfl) hp_)) (ev_c _ _)) fun _ H436 => ?_
   refine Va H436 fun _ H438 => ?_
   refine gE hK405 ?_
   refine gR fun K439 hK439 => ?_
   refine Vm H438 fun _ H441 => ?_
   refine gE hK439 ?_
   clear H434 H436 H438
   refine gw_cond H441 rfl (fun hb442 => ?_) (fun hb442 => ?_)
   ·
    have H443 := H441.subst_ (d := 54) (b := true) rfl hb442
    clear H441
    have hkb := hb442
    (try simp only [Bool.and_eq_true, Bool.and_eq_false_iff, decide_eq_true_eq, decide_eq_false_iff_not, Int.not_lt, beq_iff_eq, beq_eq_false_iff_ne, ne_eq] at hb442)
    have htl : (0 < (((linesL su bo ps).drop i.toNat).length : Int) ∧ ((linesL su bo ps).drop i.toNat).getD 0 eB = (tsB (AL.getD i.toNat (⟨#[]⟩ : ByteArray)) (⟨#[10]⟩ : ByteArray))) := by have hb_ := hb442; exact ⟨hb_.1, Pure.bytes_eq hb_.2⟩
    refine wp_region_lit ?_
    refine Vm H443 fun _ H445 => ?_
    clear H443
    obtain ⟨A446, c447, hr448, hc449, hC450, hA451, hN452⟩ := cut_loN (P := Tryd.prog) (d := Kd.string) (t := 58) (e := 9) Tryd.underlying58 gwsiz9 A390 c391 ((linesL su bo ps).drop i.toNat) (viewAt_le (O426.get 0 rfl)) 1 (by omega) (by omega)
    refine V H445 (op_cut Tryd.underlying58 hr448 rfl (H445.ev rfl) (some_ev (ev_c _ _)) rfl) fun _ H454 => ?_
    clear H445
    rw [hN396] at hN452
    have O455 := O426.unpin 0 rfl
    clear O426
    have O456 : Own w w381 [Chunk.view Kd.string S379 A390 (((linesL su bo ps).drop i.toNat).length) c391 ((linesL su bo ps).drop i.toNat), Chunk.view Kd.string St At TL.length ct TL, Chunk.viewAt w107 Kd.string S6 A6 AL.length c6 AL, Chunk.sp w.heap.size S A c ps, Bk g13 [.string su, .string bo, .slice A ps.length c] 24, Bk g2 [.string (⟨#[]⟩ : ByteArray), .string (⟨#[]⟩ : ByteArray), .slice none 0 0] 24] := O455
    clear O455
    have O457 := O456.view_cut 0 rfl (A' := A446) (n' := ((((linesL su bo ps).drop i.toNat).drop (1 : Int).toNat).length)) (c' := c447) (ys := (((linesL su bo ps).drop i.toNat).drop (1 : Int).toNat)) hc449 hC450 hA451
    clear O456
    have O458 : Own w w381 [Chunk.view Kd.string S379 A446 ((((linesL su bo ps).drop i.toNat).drop (1 : Int).toNat).length) c447 (((linesL su bo ps).drop i.toNat).drop (1 : Int).toNat), Chunk.view Kd.string St At TL.length ct TL, Chunk.viewAt w107 Kd.string S6 A6 AL.length c6 AL, Chunk.sp w.heap.size S A c ps, Bk g13 [.string su, .string bo, .slice A ps.length c] 24, Bk g2 [.string (⟨#[]⟩ : ByteArray), .string (⟨#[]⟩ : ByteArray), .slice none 0 0] 24] := O457
    clear O457
    refine Va H454 fun _ H460 => ?_
    clear H454
    refine wpList_nil ?_
    refine gw_blk ?_
    refine gw_nx (hK157 _ _ ?_)
    refine gR fun K461 hK461 => ?_
    refine Vm H460 fun _ H463 => ?_
    refine V H463 (op_not rfl (H463.ev rfl)) fun _ H465 => ?_
    clear H460 H463
    have H466 := H465.lit (b := false) (by rw [hkb]; rfl)
    clear H465
    refine gE hK461 ?_
    refine gw_cond H466 rfl (fun hb467 => ?_) (fun hb467 => ?_)
    ·
     cases hb467
    refine wp_skip ?_
    refine gw_blk ?_
    refine gw_nx (hK117 _ _ ?_)
    refine wp_region_lit ?_
    refine V H466 (op_add rfl (H466.ev rfl) (ev_c _ _) (by omega)) fun _ H469 => ?_
    refine Vm H469 fun _ H471 => ?_
    clear H466 H469
    refine wpList_nil ?_
    have O472 := O458.unpin 2 rfl
    clear O458
    have O473 : Own w w381 [Chunk.view Kd.string S379 A446 ((((linesL su bo ps).drop i.toNat).drop (1 : Int).toNat).length) c447 (((linesL su bo ps).drop i.toNat).drop (1 : Int).toNat), Chunk.view Kd.string St At TL.length ct TL, Chunk.view Kd.string S6 A6 AL.length c6 AL, Chunk.sp w.heap.size S A c ps, Bk g13 [.string su, .string bo, .slice A ps.length c] 24, Bk g2 [.string (⟨#[]⟩ : ByteArray), .string (⟨#[]⟩ : ByteArray), .slice none 0 0] 24] := O472
    clear O472
    refine gw_nx ⟨_, ?_, i + 1, su, bo, ps, A, c, S, A446, c447, S379, (((linesL su bo ps).drop i.toNat).drop (1 : Int).toNat), (H471.pick (t := 28) rfl (H471.pick (t := 8) rfl (H471.pick (t := 6) rfl (H471.pick (t := 2) rfl (H471.pick (t := 5) rfl (H471.pick (t := 26) rfl (H471.pick (t := 27) rfl H471.nil))))))), O473.sel [0, 2, 3, 4, 5] (by decide), ?_, ?_, ?_, rfl⟩
    ·
     rw [hm110]; omega
    ·
     omega
    ·
     exact ⟨by omega, fun h_ => by rw [hN452] at h_; cases h_⟩
    rw [← hP, drop_at AL i (by omega) (by omega)]; symm; rw [hN452]; exact pl_t ((linesL su bo ps).drop i.toNat) (by rw [if_pos hnil]) hok (by omega) (by omega) hcl htl
   have H474 := H441.subst_ (d := 54) (b := false) rfl hb442
   clear H441
   have hkb := hb442
   (try simp only [Bool.and_eq_true, Bool.and_eq_false_iff, decide_eq_true_eq, decide_eq_false_iff_not, Int.not_lt, beq_iff_eq, beq_eq_false_iff_ne, ne_eq] at hb442)
   have htl : ¬ (0 < (((linesL su bo ps).drop i.toNat).length : Int) ∧ ((linesL su bo ps).drop i.toNat).getD 0 eB = (tsB (AL.getD i.toNat (⟨#[]⟩ : ByteArray)) (⟨#[10]⟩ : ByteArray))) := by intro hc_; have hb_ := hb442; rcases hb_ with hb_ | hb_; omega; exact hb_ (by rw [← hc_.2]; rfl)
   refine wp_skip ?_
   refine gw_blk ?_
   refine gw_nx (hK157 _ _ ?_)
   refine gR fun K475 hK475 => ?_
   refine Vm H474 fun _ H477 => ?_
   refine V H477 (op_not rfl (H477.ev rfl)) fun _ H479 => ?_
   clear H474 H477
   have H480 := H479.lit (b := true) (by rw [hkb]; rfl)
   clear H479
   refine gE hK475 ?_
   refine gw_cond H480 rfl (fun hb481 => ?_) (fun hb481 => ?_)
   rotate_left
   ·
    cases hb481
   refine gR fun K482 hK482 => ?_
   refine V H480 (op_build (cells := #[.string (⟨#[]⟩ : ByteArray), .string (⟨#[]⟩ : ByteArray), .slice none 0 0]) rfl pt_nil (by kernel_rfl)) fun _ H484 => ?_
   refine Vm H484 fun _ H486 => ?_
   clear H480 H484
   refine gw_setn 5 H486 O426 rfl (want_none rfl) rfl (op_storen gwsiz24 rfl (H486.ev rfl) (H486.ev rfl) (O426.get 5 rfl) rfl (by simp) (by simp [Value.oneCell'])) ?_
   intro _ w489 H488 O490; clear H486 O426
   refine Vc H488 fun _ H492 => ?_
   refine Va H492 fun _ H494 => ?_
   refine gE hK482 ?_
   refine wp_ret ?_
   clear H488 H492
   refine gw_blr ?_
   refine gw_thr ?_
   refine gw_thr ?_
   refine gw_blr ?_
   refine gw_thr ?_
   have O495 := O490.unpin 0 rfl
   clear O490
   have O496 : Own w w489 [Chunk.view Kd.string S379 A390 (((linesL su bo ps).drop i.toNat).length) c391 ((linesL su bo ps).drop i.toNat), Chunk.view Kd.string St At TL.length ct TL, Chunk.viewAt w107 Kd.string S6 A6 AL.length c6 AL, Chunk.sp w.heap.size S A c ps, Bk g13 [.string su, .string bo, .slice A ps.length c] 24, Bk g2 [.string (⟨#[]⟩ : ByteArray), .string (⟨#[]⟩ : ByteArray), .slice none 0 0] 24] := O495
   clear O495
   have O497 := O496.unpin 2 rfl
   clear O496
   have O498 : Own w w489 [Chunk.view Kd.string S379 A390 (((linesL su bo ps).drop i.toNat).length) c391 ((linesL su bo ps).drop i.toNat), Chunk.view Kd.string St At TL.length ct TL, Chunk.view Kd.string S6 A6 AL.length c6 AL, Chunk.sp w.heap.size S A c ps, Bk g13 [.string su, .string bo, .slice A ps.length c] 24, Bk g2 [.string (⟨#[]⟩ : ByteArray), .string (⟨#[]⟩ : ByteArray), .slice none 0 0] 24] := O497
   clear O497
   refine gw_rets3 H494 rfl (rv_celln H494 rfl gwagg24 gwsiz24 (O498.get 5 rfl) rfl) (rv_tmp H494 rfl) (rv_tmp H494 rfl) ?_
   have hr : parseP s = (none, i) := by rw [← hP, drop_at AL i (by omega) (by omega)]; exact pl_tx ((linesL su bo ps).drop i.toNat) (by rw [if_pos hnil]) hok (by omega) (by omega) hcl htl
   have ho_ : outS s = (eB, eB, []) := by unfold outS; rw [hr]; rfl
   have hc_ : codeP s = 80 := by unfold codeP; rw [hr]; rfl
   have O499_1 := (O498.row_nil KP 46 w.heap.size).row_view 0 rfl
   rw [ho_, hc_, hr]
   exact ⟨none, 0, _, rfl, (O499_1.sel [0] (by decide)).out⟩
  have H500 := H372.subst_ (d := 39) (b := false) rfl hb373
  clear H372
  (try simp only [Bool.not_eq_true] at hb373)
  have hnil := hb373
  refine gS hK367 ?_
  refine gR fun K501 hK501 => ?_
  refine Vm H500 fun _ H503 => ?_
  refine V H503 (op_len Tryd.underlying58 rfl (H503.ev rfl)) fun _ H505 => ?_
  refine V H505 (op_gtr rfl (H505.ev rfl) (ev_c _ _)) fun _ H507 => ?_
  refine Vm H507 fun _ H509 => ?_
  clear H500 H503 H505 H507
  refine gw_evG H509 rfl rfl rfl rfl (on_t _) rfl (by decide) (fun h_ => (op_move rfl (H509.ev rfl))) ?_
  intro _ H511; clear H509
  have O521 := O312.pin 0 rfl
  clear O312
  have O522 : Own w w310 [Chunk.viewAt w310 Kd.string St At TL.length ct TL, Chunk.viewAt w107 Kd.string S6 A6 AL.length c6 AL, Chunk.sp w.heap.size S A c ps, Bk g13 [.string su, .string bo, .slice A ps.length c] 24, Bk g2 [.string (⟨#[]⟩ : ByteArray), .string (⟨#[]⟩ : ByteArray), .slice none 0 0] 24] := O521
  clear O521
  obtain ⟨ad515, cs518, hA516, hl519, hK520, hc517⟩ := F_getT (viewAt_F (O522.get 0 rfl)) (⟨#[]⟩ : ByteArray) 0 (⟨_, fun _ _ => rfl⟩)
  obtain rfl := str_openF hK520
  clear hl519
  refine gw_evG H511 rfl rfl rfl rfl (on_t _) rfl (by decide) (fun h_ => (op_index Tryd.underlying58 gwsiz9 rfl (ev_gv (H511.ev rfl) h_) (ev_c _ _) (hA516 ⟨by (try simp only [bxs_, ne_eq, bne_iff_ne, beq_iff_eq, bne_eq_false_iff_eq, beq_eq_false_iff_ne] at h_); omega, by (try simp only [bxs_, ne_eq, bne_iff_ne, beq_iff_eq, bne_eq_false_iff_eq, beq_eq_false_iff_ne] at h_); omega⟩) (⟨by (try simp only [bxs_, ne_eq, bne_iff_ne, beq_iff_eq, bne_eq_false_iff_eq, beq_eq_false_iff_ne] at h_); omega, by (try simp only [bxs_, ne_eq, bne_iff_ne, beq_iff_eq, bne_eq_false_iff_eq, beq_eq_false_iff_ne] at h_); omega⟩))) ?_
  intro _ H524; clear H511
  refine gw_evG H524 rfl rfl rfl rfl (on_t _) rfl (by decide) (fun h_ => (op_load1 gwagg9 rfl (ev_gv (H524.ev rfl) h_) (((pin_cells (O522.get 0 rfl) (hA516 ⟨by (try simp only [bxs_, ne_eq, bne_iff_ne, beq_iff_eq, bne_eq_false_iff_eq, beq_eq_false_iff_ne] at h_); omega, by (try simp only [bxs_, ne_eq, bne_iff_ne, beq_iff_eq, bne_eq_false_iff_eq, beq_eq_false_iff_ne] at h_); omega⟩) (hc517 ⟨by (try simp only [bxs_, ne_eq, bne_iff_ne, beq_iff_eq, bne_eq_false_iff_eq, beq_eq_false_iff_ne] at h_); omega, by (try simp only [bxs_, ne_eq, bne_iff_ne, beq_iff_eq, bne_eq_false_iff_eq, beq_eq_false_iff_ne] at h_); omega⟩)) 0 _ rfl)))) ?_
  intro _ H526; clear H524
  refine gw_evG H526 rfl rfl rfl rfl (on_t _) rfl (by decide) (fun h_ => (op_move rfl (H526.ev rfl))) ?_
  intro _ H528; clear H526
  refine gw_evG H528 rfl rfl rfl rfl (on_t _) rfl (by decide) (fun h_ => (op_eqs rfl (ev_gv (H528.ev rfl) h_) (ev_gv (H528.ev rfl) h_))) ?_
  intro _ H530; clear H528
  refine V H530 (op_pick_and rfl (H530.ev rfl) (fun hp_ => (ev_gv (H530.ev rfl) hp_)) (ev_c _ _)) fun _ H532 => ?_
  refine Va H532 fun _ H534 => ?_
  refine gE hK501 ?_
  refine gR fun K535 hK535 => ?_
  refine Vm H534 fun _ H537 => ?_
  refine gE hK535 ?_
  clear H530 H532 H534
  refine gw_cond H537 rfl (fun hb538 => ?_) (fun hb538 => ?_)
  ·
   have H539 := H537.subst_ (d := 54) (b := true) rfl hb538
   clear H537
   have hkb := hb538
   (try simp only [Bool.and_eq_true, Bool.and_eq_false_iff, decide_eq_true_eq, decide_eq_false_iff_not, Int.not_lt, beq_iff_eq, beq_eq_false_iff_ne, ne_eq] at hb538)
   have htl : (0 < (TL.length : Int) ∧ TL.getD 0 eB = (tsB (AL.getD i.toNat (⟨#[]⟩ : ByteArray)) (⟨#[10]⟩ : ByteArray))) := by have hb_ := hb538; exact ⟨hb_.1, Pure.bytes_eq hb_.2⟩
   refine wp_region_lit ?_
   refine Vm H539 fun _ H541 => ?_
   clear H539
   obtain ⟨A542, c543, hr544, hc545, hC546, hA547, hN548⟩ := cut_loN (P := Tryd.prog) (d := Kd.string) (t := 58) (e := 9) Tryd.underlying58 gwsiz9 At ct TL (viewAt_le (O522.get 0 rfl)) 1 (by omega) (by omega)
   refine V H541 (op_cut Tryd.underlying58 hr544 rfl (H541.ev rfl) (some_ev (ev_c _ _)) rfl) fun _ H550 => ?_
   clear H541
   rw [hnil] at hN548
   have O551 := O522.unpin 0 rfl
   clear O522
   have O552 : Own w w310 [Chunk.view Kd.string St At TL.length ct TL, Chunk.viewAt w107 Kd.string S6 A6 AL.length c6 AL, Chunk.sp w.heap.size S A c ps, Bk g13 [.string su, .string bo, .slice A ps.length c] 24, Bk g2 [.string (⟨#[]⟩ : ByteArray), .string (⟨#[]⟩ : ByteArray), .slice none 0 0] 24] := O551
   clear O551
   have O553 := O552.view_cut 0 rfl (A' := A542) (n' := ((TL.drop (1 : Int).toNat).length)) (c' := c543) (ys := (TL.drop (1 : Int).toNat)) hc545 hC546 hA547
   clear O552
   have O554 : Own w w310 [Chunk.view Kd.string St A542 ((TL.drop (1 : Int).toNat).length) c543 (TL.drop (1 : Int).toNat), Chunk.viewAt w107 Kd.string S6 A6 AL.length c6 AL, Chunk.sp w.heap.size S A c ps, Bk g13 [.string su, .string bo, .slice A ps.length c] 24, Bk g2 [.string (⟨#[]⟩ : ByteArray), .string (⟨#[]⟩ : ByteArray), .slice none 0 0] 24] := O553
   clear O553
   refine Va H550 fun _ H556 => ?_
   clear H550
   refine wpList_nil ?_
   refine gw_blk ?_
   refine gw_nx (hK157 _ _ ?_)
   refine gR fun K557 hK557 => ?_
   refine Vm H556 fun _ H559 => ?_
   refine V H559 (op_not rfl (H559.ev rfl)) fun _ H561 => ?_
   clear H556 H559
   have H562 := H561.lit (b := false) (by rw [hkb]; rfl)
   clear H561
   refine gE hK557 ?_
   refine gw_cond H562 rfl (fun hb563 => ?_) (fun hb563 => ?_)
   ·
    cases hb563
   refine wp_skip ?_
   refine gw_blk ?_
   refine gw_nx (hK117 _ _ ?_)
   refine wp_region_lit ?_
   refine V H562 (op_add rfl (H562.ev rfl) (ev_c _ _) (by omega)) fun _ H565 => ?_
   refine Vm H565 fun _ H567 => ?_
   clear H562 H565
   refine wpList_nil ?_
   have O568 := O554.unpin 1 rfl
   clear O554
   have O569 : Own w w310 [Chunk.view Kd.string St A542 ((TL.drop (1 : Int).toNat).length) c543 (TL.drop (1 : Int).toNat), Chunk.view Kd.string S6 A6 AL.length c6 AL, Chunk.sp w.heap.size S A c ps, Bk g13 [.string su, .string bo, .slice A ps.length c] 24, Bk g2 [.string (⟨#[]⟩ : ByteArray), .string (⟨#[]⟩ : ByteArray), .slice none 0 0] 24] := O568
   clear O568
   refine gw_nx ⟨_, ?_, i + 1, su, bo, ps, A, c, S, A542, c543, St, (TL.drop (1 : Int).toNat), (H567.pick (t := 28) rfl (H567.pick (t := 8) rfl (H567.pick (t := 6) rfl (H567.pick (t := 2) rfl (H567.pick (t := 5) rfl (H567.pick (t := 26) rfl (H567.pick (t := 27) rfl H567.nil))))))), O569.sel [0, 1, 2, 3, 4] (by decide), ?_, ?_, ?_, rfl⟩
   ·
    rw [hm110]; omega
   ·
    omega
   ·
    exact ⟨by omega, fun h_ => by rw [hN548] at h_; cases h_⟩
   rw [← hP, drop_at AL i (by omega) (by omega)]; symm; rw [hN548]; exact pl_t TL (by rw [hnil]; rfl) hok (by omega) (by omega) hcl htl
  have H570 := H537.subst_ (d := 54) (b := false) rfl hb538
  clear H537
  have hkb := hb538
  (try simp only [Bool.and_eq_true, Bool.and_eq_false_iff, decide_eq_true_eq, decide_eq_false_iff_not, Int.not_lt, beq_iff_eq, beq_eq_false_iff_ne, ne_eq] at hb538)
  have htl : ¬ (0 < (TL.length : Int) ∧ TL.getD 0 eB = (tsB (AL.getD i.toNat (⟨#[]⟩ : ByteArray)) (⟨#[10]⟩ : ByteArray))) := by intro hc_; have hb_ := hb538; rcases hb_ with hb_ | hb_; omega; exact hb_ (by rw [← hc_.2]; rfl)
  refine wp_skip ?_
  refine gw_blk ?_
  refine gw_nx (hK157 _ _ ?_)
  refine gR fun K571 hK571 => ?_
  refine Vm H570 fun _ H573 => ?_
  refine V H573 (op_not rfl (H573.ev rfl)) fun _ H575 => ?_
  clear H570 H573
  have H576 := H575.lit (b := true) (by rw [hkb]; rfl)
  clear H575
  refine gE hK571 ?_
  refine gw_cond H576 rfl (fun hb577 => ?_) (fun hb577 => ?_)
  rotate_left
  ·
   cases hb577
  refine gR fun K578 hK578 => ?_
  refine V H576 (op_build (cells := #[.string (⟨#[]⟩ : ByteArray), .string (⟨#[]⟩ : ByteArray), .slice none 0 0]) rfl pt_nil (by kernel_rfl)) fun _ H580 => ?_
  refine Vm H580 fun _ H582 => ?_
  clear H576 H580
  refine gw_setn 4 H582 O522 rfl (want_none rfl) rfl (op_storen gwsiz24 rfl (H582.ev rfl) (H582.ev rfl) (O522.get 4 rfl) rfl (by simp) (by simp [Value.oneCell'])) ?_
  intro _ w585 H584 O586; clear H582 O522
  refine Vc H584 fun _ H588 => ?_
  refine Va H588 fun _ H590 => ?_
  refine gE hK578 ?_
  refine wp_ret ?_
  clear H584 H588
  refine gw_blr ?_
  refine gw_thr ?_
  refine gw_thr ?_
  refine gw_blr ?_
  refine gw_thr ?_
  have O591 := O586.unpin 0 rfl
  clear O586
  have O592 : Own w w585 [Chunk.view Kd.string St At TL.length ct TL, Chunk.viewAt w107 Kd.string S6 A6 AL.length c6 AL, Chunk.sp w.heap.size S A c ps, Bk g13 [.string su, .string bo, .slice A ps.length c] 24, Bk g2 [.string (⟨#[]⟩ : ByteArray), .string (⟨#[]⟩ : ByteArray), .slice none 0 0] 24] := O591
  clear O591
  have O593 := O592.unpin 1 rfl
  clear O592
  have O594 : Own w w585 [Chunk.view Kd.string St At TL.length ct TL, Chunk.view Kd.string S6 A6 AL.length c6 AL, Chunk.sp w.heap.size S A c ps, Bk g13 [.string su, .string bo, .slice A ps.length c] 24, Bk g2 [.string (⟨#[]⟩ : ByteArray), .string (⟨#[]⟩ : ByteArray), .slice none 0 0] 24] := O593
  clear O593
  refine gw_rets3 H590 rfl (rv_celln H590 rfl gwagg24 gwsiz24 (O594.get 4 rfl) rfl) (rv_tmp H590 rfl) (rv_tmp H590 rfl) ?_
  have hr : parseP s = (none, i) := by rw [← hP, drop_at AL i (by omega) (by omega)]; exact pl_tx TL (by rw [hnil]; rfl) hok (by omega) (by omega) hcl htl
  have ho_ : outS s = (eB, eB, []) := by unfold outS; rw [hr]; rfl
  have hc_ : codeP s = 80 := by unfold codeP; rw [hr]; rfl
  have O595_1 := (O594.row_nil KP 46 w.heap.size).row_view 0 rfl
  rw [ho_, hc_, hr]
  exact ⟨none, 0, _, rfl, (O595_1.sel [0] (by decide)).out⟩
 have H596 := H113.subst_ (d := 29) (b := false) rfl hb115
 clear H113
 (try simp only [decide_eq_false_iff_not, Int.not_lt] at hb115)
 refine wp_exit ?_
 refine gw_thx ?_
 refine gw_thx ?_
 refine gw_in ?_
 refine gw_nx (hK92 _ _ ?_)
 refine gw_seq fun K597 hK597 => ?_
 refine gR fun K598 hK598 => ?_
 refine Vm H596 fun _ H600 => ?_
 refine V H600 (op_bin_run (r := .bool (Option.isNone At)) rfl (H600.ev rfl) (ev_c _ _) (ssn_eq Tryd.underlying58)) fun _ H602 => ?_
 refine Vm H602 fun _ H604 => ?_
 clear H596 H600 H602
 refine gw_evG H604 rfl rfl rfl rfl (on_f _) rfl (by decide) (fun h_ => (op_move rfl (H604.ev rfl))) ?_
 intro _ H606; clear H604
 refine gw_evG H606 rfl rfl rfl rfl (on_f _) rfl (by decide) (fun h_ => (op_len Tryd.underlying58 rfl (ev_gv (H606.ev rfl) h_))) ?_
 intro _ H608; clear H606
 refine gw_evG H608 rfl rfl rfl rfl (on_f _) rfl (by decide) (fun h_ => (op_gtr rfl (ev_gv (H608.ev rfl) h_) (ev_c _ _))) ?_
 intro _ H610; clear H608
 refine V H610 (op_pick_or rfl (H610.ev rfl) (ev_c _ _) (fun hp_ => (ev_gv (H610.ev rfl) (not_t hp_)))) fun _ H612 => ?_
 refine gE hK598 ?_
 clear H610
 refine gw_cond H612 rfl (fun hb613 => ?_) (fun hb613 => ?_)
 ·
  have H614 := H612.subst_ (d := 93) (b := true) rfl hb613
  clear H612
  (try simp only [Bool.or_eq_true, Bool.or_eq_false_iff, decide_eq_true_eq, decide_eq_false_iff_not, Int.not_lt] at hb613)
  have hend : (Option.isNone At || decide (0 < (TL.length : Int))) = true := by have hb_ := hb613; revert hb_; cases Option.isNone At <;> simp
  refine gR fun K615 hK615 => ?_
  refine V H614 (op_build (cells := #[.string (⟨#[]⟩ : ByteArray), .string (⟨#[]⟩ : ByteArray), .slice none 0 0]) rfl pt_nil (by kernel_rfl)) fun _ H617 => ?_
  refine Vm H617 fun _ H619 => ?_
  refine V H619 (op_len Tryd.underlying58 rfl (H619.ev rfl)) fun _ H621 => ?_
  clear H614 H617 H619
  refine gw_setn 4 H621 O109 rfl (want_none rfl) rfl (op_storen gwsiz24 rfl (H621.ev rfl) (H621.ev rfl) (O109.get 4 rfl) rfl (by simp) (by simp [Value.oneCell'])) ?_
  intro _ w624 H623 O625; clear H621 O109
  refine Vc H623 fun _ H627 => ?_
  refine Va H627 fun _ H629 => ?_
  refine gE hK615 ?_
  refine wp_ret ?_
  clear H623 H627
  refine gw_thr ?_
  refine gw_rets3 H629 rfl (rv_celln H629 rfl gwagg24 gwsiz24 (O625.get 4 rfl) rfl) (rv_tmp H629 rfl) (rv_tmp H629 rfl) ?_
  have hr : parseP s = (none, (AL.length : Int)) := by rw [← hP, List.drop_eq_nil_of_le (by omega)]; unfold parsL; rw [if_pos hend]; exact congrArg (Prod.mk none) (by omega)
  have ho_ : outS s = (eB, eB, []) := by unfold outS; rw [hr]; rfl
  have hc_ : codeP s = 80 := by unfold codeP; rw [hr]; rfl
  have O630_1 := (O625.row_nil KP 46 w.heap.size).row_view 0 rfl
  rw [ho_, hc_, hr]
  exact ⟨none, 0, _, rfl, (O630_1.sel [0] (by decide)).out⟩
 have H631 := H612.subst_ (d := 93) (b := false) rfl hb613
 clear H612
 (try simp only [Bool.or_eq_true, Bool.or_eq_false_iff, decide_eq_true_eq, decide_eq_false_iff_not, Int.not_lt] at hb613)
 have hend : ¬ (Option.isNone At || decide (0 < (TL.length : Int))) = true := by have hb_ := hb613; revert hb_; cases Option.isNone At <;> simp
 refine gS hK597 ?_
 refine gR fun K632 hK632 => ?_
 refine V H631 (op_loadn gwagg24 gwsiz24 rfl (H631.ev rfl) (O109.get 3 rfl) rfl rfl) fun _ H634 => ?_
 clear H631
 refine gw_setn 4 H634 O109 rfl (want_none rfl) rfl (op_storen gwsiz24 rfl (H634.ev rfl) (H634.ev rfl) (O109.get 4 rfl) rfl (by simp) (by simp [Value.oneCell'])) ?_
 intro _ w637 H636 O638; clear H634 O109
 refine Vc H636 fun _ H640 => ?_
 refine Vc H640 fun _ H642 => ?_
 refine gE hK632 ?_
 refine wp_ret ?_
 clear H636 H640
 refine gw_rets3 H642 rfl (rv_celln H642 rfl gwagg24 gwsiz24 (O638.get 4 rfl) rfl) (rv_tmp H642 rfl) (rv_tmp H642 rfl) ?_
 have hr : parseP s = (some (su, bo, ps), 0) := by rw [← hP, List.drop_eq_nil_of_le (by omega)]; unfold parsL; rw [if_neg hend]
 have ho_ : outS s = (su, bo, ps) := by unfold outS; rw [hr]; rfl
 have hc_ : codeP s = 0 := by unfold codeP; rw [hr]; rfl
 have O643_1 := O638.sp_view (i := 2) rfl
 rw [ho_, hc_, hr]
 exact ⟨_, _, _, rfl, (O643_1.sel [2] (by decide)).out⟩
end GParse_
export GParse_ (parse_calls)
end Go.Proofs.YtljmbgilcngfgaaDoor.PA
