/- What this claim uses of this session's own texts, put together by a program: GLines GNamed GLine HSumP PAx8 PAx71 PAx75 PAx72 PAx73 PAx78 PAx79. -/
import Derived.Test.YtljmbgilcngfgaaDoorKSumCuts1
import Derived.Test.YtljmbgilcngfgaaDoorProg
import Derived.Test.YtljmbgilcngfgaaDoorRows
import Derived.Test.YtljmbgilcngfgaaDoorCards
import Derived.Test.YtljmbgilcngfgaaDoorTie
namespace Go.Proofs.YtljmbgilcngfgaaDoor.PA
open Go.RowKit Go.Proofs.YtljmbgilcngfgaaDoorW.PrintWords Go.Proofs.YtljmbgilcngfgaaDoorW.PrintLast Go.Proofs.YtljmbgilcngfgaaDoorW.PrintMore
set_option linter.unusedVariables false
set_option linter.unusedSimpArgs false
set_option maxRecDepth 100000
set_option maxHeartbeats 8000000
namespace GLines_
theorem lines_calls (su bo : ByteArray) (A0 : Option Addr) (c0 : Nat) (ps : List S46) (w : World) (hr : Kd.C k46 w A0 ps.length ps) (hc : ps.length ≤ c0) (hsm : ps.length + sumL ps ≤ 1000000000) (hL : LaidW w) :
    Calls Tryd.prog 28 #[.agg #[.string su, .string bo, .slice A0 ps.length c0]] w fun e w' => ∃ A c S, e = .returned (.slice A (linesL su bo ps).length c) ∧ Out w w' (fun _ => False) [Chunk.row Kd.string 9 w.heap.size S (.slice A (linesL su bo ps).length c) (linesL su bo ps)] := by
 have hpl := len_C hr
 refine gw_start (N := 79) (vs := [.agg #[.string su, .string bo, .slice A0 ps.length c0]]) Tryd.func28 rfl rfl (by simp) fun a HF HO => ?_
 replace HO : Own w w [] := HO
 refine gR fun K1 hK1 => ?_
 refine gw_new HF HO (want_none rfl) rfl (by decide) (op_box rfl (HF.ev rfl)) ?_
 intro g2 _ w4 H5 O6; clear HF HO
 have O7 : Own w w4 [Bk g2 [.string su, .string bo, .slice A0 ps.length c0] 24] := O6
 clear O6
 refine Vc H5 fun _ H9 => ?_
 refine gE hK1 ?_
 refine gw_seq fun K10 hK10 => ?_
 clear H5
 refine gx_draw (M := [Bk g2 [.string su, .string bo, .slice A0 ps.length c0] 24]) (fun j_ => false) O7 (by kernel_rfl) fun w11 O12 => ?_
 clear O7
 refine gx_take 0 rfl (by kernel_rfl) H9 (by exact O12.sel [0] (by decide)) (want_none rfl) rfl (by decide) (fun wq HO => (op_field (gwfld24_0 _ _) rfl (H9.ev rfl))) ?_
 intro _ H14; clear H9
 refine gx_take 1 rfl (by kernel_rfl) H14 (by exact O12.sel [0] (by decide)) (want_none rfl) rfl (by decide) (fun wq HO => (op_load1 gwagg9 rfl (H14.ev rfl) (blk_at (HO.get 0 rfl) rfl))) ?_
 intro _ H16; clear H14
 refine gx_take 4 rfl (by kernel_rfl) H16 (by exact O12.sel [0] (by decide)) (want_none rfl) rfl (by decide) (fun wq HO => (op_field (gwfld24_1 _ _) rfl (H16.ev rfl))) ?_
 intro _ H18; clear H16
 refine gx_take 5 rfl (by kernel_rfl) H18 (by exact O12.sel [0] (by decide)) (want_none rfl) rfl (by decide) (fun wq HO => (op_load1 gwagg9 rfl (H18.ev rfl) (blk_at (HO.get 0 rfl) rfl))) ?_
 intro _ H20; clear H18
 refine gx_step 2 rfl (by kernel_rfl) ?_
 refine Wk H20 Tryd.func42 rfl (ar_cons (H20.ev rfl) ar_nil) (nw_calls su _) ?_
 rintro e21 w22 ⟨rfl, hb23⟩
 refine ⟨_, rfl, fun _ H25 => ?_⟩
 have O26 := O12.after hb23
 clear H20 O12 hb23
 refine gx_on (i := 2) (B := (fun j_ => false)) (fun _ => (by exact O26.sel [0] (by decide))) ?_
 refine gx_take 3 rfl (by kernel_rfl) H25 (by exact O26.sel [0] (by decide)) (want_none rfl) rfl (by decide) (fun wq HO => (op_cats rfl (ev_c _ _) (H25.ev rfl) (by (try simp only [size_cat]); have h0_ := nw_size su; have h1_ : (⟨#[84, 101, 115, 116, 32, 114, 117, 110, 32, 111, 102, 32]⟩ : ByteArray).size = 12 := rfl; omega))) ?_
 intro _ H29; clear H25
 refine gx_step 6 rfl (by kernel_rfl) ?_
 refine Wk H29 Tryd.func42 rfl (ar_cons (H29.ev rfl) ar_nil) (nw_calls bo _) ?_
 rintro e30 w31 ⟨rfl, hb32⟩
 refine ⟨_, rfl, fun _ H34 => ?_⟩
 have O35 := O26.after hb32
 clear H29 O26 hb32
 refine gx_on (i := 6) (B := (fun j_ => false)) (fun _ => (by exact O35.sel [0] (by decide))) ?_
 refine gx_take 7 rfl (by kernel_rfl) H34 (by exact O35.sel [0] (by decide)) (want_none rfl) rfl (by decide) (fun wq HO => (op_cats rfl (ev_c _ _) (H34.ev rfl) (by (try simp only [size_cat]); have h0_ := nw_size bo; have h1_ : (⟨#[66, 111, 97, 114, 100, 32]⟩ : ByteArray).size = 6 := rfl; omega))) ?_
 intro _ H38; clear H34
 refine gx_step 8 rfl (by kernel_rfl) ?_
 refine gw_lit (enc := Value.string) (fun _ => rfl) (xs := [((⟨#[84, 101, 115, 116, 32, 114, 117, 110, 32, 111, 102, 32]⟩ : ByteArray) ++ (nwB su)), ((⟨#[66, 111, 97, 114, 100, 32]⟩ : ByteArray) ++ (nwB bo))]) (e := 9) H38 O35 (want_none rfl) rfl (by decide) (op_bslice (by kernel_rfl) rfl (pt_cons (H38.ev rfl) (pt_cons (H38.ev rfl) pt_nil))) (by simp) ?_
 intro A39 S40 _ w42 H43 O44; clear H38 O35
 have O45 : Own w w42 [Chunk.row Kd.string 9 w.heap.size S40 (.slice A39 (([((⟨#[84, 101, 115, 116, 32, 114, 117, 110, 32, 111, 102, 32]⟩ : ByteArray) ++ (nwB su)), ((⟨#[66, 111, 97, 114, 100, 32]⟩ : ByteArray) ++ (nwB bo))]).length) (([((⟨#[84, 101, 115, 116, 32, 114, 117, 110, 32, 111, 102, 32]⟩ : ByteArray) ++ (nwB su)), ((⟨#[66, 111, 97, 114, 100, 32]⟩ : ByteArray) ++ (nwB bo))]).length)) ([((⟨#[84, 101, 115, 116, 32, 114, 117, 110, 32, 111, 102, 32]⟩ : ByteArray) ++ (nwB su)), ((⟨#[66, 111, 97, 114, 100, 32]⟩ : ByteArray) ++ (nwB bo))]), Bk g2 [.string su, .string bo, .slice A0 ps.length c0] 24] := O44
 clear O44
 refine gx_on (i := 8) (B := (fun j_ => false)) (fun _ => (by exact O45.sel [1] (by decide))) ?_
 refine gx_take 9 rfl (by kernel_rfl) H43 (by exact O45.sel [1] (by decide)) (want_none rfl) rfl (by decide) (fun wq HO => (op_assign rfl (H43.ev rfl))) ?_
 intro _ H47; clear H43
 refine gx_done (by kernel_rfl) ?_
 refine gw_nx (hK10 _ _ ?_)
 refine gw_seq fun K48 hK48 => ?_
 refine gR fun K49 hK49 => ?_
 refine Vf H47 (gwfld24_2 _ _) fun _ H51 => ?_
 refine Vl H51 gwagg22 (O45.get 1 rfl) fun _ H53 => ?_
 refine V H53 (op_len Tryd.underlying22 rfl (H53.ev rfl)) fun _ H55 => ?_
 refine V H55 (op_move rfl (ev_c _ _)) fun _ H57 => ?_
 refine gE hK49 ?_
 clear H47 H51 H53 H55
 refine wp_block ?_
 refine gw_loop (fun m_ a_ w_ => ∃ (i : Int) (Li : List ByteArray) (Ai : Option Addr) (ci : Nat) (Si : Nat → Prop), Fr 79 a_ [(22, J i), (3, .slice Ai Li.length ci), (1, .pointer (some ⟨g2, 0, none⟩)), (2, .slice none 0 0), (20, .slice A0 ps.length c0), (21, J (ps.length : Int))] ∧ Own w w_ [Chunk.row Kd.string 9 w.heap.size Si (.slice Ai Li.length ci) Li, Bk g2 [.string su, .string bo, .slice A0 ps.length c0] 24] ∧ (0 ≤ i ∧ i ≤ ps.length) ∧ (Li = (bodyL su bo (ps.take i.toNat))) ∧ m_ = (ps.length - i.toNat)) ((ps.length - (0 : Int).toNat)) ?_ ?_
 ·
  refine ⟨0, [((⟨#[84, 101, 115, 116, 32, 114, 117, 110, 32, 111, 102, 32]⟩ : ByteArray) ++ (nwB su)), ((⟨#[66, 111, 97, 114, 100, 32]⟩ : ByteArray) ++ (nwB bo))], A39, ([((⟨#[84, 101, 115, 116, 32, 114, 117, 110, 32, 111, 102, 32]⟩ : ByteArray) ++ (nwB su)), ((⟨#[66, 111, 97, 114, 100, 32]⟩ : ByteArray) ++ (nwB bo))]).length, S40, (H57.pick (t := 22) rfl (H57.pick (t := 3) rfl (H57.pick (t := 1) rfl (H57.pick (t := 2) rfl (H57.pick (t := 20) rfl (H57.pick (t := 21) rfl H57.nil)))))), O45.sel [0, 1] (by decide), ?_, ?_, rfl⟩
  ·
   omega
  simp [bodyL, headL]
 rintro m59 _ w61 ⟨i, Li, Ai, ci, Si, H62, O63, hi, hLi, hm64⟩
 refine gR fun K65 hK65 => ?_
 refine V H62 (op_lss rfl (H62.ev rfl) (H62.ev rfl)) fun _ H67 => ?_
 refine gE hK65 ?_
 refine gw_seq fun K68 hK68 => ?_
 clear H62
 refine gw_cond H67 rfl (fun hb69 => ?_) (fun hb69 => ?_)
 ·
  have H70 := H67.subst_ (d := 23) (b := true) rfl hb69
  clear H67
  (try simp only [decide_eq_true_eq] at hb69)
  refine gS hK68 ?_
  refine gw_seq fun K71 hK71 => ?_
  refine wp_block ?_
  refine gR fun K72 hK72 => ?_
  obtain ⟨ad73, cs76, hA74, hl77, hK78, hc75⟩ := Kd.C_get hr z46 i (by omega) (by omega)
  obtain ⟨A79, c80, rfl, hl81, hC82⟩ := k46_open hK78
  clear hl77
  refine V H70 (op_index Tryd.underlying22 gwsiz46 rfl (H70.ev rfl) (H70.ev rfl) hA74 (⟨by omega, by omega⟩)) fun _ H84 => ?_
  refine V H84 (op_loadc gwagg46 gwsiz46 rfl (H84.ev rfl) rfl (cells0 O63 hc75)) fun _ H86 => ?_
  clear H70 H84
  refine gw_new H86 O63 (want_none rfl) rfl (by decide) (op_alloc gwzer46 rfl) ?_
  intro g87 _ w89 H90 O91; clear H86 O63
  have O92 : Own w w89 [Bk g87 [.string (⟨#[]⟩ : ByteArray), .slice none 0 0] 46, Chunk.row Kd.string 9 w.heap.size Si (.slice Ai Li.length ci) Li, Bk g2 [.string su, .string bo, .slice A0 ps.length c0] 24] := O91
  clear O91
  refine gw_setn 0 H90 O92 rfl (want_none rfl) rfl (op_storen gwsiz46 rfl (H90.ev rfl) (H90.ev rfl) (O92.get 0 rfl) rfl (by simp) (by simp [Value.oneCell'])) ?_
  intro _ w95 H94 O96; clear H90 O92
  refine gE hK72 ?_
  refine gR fun K97 hK97 => ?_
  refine Vm H94 fun _ H99 => ?_
  refine Vf H99 (gwfld46_0 _ _) fun _ H101 => ?_
  refine Vl H101 gwagg9 (O96.get 0 rfl) fun _ H103 => ?_
  clear H94 H99 H101
  refine Wk H103 Tryd.func42 rfl (ar_cons (H103.ev rfl) ar_nil) (nw_calls ((ps.getD i.toNat z46).f0) _) ?_
  rintro e104 w105 ⟨rfl, hb106⟩
  refine ⟨_, rfl, fun _ H108 => ?_⟩
  have O109 := O96.after hb106
  clear H103 O96 hb106
  refine V H108 (op_cats rfl (ev_c _ _) (H108.ev rfl) (by (try simp only [size_cat]); have h0_ := nw_size ((ps.getD i.toNat z46).f0); have h1_ : (⟨#[103, 114, 111, 117, 112, 32]⟩ : ByteArray).size = 6 := rfl; omega)) fun _ H112 => ?_
  clear H108
  refine gw_lit (enc := Value.string) (fun _ => rfl) (xs := [((⟨#[103, 114, 111, 117, 112, 32]⟩ : ByteArray) ++ (nwB ((ps.getD i.toNat z46).f0)))]) (e := 9) H112 O109 (want_none rfl) rfl (by decide) (op_bslice (by kernel_rfl) rfl (pt_cons (H112.ev rfl) pt_nil)) (by simp) ?_
  intro A113 S114 _ w116 H117 O118; clear H112 O109
  have O119 : Own w w116 [Chunk.row Kd.string 9 w.heap.size S114 (.slice A113 (([((⟨#[103, 114, 111, 117, 112, 32]⟩ : ByteArray) ++ (nwB ((ps.getD i.toNat z46).f0)))]).length) (([((⟨#[103, 114, 111, 117, 112, 32]⟩ : ByteArray) ++ (nwB ((ps.getD i.toNat z46).f0)))]).length)) ([((⟨#[103, 114, 111, 117, 112, 32]⟩ : ByteArray) ++ (nwB ((ps.getD i.toNat z46).f0)))]), Bk g87 [.string ((ps.getD i.toNat z46).f0), .slice A79 ((ps.getD i.toNat z46).f1.length) c80] 46, Chunk.row Kd.string 9 w.heap.size Si (.slice Ai Li.length ci) Li, Bk g2 [.string su, .string bo, .slice A0 ps.length c0] 24] := O118
  clear O118
  refine gw_append Kd.string 2 H117 O119 (want_none rfl) rfl (by decide) rfl Tryd.underlying58 gwinfo9 rfl (by decide) (by decide) rfl (H117.ev rfl) (H117.ev rfl) (Kd.R_reads' (O119.get 0 rfl)).2.2 (fun _ _ h => h) O119.below.size (by rw [hLi]; have hb_ := body_len su bo (ps.take i.toNat); have hs_ := sum_le ps i.toNat; rw [List.length_take] at hb_; simp; omega) ?_
  intro A120 c121 S122 _ w124 H125 O126; clear H117 O119
  have O127 : Own w w124 [Chunk.row Kd.string 9 w.heap.size S114 (.slice A113 (([((⟨#[103, 114, 111, 117, 112, 32]⟩ : ByteArray) ++ (nwB ((ps.getD i.toNat z46).f0)))]).length) (([((⟨#[103, 114, 111, 117, 112, 32]⟩ : ByteArray) ++ (nwB ((ps.getD i.toNat z46).f0)))]).length)) ([((⟨#[103, 114, 111, 117, 112, 32]⟩ : ByteArray) ++ (nwB ((ps.getD i.toNat z46).f0)))]), Bk g87 [.string ((ps.getD i.toNat z46).f0), .slice A79 ((ps.getD i.toNat z46).f1.length) c80] 46, Chunk.row Kd.string 9 w.heap.size S122 (.slice A120 ((Li ++ [((⟨#[103, 114, 111, 117, 112, 32]⟩ : ByteArray) ++ (nwB ((ps.getD i.toNat z46).f0)))]).length) c121) (Li ++ [((⟨#[103, 114, 111, 117, 112, 32]⟩ : ByteArray) ++ (nwB ((ps.getD i.toNat z46).f0)))]), Bk g2 [.string su, .string bo, .slice A0 ps.length c0] 24] := O126
  clear O126
  refine Va H125 fun _ H129 => ?_
  refine gE hK97 ?_
  refine gR fun K130 hK130 => ?_
  refine Vf H129 (gwfld46_1 _ _) fun _ H132 => ?_
  refine Vl H132 gwagg44 (O127.get 1 rfl) fun _ H134 => ?_
  refine V H134 (op_len Tryd.underlying44 rfl (H134.ev rfl)) fun _ H136 => ?_
  refine V H136 (op_move rfl (ev_c _ _)) fun _ H138 => ?_
  refine gE hK130 ?_
  clear H125 H129 H132 H134 H136
  refine wp_block ?_
  refine gw_loop (fun m_ a_ w_ => ∃ (j : Int) (Lj : List ByteArray) (Aj : Option Addr) (cj : Nat) (Sj : Nat → Prop), Fr 79 a_ [(36, J j), (3, .slice Aj Lj.length cj), (22, J i), (1, .pointer (some ⟨g2, 0, none⟩)), (2, .slice none 0 0), (20, .slice A0 ps.length c0), (21, J (ps.length : Int)), (23, .bool true), (24, .pointer (some (ad73.add (i.toNat * 2)))), (25, .agg #[.string ((ps.getD i.toNat z46).f0), .slice A79 ((ps.getD i.toNat z46).f1.length) c80]), (5, .pointer (some ⟨g87, 0, none⟩)), (26, .slice Ai Li.length ci), (27, .pointer (some ⟨g87, 0, none⟩)), (28, .string ((ps.getD i.toNat z46).f0)), (29, .string (nwB ((ps.getD i.toNat z46).f0))), (30, .string ((⟨#[103, 114, 111, 117, 112, 32]⟩ : ByteArray) ++ (nwB ((ps.getD i.toNat z46).f0)))), (31, .slice A113 (([((⟨#[103, 114, 111, 117, 112, 32]⟩ : ByteArray) ++ (nwB ((ps.getD i.toNat z46).f0)))]).length) (([((⟨#[103, 114, 111, 117, 112, 32]⟩ : ByteArray) ++ (nwB ((ps.getD i.toNat z46).f0)))]).length)), (32, .slice A120 ((Li ++ [((⟨#[103, 114, 111, 117, 112, 32]⟩ : ByteArray) ++ (nwB ((ps.getD i.toNat z46).f0)))]).length) c121), (33, .pointer (some ⟨g87, 1, none⟩)), (34, .slice A79 ((ps.getD i.toNat z46).f1.length) c80), (35, J (((ps.getD i.toNat z46).f1.length) : Int))] ∧ Own w w_ [Chunk.row Kd.string 9 w.heap.size Sj (.slice Aj Lj.length cj) Lj, Chunk.row Kd.string 9 w.heap.size S114 (.slice A113 (([((⟨#[103, 114, 111, 117, 112, 32]⟩ : ByteArray) ++ (nwB ((ps.getD i.toNat z46).f0)))]).length) (([((⟨#[103, 114, 111, 117, 112, 32]⟩ : ByteArray) ++ (nwB ((ps.getD i.toNat z46).f0)))]).length)) ([((⟨#[103, 114, 111, 117, 112, 32]⟩ : ByteArray) ++ (nwB ((ps.getD i.toNat z46).f0)))]), Bk g87 [.string ((ps.getD i.toNat z46).f0), .slice A79 ((ps.getD i.toNat z46).f1.length) c80] 46, Bk g2 [.string su, .string bo, .slice A0 ps.length c0] 24] ∧ (0 ≤ j ∧ j ≤ (ps.getD i.toNat z46).f1.length ∧ (ps.getD i.toNat z46).f1.length ≤ 1000000000) ∧ (Lj = Li ++ [(⟨#[103, 114, 111, 117, 112, 32]⟩ : ByteArray) ++ nwB (ps.getD i.toNat z46).f0] ++ ((ps.getD i.toNat z46).f1.take j.toNat).map resL) ∧ m_ = ((ps.getD i.toNat z46).f1.length - j.toNat)) (((ps.getD i.toNat z46).f1.length - (0 : Int).toNat)) ?_ ?_
  ·
   refine ⟨0, (Li ++ [((⟨#[103, 114, 111, 117, 112, 32]⟩ : ByteArray) ++ (nwB ((ps.getD i.toNat z46).f0)))]), A120, c121, S122, (H138.pick (t := 36) rfl (H138.pick (t := 3) rfl (H138.pick (t := 22) rfl (H138.pick (t := 1) rfl (H138.pick (t := 2) rfl (H138.pick (t := 20) rfl (H138.pick (t := 21) rfl (H138.pick (t := 23) rfl (H138.pick (t := 24) rfl (H138.pick (t := 25) rfl (H138.pick (t := 5) rfl (H138.pick (t := 26) rfl (H138.pick (t := 27) rfl (H138.pick (t := 28) rfl (H138.pick (t := 29) rfl (H138.pick (t := 30) rfl (H138.pick (t := 31) rfl (H138.pick (t := 32) rfl (H138.pick (t := 33) rfl (H138.pick (t := 34) rfl (H138.pick (t := 35) rfl H138.nil))))))))))))))))))))), O127.sel [2, 0, 1, 3] (by decide), ?_, ?_, rfl⟩
   ·
    have hp_ := sum_part ps i (by omega) (by omega); omega
   simp
  rintro m140 _ w142 ⟨j, Lj, Aj, cj, Sj, H143, O144, hj, hLj, hm145⟩
  refine gR fun K146 hK146 => ?_
  refine V H143 (op_lss rfl (H143.ev rfl) (H143.ev rfl)) fun _ H148 => ?_
  refine gE hK146 ?_
  refine gw_seq fun K149 hK149 => ?_
  clear H143
  refine gw_cond H148 rfl (fun hb150 => ?_) (fun hb150 => ?_)
  ·
   have H151 := H148.subst_ (d := 37) (b := true) rfl hb150
   clear H148
   (try simp only [decide_eq_true_eq] at hb150)
   refine gS hK149 ?_
   refine gw_seq fun K152 hK152 => ?_
   refine wp_block ?_
   refine gR fun K153 hK153 => ?_
   obtain ⟨ad154, cs157, hA155, hl158, hK159, hc156⟩ := Kd.C_get hC82 z49 j (by omega) (by omega)
   obtain rfl := k49_open hK159
   clear hl158
   refine V H151 (op_index Tryd.underlying44 gwsiz49 rfl (H151.ev rfl) (H151.ev rfl) hA155 (⟨by omega, by omega⟩)) fun _ H161 => ?_
   refine V H161 (op_loadc gwagg49 gwsiz49 rfl (H161.ev rfl) rfl (cells0 O144 hc156)) fun _ H163 => ?_
   clear H151 H161
   refine gw_new H163 O144 (want_none rfl) rfl (by decide) (op_alloc gwzer49 rfl) ?_
   intro g164 _ w166 H167 O168; clear H163 O144
   have O169 : Own w w166 [Bk g164 [.string (⟨#[]⟩ : ByteArray), J 0] 49, Chunk.row Kd.string 9 w.heap.size Sj (.slice Aj Lj.length cj) Lj, Chunk.row Kd.string 9 w.heap.size S114 (.slice A113 (([((⟨#[103, 114, 111, 117, 112, 32]⟩ : ByteArray) ++ (nwB ((ps.getD i.toNat z46).f0)))]).length) (([((⟨#[103, 114, 111, 117, 112, 32]⟩ : ByteArray) ++ (nwB ((ps.getD i.toNat z46).f0)))]).length)) ([((⟨#[103, 114, 111, 117, 112, 32]⟩ : ByteArray) ++ (nwB ((ps.getD i.toNat z46).f0)))]), Bk g87 [.string ((ps.getD i.toNat z46).f0), .slice A79 ((ps.getD i.toNat z46).f1.length) c80] 46, Bk g2 [.string su, .string bo, .slice A0 ps.length c0] 24] := O168
   clear O168
   refine gw_setn 0 H167 O169 rfl (want_none rfl) rfl (op_storen gwsiz49 rfl (H167.ev rfl) (H167.ev rfl) (O169.get 0 rfl) rfl (by simp) (by simp [Value.oneCell'])) ?_
   intro _ w172 H171 O173; clear H167 O169
   refine gE hK153 ?_
   refine gx_draw (M := [Bk g164 [.string ((((ps.getD i.toNat z46).f1).getD j.toNat z49).f0), J ((((ps.getD i.toNat z46).f1).getD j.toNat z49).f1)] 49, Chunk.row Kd.string 9 w.heap.size S114 (.slice A113 (([((⟨#[103, 114, 111, 117, 112, 32]⟩ : ByteArray) ++ (nwB ((ps.getD i.toNat z46).f0)))]).length) (([((⟨#[103, 114, 111, 117, 112, 32]⟩ : ByteArray) ++ (nwB ((ps.getD i.toNat z46).f0)))]).length)) ([((⟨#[103, 114, 111, 117, 112, 32]⟩ : ByteArray) ++ (nwB ((ps.getD i.toNat z46).f0)))]), Bk g87 [.string ((ps.getD i.toNat z46).f0), .slice A79 ((ps.getD i.toNat z46).f1.length) c80] 46, Bk g2 [.string su, .string bo, .slice A0 ps.length c0] 24]) (fun j_ => false) O173 (by kernel_rfl) fun w174 O175 => ?_
   clear O173
   refine gx_take 0 rfl (by kernel_rfl) H171 (by exact O175.sel [0, 2, 3, 4] (by decide)) (want_none rfl) rfl (by decide) (fun wq HO => (op_move rfl (H171.ev rfl))) ?_
   intro _ H177; clear H171
   refine gx_take 1 rfl (by kernel_rfl) H177 (by exact O175.sel [0, 2, 3, 4] (by decide)) (want_none rfl) rfl (by decide) (fun wq HO => (op_field (gwfld49_1 _ _) rfl (H177.ev rfl))) ?_
   intro _ H179; clear H177
   refine gx_take 2 rfl (by kernel_rfl) H179 (by exact O175.sel [0, 2, 3, 4] (by decide)) (want_none rfl) rfl (by decide) (fun wq HO => (op_load1 gwagg3 rfl (H179.ev rfl) (blk_at (HO.get 0 rfl) rfl))) ?_
   intro _ H181; clear H179
   refine gx_take 5 rfl (by kernel_rfl) H181 (by exact O175.sel [0, 2, 3, 4] (by decide)) (want_none rfl) rfl (by decide) (fun wq HO => (op_field (gwfld49_0 _ _) rfl (H181.ev rfl))) ?_
   intro _ H183; clear H181
   refine gx_take 6 rfl (by kernel_rfl) H183 (by exact O175.sel [0, 2, 3, 4] (by decide)) (want_none rfl) rfl (by decide) (fun wq HO => (op_load1 gwagg9 rfl (H183.ev rfl) (blk_at (HO.get 0 rfl) rfl))) ?_
   intro _ H185; clear H183
   refine gx_step 3 rfl (by kernel_rfl) ?_
   refine Wk H185 Tryd.func25 rfl (ar_cons (H185.ev rfl) ar_nil) (vt_calls ((((ps.getD i.toNat z46).f1).getD j.toNat z49).f1) _) ?_
   rintro e186 w187 ⟨rfl, hb188⟩
   refine ⟨_, rfl, fun _ H190 => ?_⟩
   have O191 := O175.after hb188
   clear H185 O175 hb188
   refine gx_on (i := 3) (B := (fun j_ => false)) (fun _ => (by exact O191.sel [0, 2, 3, 4] (by decide))) ?_
   refine gx_take 4 rfl (by kernel_rfl) H190 (by exact O191.sel [0, 2, 3, 4] (by decide)) (want_none rfl) rfl (by decide) (fun wq HO => (op_cats rfl (H190.ev rfl) (ev_c _ _) (by (try simp only [size_cat]); have h0_ := vt_size ((((ps.getD i.toNat z46).f1).getD j.toNat z49).f1); have h1_ : (⟨#[58, 32]⟩ : ByteArray).size = 2 := rfl; omega))) ?_
   intro _ H194; clear H190
   refine gx_step 7 rfl (by kernel_rfl) ?_
   refine Wk H194 Tryd.func42 rfl (ar_cons (H194.ev rfl) ar_nil) (nw_calls ((((ps.getD i.toNat z46).f1).getD j.toNat z49).f0) _) ?_
   rintro e195 w196 ⟨rfl, hb197⟩
   refine ⟨_, rfl, fun _ H199 => ?_⟩
   have O200 := O191.after hb197
   clear H194 O191 hb197
   refine gx_on (i := 7) (B := (fun j_ => false)) (fun _ => (by exact O200.sel [0, 2, 3, 4] (by decide))) ?_
   refine gx_take 8 rfl (by kernel_rfl) H199 (by exact O200.sel [0, 2, 3, 4] (by decide)) (want_none rfl) rfl (by decide) (fun wq HO => (op_cats rfl (H199.ev rfl) (H199.ev rfl) (by (try simp only [size_cat]); have h0_ := nw_size ((((ps.getD i.toNat z46).f1).getD j.toNat z49).f0); have h1_ := vt_size ((((ps.getD i.toNat z46).f1).getD j.toNat z49).f1); have h2_ : (⟨#[58, 32]⟩ : ByteArray).size = 2 := rfl; omega))) ?_
   intro _ H203; clear H199
   refine gx_step 9 rfl (by kernel_rfl) ?_
   refine gw_lit (enc := Value.string) (fun _ => rfl) (xs := [(((vtB ((((ps.getD i.toNat z46).f1).getD j.toNat z49).f1)) ++ (⟨#[58, 32]⟩ : ByteArray)) ++ (nwB ((((ps.getD i.toNat z46).f1).getD j.toNat z49).f0)))]) (e := 9) H203 O200 (want_none rfl) rfl (by decide) (op_bslice (by kernel_rfl) rfl (pt_cons (H203.ev rfl) pt_nil)) (by simp) ?_
   intro A204 S205 _ w207 H208 O209; clear H203 O200
   have O210 : Own w w207 [Chunk.row Kd.string 9 w.heap.size S205 (.slice A204 (([(((vtB ((((ps.getD i.toNat z46).f1).getD j.toNat z49).f1)) ++ (⟨#[58, 32]⟩ : ByteArray)) ++ (nwB ((((ps.getD i.toNat z46).f1).getD j.toNat z49).f0)))]).length) (([(((vtB ((((ps.getD i.toNat z46).f1).getD j.toNat z49).f1)) ++ (⟨#[58, 32]⟩ : ByteArray)) ++ (nwB ((((ps.getD i.toNat z46).f1).getD j.toNat z49).f0)))]).length)) ([(((vtB ((((ps.getD i.toNat z46).f1).getD j.toNat z49).f1)) ++ (⟨#[58, 32]⟩ : ByteArray)) ++ (nwB ((((ps.getD i.toNat z46).f1).getD j.toNat z49).f0)))]), Bk g164 [.string ((((ps.getD i.toNat z46).f1).getD j.toNat z49).f0), J ((((ps.getD i.toNat z46).f1).getD j.toNat z49).f1)] 49, Chunk.row Kd.string 9 w.heap.size Sj (.slice Aj Lj.length cj) Lj, Chunk.row Kd.string 9 w.heap.size S114 (.slice A113 (([((⟨#[103, 114, 111, 117, 112, 32]⟩ : ByteArray) ++ (nwB ((ps.getD i.toNat z46).f0)))]).length) (([((⟨#[103, 114, 111, 117, 112, 32]⟩ : ByteArray) ++ (nwB ((ps.getD i.toNat z46).f0)))]).length)) ([((⟨#[103, 114, 111, 117, 112, 32]⟩ : ByteArray) ++ (nwB ((ps.getD i.toNat z46).f0)))]), Bk g87 [.string ((ps.getD i.toNat z46).f0), .slice A79 ((ps.getD i.toNat z46).f1.length) c80] 46, Bk g2 [.string su, .string bo, .slice A0 ps.length c0] 24] := O209
   clear O209
   refine gx_on (i := 9) (B := (fun j_ => false)) (fun _ => (by exact O210.sel [1, 3, 4, 5] (by decide))) ?_
   refine gx_step 10 rfl (by kernel_rfl) ?_
   refine gw_append Kd.string 2 H208 O210 (want_none rfl) rfl (by decide) rfl Tryd.underlying58 gwinfo9 rfl (by decide) (by decide) rfl (H208.ev rfl) (H208.ev rfl) (Kd.R_reads' (O210.get 0 rfl)).2.2 (fun _ _ h => h) O210.below.size (by rw [hLj, hLi]; have hb_ := body_len su bo (ps.take i.toNat); have hs_ := sum_le ps i.toNat; rw [List.length_take] at hb_; have hp_ := sum_part ps i (by omega) (by omega); simp; omega) ?_
   intro A211 c212 S213 _ w215 H216 O217; clear H208 O210
   have O218 : Own w w215 [Chunk.row Kd.string 9 w.heap.size S205 (.slice A204 (([(((vtB ((((ps.getD i.toNat z46).f1).getD j.toNat z49).f1)) ++ (⟨#[58, 32]⟩ : ByteArray)) ++ (nwB ((((ps.getD i.toNat z46).f1).getD j.toNat z49).f0)))]).length) (([(((vtB ((((ps.getD i.toNat z46).f1).getD j.toNat z49).f1)) ++ (⟨#[58, 32]⟩ : ByteArray)) ++ (nwB ((((ps.getD i.toNat z46).f1).getD j.toNat z49).f0)))]).length)) ([(((vtB ((((ps.getD i.toNat z46).f1).getD j.toNat z49).f1)) ++ (⟨#[58, 32]⟩ : ByteArray)) ++ (nwB ((((ps.getD i.toNat z46).f1).getD j.toNat z49).f0)))]), Bk g164 [.string ((((ps.getD i.toNat z46).f1).getD j.toNat z49).f0), J ((((ps.getD i.toNat z46).f1).getD j.toNat z49).f1)] 49, Chunk.row Kd.string 9 w.heap.size S213 (.slice A211 ((Lj ++ [(((vtB ((((ps.getD i.toNat z46).f1).getD j.toNat z49).f1)) ++ (⟨#[58, 32]⟩ : ByteArray)) ++ (nwB ((((ps.getD i.toNat z46).f1).getD j.toNat z49).f0)))]).length) c212) (Lj ++ [(((vtB ((((ps.getD i.toNat z46).f1).getD j.toNat z49).f1)) ++ (⟨#[58, 32]⟩ : ByteArray)) ++ (nwB ((((ps.getD i.toNat z46).f1).getD j.toNat z49).f0)))]), Chunk.row Kd.string 9 w.heap.size S114 (.slice A113 (([((⟨#[103, 114, 111, 117, 112, 32]⟩ : ByteArray) ++ (nwB ((ps.getD i.toNat z46).f0)))]).length) (([((⟨#[103, 114, 111, 117, 112, 32]⟩ : ByteArray) ++ (nwB ((ps.getD i.toNat z46).f0)))]).length)) ([((⟨#[103, 114, 111, 117, 112, 32]⟩ : ByteArray) ++ (nwB ((ps.getD i.toNat z46).f0)))]), Bk g87 [.string ((ps.getD i.toNat z46).f0), .slice A79 ((ps.getD i.toNat z46).f1.length) c80] 46, Bk g2 [.string su, .string bo, .slice A0 ps.length c0] 24] := O217
   clear O217
   refine gx_on (i := 10) (B := (fun j_ => false)) (fun _ => (by exact O218.sel [1, 3, 4, 5] (by decide))) ?_
   refine gx_take 11 rfl (by kernel_rfl) H216 (by exact O218.sel [1, 3, 4, 5] (by decide)) (want_none rfl) rfl (by decide) (fun wq HO => (op_assign rfl (H216.ev rfl))) ?_
   intro _ H220; clear H216
   refine gx_done (by kernel_rfl) ?_
   refine gw_blk ?_
   refine gw_nx (hK152 _ _ ?_)
   refine wp_region_lit ?_
   refine V H220 (op_add rfl (H220.ev rfl) (ev_c _ _) (by omega)) fun _ H222 => ?_
   refine Vm H222 fun _ H224 => ?_
   clear H220 H222
   refine wpList_nil ?_
   refine gw_nx ⟨_, ?_, j + 1, (Lj ++ [(((vtB ((((ps.getD i.toNat z46).f1).getD j.toNat z49).f1)) ++ (⟨#[58, 32]⟩ : ByteArray)) ++ (nwB ((((ps.getD i.toNat z46).f1).getD j.toNat z49).f0)))]), A211, c212, S213, (H224.pick (t := 36) rfl (H224.pick (t := 3) rfl (H224.pick (t := 22) rfl (H224.pick (t := 1) rfl (H224.pick (t := 2) rfl (H224.pick (t := 20) rfl (H224.pick (t := 21) rfl (H224.pick (t := 23) rfl (H224.pick (t := 24) rfl (H224.pick (t := 25) rfl (H224.pick (t := 5) rfl (H224.pick (t := 26) rfl (H224.pick (t := 27) rfl (H224.pick (t := 28) rfl (H224.pick (t := 29) rfl (H224.pick (t := 30) rfl (H224.pick (t := 31) rfl (H224.pick (t := 32) rfl (H224.pick (t := 33) rfl (H224.pick (t := 34) rfl (H224.pick (t := 35) rfl H224.nil))))))))))))))))))))), O218.sel [2, 3, 4, 5] (by decide), ?_, ?_, rfl⟩
   ·
    rw [hm145]; omega
   ·
    omega
   rw [hLj, take_nextR _ j (by omega) (by omega)]; simp [resL, List.append_assoc]
  have H225 := H148.subst_ (d := 37) (b := false) rfl hb150
  clear H148
  (try simp only [decide_eq_false_iff_not, Int.not_lt] at hb150)
  refine wp_exit ?_
  refine gw_thx ?_
  refine gw_thx ?_
  refine gw_in ?_
  refine gw_blk ?_
  refine gw_nx (hK71 _ _ ?_)
  refine wp_region_lit ?_
  refine V H225 (op_add rfl (H225.ev rfl) (ev_c _ _) (by omega)) fun _ H227 => ?_
  refine Vm H227 fun _ H229 => ?_
  clear H225 H227
  refine wpList_nil ?_
  refine gw_nx ⟨_, ?_, i + 1, Lj, Aj, cj, Sj, (H229.pick (t := 22) rfl (H229.pick (t := 3) rfl (H229.pick (t := 1) rfl (H229.pick (t := 2) rfl (H229.pick (t := 20) rfl (H229.pick (t := 21) rfl H229.nil)))))), O144.sel [0, 3] (by decide), ?_, ?_, rfl⟩
  ·
   rw [hm64]; omega
  ·
   omega
  rw [hLj, hLi, body_next su bo ps i (by omega) (by omega), List.take_of_length_le (show (ps.getD i.toNat z46).f1.length ≤ j.toNat by omega)]; simp [partL]
 have H230 := H67.subst_ (d := 23) (b := false) rfl hb69
 clear H67
 (try simp only [decide_eq_false_iff_not, Int.not_lt] at hb69)
 refine wp_exit ?_
 refine gw_thx ?_
 refine gw_thx ?_
 refine gw_in ?_
 refine gw_nx (hK48 _ _ ?_)
 refine gw_seq fun K231 hK231 => ?_
 refine gR fun K232 hK232 => ?_
 refine V H230 (op_loadn gwagg24 gwsiz24 rfl (H230.ev rfl) (O63.get 1 rfl) rfl rfl) fun _ H234 => ?_
 clear H230
 refine Wk H234 Tryd.func12 rfl (ar_cons (H234.ev rfl) ar_nil) (totals_calls su bo A0 c0 ps _ (Kd.C_below hr O63.below) hc (by omega)) ?_
 rintro e235 w236 ⟨rfl, hb237⟩
 refine ⟨_, rfl, fun _ H239 => ?_⟩
 have O240 := O63.after hb237
 clear H234 O63 hb237
 refine V H239 (op_move rfl (ev_c _ _)) fun _ H243 => ?_
 refine gE hK232 ?_
 clear H239
 refine wp_block ?_
 refine gw_loop (fun m_ a_ w_ => ∃ (v : Int) (Lv : List ByteArray) (Av : Option Addr) (cv : Nat) (Sv : Nat → Prop), Fr 79 a_ [(55, J v), (3, .slice Av Lv.length cv), (2, .slice none 0 0), (54, .agg #[J (totL ps 0), J (totL ps 1), J (totL ps 2), J (totL ps 3), J (totL ps 4), J (totL ps 5), J (totL ps 6), J (totL ps 7)])] ∧ Own w w_ [Chunk.row Kd.string 9 w.heap.size Sv (.slice Av Lv.length cv) Lv, Bk g2 [.string su, .string bo, .slice A0 ps.length c0] 24] ∧ (0 ≤ v ∧ v ≤ 8) ∧ (Lv = bodyL su bo ps ++ totsL ps v.toNat) ∧ m_ = (8 - v.toNat)) ((8 - (0 : Int).toNat)) ?_ ?_
 ·
  refine ⟨0, Li, Ai, ci, Si, (H243.pick (t := 55) rfl (H243.pick (t := 3) rfl (H243.pick (t := 2) rfl (H243.pick (t := 54) rfl H243.nil)))), O240.sel [0, 1] (by decide), ?_, ?_, rfl⟩
  ·
   omega
  rw [hLi, List.take_of_length_le (by omega)]; simp [totsL]
 rintro m245 _ w247 ⟨v, Lv, Av, cv, Sv, H248, O249, hv, hLv, hm250⟩
 refine gR fun K251 hK251 => ?_
 refine V H248 (op_lss rfl (H248.ev rfl) (ev_c _ _)) fun _ H253 => ?_
 refine gE hK251 ?_
 refine gw_seq fun K254 hK254 => ?_
 clear H248
 refine gw_cond H253 rfl (fun hb255 => ?_) (fun hb255 => ?_)
 ·
  have H256 := H253.subst_ (d := 56) (b := true) rfl hb255
  clear H253
  (try simp only [decide_eq_true_eq] at hb255)
  refine gS hK254 ?_
  refine gw_seq fun K257 hK257 => ?_
  refine wp_block ?_
  refine gR fun K258 hK258 => ?_
  refine Vm H256 fun _ H260 => ?_
  refine V H260 (op_aidx Tryd.underlying31 gwsiz3 gwagg3 rfl (H260.ev rfl) (H260.ev rfl) (by omega) (agg8 (f := (fun v_ => totL ps v_)) (by omega))) fun _ H262 => ?_
  refine Va H262 fun _ H264 => ?_
  refine Va H264 fun _ H266 => ?_
  refine gE hK258 ?_
  refine gR fun K267 hK267 => ?_
  refine Vm H266 fun _ H269 => ?_
  refine V H269 (op_gtr rfl (H269.ev rfl) (ev_c _ _)) fun _ H271 => ?_
  refine Vm H271 fun _ H273 => ?_
  clear H256 H260 H262 H264 H266 H269 H271
  refine gw_evG H273 rfl rfl rfl rfl (on_t _) rfl (by decide) (fun h_ => (op_move rfl (H273.ev rfl))) ?_
  intro _ H275; clear H273
  refine gw_evG H275 rfl rfl rfl rfl (on_t _) rfl (by decide) (fun h_ => (op_gtr rfl (ev_gv (H275.ev rfl) h_) (ev_c _ _))) ?_
  intro _ H277; clear H275
  refine V H277 (op_pick_and rfl (H277.ev rfl) (fun hp_ => (ev_gv (H277.ev rfl) hp_)) (ev_c _ _)) fun _ H279 => ?_
  refine gE hK267 ?_
  clear H277
  refine gw_cond H279 rfl (fun hb280 => ?_) (fun hb280 => ?_)
  ·
   have H281 := H279.subst_ (d := 64) (b := true) rfl hb280
   clear H279
   (try simp only [Bool.and_eq_true, Bool.and_eq_false_iff, decide_eq_true_eq, decide_eq_false_iff_not, Int.not_lt] at hb280)
   refine wp_region_lit ?_
   refine Vm H281 fun _ H283 => ?_
   refine Vm H283 fun _ H285 => ?_
   clear H281 H283
   refine Wk H285 Tryd.func25 rfl (ar_cons (H285.ev rfl) ar_nil) (vt_calls v _) ?_
   rintro e286 w287 ⟨rfl, hb288⟩
   refine ⟨_, rfl, fun _ H290 => ?_⟩
   have O291 := O249.after hb288
   clear H285 O249 hb288
   refine V H290 (op_cats rfl (ev_c _ _) (H290.ev rfl) (by (try simp only [size_cat]); have h0_ := vt_size v; have h1_ : (⟨#[35, 32]⟩ : ByteArray).size = 2 := rfl; omega)) fun _ H294 => ?_
   refine V H294 (op_cats rfl (H294.ev rfl) (ev_c _ _) (by (try simp only [size_cat]); have h0_ := vt_size v; have h1_ : (⟨#[35, 32]⟩ : ByteArray).size = 2 := rfl; have h2_ : (⟨#[32]⟩ : ByteArray).size = 1 := rfl; omega)) fun _ H296 => ?_
   refine Vm H296 fun _ H298 => ?_
   clear H290 H294 H296
   refine Wk H298 Tryd.func43 rfl (ar_cons (H298.ev rfl) ar_nil) (it_calls (totL ps v) (by have h_ := tot_b ps v; omega) _ (hL.own O291)) ?_
   rintro e299 w300 ⟨rfl, hb301⟩
   refine ⟨_, rfl, fun _ H303 => ?_⟩
   have O304 := O291.after hb301
   clear H298 O291 hb301
   refine V H303 (op_cats rfl (H303.ev rfl) (H303.ev rfl) (by (try simp only [size_cat]); have h0_ := vt_size v; have h1_ := it_size (totL ps v) (by have h_ := tot_b ps v; omega); have h2_ : (⟨#[35, 32]⟩ : ByteArray).size = 2 := rfl; have h3_ : (⟨#[32]⟩ : ByteArray).size = 1 := rfl; omega)) fun _ H307 => ?_
   clear H303
   refine gw_lit (enc := Value.string) (fun _ => rfl) (xs := [((((⟨#[35, 32]⟩ : ByteArray) ++ (vtB v)) ++ (⟨#[32]⟩ : ByteArray)) ++ (itB (totL ps v)))]) (e := 9) H307 O304 (want_none rfl) rfl (by decide) (op_bslice (by kernel_rfl) rfl (pt_cons (H307.ev rfl) pt_nil)) (by simp) ?_
   intro A308 S309 _ w311 H312 O313; clear H307 O304
   have O314 : Own w w311 [Chunk.row Kd.string 9 w.heap.size S309 (.slice A308 (([((((⟨#[35, 32]⟩ : ByteArray) ++ (vtB v)) ++ (⟨#[32]⟩ : ByteArray)) ++ (itB (totL ps v)))]).length) (([((((⟨#[35, 32]⟩ : ByteArray) ++ (vtB v)) ++ (⟨#[32]⟩ : ByteArray)) ++ (itB (totL ps v)))]).length)) ([((((⟨#[35, 32]⟩ : ByteArray) ++ (vtB v)) ++ (⟨#[32]⟩ : ByteArray)) ++ (itB (totL ps v)))]), Chunk.row Kd.string 9 w.heap.size Sv (.slice Av Lv.length cv) Lv, Bk g2 [.string su, .string bo, .slice A0 ps.length c0] 24] := O313
   clear O313
   refine gw_append Kd.string 1 H312 O314 (want_none rfl) rfl (by decide) rfl Tryd.underlying58 gwinfo9 rfl (by decide) (by decide) rfl (H312.ev rfl) (H312.ev rfl) (Kd.R_reads' (O314.get 0 rfl)).2.2 (fun _ _ h => h) O314.below.size (by rw [hLv]; have h1_ := body_len su bo ps; have h2_ := tots_len ps v.toNat; simp; omega) ?_
   intro A315 c316 S317 _ w319 H320 O321; clear H312 O314
   have O322 : Own w w319 [Chunk.row Kd.string 9 w.heap.size S309 (.slice A308 (([((((⟨#[35, 32]⟩ : ByteArray) ++ (vtB v)) ++ (⟨#[32]⟩ : ByteArray)) ++ (itB (totL ps v)))]).length) (([((((⟨#[35, 32]⟩ : ByteArray) ++ (vtB v)) ++ (⟨#[32]⟩ : ByteArray)) ++ (itB (totL ps v)))]).length)) ([((((⟨#[35, 32]⟩ : ByteArray) ++ (vtB v)) ++ (⟨#[32]⟩ : ByteArray)) ++ (itB (totL ps v)))]), Chunk.row Kd.string 9 w.heap.size S317 (.slice A315 ((Lv ++ [((((⟨#[35, 32]⟩ : ByteArray) ++ (vtB v)) ++ (⟨#[32]⟩ : ByteArray)) ++ (itB (totL ps v)))]).length) c316) (Lv ++ [((((⟨#[35, 32]⟩ : ByteArray) ++ (vtB v)) ++ (⟨#[32]⟩ : ByteArray)) ++ (itB (totL ps v)))]), Bk g2 [.string su, .string bo, .slice A0 ps.length c0] 24] := O321
   clear O321
   refine Va H320 fun _ H324 => ?_
   clear H320
   refine wpList_nil ?_
   refine gw_blk ?_
   refine gw_nx (hK257 _ _ ?_)
   refine wp_region_lit ?_
   refine V H324 (op_add rfl (H324.ev rfl) (ev_c _ _) (by omega)) fun _ H326 => ?_
   refine Vm H326 fun _ H328 => ?_
   clear H324 H326
   refine wpList_nil ?_
   refine gw_nx ⟨_, ?_, v + 1, (Lv ++ [((((⟨#[35, 32]⟩ : ByteArray) ++ (vtB v)) ++ (⟨#[32]⟩ : ByteArray)) ++ (itB (totL ps v)))]), A315, c316, S317, (H328.pick (t := 55) rfl (H328.pick (t := 3) rfl (H328.pick (t := 2) rfl (H328.pick (t := 54) rfl H328.nil)))), O322.sel [1, 2] (by decide), ?_, ?_, rfl⟩
   ·
    rw [hm250]; omega
   ·
    omega
   rw [hLv, tots_yes ps v (by omega) (by omega), List.append_assoc]
  have H329 := H279.subst_ (d := 64) (b := false) rfl hb280
  clear H279
  (try simp only [Bool.and_eq_true, Bool.and_eq_false_iff, decide_eq_true_eq, decide_eq_false_iff_not, Int.not_lt] at hb280)
  refine wp_skip ?_
  refine gw_blk ?_
  refine gw_nx (hK257 _ _ ?_)
  refine wp_region_lit ?_
  refine V H329 (op_add rfl (H329.ev rfl) (ev_c _ _) (by omega)) fun _ H331 => ?_
  refine Vm H331 fun _ H333 => ?_
  clear H329 H331
  refine wpList_nil ?_
  refine gw_nx ⟨_, ?_, v + 1, Lv, Av, cv, Sv, (H333.pick (t := 55) rfl (H333.pick (t := 3) rfl (H333.pick (t := 2) rfl (H333.pick (t := 54) rfl H333.nil)))), O249.sel [0, 1] (by decide), ?_, ?_, rfl⟩
  ·
   rw [hm250]; omega
  ·
   omega
  rw [hLv, tots_no ps v (by omega) (by omega)]
 have H334 := H253.subst_ (d := 56) (b := false) rfl hb255
 clear H253
 (try simp only [decide_eq_false_iff_not, Int.not_lt] at hb255)
 refine wp_exit ?_
 refine gw_thx ?_
 refine gw_thx ?_
 refine gw_in ?_
 refine gw_nx (hK231 _ _ ?_)
 refine gR fun K335 hK335 => ?_
 refine Vm H334 fun _ H337 => ?_
 clear H334
 refine gw_lit (enc := Value.string) (fun _ => rfl) (xs := [(⟨#[35, 32, 101, 110, 100]⟩ : ByteArray)]) (e := 9) H337 O249 (want_none rfl) rfl (by decide) (op_bslice (by kernel_rfl) rfl (pt_cons (ev_c _ _) pt_nil)) (by simp) ?_
 intro A338 S339 _ w341 H342 O343; clear H337 O249
 have O344 : Own w w341 [Chunk.row Kd.string 9 w.heap.size S339 (.slice A338 (([(⟨#[35, 32, 101, 110, 100]⟩ : ByteArray)]).length) (([(⟨#[35, 32, 101, 110, 100]⟩ : ByteArray)]).length)) ([(⟨#[35, 32, 101, 110, 100]⟩ : ByteArray)]), Chunk.row Kd.string 9 w.heap.size Sv (.slice Av Lv.length cv) Lv, Bk g2 [.string su, .string bo, .slice A0 ps.length c0] 24] := O343
 clear O343
 refine gw_append Kd.string 1 H342 O344 (want_none rfl) rfl (by decide) rfl Tryd.underlying58 gwinfo9 rfl (by decide) (by decide) rfl (H342.ev rfl) (H342.ev rfl) (Kd.R_reads' (O344.get 0 rfl)).2.2 (fun _ _ h => h) O344.below.size (by rw [hLv]; have h1_ := body_len su bo ps; have h2_ := tots_len ps v.toNat; simp; omega) ?_
 intro A345 c346 S347 _ w349 H350 O351; clear H342 O344
 have O352 : Own w w349 [Chunk.row Kd.string 9 w.heap.size S339 (.slice A338 (([(⟨#[35, 32, 101, 110, 100]⟩ : ByteArray)]).length) (([(⟨#[35, 32, 101, 110, 100]⟩ : ByteArray)]).length)) ([(⟨#[35, 32, 101, 110, 100]⟩ : ByteArray)]), Chunk.row Kd.string 9 w.heap.size S347 (.slice A345 ((Lv ++ [(⟨#[35, 32, 101, 110, 100]⟩ : ByteArray)]).length) c346) (Lv ++ [(⟨#[35, 32, 101, 110, 100]⟩ : ByteArray)]), Bk g2 [.string su, .string bo, .slice A0 ps.length c0] 24] := O351
 clear O351
 refine Va H350 fun _ H354 => ?_
 refine gE hK335 ?_
 refine wp_ret ?_
 clear H350
 refine gw_ret1 H354 rfl rfl ?_
 have en : Lv ++ [(⟨#[35, 32, 101, 110, 100]⟩ : ByteArray)] = linesL su bo ps := by rw [hLv, show v.toNat = 8 by omega]; rfl
 simp only [en] at *
 exact ⟨_, _, _, rfl, (O352.sel [1] (by decide)).out⟩
end GLines_
export GLines_ (lines_calls)
namespace GNamed_
theorem split_calls (s : ByteArray) (w : World) (hs : s.size ≤ 1000000000) (hL : LaidW w) :
    Calls Tryd.prog 30 #[.string s, .string (⟨#[10]⟩ : ByteArray)] w fun e w' => ∃ A c S, e = .returned (.slice A (pcs s).length c) ∧ Out w w' (fun _ => False) [Chunk.view Kd.string S A (pcs s).length c (pcs s)] := by
 refine gw_start (N := 10) (vs := [.string s, .string (⟨#[10]⟩ : ByteArray)]) Tryd.func30 rfl rfl (by simp) fun a HF HO => ?_
 replace HO : Own w w [] := HO
 refine gR fun K1 hK1 => ?_
 refine Vc HF ?_
 intro _ H3; clear HF
 refine gE hK1 ?_
 refine gR fun K4 hK4 => ?_
 refine Vm H3 fun _ H6 => ?_
 refine Vm H6 fun _ H8 => ?_
 refine Vm H8 fun _ H10 => ?_
 refine V H10 (op_lens Tryd.underlying9 rfl (H10.ev rfl)) fun _ H12 => ?_
 clear H3 H6 H8 H10
 refine Wk H12 Tryd.func47 rfl (ar_cons (H12.ev rfl) (ar_cons (H12.ev rfl) (ar_cons (H12.ev rfl) (ar_cons (ev_c _ _) ar_nil)))) (gs_calls s (by omega) _ (hL.own HO)) ?_
 rintro e17 w18 ⟨A13, c14, S15, rfl, hb19⟩
 refine ⟨_, rfl, fun _ H21 => ?_⟩
 have O22 := HO.fresh hb19
 clear H12 HO hb19
 refine Va H21 fun _ H25 => ?_
 refine gE hK4 ?_
 refine wp_ret ?_
 clear H21
 refine gw_ret1 H25 rfl rfl ?_
 exact ⟨_, _, _, rfl, O22.out⟩
theorem named_0 (w0 : World) (R : Chunk) (gs : Nat) (l wd x0 : ByteArray) (v1 v2 : Value) (w : World) (hl : l.size ≤ 1000000000) (HO : Own w0 w [R, Bk gs [.string x0, v1, v2] 24]) :
    Calls Tryd.prog 32 #[.string l, .string wd, .pointer (some ⟨gs, 0, none⟩)] w fun e w' => e = .returned (.bool (nmO l wd)) ∧ Own w0 w' [R, Bk gs [.string (nmB l wd), v1, v2] 24] := by
 refine gw_startO (N := 29) (vs := [.string l, .string wd, .pointer (some ⟨gs, 0, none⟩)]) Tryd.func32 rfl rfl (by simp) fun a HF => ?_
 refine gR fun K1 hK1 => ?_
 refine Vc HF ?_
 intro _ H3; clear HF
 refine gE hK1 ?_
 refine gR fun K4 hK4 => ?_
 refine Vm H3 fun _ H6 => ?_
 refine Vm H6 fun _ H8 => ?_
 clear H3 H6
 refine Wk H8 Tryd.func49 rfl (ar_cons (H8.ev rfl) (ar_cons (H8.ev rfl) ar_nil)) (cp_calls l wd _) ?_
 rintro e9 w10 ⟨rfl, hb11⟩
 refine ⟨_, rfl, fun _ H13 => ?_⟩
 have O14 := HO.after hb11
 clear H8 HO hb11
 refine Vm H13 fun _ H17 => ?_
 refine Vx H17 fun _ H19 => ?_
 refine Vx H19 fun _ H21 => ?_
 refine Va H21 fun _ H23 => ?_
 refine Va H23 fun _ H25 => ?_
 refine gE hK4 ?_
 refine gR fun K26 hK26 => ?_
 refine Vm H25 fun _ H28 => ?_
 clear H13 H17 H19 H21 H23 H25
 refine Wk H28 Tryd.func50 rfl (ar_cons (H28.ev rfl) ar_nil) (rd_calls (tpB l wd) (by have h_ := tp_size l wd; omega) _) ?_
 rintro e29 w30 ⟨rfl, hb31⟩
 refine ⟨_, rfl, fun _ H33 => ?_⟩
 have O34 := O14.after hb31
 clear H28 O14 hb31
 refine Vm H33 fun _ H37 => ?_
 refine Vx H37 fun _ H39 => ?_
 refine Vx H39 fun _ H41 => ?_
 refine Va H41 fun _ H43 => ?_
 refine Va H43 fun _ H45 => ?_
 refine gE hK26 ?_
 refine gR fun K46 hK46 => ?_
 refine Vm H45 fun _ H48 => ?_
 refine Vm H48 fun _ H50 => ?_
 refine Vz H50 fun _ H52 => ?_
 clear H33 H37 H39 H41 H43 H45 H48 H50
 refine gw_set 1 H52 O34 rfl (want_none rfl) rfl (op_store1 gwsiz9 rfl (H52.ev rfl) (H52.ev rfl) rfl (blk_at (O34.get 1 rfl) rfl) (blkf (O34.get 1 rfl))) ?_
 intro _ w55 H54 O56; clear H52 O34
 refine gE hK46 ?_
 refine gR fun K57 hK57 => ?_
 refine Vm H54 fun _ H59 => ?_
 refine Vm H59 fun _ H61 => ?_
 clear H54 H59
 refine gw_evG H61 rfl rfl rfl rfl (on_t _) rfl (by decide) (fun h_ => (op_move rfl (H61.ev rfl))) ?_
 intro _ H63; clear H61
 refine V H63 (op_pick_and rfl (H63.ev rfl) (fun hp_ => (ev_gv (H63.ev rfl) hp_)) (ev_c _ _)) fun _ H65 => ?_
 refine Va H65 fun _ H67 => ?_
 refine gE hK57 ?_
 refine wp_ret ?_
 clear H63 H65
 refine gw_ret1 H67 rfl rfl ?_
 exact ⟨by first | rfl | (unfold nmO; simp only [Bool.and_false]; rfl) | (unfold nmO; simp), O56.sel [0, 1] (by decide)⟩
theorem named_1 (w0 : World) (R : Chunk) (gs : Nat) (l wd x0 : ByteArray) (v0 v2 : Value) (w : World) (hl : l.size ≤ 1000000000) (HO : Own w0 w [R, Bk gs [v0, .string x0, v2] 24]) :
    Calls Tryd.prog 32 #[.string l, .string wd, .pointer (some ⟨gs, 1, none⟩)] w fun e w' => e = .returned (.bool (nmO l wd)) ∧ Own w0 w' [R, Bk gs [v0, .string (nmB l wd), v2] 24] := by
 refine gw_startO (N := 29) (vs := [.string l, .string wd, .pointer (some ⟨gs, 1, none⟩)]) Tryd.func32 rfl rfl (by simp) fun a HF => ?_
 refine gR fun K1 hK1 => ?_
 refine Vc HF ?_
 intro _ H3; clear HF
 refine gE hK1 ?_
 refine gR fun K4 hK4 => ?_
 refine Vm H3 fun _ H6 => ?_
 refine Vm H6 fun _ H8 => ?_
 clear H3 H6
 refine Wk H8 Tryd.func49 rfl (ar_cons (H8.ev rfl) (ar_cons (H8.ev rfl) ar_nil)) (cp_calls l wd _) ?_
 rintro e9 w10 ⟨rfl, hb11⟩
 refine ⟨_, rfl, fun _ H13 => ?_⟩
 have O14 := HO.after hb11
 clear H8 HO hb11
 refine Vm H13 fun _ H17 => ?_
 refine Vx H17 fun _ H19 => ?_
 refine Vx H19 fun _ H21 => ?_
 refine Va H21 fun _ H23 => ?_
 refine Va H23 fun _ H25 => ?_
 refine gE hK4 ?_
 refine gR fun K26 hK26 => ?_
 refine Vm H25 fun _ H28 => ?_
 clear H13 H17 H19 H21 H23 H25
 refine Wk H28 Tryd.func50 rfl (ar_cons (H28.ev rfl) ar_nil) (rd_calls (tpB l wd) (by have h_ := tp_size l wd; omega) _) ?_
 rintro e29 w30 ⟨rfl, hb31⟩
 refine ⟨_, rfl, fun _ H33 => ?_⟩
 have O34 := O14.after hb31
 clear H28 O14 hb31
 refine Vm H33 fun _ H37 => ?_
 refine Vx H37 fun _ H39 => ?_
 refine Vx H39 fun _ H41 => ?_
 refine Va H41 fun _ H43 => ?_
 refine Va H43 fun _ H45 => ?_
 refine gE hK26 ?_
 refine gR fun K46 hK46 => ?_
 refine Vm H45 fun _ H48 => ?_
 refine Vm H48 fun _ H50 => ?_
 refine Vz H50 fun _ H52 => ?_
 clear H33 H37 H39 H41 H43 H45 H48 H50
 refine gw_set 1 H52 O34 rfl (want_none rfl) rfl (op_store1 gwsiz9 rfl (H52.ev rfl) (H52.ev rfl) rfl (blk_at (O34.get 1 rfl) rfl) (blkf (O34.get 1 rfl))) ?_
 intro _ w55 H54 O56; clear H52 O34
 refine gE hK46 ?_
 refine gR fun K57 hK57 => ?_
 refine Vm H54 fun _ H59 => ?_
 refine Vm H59 fun _ H61 => ?_
 clear H54 H59
 refine gw_evG H61 rfl rfl rfl rfl (on_t _) rfl (by decide) (fun h_ => (op_move rfl (H61.ev rfl))) ?_
 intro _ H63; clear H61
 refine V H63 (op_pick_and rfl (H63.ev rfl) (fun hp_ => (ev_gv (H63.ev rfl) hp_)) (ev_c _ _)) fun _ H65 => ?_
 refine Va H65 fun _ H67 => ?_
 refine gE hK57 ?_
 refine wp_ret ?_
 clear H63 H65
 refine gw_ret1 H67 rfl rfl ?_
 exact ⟨by first | rfl | (unfold nmO; simp only [Bool.and_false]; rfl) | (unfold nmO; simp), O56.sel [0, 1] (by decide)⟩
theorem named_2 (w0 : World) (R : Chunk) (gs : Nat) (l wd x0 : ByteArray) (v1 : Value) (w : World) (hl : l.size ≤ 1000000000) (HO : Own w0 w [R, Bk gs [.string x0, v1] 46]) :
    Calls Tryd.prog 32 #[.string l, .string wd, .pointer (some ⟨gs, 0, none⟩)] w fun e w' => e = .returned (.bool (nmO l wd)) ∧ Own w0 w' [R, Bk gs [.string (nmB l wd), v1] 46] := by
 refine gw_startO (N := 29) (vs := [.string l, .string wd, .pointer (some ⟨gs, 0, none⟩)]) Tryd.func32 rfl rfl (by simp) fun a HF => ?_
 refine gR fun K1 hK1 => ?_
 refine Vc HF ?_
 intro _ H3; clear HF
 refine gE hK1 ?_
 refine gR fun K4 hK4 => ?_
 refine Vm H3 fun _ H6 => ?_
 refine Vm H6 fun _ H8 => ?_
 clear H3 H6
 refine Wk H8 Tryd.func49 rfl (ar_cons (H8.ev rfl) (ar_cons (H8.ev rfl) ar_nil)) (cp_calls l wd _) ?_
 rintro e9 w10 ⟨rfl, hb11⟩
 refine ⟨_, rfl, fun _ H13 => ?_⟩
 have O14 := HO.after hb11
 clear H8 HO hb11
 refine Vm H13 fun _ H17 => ?_
 refine Vx H17 fun _ H19 => ?_
 refine Vx H19 fun _ H21 => ?_
 refine Va H21 fun _ H23 => ?_
 refine Va H23 fun _ H25 => ?_
 refine gE hK4 ?_
 refine gR fun K26 hK26 => ?_
 refine Vm H25 fun _ H28 => ?_
 clear H13 H17 H19 H21 H23 H25
 refine Wk H28 Tryd.func50 rfl (ar_cons (H28.ev rfl) ar_nil) (rd_calls (tpB l wd) (by have h_ := tp_size l wd; omega) _) ?_
 rintro e29 w30 ⟨rfl, hb31⟩
 refine ⟨_, rfl, fun _ H33 => ?_⟩
 have O34 := O14.after hb31
 clear H28 O14 hb31
 refine Vm H33 fun _ H37 => ?_
 refine Vx H37 fun _ H39 => ?_
 refine Vx H39 fun _ H41 => ?_
 refine Va H41 fun _ H43 => ?_
 refine Va H43 fun _ H45 => ?_
 refine gE hK26 ?_
 refine gR fun K46 hK46 => ?_
 refine Vm H45 fun _ H48 => ?_
 refine Vm H48 fun _ H50 => ?_
 refine Vz H50 fun _ H52 => ?_
 clear H33 H37 H39 H41 H43 H45 H48 H50
 refine gw_set 1 H52 O34 rfl (want_none rfl) rfl (op_store1 gwsiz9 rfl (H52.ev rfl) (H52.ev rfl) rfl (blk_at (O34.get 1 rfl) rfl) (blkf (O34.get 1 rfl))) ?_
 intro _ w55 H54 O56; clear H52 O34
 refine gE hK46 ?_
 refine gR fun K57 hK57 => ?_
 refine Vm H54 fun _ H59 => ?_
 refine Vm H59 fun _ H61 => ?_
 clear H54 H59
 refine gw_evG H61 rfl rfl rfl rfl (on_t _) rfl (by decide) (fun h_ => (op_move rfl (H61.ev rfl))) ?_
 intro _ H63; clear H61
 refine V H63 (op_pick_and rfl (H63.ev rfl) (fun hp_ => (ev_gv (H63.ev rfl) hp_)) (ev_c _ _)) fun _ H65 => ?_
 refine Va H65 fun _ H67 => ?_
 refine gE hK57 ?_
 refine wp_ret ?_
 clear H63 H65
 refine gw_ret1 H67 rfl rfl ?_
 exact ⟨by first | rfl | (unfold nmO; simp only [Bool.and_false]; rfl) | (unfold nmO; simp), O56.sel [0, 1] (by decide)⟩
end GNamed_
export GNamed_ (split_calls named_0 named_1 named_2)
namespace GLine_
theorem line_0 (w0 : World) (R : Chunk) (gs : Nat) (su bo l : ByteArray) (A : Option Addr) (c : Nat) (Sr Sd : Nat → Prop) (w : World) (hl : l.size ≤ 1000000000) (hL : LaidW w0) (hWl : ([] : List W2).length ≤ 1000000000) (HO : Own w0 w [R, Bk gs [.string su, .string bo, .slice A (([] : List W2).length) c] 24, Chunk.row kW 46 w0.heap.size Sr (.slice A (([] : List W2).length) c) ([] : List W2), Chunk.dn w0.heap.size Sd [] []]) :
    Calls Tryd.prog 34 #[.pointer (some ⟨gs, 0, none⟩), .string l] w fun e w' => ∃ X : SmX, e = .returned (.bool (lineO ([] : List PP) l)) ∧ X.ok ∧ X.ps = lineS ([] : List PP) l ∧ Own w0 w' (R :: smL w0.heap.size gs su bo X) := by
 refine gw_startO (N := 84) (vs := [.pointer (some ⟨gs, 0, none⟩), .string l]) Tryd.func34 rfl rfl (by simp) fun a HF => ?_
 refine gR fun K1 hK1 => ?_
 refine Vc HF ?_
 intro _ H3; clear HF
 refine gE hK1 ?_
 refine gw_seq fun K4 hK4 => ?_
 refine gR fun K5 hK5 => ?_
 refine Vm H3 fun _ H7 => ?_
 clear H3
 refine Wk H7 Tryd.func33 rfl (ar_cons (H7.ev rfl) (ar_cons (ev_c _ _) ar_nil)) (hp_calls l (⟨#[103, 114, 111, 117, 112, 32]⟩ : ByteArray) _) ?_
 rintro e8 w9 ⟨rfl, hb10⟩
 refine ⟨_, rfl, fun _ H12 => ?_⟩
 have O13 := HO.after hb10
 clear H7 HO hb10
 refine gE hK5 ?_
 refine gw_cond H12 rfl (fun hb15 => ?_) (fun hb15 => ?_)
 ·
  have H16 := H12.subst_ (d := 15) (b := true) rfl hb15
  clear H12
  (try simp only [Bool.not_eq_true] at hb15)
  have hgp := hb15
  refine gR fun K17 hK17 => ?_
  refine gw_new H16 O13 (want_none rfl) rfl (by decide) (op_alloc gwzer46 rfl) ?_
  intro g18 _ w20 H21 O22; clear H16 O13
  have O23 : Own w0 w20 [Bk g18 [.string (⟨#[]⟩ : ByteArray), .slice none 0 0] 46, R, Bk gs [.string su, .string bo, .slice A (([] : List W2).length) c] 24, Chunk.row kW 46 w0.heap.size Sr (.slice A (([] : List W2).length) c) ([] : List W2), Chunk.dn w0.heap.size Sd [] []] := O22
  clear O22
  refine gE hK17 ?_
  refine gR fun K24 hK24 => ?_
  refine Vm H21 fun _ H26 => ?_
  refine Vf H26 (gwfld46_0 _ _) fun _ H28 => ?_
  clear H21 H26
  have O35 : Own w0 _ [(Chunk.all [R, Bk gs [.string su, .string bo, .slice A (([] : List W2).length) c] 24, Chunk.row kW 46 w0.heap.size Sr (.slice A (([] : List W2).length) c) ([] : List W2), Chunk.dn w0.heap.size Sd [] []]), Bk g18 [.string (⟨#[]⟩ : ByteArray), .slice none 0 0] 46] := Own.bundle (O23.sel [1, 2, 3, 4, 0] (by decide))
  refine Wk H28 Tryd.func32 rfl (ar_cons (H28.ev rfl) (ar_cons (ev_c _ _) (ar_cons (H28.ev rfl) ar_nil))) (named_2 w0 (Chunk.all [R, Bk gs [.string su, .string bo, .slice A (([] : List W2).length) c] 24, Chunk.row kW 46 w0.heap.size Sr (.slice A (([] : List W2).length) c) ([] : List W2), Chunk.dn w0.heap.size Sd [] []]) g18 l (⟨#[103, 114, 111, 117, 112, 32]⟩ : ByteArray) (⟨#[]⟩ : ByteArray) (.slice none 0 0) _ (by omega) O35) ?_
  rintro e29 w30 ⟨rfl, hb31⟩
  refine ⟨_, rfl, fun _ H33 => ?_⟩
  have O34 : Own w0 w30 [R, Bk gs [.string su, .string bo, .slice A (([] : List W2).length) c] 24, Chunk.row kW 46 w0.heap.size Sr (.slice A (([] : List W2).length) c) ([] : List W2), Chunk.dn w0.heap.size Sd [] [], Bk g18 [.string (nmB l (⟨#[103, 114, 111, 117, 112, 32]⟩ : ByteArray)), .slice none 0 0] 46] := Own.unbundle (hb31.sel [0, 1] (by decide))
  clear O35
  clear H28 O23 hb31
  refine Va H33 fun _ H38 => ?_
  refine gE hK24 ?_
  refine gw_seq fun K39 hK39 => ?_
  clear H33
  refine gx_draw (M := [R, Bk gs [.string su, .string bo, .slice A (([] : List W2).length) c] 24, Chunk.dn w0.heap.size Sd [] [], Bk g18 [.string (nmB l (⟨#[103, 114, 111, 117, 112, 32]⟩ : ByteArray)), .slice none 0 0] 46]) (fun j_ => j_ == 10) O34 (by kernel_rfl) fun w40 O41 => ?_
  clear O34
  refine gx_take 0 rfl (by kernel_rfl) H38 (by exact O41.sel [0, 1, 3, 4] (by decide)) (want_none rfl) rfl (by decide) (fun wq HO => (op_move rfl (H38.ev rfl))) ?_
  intro _ H43; clear H38
  refine gx_take 1 rfl (by kernel_rfl) H43 (by exact O41.sel [0, 1, 3, 4] (by decide)) (want_none rfl) rfl (by decide) (fun wq HO => (op_move rfl (H43.ev rfl))) ?_
  intro _ H45; clear H43
  refine gx_take 2 rfl (by kernel_rfl) H45 (by exact O41.sel [0, 1, 3, 4] (by decide)) (want_none rfl) rfl (by decide) (fun wq HO => (op_nil rfl (H45.ev rfl))) ?_
  intro _ H47; clear H45
  refine gx_take 3 rfl (by kernel_rfl) H47 (by exact O41.sel [0, 1, 3, 4] (by decide)) (want_none rfl) rfl (by decide) (fun wq HO => (op_field (gwfld24_2 _ _) rfl (H47.ev rfl))) ?_
  intro _ H49; clear H47
  refine gx_take 4 rfl (by kernel_rfl) H49 (by exact O41.sel [0, 1, 3, 4] (by decide)) (want_none rfl) rfl (by decide) (fun wq HO => (op_load1 gwagg22 rfl (H49.ev rfl) (blk_at (HO.get 1 rfl) rfl))) ?_
  intro _ H51; clear H49
  refine gx_take 5 rfl (by kernel_rfl) H51 (by exact O41.sel [0, 1, 3, 4] (by decide)) (want_none rfl) rfl (by decide) (fun wq HO => (op_loadn gwagg46 gwsiz46 rfl (H51.ev rfl) (HO.get 3 rfl) rfl rfl)) ?_
  intro _ H53; clear H51
  refine gx_step 6 rfl (by kernel_rfl) ?_
  refine gw_news (O := .cells #[.string (nmB l (⟨#[103, 114, 111, 117, 112, 32]⟩ : ByteArray)), .slice none 0 0] 46 (0, 0)) (n := 1) H53 O41 (want_none rfl) rfl (by decide) (op_bslice (by kernel_rfl) rfl (pt_cons (H53.ev rfl) pt_nil)) ?_
  intro g54 _ w56 H57 O58; clear H53 O41
  have O59 : Own w0 w56 [Bk g54 [.string (nmB l (⟨#[103, 114, 111, 117, 112, 32]⟩ : ByteArray)), .slice none 0 0] 46, R, Bk gs [.string su, .string bo, .slice A (([] : List W2).length) c] 24, Chunk.row kW 46 w0.heap.size Sr (.slice A (([] : List W2).length) c) ([] : List W2), Chunk.dn w0.heap.size Sd [] [], Bk g18 [.string (nmB l (⟨#[103, 114, 111, 117, 112, 32]⟩ : ByteArray)), .slice none 0 0] 46] := O58
  clear O58
  refine gx_on (i := 6) (B := (fun j_ => j_ == 10)) (fun _ => (by exact O59.sel [1, 2, 4, 5] (by decide))) ?_
  refine gx_step 7 rfl (by kernel_rfl) ?_
  have O60 : Own w0 _ [Chunk.row kW 46 w0.heap.size Sr (.slice A (([] : List W2).length) c) ([] : List W2), Chunk.void, Bk g54 [.string (nmB l (⟨#[103, 114, 111, 117, 112, 32]⟩ : ByteArray)), .slice none 0 0] 46, R, Bk gs [.string su, .string bo, .slice A (([] : List W2).length) c] 24, Chunk.dn w0.heap.size Sd [] [], Bk g18 [.string (nmB l (⟨#[103, 114, 111, 117, 112, 32]⟩ : ByteArray)), .slice none 0 0] 46] := O59.void.sel [4, 0, 1, 2, 3, 5, 6] (by decide)
  refine gw_append1 kW 0 (p := (⟨(nmB l (⟨#[103, 114, 111, 117, 112, 32]⟩ : ByteArray)), ⟨none, 0, 0⟩⟩ : W2)) (cs := [.string (nmB l (⟨#[103, 114, 111, 117, 112, 32]⟩ : ByteArray)), .slice none 0 0]) H57 O60 (want_none rfl) rfl (by decide) rfl Tryd.underlying22 gwinfo46 rfl (by decide) (by decide) rfl (H57.ev rfl) (H57.ev rfl) (fun w_ h_ => kW_mkM w_ _ _ (⟨(nmB l (⟨#[103, 114, 111, 117, 112, 32]⟩ : ByteArray)), ⟨none, 0, 0⟩⟩ : W2) ) O60.below.size (by simp) ?_
  intro A61 c62 S63 _ w65 H66 O67; clear H57 O59 O60
  have O68 : Own w0 w65 [Chunk.row kW 46 w0.heap.size S63 (.slice A61 ((([] : List W2) ++ [(⟨(nmB l (⟨#[103, 114, 111, 117, 112, 32]⟩ : ByteArray)), ⟨none, 0, 0⟩⟩ : W2)]).length) c62) (([] : List W2) ++ [(⟨(nmB l (⟨#[103, 114, 111, 117, 112, 32]⟩ : ByteArray)), ⟨none, 0, 0⟩⟩ : W2)]), Bk g54 [.string (nmB l (⟨#[103, 114, 111, 117, 112, 32]⟩ : ByteArray)), .slice none 0 0] 46, R, Bk gs [.string su, .string bo, .slice A (([] : List W2).length) c] 24, Chunk.dn w0.heap.size Sd [] [], Bk g18 [.string (nmB l (⟨#[103, 114, 111, 117, 112, 32]⟩ : ByteArray)), .slice none 0 0] 46] := O67
  clear O67
  refine gx_on (i := 7) (B := (fun j_ => j_ == 10)) (fun _ => (by exact O68.sel [2, 3, 4, 5] (by decide))) ?_
  refine gx_step 8 rfl (by kernel_rfl) ?_
  refine Vz H66 fun _ H70 => ?_
  clear H66
  refine gx_on (i := 8) (B := (fun j_ => j_ == 10)) (fun _ => (by exact O68.sel [2, 3, 4, 5] (by decide))) ?_
  refine gx_take 9 rfl (by kernel_rfl) H70 (by exact O68.sel [2, 3, 4, 5] (by decide)) (want_none rfl) rfl (by decide) (fun wq HO => (op_field (gwfld24_2 _ _) rfl (H70.ev rfl))) ?_
  intro _ H72; clear H70
  refine gx_step 10 rfl (by kernel_rfl) ?_
  refine gw_set 3 H72 O68 rfl (want_none rfl) rfl (op_store1 gwsiz22 rfl (H72.ev rfl) (H72.ev rfl) rfl (blk_at (O68.get 3 rfl) rfl) (blkf (O68.get 3 rfl))) ?_
  intro _ w75 H74 O76; clear H72 O68
  refine gx_on (i := 10) (B := (fun j_ => j_ == 10)) (fun h_ => by cases h_) ?_
  refine gx_done (by kernel_rfl) ?_
  refine gw_nx (hK39 _ _ ?_)
  refine gR fun K77 hK77 => ?_
  refine Vm H74 fun _ H79 => ?_
  refine Va H79 fun _ H81 => ?_
  refine gE hK77 ?_
  refine wp_ret ?_
  clear H74 H79
  refine gw_thr ?_
  refine gw_ret1 H81 rfl rfl ?_
  have O82_1 := O76.sel [4, 3, 0, 2] (by decide)
  have O82_2 := O82_1.row_nil KR 49 w0.heap.size
  refine ⟨⟨A61, c62, [], [], some _, [], none, 0, S63, _, fun _ => False⟩, ?_, fun h_ => (by cases h_), ?_, O82_2.sel [4, 2, 3, 1, 0] (by decide)⟩
  ·
   unfold lineO; rw [if_pos hgp]
  unfold lineS; rw [if_pos hgp]; rfl
 have H83 := H12.subst_ (d := 15) (b := false) rfl hb15
 clear H12
 (try simp only [Bool.not_eq_true] at hb15)
 have hgp : ¬ hpB l grpB = true := fun h_ => (by have h2_ := h_.symm.trans hb15; cases h2_)
 refine gS hK4 ?_
 refine gR fun K84 hK84 => ?_
 refine Vm H83 fun _ H86 => ?_
 clear H83
 refine Wk H86 Tryd.func52 rfl (ar_cons (H86.ev rfl) (ar_cons (ev_c _ _) ar_nil)) (cut_calls l (⟨#[58, 32]⟩ : ByteArray) (by omega) _ (hL.own O13)) ?_
 rintro e87 w88 ⟨rfl, hb89⟩
 refine ⟨_, rfl, fun _ H91 => ?_⟩
 have O92 := O13.after hb89
 clear H86 O13 hb89
 refine Vm H91 fun _ H95 => ?_
 refine Vx H95 fun _ H97 => ?_
 refine Vx H97 fun _ H99 => ?_
 refine Vx H99 fun _ H101 => ?_
 refine Va H101 fun _ H103 => ?_
 refine Va H103 fun _ H105 => ?_
 refine Va H105 fun _ H107 => ?_
 refine gE hK84 ?_
 refine gR fun K108 hK108 => ?_
 refine Vm H107 fun _ H110 => ?_
 clear H91 H95 H97 H99 H101 H103 H105 H107
 refine Wk H110 Tryd.func53 rfl (ar_cons (H110.ev rfl) ar_nil) (vp_calls (cuA l (⟨#[58, 32]⟩ : ByteArray)) _) ?_
 rintro e111 w112 ⟨rfl, hb113⟩
 refine ⟨_, rfl, fun _ H115 => ?_⟩
 have O116 := O92.after hb113
 clear H110 O92 hb113
 refine Va H115 fun _ H119 => ?_
 refine gE hK108 ?_
 refine gR fun K120 hK120 => ?_
 refine Vm H119 fun _ H122 => ?_
 clear H115 H119
 refine Wk H122 Tryd.func50 rfl (ar_cons (H122.ev rfl) ar_nil) (rd_calls (cuB l (⟨#[58, 32]⟩ : ByteArray)) (by have h_ := cuB_size l (⟨#[58, 32]⟩ : ByteArray); omega) _) ?_
 rintro e123 w124 ⟨rfl, hb125⟩
 refine ⟨_, rfl, fun _ H127 => ?_⟩
 have O128 := O116.after hb125
 clear H122 O116 hb125
 refine Vm H127 fun _ H131 => ?_
 refine Vx H131 fun _ H133 => ?_
 refine Vx H133 fun _ H135 => ?_
 refine Va H135 fun _ H137 => ?_
 refine Va H137 fun _ H139 => ?_
 refine gE hK120 ?_
 refine gw_seq fun K140 hK140 => ?_
 refine gR fun K141 hK141 => ?_
 refine Vm H139 fun _ H143 => ?_
 refine V H143 (op_not rfl (H143.ev rfl)) fun _ H145 => ?_
 refine Vm H145 fun _ H147 => ?_
 clear H127 H131 H133 H135 H137 H139 H143 H145
 refine gw_evG H147 rfl rfl rfl rfl (on_f _) rfl (by decide) (fun h_ => (op_move rfl (H147.ev rfl))) ?_
 intro _ H149; clear H147
 refine gw_evG H149 rfl rfl rfl rfl (on_f _) rfl (by decide) (fun h_ => (op_eqi rfl (ev_gv (H149.ev rfl) h_) (ev_c _ _))) ?_
 intro _ H151; clear H149
 refine V H151 (op_pick_or rfl (H151.ev rfl) (ev_c _ _) (fun hp_ => (ev_gv (H151.ev rfl) (not_t hp_)))) fun _ H153 => ?_
 refine Vm H153 fun _ H155 => ?_
 clear H151 H153
 refine gw_evG H155 rfl rfl rfl rfl (on_f _) rfl (by decide) (fun h_ => (op_move rfl (H155.ev rfl))) ?_
 intro _ H157; clear H155
 refine gw_evG H157 rfl rfl rfl rfl (on_f _) rfl (by decide) (fun h_ => (op_not rfl (ev_gv (H157.ev rfl) h_))) ?_
 intro _ H159; clear H157
 refine V H159 (op_pick_or rfl (H159.ev rfl) (ev_c _ _) (fun hp_ => (ev_gv (H159.ev rfl) (not_t hp_)))) fun _ H161 => ?_
 refine Vm H161 fun _ H163 => ?_
 clear H159 H161
 refine gw_evG H163 rfl rfl rfl rfl (on_f _) rfl (by decide) (fun h_ => (op_move rfl (H163.ev rfl))) ?_
 intro _ H165; clear H163
 refine gw_evG H165 rfl rfl rfl rfl (on_f _) rfl (by decide) (fun h_ => (op_nil rfl (ev_gv (H165.ev rfl) h_))) ?_
 intro _ H167; clear H165
 refine gw_evG H167 rfl rfl rfl rfl (on_f _) rfl (by decide) (fun h_ => (op_field (gwfld24_2 _ _) rfl (ev_gv (H167.ev rfl) h_))) ?_
 intro _ H169; clear H167
 refine gw_evG H169 rfl rfl rfl rfl (on_f _) rfl (by decide) (fun h_ => (op_load1 gwagg22 rfl (ev_gv (H169.ev rfl) h_) (blk_at (O128.get 1 rfl) rfl))) ?_
 intro _ H171; clear H169
 refine gw_evG H171 rfl rfl rfl rfl (on_f _) rfl (by decide) (fun h_ => (op_len Tryd.underlying22 rfl (ev_gv (H171.ev rfl) h_))) ?_
 intro _ H173; clear H171
 refine gw_evG H173 rfl rfl rfl rfl (on_f _) rfl (by decide) (fun h_ => (op_eqi rfl (ev_gv (H173.ev rfl) h_) (ev_c _ _))) ?_
 intro _ H175; clear H173
 refine V H175 (op_pick_or rfl (H175.ev rfl) (ev_c _ _) (fun hp_ => (ev_gv (H175.ev rfl) (not_t hp_)))) fun _ H177 => ?_
 clear H175
 have H178 := H177.lit (b := true) (by simp)
 clear H177
 refine gE hK141 ?_
 refine gw_cond H178 rfl (fun hb179 => ?_) (fun hb179 => ?_)
 rotate_left
 ·
  cases hb179
 refine gR fun K180 hK180 => ?_
 refine Vc H178 fun _ H182 => ?_
 refine gE hK180 ?_
 refine wp_ret ?_
 clear H178
 refine gw_thr ?_
 refine gw_ret1 H182 rfl rfl ?_
 have O183_1 := O128.row_nil KR 49 w0.heap.size
 have hrO : resO ([] : List PP) l = false := by unfold resO; simp
 refine ⟨⟨A, c, [], [], none, [], none, 0, Sr, Sd, fun _ => False⟩, ?_, fun _ => ⟨rfl, rfl, rfl⟩, ?_, O183_1.sel [1, 2, 3, 4, 0] (by decide)⟩
 ·
  unfold lineO; rw [if_neg hgp, hrO]
 unfold lineS; rw [if_neg hgp, if_neg (by rw [hrO]; decide)]; rfl
theorem line_1 (w0 : World) (R : Chunk) (gs : Nat) (su bo l : ByteArray) (A : Option Addr) (c : Nat) (Sr Sd : Nat → Prop) (w : World) (Wd : List W2) (qs : List PP) (g0 : ByteArray) (xs : List RS) (A2 : Option Addr) (c2 : Nat) (Sl : Nat → Prop) (hl : l.size ≤ 1000000000) (hL : LaidW w0) (hWl : (Wd ++ [(⟨g0, ⟨A2, xs.length, c2⟩⟩ : W2)]).length ≤ 1000000000) (hxl : xs.length ≤ 1000000000) (HO : Own w0 w [R, Bk gs [.string su, .string bo, .slice A ((Wd ++ [(⟨g0, ⟨A2, xs.length, c2⟩⟩ : W2)]).length) c] 24, Chunk.row kW 46 w0.heap.size Sr (.slice A ((Wd ++ [(⟨g0, ⟨A2, xs.length, c2⟩⟩ : W2)]).length) c) (Wd ++ [(⟨g0, ⟨A2, xs.length, c2⟩⟩ : W2)]), Chunk.dn w0.heap.size Sd Wd qs, Chunk.row KR 49 w0.heap.size Sl (.slice A2 xs.length c2) xs]) :
    Calls Tryd.prog 34 #[.pointer (some ⟨gs, 0, none⟩), .string l] w fun e w' => ∃ X : SmX, e = .returned (.bool (lineO (qs ++ [⟨g0, xs⟩]) l)) ∧ X.ok ∧ X.ps = lineS (qs ++ [⟨g0, xs⟩]) l ∧ Own w0 w' (R :: smL w0.heap.size gs su bo X) := by
 refine gw_startO (N := 84) (vs := [.pointer (some ⟨gs, 0, none⟩), .string l]) Tryd.func34 rfl rfl (by simp) fun a HF => ?_
 refine gR fun K1 hK1 => ?_
 refine Vc HF ?_
 intro _ H3; clear HF
 refine gE hK1 ?_
 refine gw_seq fun K4 hK4 => ?_
 refine gR fun K5 hK5 => ?_
 refine Vm H3 fun _ H7 => ?_
 clear H3
 refine Wk H7 Tryd.func33 rfl (ar_cons (H7.ev rfl) (ar_cons (ev_c _ _) ar_nil)) (hp_calls l (⟨#[103, 114, 111, 117, 112, 32]⟩ : ByteArray) _) ?_
 rintro e8 w9 ⟨rfl, hb10⟩
 refine ⟨_, rfl, fun _ H12 => ?_⟩
 have O13 := HO.after hb10
 clear H7 HO hb10
 refine gE hK5 ?_
 refine gw_cond H12 rfl (fun hb15 => ?_) (fun hb15 => ?_)
 ·
  have H16 := H12.subst_ (d := 15) (b := true) rfl hb15
  clear H12
  (try simp only [Bool.not_eq_true] at hb15)
  have hgp := hb15
  refine gR fun K17 hK17 => ?_
  refine gw_new H16 O13 (want_none rfl) rfl (by decide) (op_alloc gwzer46 rfl) ?_
  intro g18 _ w20 H21 O22; clear H16 O13
  have O23 : Own w0 w20 [Bk g18 [.string (⟨#[]⟩ : ByteArray), .slice none 0 0] 46, R, Bk gs [.string su, .string bo, .slice A ((Wd ++ [(⟨g0, ⟨A2, xs.length, c2⟩⟩ : W2)]).length) c] 24, Chunk.row kW 46 w0.heap.size Sr (.slice A ((Wd ++ [(⟨g0, ⟨A2, xs.length, c2⟩⟩ : W2)]).length) c) (Wd ++ [(⟨g0, ⟨A2, xs.length, c2⟩⟩ : W2)]), Chunk.dn w0.heap.size Sd Wd qs, Chunk.row KR 49 w0.heap.size Sl (.slice A2 xs.length c2) xs] := O22
  clear O22
  refine gE hK17 ?_
  refine gR fun K24 hK24 => ?_
  refine Vm H21 fun _ H26 => ?_
  refine Vf H26 (gwfld46_0 _ _) fun _ H28 => ?_
  clear H21 H26
  have O35 : Own w0 _ [(Chunk.all [R, Bk gs [.string su, .string bo, .slice A ((Wd ++ [(⟨g0, ⟨A2, xs.length, c2⟩⟩ : W2)]).length) c] 24, Chunk.row kW 46 w0.heap.size Sr (.slice A ((Wd ++ [(⟨g0, ⟨A2, xs.length, c2⟩⟩ : W2)]).length) c) (Wd ++ [(⟨g0, ⟨A2, xs.length, c2⟩⟩ : W2)]), Chunk.dn w0.heap.size Sd Wd qs, Chunk.row KR 49 w0.heap.size Sl (.slice A2 xs.length c2) xs]), Bk g18 [.string (⟨#[]⟩ : ByteArray), .slice none 0 0] 46] := Own.bundle (O23.sel [1, 2, 3, 4, 5, 0] (by decide))
  refine Wk H28 Tryd.func32 rfl (ar_cons (H28.ev rfl) (ar_cons (ev_c _ _) (ar_cons (H28.ev rfl) ar_nil))) (named_2 w0 (Chunk.all [R, Bk gs [.string su, .string bo, .slice A ((Wd ++ [(⟨g0, ⟨A2, xs.length, c2⟩⟩ : W2)]).length) c] 24, Chunk.row kW 46 w0.heap.size Sr (.slice A ((Wd ++ [(⟨g0, ⟨A2, xs.length, c2⟩⟩ : W2)]).length) c) (Wd ++ [(⟨g0, ⟨A2, xs.length, c2⟩⟩ : W2)]), Chunk.dn w0.heap.size Sd Wd qs, Chunk.row KR 49 w0.heap.size Sl (.slice A2 xs.length c2) xs]) g18 l (⟨#[103, 114, 111, 117, 112, 32]⟩ : ByteArray) (⟨#[]⟩ : ByteArray) (.slice none 0 0) _ (by omega) O35) ?_
  rintro e29 w30 ⟨rfl, hb31⟩
  refine ⟨_, rfl, fun _ H33 => ?_⟩
  have O34 : Own w0 w30 [R, Bk gs [.string su, .string bo, .slice A ((Wd ++ [(⟨g0, ⟨A2, xs.length, c2⟩⟩ : W2)]).length) c] 24, Chunk.row kW 46 w0.heap.size Sr (.slice A ((Wd ++ [(⟨g0, ⟨A2, xs.length, c2⟩⟩ : W2)]).length) c) (Wd ++ [(⟨g0, ⟨A2, xs.length, c2⟩⟩ : W2)]), Chunk.dn w0.heap.size Sd Wd qs, Chunk.row KR 49 w0.heap.size Sl (.slice A2 xs.length c2) xs, Bk g18 [.string (nmB l (⟨#[103, 114, 111, 117, 112, 32]⟩ : ByteArray)), .slice none 0 0] 46] := Own.unbundle (hb31.sel [0, 1] (by decide))
  clear O35
  clear H28 O23 hb31
  refine Va H33 fun _ H38 => ?_
  refine gE hK24 ?_
  refine gw_seq fun K39 hK39 => ?_
  clear H33
  refine gx_draw (M := [R, Bk gs [.string su, .string bo, .slice A ((Wd ++ [(⟨g0, ⟨A2, xs.length, c2⟩⟩ : W2)]).length) c] 24, Chunk.dn w0.heap.size Sd Wd qs, Chunk.row KR 49 w0.heap.size Sl (.slice A2 xs.length c2) xs, Bk g18 [.string (nmB l (⟨#[103, 114, 111, 117, 112, 32]⟩ : ByteArray)), .slice none 0 0] 46]) (fun j_ => j_ == 10) O34 (by kernel_rfl) fun w40 O41 => ?_
  clear O34
  refine gx_take 0 rfl (by kernel_rfl) H38 (by exact O41.sel [0, 1, 3, 4, 5] (by decide)) (want_none rfl) rfl (by decide) (fun wq HO => (op_move rfl (H38.ev rfl))) ?_
  intro _ H43; clear H38
  refine gx_take 1 rfl (by kernel_rfl) H43 (by exact O41.sel [0, 1, 3, 4, 5] (by decide)) (want_none rfl) rfl (by decide) (fun wq HO => (op_move rfl (H43.ev rfl))) ?_
  intro _ H45; clear H43
  refine gx_take 2 rfl (by kernel_rfl) H45 (by exact O41.sel [0, 1, 3, 4, 5] (by decide)) (want_none rfl) rfl (by decide) (fun wq HO => (op_nil rfl (H45.ev rfl))) ?_
  intro _ H47; clear H45
  refine gx_take 3 rfl (by kernel_rfl) H47 (by exact O41.sel [0, 1, 3, 4, 5] (by decide)) (want_none rfl) rfl (by decide) (fun wq HO => (op_field (gwfld24_2 _ _) rfl (H47.ev rfl))) ?_
  intro _ H49; clear H47
  refine gx_take 4 rfl (by kernel_rfl) H49 (by exact O41.sel [0, 1, 3, 4, 5] (by decide)) (want_none rfl) rfl (by decide) (fun wq HO => (op_load1 gwagg22 rfl (H49.ev rfl) (blk_at (HO.get 1 rfl) rfl))) ?_
  intro _ H51; clear H49
  refine gx_take 5 rfl (by kernel_rfl) H51 (by exact O41.sel [0, 1, 3, 4, 5] (by decide)) (want_none rfl) rfl (by decide) (fun wq HO => (op_loadn gwagg46 gwsiz46 rfl (H51.ev rfl) (HO.get 4 rfl) rfl rfl)) ?_
  intro _ H53; clear H51
  refine gx_step 6 rfl (by kernel_rfl) ?_
  refine gw_news (O := .cells #[.string (nmB l (⟨#[103, 114, 111, 117, 112, 32]⟩ : ByteArray)), .slice none 0 0] 46 (0, 0)) (n := 1) H53 O41 (want_none rfl) rfl (by decide) (op_bslice (by kernel_rfl) rfl (pt_cons (H53.ev rfl) pt_nil)) ?_
  intro g54 _ w56 H57 O58; clear H53 O41
  have O59 : Own w0 w56 [Bk g54 [.string (nmB l (⟨#[103, 114, 111, 117, 112, 32]⟩ : ByteArray)), .slice none 0 0] 46, R, Bk gs [.string su, .string bo, .slice A ((Wd ++ [(⟨g0, ⟨A2, xs.length, c2⟩⟩ : W2)]).length) c] 24, Chunk.row kW 46 w0.heap.size Sr (.slice A ((Wd ++ [(⟨g0, ⟨A2, xs.length, c2⟩⟩ : W2)]).length) c) (Wd ++ [(⟨g0, ⟨A2, xs.length, c2⟩⟩ : W2)]), Chunk.dn w0.heap.size Sd Wd qs, Chunk.row KR 49 w0.heap.size Sl (.slice A2 xs.length c2) xs, Bk g18 [.string (nmB l (⟨#[103, 114, 111, 117, 112, 32]⟩ : ByteArray)), .slice none 0 0] 46] := O58
  clear O58
  refine gx_on (i := 6) (B := (fun j_ => j_ == 10)) (fun _ => (by exact O59.sel [1, 2, 4, 5, 6] (by decide))) ?_
  refine gx_step 7 rfl (by kernel_rfl) ?_
  have O60 : Own w0 _ [Chunk.row kW 46 w0.heap.size Sr (.slice A ((Wd ++ [(⟨g0, ⟨A2, xs.length, c2⟩⟩ : W2)]).length) c) (Wd ++ [(⟨g0, ⟨A2, xs.length, c2⟩⟩ : W2)]), Chunk.void, Bk g54 [.string (nmB l (⟨#[103, 114, 111, 117, 112, 32]⟩ : ByteArray)), .slice none 0 0] 46, R, Bk gs [.string su, .string bo, .slice A ((Wd ++ [(⟨g0, ⟨A2, xs.length, c2⟩⟩ : W2)]).length) c] 24, Chunk.dn w0.heap.size Sd Wd qs, Chunk.row KR 49 w0.heap.size Sl (.slice A2 xs.length c2) xs, Bk g18 [.string (nmB l (⟨#[103, 114, 111, 117, 112, 32]⟩ : ByteArray)), .slice none 0 0] 46] := O59.void.sel [4, 0, 1, 2, 3, 5, 6, 7] (by decide)
  refine gw_append1 kW 0 (p := (⟨(nmB l (⟨#[103, 114, 111, 117, 112, 32]⟩ : ByteArray)), ⟨none, 0, 0⟩⟩ : W2)) (cs := [.string (nmB l (⟨#[103, 114, 111, 117, 112, 32]⟩ : ByteArray)), .slice none 0 0]) H57 O60 (want_none rfl) rfl (by decide) rfl Tryd.underlying22 gwinfo46 rfl (by decide) (by decide) rfl (H57.ev rfl) (H57.ev rfl) (fun w_ h_ => kW_mkM w_ _ _ (⟨(nmB l (⟨#[103, 114, 111, 117, 112, 32]⟩ : ByteArray)), ⟨none, 0, 0⟩⟩ : W2) ) O60.below.size (by (try simp at hWl); simp; omega) ?_
  intro A61 c62 S63 _ w65 H66 O67; clear H57 O59 O60
  have O68 : Own w0 w65 [Chunk.row kW 46 w0.heap.size S63 (.slice A61 (((Wd ++ [(⟨g0, ⟨A2, xs.length, c2⟩⟩ : W2)]) ++ [(⟨(nmB l (⟨#[103, 114, 111, 117, 112, 32]⟩ : ByteArray)), ⟨none, 0, 0⟩⟩ : W2)]).length) c62) ((Wd ++ [(⟨g0, ⟨A2, xs.length, c2⟩⟩ : W2)]) ++ [(⟨(nmB l (⟨#[103, 114, 111, 117, 112, 32]⟩ : ByteArray)), ⟨none, 0, 0⟩⟩ : W2)]), Bk g54 [.string (nmB l (⟨#[103, 114, 111, 117, 112, 32]⟩ : ByteArray)), .slice none 0 0] 46, R, Bk gs [.string su, .string bo, .slice A ((Wd ++ [(⟨g0, ⟨A2, xs.length, c2⟩⟩ : W2)]).length) c] 24, Chunk.dn w0.heap.size Sd Wd qs, Chunk.row KR 49 w0.heap.size Sl (.slice A2 xs.length c2) xs, Bk g18 [.string (nmB l (⟨#[103, 114, 111, 117, 112, 32]⟩ : ByteArray)), .slice none 0 0] 46] := O67
  clear O67
  refine gx_on (i := 7) (B := (fun j_ => j_ == 10)) (fun _ => (by exact O68.sel [2, 3, 4, 5, 6] (by decide))) ?_
  refine gx_step 8 rfl (by kernel_rfl) ?_
  refine Vz H66 fun _ H70 => ?_
  clear H66
  refine gx_on (i := 8) (B := (fun j_ => j_ == 10)) (fun _ => (by exact O68.sel [2, 3, 4, 5, 6] (by decide))) ?_
  refine gx_take 9 rfl (by kernel_rfl) H70 (by exact O68.sel [2, 3, 4, 5, 6] (by decide)) (want_none rfl) rfl (by decide) (fun wq HO => (op_field (gwfld24_2 _ _) rfl (H70.ev rfl))) ?_
  intro _ H72; clear H70
  refine gx_step 10 rfl (by kernel_rfl) ?_
  refine gw_set 3 H72 O68 rfl (want_none rfl) rfl (op_store1 gwsiz22 rfl (H72.ev rfl) (H72.ev rfl) rfl (blk_at (O68.get 3 rfl) rfl) (blkf (O68.get 3 rfl))) ?_
  intro _ w75 H74 O76; clear H72 O68
  refine gx_on (i := 10) (B := (fun j_ => j_ == 10)) (fun h_ => by cases h_) ?_
  refine gx_done (by kernel_rfl) ?_
  refine gw_nx (hK39 _ _ ?_)
  refine gR fun K77 hK77 => ?_
  refine Vm H74 fun _ H79 => ?_
  refine Va H79 fun _ H81 => ?_
  refine gE hK77 ?_
  refine wp_ret ?_
  clear H74 H79
  refine gw_thr ?_
  refine gw_ret1 H81 rfl rfl ?_
  have O82_1 := (O76.sel [5, 4, 3, 0, 2] (by decide)).dn_push (gn := g0)
  have O82_2 := O82_1.row_nil KR 49 w0.heap.size
  refine ⟨⟨A61, c62, _, _, some _, [], none, 0, S63, _, fun _ => False⟩, ?_, fun h_ => (by cases h_), ?_, O82_2.sel [4, 2, 3, 1, 0] (by decide)⟩
  ·
   unfold lineO; rw [if_pos hgp]
  unfold lineS; rw [if_pos hgp]; rfl
 have H83 := H12.subst_ (d := 15) (b := false) rfl hb15
 clear H12
 (try simp only [Bool.not_eq_true] at hb15)
 have hgp : ¬ hpB l grpB = true := fun h_ => (by have h2_ := h_.symm.trans hb15; cases h2_)
 refine gS hK4 ?_
 refine gR fun K84 hK84 => ?_
 refine Vm H83 fun _ H86 => ?_
 clear H83
 refine Wk H86 Tryd.func52 rfl (ar_cons (H86.ev rfl) (ar_cons (ev_c _ _) ar_nil)) (cut_calls l (⟨#[58, 32]⟩ : ByteArray) (by omega) _ (hL.own O13)) ?_
 rintro e87 w88 ⟨rfl, hb89⟩
 refine ⟨_, rfl, fun _ H91 => ?_⟩
 have O92 := O13.after hb89
 clear H86 O13 hb89
 refine Vm H91 fun _ H95 => ?_
 refine Vx H95 fun _ H97 => ?_
 refine Vx H97 fun _ H99 => ?_
 refine Vx H99 fun _ H101 => ?_
 refine Va H101 fun _ H103 => ?_
 refine Va H103 fun _ H105 => ?_
 refine Va H105 fun _ H107 => ?_
 refine gE hK84 ?_
 refine gR fun K108 hK108 => ?_
 refine Vm H107 fun _ H110 => ?_
 clear H91 H95 H97 H99 H101 H103 H105 H107
 refine Wk H110 Tryd.func53 rfl (ar_cons (H110.ev rfl) ar_nil) (vp_calls (cuA l (⟨#[58, 32]⟩ : ByteArray)) _) ?_
 rintro e111 w112 ⟨rfl, hb113⟩
 refine ⟨_, rfl, fun _ H115 => ?_⟩
 have O116 := O92.after hb113
 clear H110 O92 hb113
 refine Va H115 fun _ H119 => ?_
 refine gE hK108 ?_
 refine gR fun K120 hK120 => ?_
 refine Vm H119 fun _ H122 => ?_
 clear H115 H119
 refine Wk H122 Tryd.func50 rfl (ar_cons (H122.ev rfl) ar_nil) (rd_calls (cuB l (⟨#[58, 32]⟩ : ByteArray)) (by have h_ := cuB_size l (⟨#[58, 32]⟩ : ByteArray); omega) _) ?_
 rintro e123 w124 ⟨rfl, hb125⟩
 refine ⟨_, rfl, fun _ H127 => ?_⟩
 have O128 := O116.after hb125
 clear H122 O116 hb125
 refine Vm H127 fun _ H131 => ?_
 refine Vx H131 fun _ H133 => ?_
 refine Vx H133 fun _ H135 => ?_
 refine Va H135 fun _ H137 => ?_
 refine Va H137 fun _ H139 => ?_
 refine gE hK120 ?_
 refine gw_seq fun K140 hK140 => ?_
 refine gR fun K141 hK141 => ?_
 refine Vm H139 fun _ H143 => ?_
 refine V H143 (op_not rfl (H143.ev rfl)) fun _ H145 => ?_
 refine Vm H145 fun _ H147 => ?_
 clear H127 H131 H133 H135 H137 H139 H143 H145
 refine gw_evG H147 rfl rfl rfl rfl (on_f _) rfl (by decide) (fun h_ => (op_move rfl (H147.ev rfl))) ?_
 intro _ H149; clear H147
 refine gw_evG H149 rfl rfl rfl rfl (on_f _) rfl (by decide) (fun h_ => (op_eqi rfl (ev_gv (H149.ev rfl) h_) (ev_c _ _))) ?_
 intro _ H151; clear H149
 refine V H151 (op_pick_or rfl (H151.ev rfl) (ev_c _ _) (fun hp_ => (ev_gv (H151.ev rfl) (not_t hp_)))) fun _ H153 => ?_
 refine Vm H153 fun _ H155 => ?_
 clear H151 H153
 refine gw_evG H155 rfl rfl rfl rfl (on_f _) rfl (by decide) (fun h_ => (op_move rfl (H155.ev rfl))) ?_
 intro _ H157; clear H155
 refine gw_evG H157 rfl rfl rfl rfl (on_f _) rfl (by decide) (fun h_ => (op_not rfl (ev_gv (H157.ev rfl) h_))) ?_
 intro _ H159; clear H157
 refine V H159 (op_pick_or rfl (H159.ev rfl) (ev_c _ _) (fun hp_ => (ev_gv (H159.ev rfl) (not_t hp_)))) fun _ H161 => ?_
 refine Vm H161 fun _ H163 => ?_
 clear H159 H161
 refine gw_evG H163 rfl rfl rfl rfl (on_f _) rfl (by decide) (fun h_ => (op_move rfl (H163.ev rfl))) ?_
 intro _ H165; clear H163
 refine gw_evG H165 rfl rfl rfl rfl (on_f _) rfl (by decide) (fun h_ => (op_nil rfl (ev_gv (H165.ev rfl) h_))) ?_
 intro _ H167; clear H165
 refine gw_evG H167 rfl rfl rfl rfl (on_f _) rfl (by decide) (fun h_ => (op_field (gwfld24_2 _ _) rfl (ev_gv (H167.ev rfl) h_))) ?_
 intro _ H169; clear H167
 refine gw_evG H169 rfl rfl rfl rfl (on_f _) rfl (by decide) (fun h_ => (op_load1 gwagg22 rfl (ev_gv (H169.ev rfl) h_) (blk_at (O128.get 1 rfl) rfl))) ?_
 intro _ H171; clear H169
 refine gw_evG H171 rfl rfl rfl rfl (on_f _) rfl (by decide) (fun h_ => (op_len Tryd.underlying22 rfl (ev_gv (H171.ev rfl) h_))) ?_
 intro _ H173; clear H171
 refine gw_evG H173 rfl rfl rfl rfl (on_f _) rfl (by decide) (fun h_ => (op_eqi rfl (ev_gv (H173.ev rfl) h_) (ev_c _ _))) ?_
 intro _ H175; clear H173
 refine V H175 (op_pick_or rfl (H175.ev rfl) (ev_c _ _) (fun hp_ => (ev_gv (H175.ev rfl) (not_t hp_)))) fun _ H177 => ?_
 refine gE hK141 ?_
 clear H175
 refine gw_cond H177 rfl (fun hb178 => ?_) (fun hb178 => ?_)
 ·
  have H179 := H177.subst_ (d := 60) (b := true) rfl hb178
  clear H177
  (try simp only [Bool.and_eq_true, Bool.and_eq_false_iff, Bool.not_and, Bool.or_eq_true, Bool.or_eq_false_iff, Bool.not_or, Bool.not_not, Bool.not_eq_true', Bool.not_eq_false', Bool.not_eq_true, Bool.not_eq_false, decide_eq_true_eq, decide_eq_false_iff_not] at hb178)
  have hno : (cuO l sepB && !decide (vpB (cuA l sepB) = 0) && (readN (cuB l sepB)).2) = false := by have hb_ := hb178; revert hb_; cases cuO l sepB <;> cases (readN (cuB l sepB)).2 <;> by_cases hv_ : vpB (cuA l sepB) = 0 <;> simp [hv_] <;> omega
  refine gR fun K180 hK180 => ?_
  refine Vc H179 fun _ H182 => ?_
  refine gE hK180 ?_
  refine wp_ret ?_
  clear H179
  refine gw_thr ?_
  refine gw_ret1 H182 rfl rfl ?_
  have hrO : resO (qs ++ [⟨g0, xs⟩]) l = false := by unfold resO; rw [snoc_ne]; simp only [Bool.not_false, Bool.and_true]; exact hno
  refine ⟨⟨A, c, Wd, qs, some g0, xs, A2, c2, Sr, Sd, Sl⟩, ?_, fun h_ => (by cases h_), ?_, O128.sel [0, 1, 2, 3, 4] (by decide)⟩
  ·
   unfold lineO; rw [if_neg hgp, hrO]
  unfold lineS; rw [if_neg hgp, if_neg (by rw [hrO]; decide)]; rfl
 have H184 := H177.subst_ (d := 60) (b := false) rfl hb178
 clear H177
 (try simp only [Bool.and_eq_true, Bool.and_eq_false_iff, Bool.not_and, Bool.or_eq_true, Bool.or_eq_false_iff, Bool.not_or, Bool.not_not, Bool.not_eq_true', Bool.not_eq_false', Bool.not_eq_true, Bool.not_eq_false, decide_eq_true_eq, decide_eq_false_iff_not] at hb178)
 have hyes : (cuO l sepB && !decide (vpB (cuA l sepB) = 0) && (readN (cuB l sepB)).2) = true := by have hb_ := hb178; revert hb_; cases cuO l sepB <;> cases (readN (cuB l sepB)).2 <;> by_cases hv_ : vpB (cuA l sepB) = 0 <;> simp [hv_] <;> omega
 refine gS hK140 ?_
 refine gw_seq fun K185 hK185 => ?_
 refine gw_drawB O128 (by kernel_rfl) (by kernel_rfl) fun w186 O187 => ?_
 clear O128
 refine Vn H184 (op_move rfl (H184.ev rfl)) fun _ H189 => ?_
 refine Vn H189 (op_nil rfl (H189.ev rfl)) fun _ H191 => ?_
 refine Vn H191 (op_field (gwfld24_2 _ _) rfl (H191.ev rfl)) fun _ H193 => ?_
 refine Vq H193 (fun wq hq => have HO := O187.after hq; op_load1 gwagg22 rfl (H193.ev rfl) (blk_at (HO.get 1 rfl) rfl)) fun _ H195 => ?_
 refine Vn H195 (op_move rfl (H195.ev rfl)) fun _ H197 => ?_
 refine Vn H197 (op_nil rfl (H197.ev rfl)) fun _ H199 => ?_
 refine Vn H199 (op_field (gwfld24_2 _ _) rfl (H199.ev rfl)) fun _ H201 => ?_
 refine Vq H201 (fun wq hq => have HO := O187.after hq; op_load1 gwagg22 rfl (H201.ev rfl) (blk_at (HO.get 1 rfl) rfl)) fun _ H203 => ?_
 clear H184 H189 H191 H193 H195 H197 H199 H201
 refine Vn H203 (op_len Tryd.underlying22 rfl (H203.ev rfl)) fun _ H205 => ?_
 refine Vn H205 (op_sub rfl (H205.ev rfl) (ev_c _ _) (by omega)) fun _ H207 => ?_
 clear H203 H205
 obtain ⟨ad208, hA209⟩ := row_head (O187.get 2 rfl) ((((Wd ++ [(⟨g0, ⟨A2, xs.length, c2⟩⟩ : W2)]).length) : Int) - 1) (by omega) (by omega)
 subst hA209
 refine Vn H207 (op_index Tryd.underlying22 gwsiz46 rfl (H207.ev rfl) (H207.ev rfl) rfl (⟨by omega, by omega⟩)) fun _ H212 => ?_
 refine Vn H212 (op_assign rfl (H212.ev rfl)) fun _ H214 => ?_
 clear H207 H212
 refine wpQuiet_nil ?_
 intro w215 hq
 have O216 := O187.after hq
 clear O187 hq
 refine gw_nx (hK185 _ _ ?_)
 refine gR fun K217 hK217 => ?_
 refine Vm H214 fun _ H219 => ?_
 refine Vm H219 fun _ H221 => ?_
 refine Vz H221 fun _ H223 => ?_
 refine V H223 (op_field (gwflda46_1 _) rfl (H223.ev rfl)) fun _ H225 => ?_
 refine V H225 (op_load1 gwagg44 rfl (H225.ev rfl) (((rowf_cells (z := zW) (O216.get 2 rfl) ((((Wd ++ [(⟨g0, ⟨A2, xs.length, c2⟩⟩ : W2)]).length) : Int) - 1) (by omega) (by omega) (fun _ _ h_ => kW_open h_)) 1 _ rfl))) fun _ H227 => ?_
 clear H214 H219 H221 H223 H225
 have H228 := H227.conv (v' := .slice A2 xs.length c2) (by rw [getD_last _ _ _ rfl])
 clear H227
 refine Vm H228 fun _ H230 => ?_
 refine Vm H230 fun _ H232 => ?_
 refine V H232 (op_build (cells := #[.string ((readN (cuB l (⟨#[58, 32]⟩ : ByteArray))).1), J (vpB (cuA l (⟨#[58, 32]⟩ : ByteArray)))]) rfl (pt_cons (H232.ev rfl) (pt_cons (H232.ev rfl) pt_nil)) (by kernel_rfl)) fun _ H234 => ?_
 clear H228 H230 H232
 refine gw_news (O := .cells #[.string ((readN (cuB l (⟨#[58, 32]⟩ : ByteArray))).1), J (vpB (cuA l (⟨#[58, 32]⟩ : ByteArray)))] 49 (0, 0)) (n := 1) H234 O216 (want_none rfl) rfl (by decide) (op_bslice (by kernel_rfl) rfl (pt_cons (H234.ev rfl) pt_nil)) ?_
 intro g235 _ w237 H238 O239; clear H234 O216
 have O240 : Own w0 w237 [Bk g235 [.string ((readN (cuB l (⟨#[58, 32]⟩ : ByteArray))).1), J (vpB (cuA l (⟨#[58, 32]⟩ : ByteArray)))] 49, R, Bk gs [.string su, .string bo, .slice (some ad208) ((Wd ++ [(⟨g0, ⟨A2, xs.length, c2⟩⟩ : W2)]).length) c] 24, Chunk.row kW 46 w0.heap.size Sr (.slice (some ad208) ((Wd ++ [(⟨g0, ⟨A2, xs.length, c2⟩⟩ : W2)]).length) c) (Wd ++ [(⟨g0, ⟨A2, xs.length, c2⟩⟩ : W2)]), Chunk.dn w0.heap.size Sd Wd qs, Chunk.row KR 49 w0.heap.size Sl (.slice A2 xs.length c2) xs] := O239
 clear O239
 have O241 : Own w0 _ [Chunk.row KR 49 w0.heap.size Sl (.slice A2 xs.length c2) xs, Chunk.void, Bk g235 [.string ((readN (cuB l (⟨#[58, 32]⟩ : ByteArray))).1), J (vpB (cuA l (⟨#[58, 32]⟩ : ByteArray)))] 49, R, Bk gs [.string su, .string bo, .slice (some ad208) ((Wd ++ [(⟨g0, ⟨A2, xs.length, c2⟩⟩ : W2)]).length) c] 24, Chunk.row kW 46 w0.heap.size Sr (.slice (some ad208) ((Wd ++ [(⟨g0, ⟨A2, xs.length, c2⟩⟩ : W2)]).length) c) (Wd ++ [(⟨g0, ⟨A2, xs.length, c2⟩⟩ : W2)]), Chunk.dn w0.heap.size Sd Wd qs] := O240.void.sel [6, 0, 1, 2, 3, 4, 5] (by decide)
 refine gw_append1 k49 0 (p := (⟨(readN (cuB l (⟨#[58, 32]⟩ : ByteArray))).1, vpB (cuA l (⟨#[58, 32]⟩ : ByteArray))⟩ : S49)) (cs := [.string ((readN (cuB l (⟨#[58, 32]⟩ : ByteArray))).1), J (vpB (cuA l (⟨#[58, 32]⟩ : ByteArray)))]) H238 O241 (want_none rfl) rfl (by decide) rfl Tryd.underlying44 gwinfo49 rfl (by decide) (by decide) rfl (H238.ev rfl) (H238.ev rfl) (fun w_ h_ => k49_mkM w_ _ _ (⟨(readN (cuB l (⟨#[58, 32]⟩ : ByteArray))).1, vpB (cuA l (⟨#[58, 32]⟩ : ByteArray))⟩ : S49) ) O241.below.size (by (try simp); omega) ?_
 intro A242 c243 S244 _ w246 H247 O248; clear H238 O240 O241
 have O249 : Own w0 w246 [Chunk.row KR 49 w0.heap.size S244 (.slice A242 ((xs ++ [(⟨(readN (cuB l (⟨#[58, 32]⟩ : ByteArray))).1, vpB (cuA l (⟨#[58, 32]⟩ : ByteArray))⟩ : S49)]).length) c243) (xs ++ [(⟨(readN (cuB l (⟨#[58, 32]⟩ : ByteArray))).1, vpB (cuA l (⟨#[58, 32]⟩ : ByteArray))⟩ : S49)]), Bk g235 [.string ((readN (cuB l (⟨#[58, 32]⟩ : ByteArray))).1), J (vpB (cuA l (⟨#[58, 32]⟩ : ByteArray)))] 49, R, Bk gs [.string su, .string bo, .slice (some ad208) ((Wd ++ [(⟨g0, ⟨A2, xs.length, c2⟩⟩ : W2)]).length) c] 24, Chunk.row kW 46 w0.heap.size Sr (.slice (some ad208) ((Wd ++ [(⟨g0, ⟨A2, xs.length, c2⟩⟩ : W2)]).length) c) (Wd ++ [(⟨g0, ⟨A2, xs.length, c2⟩⟩ : W2)]), Chunk.dn w0.heap.size Sd Wd qs] := O248
 clear O248
 refine Vz H247 fun _ H251 => ?_
 refine V H251 (op_field (gwflda46_1 _) rfl (H251.ev rfl)) fun _ H253 => ?_
 clear H247 H251
 refine gw_rowf flatW zW (⟨((Wd ++ [(⟨g0, ⟨A2, xs.length, c2⟩⟩ : W2)]).getD ((((Wd ++ [(⟨g0, ⟨A2, xs.length, c2⟩⟩ : W2)]).length) : Int) - 1).toNat zW).f0, ⟨A242, (xs ++ [(⟨(readN (cuB l (⟨#[58, 32]⟩ : ByteArray))).1, vpB (cuA l (⟨#[58, 32]⟩ : ByteArray))⟩ : S49)]).length, c243⟩⟩ : W2) 1 4 H253 O249 rfl (want_none rfl) rfl gwsiz44 (by omega) (by omega) (by show 1 < 2; decide) rfl (H253.ev rfl) (H253.ev rfl) rfl rfl ?_
 intro _ w256 H255 O257; clear H253 O249
 have O258 : Own w0 w256 [Chunk.row KR 49 w0.heap.size S244 (.slice A242 ((xs ++ [(⟨(readN (cuB l (⟨#[58, 32]⟩ : ByteArray))).1, vpB (cuA l (⟨#[58, 32]⟩ : ByteArray))⟩ : S49)]).length) c243) (xs ++ [(⟨(readN (cuB l (⟨#[58, 32]⟩ : ByteArray))).1, vpB (cuA l (⟨#[58, 32]⟩ : ByteArray))⟩ : S49)]), Bk g235 [.string ((readN (cuB l (⟨#[58, 32]⟩ : ByteArray))).1), J (vpB (cuA l (⟨#[58, 32]⟩ : ByteArray)))] 49, R, Bk gs [.string su, .string bo, .slice (some ad208) ((Wd ++ [(⟨g0, ⟨A2, xs.length, c2⟩⟩ : W2)]).length) c] 24, Chunk.row kW 46 w0.heap.size Sr (.slice (some ad208) ((Wd ++ [(⟨g0, ⟨A2, xs.length, c2⟩⟩ : W2)]).length) c) ((Wd ++ [(⟨g0, ⟨A2, xs.length, c2⟩⟩ : W2)]).set ((((Wd ++ [(⟨g0, ⟨A2, xs.length, c2⟩⟩ : W2)]).length) : Int) - 1).toNat (⟨((Wd ++ [(⟨g0, ⟨A2, xs.length, c2⟩⟩ : W2)]).getD ((((Wd ++ [(⟨g0, ⟨A2, xs.length, c2⟩⟩ : W2)]).length) : Int) - 1).toNat zW).f0, ⟨A242, (xs ++ [(⟨(readN (cuB l (⟨#[58, 32]⟩ : ByteArray))).1, vpB (cuA l (⟨#[58, 32]⟩ : ByteArray))⟩ : S49)]).length, c243⟩⟩ : W2)), Chunk.dn w0.heap.size Sd Wd qs] := O257
 clear O257
 refine gE hK217 ?_
 refine gR fun K259 hK259 => ?_
 refine Vc H255 fun _ H261 => ?_
 refine gE hK259 ?_
 refine wp_ret ?_
 clear H255
 refine gw_ret1 H261 rfl rfl ?_
 have O262_e := O258
 rw [getD_last _ _ _ rfl, set_last _ _ _ _ rfl] at O262_e
 have hle_ : (Wd ++ [(⟨g0, ⟨A2, xs.length, c2⟩⟩ : W2)]).length = (Wd ++ [(⟨g0, ⟨A242, (xs ++ [(⟨(readN (cuB l (⟨#[58, 32]⟩ : ByteArray))).1, vpB (cuA l (⟨#[58, 32]⟩ : ByteArray))⟩ : S49)]).length, c243⟩⟩ : W2)]).length := by simp
 rw [hle_] at O262_e
 have hrO : resO (qs ++ [⟨g0, xs⟩]) l = true := by unfold resO; rw [snoc_ne]; simp only [Bool.not_false, Bool.and_true]; exact hyes
 refine ⟨⟨(some ad208), c, Wd, qs, some g0, (xs ++ [(⟨(readN (cuB l (⟨#[58, 32]⟩ : ByteArray))).1, vpB (cuA l (⟨#[58, 32]⟩ : ByteArray))⟩ : S49)]), A242, c243, Sr, Sd, S244⟩, ?_, fun h_ => (by cases h_), ?_, O262_e.sel [2, 3, 4, 5, 0] (by decide)⟩
 ·
  unfold lineO; rw [if_neg hgp, hrO]
 unfold lineS; rw [if_neg hgp, if_pos hrO, addL_snoc]; rfl
end GLine_
export GLine_ (line_0 line_1)
section
theorem part_le (ps : List PP) (p : PP) (h : p ∈ ps) : p.f1.length ≤ sumL ps := by
  induction ps with
  | nil => cases h
  | cons x xs ih =>
    simp only [sumL]
    rcases List.mem_cons.1 h with rfl | h
    · omega
    · have := ih h; omega
theorem line_own (w0 : World) (R : Chunk) (gs : Nat) (su bo l : ByteArray) (A : Option Addr) (c : Nat) (S : Nat → Prop) (ps : List PP) (w : World) (hl : l.size ≤ 1000000000) (hL : LaidW w0) (hps : ps.length + sumL ps ≤ 1000000000)
    (HO : Own w0 w [R, Chunk.blk gs (.cells #[.string su, .string bo, .slice A ps.length c] 24 (0, 0)), Chunk.sp w0.heap.size S A c ps]) :
    Calls Tryd.prog 34 #[.pointer (some ⟨gs, 0, none⟩), .string l] w fun e w' => ∃ A' c' S', e = .returned (.bool (lineO ps l)) ∧ Own w0 w' [R, Chunk.blk gs (.cells #[.string su, .string bo, .slice A' (lineS ps l).length c'] 24 (0, 0)), Chunk.sp w0.heap.size S' A' c' (lineS ps l)] := by
  obtain ⟨X, ⟨hA, hc, hX⟩, hok, hlen, HO2⟩ := (HO.sel [2, 0, 1] (by decide)).sp_open
  have fin : ∀ (e : Ending) (w' : World), (∃ X : SmX, e = .returned (.bool (lineO ps l)) ∧ X.ok ∧ X.ps = lineS ps l ∧ Own w0 w' (R :: smL w0.heap.size gs su bo X)) → ∃ A' c' S', e = .returned (.bool (lineO ps l)) ∧ Own w0 w' [R, Chunk.blk gs (.cells #[.string su, .string bo, .slice A' (lineS ps l).length c'] 24 (0, 0)), Chunk.sp w0.heap.size S' A' c' (lineS ps l)] := by
    rintro e w' ⟨X', he, hok', hps', HO'⟩
    have h3 : Own w0 w' (spL w0.heap.size X' ++ [R, Chunk.blk gs (.cells #[.string su, .string bo, .slice X'.A X'.W.length X'.c] 24 (0, 0))]) := HO'.perm (by
      show List.Perm ([_, _] ++ spL w0.heap.size X') _
      exact List.perm_append_comm)
    have hl' : X'.W.length = X'.ps.length := (spL_F ((Own.bundle h3).get 0 rfl)).1
    rw [hl', hps'] at h3
    refine ⟨X'.A, X'.c, (Chunk.all (spL w0.heap.size X')).S, he, ?_⟩
    have h4 := (h3.sp_close hok').sel [1, 2, 0] (by decide)
    rw [hps'] at h4
    exact h4
  subst hA hc hX
  obtain ⟨A, c, Wd, qs, lg, xs, A2, c2, Sr, Sd, Sl⟩ := X
  have hpl : (SmX.ps ⟨A, c, Wd, qs, lg, xs, A2, c2, Sr, Sd, Sl⟩).length ≤ 1000000000 := by omega
  cases lg with
  | none =>
    obtain ⟨e1, e2, e3⟩ := hok rfl
    dsimp only at e1 e2 e3
    subst e1 e2 e3
    exact (line_0 w0 R gs su bo l A c Sr Sd w hl hL (Nat.zero_le _) (HO2.sel [3, 4, 0, 1] (by decide))).mono fin
  | some g0 =>
    have hx : xs.length ≤ 1000000000 := by
      have := part_le (SmX.ps ⟨A, c, Wd, qs, some g0, xs, A2, c2, Sr, Sd, Sl⟩) ⟨g0, xs⟩ (List.mem_append_right _ (List.mem_cons_self ..))
      dsimp only at this
      omega
    have hW : (SmX.W ⟨A, c, Wd, qs, some g0, xs, A2, c2, Sr, Sd, Sl⟩).length ≤ 1000000000 := by rw [hlen]; exact hpl
    rw [← hlen] at HO2
    exact (line_1 w0 R gs su bo l A c Sr Sd w Wd qs g0 xs A2 c2 Sl hl hL hW hx (HO2.sel [3, 4, 0, 1, 2] (by decide))).mono fin
theorem ssn_eq {A : Option Addr} {n c : Nat} {w : World} {P : Program} {ty et : TypeId} (ht : P.underlying ty = some (.slice et)) {x0 y0 : Operand} : (do eqGuard .eql ty x0 y0 (.slice A n c) (.slice none 0 0); binOp .eql ty (.slice A n c) (.slice none 0 0) : Sem Value).run P w = .ok (.bool (Option.isNone A)) w := by
  cases A <;> simp [eqGuard, binOp, go_sem, run_equal_slice_nil _ _ _ _ _ _ ht]
theorem cut_loN {P : Program} {α : Type} {d : Kd α} {t e : TypeId} (ht : P.underlying t = some (.slice e)) (hS : ∀ w, (sizeOf e).run P w = .ok d.sz w) (A : Option Addr) (c : Nat) (xs : List α) (hc : xs.length ≤ c) (j : Int) (h0 : 0 ≤ j) (hj : j ≤ xs.length) :
    ∃ A' c', (∀ W : World, (Instr.slice t (.slice A xs.length c) (some (.int .i64 j)) none none).run P W = .ok (.slice A' (xs.drop j.toNat).length c') W) ∧ (xs.drop j.toNat).length ≤ c' ∧ (∀ W, d.C W A xs.length xs → d.C W A' (xs.drop j.toNat).length (xs.drop j.toNat)) ∧ (∀ ad, A' = some ad → ∃ ad0, A = some ad0 ∧ ad.block = ad0.block) ∧ A'.isNone = A.isNone := by
  obtain ⟨A', c', h1, h2, h3, h4⟩ := cut_lo (P := P) (d := d) ht hS A c xs hc j h0 hj
  refine ⟨A', c', h1, h2, h3, h4, ?_⟩
  have h5 := h1 default
  have hl : (xs.drop j.toNat).length = xs.length - j.toNat := List.length_drop
  obtain ⟨i, hi, hz⟩ : ∃ i : TypeInfo, P.info? e = some i ∧ i.size = d.sz := by
    have := hS default
    cases h : P.info? e with
    | none => simp [sizeOf, typeInfo, h] at this
    | some i => exact ⟨i, rfl, by simpa [sizeOf, typeInfo, h] using this⟩
  have h6 := cut_from t e .i64 ht hi d.sz hz A xs.length c j h0 hj default
  rw [h5] at h6
  injection h6 with h6 _
  injection h6 with h6 _ _
  rw [h6]
  split
  · rfl
  · cases A <;> rfl
abbrev w1B : ByteArray := ⟨#[84, 101, 115, 116, 32, 114, 117, 110, 32, 111, 102, 32]⟩
abbrev w2B : ByteArray := ⟨#[66, 111, 97, 114, 100, 32]⟩
abbrev hashB : ByteArray := ⟨#[35]⟩
abbrev eB : ByteArray := ⟨#[]⟩
abbrev lfB : ByteArray := ⟨#[10]⟩
def allL (s : ByteArray) : List ByteArray := if (pcs s).getD ((pcs s).length - 1) eB = eB then (pcs s).take ((pcs s).length - 1) else pcs s
theorem allL_yes (s : ByteArray) (h : ((pcs s).getD (((pcs s).length : Int) - 1).toNat eB).toList = eB.toList) : (pcs s).take (((pcs s).length : Int) - 1).toNat = allL s := by
  rw [show (((pcs s).length : Int) - 1).toNat = (pcs s).length - 1 by omega] at h ⊢
  unfold allL
  rw [if_pos (Pure.bytes_eq h)]
theorem allL_no (s : ByteArray) (h : ¬ ((pcs s).getD (((pcs s).length : Int) - 1).toNat eB).toList = eB.toList) : pcs s = allL s := by
  rw [show (((pcs s).length : Int) - 1).toNat = (pcs s).length - 1 by omega] at h
  unfold allL
  rw [if_neg (fun e => h (by rw [e]))]
theorem allL_len (s : ByteArray) : (allL s).length ≤ s.size + 1 := by
  have := pcs_le s
  unfold allL
  split
  · rw [List.length_take]; omega
  · exact this
theorem allL_at (s : ByteArray) (i : Int) : ((allL s).getD i.toNat eB).size ≤ s.size := by
  unfold allL
  split
  · by_cases h : i.toNat < ((pcs s).take ((pcs s).length - 1)).length
    · rw [List.getD_eq_getElem?_getD, List.getElem?_eq_getElem h]
      exact pcs_size s _ (List.mem_of_mem_take (List.getElem_mem h))
    · rw [List.getD_eq_getElem?_getD, List.getElem?_eq_none (by omega)]
      exact Nat.zero_le _
  · exact pcs_at s i
noncomputable def parsL : List ByteArray → Int → ByteArray → ByteArray → List PP → Bool → List ByteArray → Option (ByteArray × ByteArray × List PP) × Int
  | [], i, su, bo, ps, b, TL => if (b || decide (0 < (TL.length : Int))) = true then (none, i) else (some (su, bo, ps), 0)
  | r :: rs, i, su, bo, ps, b, TL =>
    if hsB r lfB = false then (none, i) else
    if i = 0 then (if nmO (tsB r lfB) w1B = true then parsL rs (i + 1) (nmB (tsB r lfB) w1B) bo ps b TL else (none, i)) else
    if i = 1 then (if nmO (tsB r lfB) w2B = true then parsL rs (i + 1) su (nmB (tsB r lfB) w2B) ps b TL else (none, i)) else
    if (b && !(hpB (tsB r lfB) hashB)) = true then (if lineO ps (tsB r lfB) = true then parsL rs (i + 1) su bo (lineS ps (tsB r lfB)) b TL else (none, i)) else
    let TL' := if b = true then (linesL su bo ps).drop i.toNat else TL
    if 0 < (TL'.length : Int) ∧ TL'.getD 0 eB = tsB r lfB then parsL rs (i + 1) su bo ps false (TL'.drop 1) else (none, i)
noncomputable def parseP (s : ByteArray) : Option (ByteArray × ByteArray × List PP) × Int := parsL (allL s) 0 eB eB [] true []
noncomputable def outS (s : ByteArray) : ByteArray × ByteArray × List PP := (parseP s).1.getD (eB, eB, [])
noncomputable def codeP (s : ByteArray) : Int := if (parseP s).1.isSome = true then 0 else 80
theorem drop_at (xs : List ByteArray) (i : Int) (h0 : 0 ≤ i) (h1 : i < xs.length) : xs.drop i.toNat = xs.getD i.toNat eB :: xs.drop (i + 1).toNat := by
  rw [show (i + 1).toNat = i.toNat + 1 by omega, List.drop_eq_getElem_cons (by omega), List.getD_eq_getElem?_getD, List.getElem?_eq_getElem (by omega)]
  rfl
section
variable {r : ByteArray} {rs : List ByteArray} {i : Int} {su bo : ByteArray} {ps : List PP} {b : Bool} {TL : List ByteArray}
theorem pl_bad (h : hsB r lfB = false) : parsL (r :: rs) i su bo ps b TL = (none, i) := by unfold parsL; rw [if_pos h]
theorem pl_0 (h : hsB r lfB = true) (hi : i = 0) (hn : nmO (tsB r lfB) w1B = true) : parsL (r :: rs) i su bo ps b TL = parsL rs (i + 1) (nmB (tsB r lfB) w1B) bo ps b TL := by
  rw [parsL, if_neg (by rw [h]; decide), if_pos hi, if_pos hn]
theorem pl_0x (h : hsB r lfB = true) (hi : i = 0) (hn : nmO (tsB r lfB) w1B = false) : parsL (r :: rs) i su bo ps b TL = (none, i) := by
  rw [parsL, if_neg (by rw [h]; decide), if_pos hi, if_neg (by rw [hn]; decide)]
theorem pl_1 (h : hsB r lfB = true) (hi : i = 1) (hn : nmO (tsB r lfB) w2B = true) : parsL (r :: rs) i su bo ps b TL = parsL rs (i + 1) su (nmB (tsB r lfB) w2B) ps b TL := by
  rw [parsL, if_neg (by rw [h]; decide), if_neg (by omega), if_pos hi, if_pos hn]
theorem pl_1x (h : hsB r lfB = true) (hi : i = 1) (hn : nmO (tsB r lfB) w2B = false) : parsL (r :: rs) i su bo ps b TL = (none, i) := by
  rw [parsL, if_neg (by rw [h]; decide), if_neg (by omega), if_pos hi, if_neg (by rw [hn]; decide)]
theorem pl_l (h : hsB r lfB = true) (hi : i ≠ 0) (h1 : i ≠ 1) (hb : (b && !(hpB (tsB r lfB) hashB)) = true) (hn : lineO ps (tsB r lfB) = true) : parsL (r :: rs) i su bo ps b TL = parsL rs (i + 1) su bo (lineS ps (tsB r lfB)) b TL := by
  rw [parsL, if_neg (by rw [h]; decide), if_neg hi, if_neg h1, if_pos hb, if_pos hn]
theorem pl_lx (h : hsB r lfB = true) (hi : i ≠ 0) (h1 : i ≠ 1) (hb : (b && !(hpB (tsB r lfB) hashB)) = true) (hn : lineO ps (tsB r lfB) = false) : parsL (r :: rs) i su bo ps b TL = (none, i) := by
  rw [parsL, if_neg (by rw [h]; decide), if_neg hi, if_neg h1, if_pos hb, if_neg (by rw [hn]; decide)]
theorem pl_t (TL' : List ByteArray) (hT : TL' = if b = true then (linesL su bo ps).drop i.toNat else TL) (h : hsB r lfB = true) (hi : i ≠ 0) (h1 : i ≠ 1) (hb : (b && !(hpB (tsB r lfB) hashB)) = false) (hn : 0 < (TL'.length : Int) ∧ TL'.getD 0 eB = tsB r lfB) : parsL (r :: rs) i su bo ps b TL = parsL rs (i + 1) su bo ps false (TL'.drop 1) := by
  subst hT
  rw [parsL, if_neg (by rw [h]; decide), if_neg hi, if_neg h1, if_neg (by rw [hb]; decide)]
  exact if_pos hn
theorem pl_tx (TL' : List ByteArray) (hT : TL' = if b = true then (linesL su bo ps).drop i.toNat else TL) (h : hsB r lfB = true) (hi : i ≠ 0) (h1 : i ≠ 1) (hb : (b && !(hpB (tsB r lfB) hashB)) = false) (hn : ¬ (0 < (TL'.length : Int) ∧ TL'.getD 0 eB = tsB r lfB)) : parsL (r :: rs) i su bo ps b TL = (none, i) := by
  subst hT
  rw [parsL, if_neg (by rw [h]; decide), if_neg hi, if_neg h1, if_neg (by rw [hb]; decide)]
  exact if_neg hn
end
theorem sumL_add (ps : List PP) (r : RS) (h : ps ≠ []) : sumL (addL ps r) = sumL ps + 1 ∧ (addL ps r).length = ps.length := by
  rcases List.eq_nil_or_concat ps with e | ⟨qs, p, rfl⟩
  · exact absurd e h
  · obtain ⟨g, xs⟩ := p
    rw [List.concat_eq_append, addL_snoc, sum_snoc, sum_snoc]
    simp
    omega
theorem line_count (ps : List PP) (l : ByteArray) (h : lineO ps l = true) : (lineS ps l).length + sumL (lineS ps l) = ps.length + sumL ps + 1 := by
  unfold lineO at h
  unfold lineS
  split
  · rw [sum_snoc, List.length_append]; simp; omega
  · rename_i hg
    rw [if_neg hg] at h
    rw [if_pos h]
    have hp : ps ≠ [] := by
      intro e
      subst e
      unfold resO at h
      simp at h
    have := sumL_add ps ⟨(readN (cuB l sepB)).1, vpB (cuA l sepB)⟩ hp
    omega
theorem lines_len (su bo : ByteArray) (ps : List PP) : 3 + ps.length + sumL ps ≤ (linesL su bo ps).length ∧ (linesL su bo ps).length ≤ 11 + ps.length + sumL ps := by
  unfold linesL
  have h1 := body_len su bo ps
  have h2 := tots_len ps 8
  rw [List.length_append, List.length_append, h1]
  simp
  omega
theorem str_openF {W : World} {ok : Nat → Prop} {x : ByteArray} {cs : List Value} (h : Kd.FK Kd.string W ok x cs) : cs = [.string x] := Kd.FK_now h
theorem some_of_C {α : Type} {d : Kd α} {w : World} {A : Option Addr} {n : Nat} {xs : List α} (h : Kd.C d w A n xs) (hn : 0 < n) : Option.isNone A = false := by
  obtain ⟨ad, rfl, _⟩ := h.2.2 hn
  rfl
end
section
attribute [local go_sem] max2_int min2_int max_two min_two max_three min_three max_four min_four   -- for this text's walks alone
mutual
def sum_Right.j0 : Nat → Bool → ByteArray → ByteArray → List (S46) → Option (Bool)
  | 0, _, _, _, _ => none
  | k + 1, x16, x110000, x110001, x110002 => if x16 = true then (some false) else (sum_Right.l0 k x110002 (x110002.length : Int) 0)
def sum_Right.l0 : Nat → List (S46) → Int → Int → Option (Bool)
  | 0, _, _, _ => none
  | k + 1, x18, x19, x20 => if x20 < x19 then (if 0 ≤ x20 then (if x20 < (x18.length : Int) then ((name_Right.f ((rd_T46 x18 x20).f0)).bind fun t114 => (if t114 = true then (sum_Right.l1 k x18 x19 x20 ((rd_T46 x18 x20).f1) (((rd_T46 x18 x20).f1).length : Int) 0) else (some false))) else (none)) else (none)) else (some true)
def sum_Right.l1 : Nat → List (S46) → Int → Int → List (S49) → Int → Int → Option (Bool)
  | 0, _, _, _, _, _, _ => none
  | k + 1, x18, x19, x20, x29, x30, x31 => if x31 < x30 then (if 0 ≤ x31 then (if x31 < (x29.length : Int) then ((name_Right.f ((rd_T49 x29 x31).f0)).bind fun t117 => (if t117 = true then ((trace_Text.f ((rd_T49 x29 x31).f1)).bind fun t118 => (if t118.toList = ([] : List UInt8) then (some false) else (sum_Right.l1 k x18 x19 x20 x29 x30 (wrap64 (x31 + 1))))) else (some false))) else (none)) else (none)) else (sum_Right.l0 k x18 x19 (wrap64 (x20 + 1)))
end
def sum_Right.f (k : Nat) (a0_0 : ByteArray) (a0_1 : ByteArray) (l0_2 : List (S46)) : Option (Bool) := (name_Right.f a0_0).bind fun t110 => (if t110 = true then ((name_Right.f a0_1).bind fun t111 => (sum_Right.j0 k (!t111) a0_0 a0_1 l0_2)) else (sum_Right.j0 k true a0_0 a0_1 l0_2))
theorem sum_Right.mono_l : ∀ k, (∀ y0 y1 y2 y3, LeO (sum_Right.j0 k y0 y1 y2 y3) (sum_Right.j0 (k + 1) y0 y1 y2 y3)) ∧ (∀ y0 y1 y2, LeO (sum_Right.l0 k y0 y1 y2) (sum_Right.l0 (k + 1) y0 y1 y2)) ∧ (∀ y0 y1 y2 y3 y4 y5, LeO (sum_Right.l1 k y0 y1 y2 y3 y4 y5) (sum_Right.l1 (k + 1) y0 y1 y2 y3 y4 y5))
  | 0 => ⟨fun _ _ _ _ r h => by simp [sum_Right.j0] at h, fun _ _ _ r h => by simp [sum_Right.l0] at h, fun _ _ _ _ _ _ r h => by simp [sum_Right.l1] at h⟩
  | k + 1 => by
    obtain ⟨ih0, ih1, ih2⟩ := sum_Right.mono_l k
    refine ⟨?_, ?_, ?_⟩
    · intro y0 y1 y2 y3
      unfold sum_Right.j0
      repeat' first
      | (with_reducible exact ih0 _ _ _ _)
      | (with_reducible exact ih1 _ _ _)
      | (with_reducible exact ih2 _ _ _ _ _ _)
      | (with_reducible exact LeO.refl _)
      | (with_reducible exact LeO.none _)
      | (with_reducible refine LeO.ite ?_ ?_)
      | (with_reducible refine LeO.bind ?_ (fun _ => ?_))
      | exact ih0 _ _ _ _
      | exact ih1 _ _ _
      | exact ih2 _ _ _ _ _ _
      | exact LeO.none _
      | refine LeO.ite ?_ ?_
      | refine LeO.bind ?_ (fun _ => ?_)
    · intro y0 y1 y2
      unfold sum_Right.l0
      repeat' first
      | (with_reducible exact ih0 _ _ _ _)
      | (with_reducible exact ih1 _ _ _)
      | (with_reducible exact ih2 _ _ _ _ _ _)
      | (with_reducible exact LeO.refl _)
      | (with_reducible exact LeO.none _)
      | (with_reducible refine LeO.ite ?_ ?_)
      | (with_reducible refine LeO.bind ?_ (fun _ => ?_))
      | exact ih0 _ _ _ _
      | exact ih1 _ _ _
      | exact ih2 _ _ _ _ _ _
      | exact LeO.none _
      | refine LeO.ite ?_ ?_
      | refine LeO.bind ?_ (fun _ => ?_)
    · intro y0 y1 y2 y3 y4 y5
      unfold sum_Right.l1
      repeat' first
      | (with_reducible exact ih0 _ _ _ _)
      | (with_reducible exact ih1 _ _ _)
      | (with_reducible exact ih2 _ _ _ _ _ _)
      | (with_reducible exact LeO.refl _)
      | (with_reducible exact LeO.none _)
      | (with_reducible refine LeO.ite ?_ ?_)
      | (with_reducible refine LeO.bind ?_ (fun _ => ?_))
      | exact ih0 _ _ _ _
      | exact ih1 _ _ _
      | exact ih2 _ _ _ _ _ _
      | exact LeO.none _
      | refine LeO.ite ?_ ?_
      | refine LeO.bind ?_ (fun _ => ?_)
theorem sum_Right.mono : ∀ a0 a1 a2 k, LeO (sum_Right.f k a0 a1 a2) (sum_Right.f (k + 1) a0 a1 a2) := by
  intro a0 a1 a2 k
  obtain ⟨ih0, ih1, ih2⟩ := sum_Right.mono_l k
  unfold sum_Right.f
  repeat' first
      | (with_reducible exact ih0 _ _ _ _)
      | (with_reducible exact ih1 _ _ _)
      | (with_reducible exact ih2 _ _ _ _ _ _)
      | (with_reducible exact LeO.refl _)
      | (with_reducible exact LeO.none _)
      | (with_reducible refine LeO.ite ?_ ?_)
      | (with_reducible refine LeO.bind ?_ (fun _ => ?_))
      | exact ih0 _ _ _ _
      | exact ih1 _ _ _
      | exact ih2 _ _ _ _ _ _
      | exact LeO.none _
      | refine LeO.ite ?_ ?_
      | refine LeO.bind ?_ (fun _ => ?_)
theorem sum_Right.calls (k : Nat) (a0_0 : ByteArray) (a0_1 : ByteArray) (A0_2 : Option Addr) (c0_2 : Nat) (l0_2 : List (S46)) (r : Bool) (w : World) (hr0_2 : Kd.C k46 w A0_2 l0_2.length l0_2) (hc0_2 : l0_2.length ≤ c0_2) (h : sum_Right.f k a0_0 a0_1 l0_2 = some r) :
    Calls Tryd.prog 14 #[.agg #[.string a0_0, .string a0_1, .slice A0_2 l0_2.length c0_2]] w fun e w' => e = .returned (.bool r) ∧ Below w.heap.size w w' := by
  have hu24 := Tryd.underlying24
  have hu46 := Tryd.underlying46
  have hu49 := Tryd.underlying49
  have HR0_2 := Aside0.mk hr0_2
  have HC0_2 := Aside0.mk hc0_2
  clear hr0_2 hc0_2
  have HB := Aside0.mk (Below.refl w.heap.size w)
  have H : ((name_Right.f a0_0).bind fun t110 => (if t110 = true then ((name_Right.f a0_1).bind fun t111 => (sum_Right.j0 k (!t111) a0_0 a0_1 l0_2)) else (sum_Right.j0 k true a0_0 a0_1 l0_2))) = some r := h
  clear h
  have HC2 := Aside0.mk H
  clear H
  go_enter Tryd.func14, Tryd.ntmps14
  go_upto_region 1 with (first | ((with_reducible refine gate_dst (N := 1) rfl ?_); refine box_event ?hg (N := 1) ?hd (cs := #[.string a0_0, .string a0_1, .slice A0_2 l0_2.length c0_2]) (t := 24) ?hr ?_; (case hd => rfl); (case hg => rfl); (case hr => first | (go_simp; done) | (go_simp; rfl)); intro gb109 hg w3 hbox hb; have n0_ := Aside0.mk (below_step (by repeat (first | (with_reducible first | exact HB.out | apply below_alloc | apply pw_below_drewN | apply below_drew1) | exact HB.out)) hb); have n1_ := Aside0.mk (hbox); have n2_ := Aside0.mk ((by rw [hg]; exact (below_size (by repeat (first | (with_reducible first | exact HB.out | apply below_alloc | apply pw_below_drewN | apply below_drew1) | exact HB.out))) : w.heap.size ≤ gb109)); have n3_ := Aside0.mk ((by rw [hg]; exact (below_size (by repeat (first | (with_reducible first | exact HB.out | apply below_alloc | apply pw_below_drewN | apply below_drew1) | exact HB.out))) : w.heap.size ≤ gb109)); clear HB; have HB := n0_; have BK109 := n1_; have GW109 := n2_; have GE109 := n3_; clear n0_ n1_ n2_ n3_; clear hb hbox hg))
  (try simp only [Act.put, List.setIfInBounds_toArray, List.set_cons_zero, List.set_cons_succ])
  go_cut [16] (fun v16 wc => ∃ (kq : Nat) (x16_1 : Bool), v16 = .bool x16_1 ∧ Aside0 (sum_Right.j0 kq x16_1 a0_0 a0_1 l0_2 = some r) ∧ Aside0 (kq ≤ k) ∧ Aside0 (wc.heap[gb109]? = some (.cells #[.string a0_0, .string a0_1, (.slice A0_2 l0_2.length c0_2)] 24 (0, 0))) ∧ Aside0 (Below w.heap.size w wc))
  case first =>
    have H := HC2.out
    clear HC2
    replace H := Option.bind_eq_some_iff.mp H
    obtain ⟨t110, A40, H⟩ := H
    replace H : (if t110 = true then ((name_Right.f a0_1).bind fun t111 => (sum_Right.j0 k (!t111) a0_0 a0_1 l0_2)) else (sum_Right.j0 k true a0_0 a0_1 l0_2)) = some r := H
    have A4 := Aside0.mk A40
    clear A40
    by_cases c5 : t110 = true
    · subst c5
      have H1 : ((name_Right.f a0_1).bind fun t111 => (sum_Right.j0 k (!t111) a0_0 a0_1 l0_2)) = some r := by rw [if_pos rfl] at H; exact H
      clear H
      have H := H1
      clear H1
      replace H := Option.bind_eq_some_iff.mp H
      obtain ⟨t111, A60, H⟩ := H
      replace H : (sum_Right.j0 k (!t111) a0_0 a0_1 l0_2) = some r := H
      have A6 := Aside0.mk A60
      clear A60
      have H' := Aside0.mk H
      clear H
      have hcz7_0 : w3.cell? ⟨gb109, 0, none⟩ = some (.string a0_0) := (blk_cell BK109.out 0).trans rfl
      have hcz7_1 : w3.cell? ⟨gb109, 1, none⟩ = some (.string a0_1) := (blk_cell BK109.out 1).trans rfl
      have hcz7_2 : w3.cell? ⟨gb109, 2, none⟩ = some (.slice A0_2 l0_2.length c0_2) := (blk_cell BK109.out 2).trans rfl
      have hfz7_0 := blk_frozen BK109.out 0
      have hfz7_1 := blk_frozen BK109.out 1
      have hfz7_2 := blk_frozen BK109.out 2
      go_wp2_with (first | ((with_reducible refine gate_callee (f := 24) rfl ?_); refine goesL_ (some 9) rfl rfl Tryd.func24 (by kernel_rfl) rfl #[.string a0_0] rfl (by (try simp only [List.map_toArray, List.map_cons, List.map_nil]); first | done | rfl | (simp only [List.length_drop, List.length_take]; rfl)) ?_; (with_reducible refine (name_Right.calls a0_0 true _ A4.out).mono ?_); rintro e w' ⟨rfl, ⟨nd, rfl⟩⟩; refine ⟨_, rfl, ?_⟩) | (go_at_call 24; (with_reducible refine (name_Right.calls a0_1 t111 _ A6.out).mono ?_); rintro e w' ⟨rfl, ⟨nd, rfl⟩⟩))
      go_meet
      case rel => exact ⟨_, (!t111), (by first | rfl | (simp; done) | (simp [*]; done)), H', ⟨by first | omega | exact Nat.le_refl _⟩, ⟨by (with_reducible repeat (first | refine blk_drewN ?_ _ | refine blk_drew ?_ | refine blk_alloc ?_ _)); exact BK109.out⟩, ⟨by repeat (first | (with_reducible first | exact HB.out | apply below_alloc | apply pw_below_drewN | apply below_drew1 | refine below_set ?_ GE109.out) | exact HB.out)⟩⟩
    · replace c5 := Bool.eq_false_iff.mpr c5
      subst c5
      have H1 : (sum_Right.j0 k true a0_0 a0_1 l0_2) = some r := by rw [if_neg (show ¬ (false = true) by decide)] at H; exact H
      clear H
      have H := H1
      clear H1
      have H' := Aside0.mk H
      clear H
      have hcz8_0 : w3.cell? ⟨gb109, 0, none⟩ = some (.string a0_0) := (blk_cell BK109.out 0).trans rfl
      have hcz8_1 : w3.cell? ⟨gb109, 1, none⟩ = some (.string a0_1) := (blk_cell BK109.out 1).trans rfl
      have hcz8_2 : w3.cell? ⟨gb109, 2, none⟩ = some (.slice A0_2 l0_2.length c0_2) := (blk_cell BK109.out 2).trans rfl
      have hfz8_0 := blk_frozen BK109.out 0
      have hfz8_1 := blk_frozen BK109.out 1
      have hfz8_2 := blk_frozen BK109.out 2
      go_wp2_with (first | ((with_reducible refine gate_callee (f := 24) rfl ?_); refine goesL_ (some 9) rfl rfl Tryd.func24 (by kernel_rfl) rfl #[.string a0_0] rfl (by (try simp only [List.map_toArray, List.map_cons, List.map_nil]); first | done | rfl | (simp only [List.length_drop, List.length_take]; rfl)) ?_; (with_reducible refine (name_Right.calls a0_0 false _ A4.out).mono ?_); rintro e w' ⟨rfl, ⟨nd, rfl⟩⟩; refine ⟨_, rfl, ?_⟩))
      go_meet
      case rel => exact ⟨_, (true), (by first | rfl | (simp; done) | (simp [*]; done)), H', ⟨by first | omega | exact Nat.le_refl _⟩, ⟨by (with_reducible repeat (first | refine blk_drewN ?_ _ | refine blk_drew ?_ | refine blk_alloc ?_ _)); exact BK109.out⟩, ⟨by repeat (first | (with_reducible first | exact HB.out | apply below_alloc | apply pw_below_drewN | apply below_drew1 | refine below_set ?_ GE109.out) | exact HB.out)⟩⟩
  case rest =>
    clear HC2
    try clear c1
    try clear c2
    try clear p2
    try clear c5
    try clear hcz7_0
    try clear hcz7_1
    try clear hcz7_2
    try clear hcz8_0
    try clear hcz8_1
    try clear hcz8_2
    try clear hfz7_0
    try clear hfz7_1
    try clear hfz7_2
    try clear hfz8_0
    try clear hfz8_1
    try clear hfz8_2
    obtain ⟨kq, x16_1, rfl, HA, HJ1, BK109, HB⟩ := hcut
    cases kq with
    | zero => exact absurd HA.out (by simp [sum_Right.j0])
    | succ kj1 =>
      have H := HA.out
      clear HA
      simp only [sum_Right.j0] at H
      by_cases c9 : x16_1 = true
      · subst c9
        have H1 : (some false) = some r := by rw [if_pos rfl] at H; exact H
        clear H
        have H := H1
        clear H1
        obtain rfl := Option.some.inj H
        go_wp2
        go_ret
        exact ⟨by first | rfl | (simp [errW_none, errW_some] <;> rfl) | (simp [*, errW_none, errW_some] <;> rfl), by repeat (first | (with_reducible first | exact HB.out | apply below_alloc | apply pw_below_drewN | apply below_drew1 | refine below_set ?_ GE109.out) | exact HB.out)⟩
      · replace c9 := Bool.eq_false_iff.mpr c9
        subst c9
        have H1 : (sum_Right.l0 kj1 l0_2 (l0_2.length : Int) 0) = some r := by rw [if_neg (show ¬ (false = true) by decide)] at H; exact H
        clear H
        have H := H1
        clear H1
        have H' := Aside0.mk H
        clear H
        have hcz10_0 : wc.cell? ⟨gb109, 0, none⟩ = some (.string a0_0) := (blk_cell BK109.out 0).trans rfl
        have hcz10_1 : wc.cell? ⟨gb109, 1, none⟩ = some (.string a0_1) := (blk_cell BK109.out 1).trans rfl
        have hcz10_2 : wc.cell? ⟨gb109, 2, none⟩ = some (.slice A0_2 l0_2.length c0_2) := (blk_cell BK109.out 2).trans rfl
        have hfz10_0 := blk_frozen BK109.out 0
        have hfz10_1 := blk_frozen BK109.out 1
        have hfz10_2 := blk_frozen BK109.out 2
        go_wp2
        go_loopg [20] kj1 (fun kq v20 w' => ∃ (x20_2 : Int), v20 = .int .i64 x20_2 ∧ Aside0 (sum_Right.l0 kq l0_2 (l0_2.length : Int) x20_2 = some r) ∧ Aside0 (kq ≤ kj1) ∧ Aside0 (w'.heap[gb109]? = some (.cells #[.string a0_0, .string a0_1, (.slice A0_2 l0_2.length c0_2)] 24 (0, 0))) ∧ Aside0 (Below w.heap.size w w'))
        case atStart => exact ⟨(0), (by first | rfl | (simp; done) | (simp [*]; done)), H', ⟨Nat.le_refl _⟩, ⟨by (with_reducible repeat (first | refine blk_drewN ?_ _ | refine blk_drew ?_ | refine blk_alloc ?_ _)); exact BK109.out⟩, ⟨by repeat (first | (with_reducible first | exact HB.out | apply below_alloc | apply pw_below_drewN | apply below_drew1 | refine below_set ?_ GE109.out) | exact HB.out)⟩⟩
        case round =>
          clear H'
          try clear c1
          try clear c2
          try clear p2
          try clear c5
          try clear c9
          try clear hcz10_0
          try clear hcz10_1
          try clear hcz10_2
          try clear hcz7_0
          try clear hcz7_1
          try clear hcz7_2
          try clear hcz8_0
          try clear hcz8_1
          try clear hcz8_2
          try clear hfz10_0
          try clear hfz10_1
          try clear hfz10_2
          try clear hfz7_0
          try clear hfz7_1
          try clear hfz7_2
          try clear hfz8_0
          try clear hfz8_1
          try clear hfz8_2
          try clear p2
          obtain ⟨x20_2, rfl, HA, HK2, BK109, HB⟩ := hrel
          cases gk with
          | zero => exact absurd HA.out (by simp [sum_Right.l0])
          | succ k2 =>
            have H := HA.out
            clear HA
            simp only [sum_Right.l0] at H
            by_cases c11 : x20_2 < (l0_2.length : Int)
            · rw [if_pos c11] at H
              have c11b0 : decide (x20_2 < (l0_2.length : Int)) = true := decide_eq_true c11
              clear c11
              by_cases c12 : 0 ≤ x20_2
              · rw [if_pos c12] at H
                have c12b0 : decide (0 ≤ x20_2) = true := decide_eq_true c12
                clear c12
                by_cases c13 : x20_2 < (l0_2.length : Int)
                · rw [if_pos c13] at H
                  have c13b0 : decide (x20_2 < (l0_2.length : Int)) = true := decide_eq_true c13
                  clear c13
                  replace H := Option.bind_eq_some_iff.mp H
                  obtain ⟨t114, A140, H⟩ := H
                  replace H : (if t114 = true then (sum_Right.l1 k2 l0_2 (l0_2.length : Int) x20_2 ((rd_T46 l0_2 x20_2).f1) (((rd_T46 l0_2 x20_2).f1).length : Int) 0) else (some false)) = some r := H
                  have A14 := Aside0.mk A140
                  clear A140
                  by_cases c15 : t114 = true
                  · subst c15
                    have H1 : (sum_Right.l1 k2 l0_2 (l0_2.length : Int) x20_2 ((rd_T46 l0_2 x20_2).f1) (((rd_T46 l0_2 x20_2).f1).length : Int) 0) = some r := by rw [if_pos rfl] at H; exact H
                    clear H
                    have H := H1
                    clear H1
                    have H' := Aside0.mk H
                    clear H
                    have p112 : 0 ≤ (x20_2 : Int) := of_decide_eq_true (by first | (with_reducible assumption) | assumption)
                    have q112 : x20_2 < (l0_2.length : Int) := of_decide_eq_true (by first | (with_reducible assumption) | assumption)
                    obtain ⟨ad112, A112_1, c112_1, e112, hx112_0, hx112_1, hl112_1, hi112_1⟩ := at_T46 HR0_2.out x20_2 p112 q112
                    cases e112
                    replace hx112_0 := (HB.out.cell (World.block_lt_of_cell? w _ hx112_0)).trans hx112_0
                    replace hx112_1 := (HB.out.cell (World.block_lt_of_cell? w _ hx112_1)).trans hx112_1
                    have HR112_1 := Aside0.mk hi112_1
                    have HC112_1 := Aside0.mk hl112_1
                    clear hi112_1 hl112_1
                    replace p112 := eq_true p112
                    replace q112 := eq_true q112
                    go_wp2_with (first | ((with_reducible refine gate_dst (N := 4) rfl ?_); refine box_event ?hg (N := 4) ?hd (cs := #[.string (⟨#[]⟩ : ByteArray), .slice none 0 0]) (t := 46) ?hr ?_; (case hd => rfl); (case hg => rfl); (case hr => first | (go_simp; done) | (go_simp; rfl)); intro gb113 hg w16 hbox hb; have n0_ := Aside0.mk (blk_below (g := gb109) (o := .cells #[.string a0_0, .string a0_1, .slice (some ad112) l0_2.length c0_2] 24 (0, 0)) (by (with_reducible repeat (first | refine blk_drewN ?_ _ | refine blk_drew ?_ | refine blk_alloc ?_ _)); exact BK109.out) hb); have n1_ := Aside0.mk (below_step (by repeat (first | (with_reducible first | exact HB.out | apply below_alloc | apply pw_below_drewN | apply below_drew1 | refine below_set ?_ GE109.out) | exact HB.out)) hb); have n2_ := Aside0.mk (hbox); have n3_ := Aside0.mk ((by rw [hg]; exact (below_size (by repeat (first | (with_reducible first | exact HB.out | apply below_alloc | apply pw_below_drewN | apply below_drew1 | refine below_set ?_ GE109.out) | exact HB.out))) : w.heap.size ≤ gb113)); have n4_ := Aside0.mk ((by rw [hg]; exact (below_size (by repeat (first | (with_reducible first | exact HB.out | apply below_alloc | apply pw_below_drewN | apply below_drew1 | refine below_set ?_ GE109.out) | exact HB.out))) : w.heap.size ≤ gb113)); have n5_ := Aside0.mk ((by rw [hg]; exact Nat.ne_of_lt (blk_lt (g := gb109) (o := .cells #[.string a0_0, .string a0_1, .slice (some ad112) l0_2.length c0_2] 24 (0, 0)) (by (with_reducible repeat (first | refine blk_drewN ?_ _ | refine blk_drew ?_ | refine blk_alloc ?_ _)); exact BK109.out)) : gb109 ≠ gb113)); have n6_ := Aside0.mk ((by rw [hg]; exact Nat.ne_of_gt (blk_lt (g := gb109) (o := .cells #[.string a0_0, .string a0_1, .slice (some ad112) l0_2.length c0_2] 24 (0, 0)) (by (with_reducible repeat (first | refine blk_drewN ?_ _ | refine blk_drew ?_ | refine blk_alloc ?_ _)); exact BK109.out)) : gb113 ≠ gb109)); clear BK109; clear HB; have BK109 := n0_; have HB := n1_; have BK113 := n2_; have GW113 := n3_; have GE113 := n4_; have NB109_113 := n5_; have NB113_109 := n6_; clear n0_ n1_ n2_ n3_ n4_ n5_ n6_; clear hb hbox hg; have hnb17 := NB113_109.out; have hnc17 := NB109_113.out; have hcz18_0 : w16.cell? ⟨gb113, 0, none⟩ = some (.string (⟨#[]⟩ : ByteArray)) := (blk_cell BK113.out 0).trans rfl; have hcz18_1 : w16.cell? ⟨gb113, 1, none⟩ = some (.slice none 0 0) := (blk_cell BK113.out 1).trans rfl; have hfz18_0 := blk_frozen BK113.out 0; have hfz18_1 := blk_frozen BK113.out 1) | ((with_reducible refine gate_callee (f := 24) rfl ?_); refine goesL_ (some 26) rfl rfl Tryd.func24 (by kernel_rfl) rfl #[.string ((rd_T46 l0_2 x20_2).f0)] rfl (by (try simp only [List.map_toArray, List.map_cons, List.map_nil]); first | done | rfl | (simp only [List.length_drop, List.length_take]; rfl)) ?_; (with_reducible refine (name_Right.calls ((rd_T46 l0_2 x20_2).f0) true _ A14.out).mono ?_); rintro e w' ⟨rfl, ⟨nd, rfl⟩⟩; refine ⟨_, rfl, ?_⟩))
                    go_loopg [31] k2 (fun kq v31 w' => ∃ (x31_3 : Int), v31 = .int .i64 x31_3 ∧ Aside0 (sum_Right.l1 kq l0_2 (l0_2.length : Int) x20_2 ((rd_T46 l0_2 x20_2).f1) (((rd_T46 l0_2 x20_2).f1).length : Int) x31_3 = some r) ∧ Aside0 (kq ≤ k2) ∧ Aside0 (w'.heap[gb109]? = some (.cells #[.string a0_0, .string a0_1, (.slice (some ad112) l0_2.length c0_2)] 24 (0, 0))) ∧ Aside0 (w'.heap[gb113]? = some (.cells #[.string ((rd_T46 l0_2 x20_2).f0), (.slice A112_1 ((rd_T46 l0_2 x20_2).f1).length c112_1)] 46 (0, 0))) ∧ Aside0 (Below w.heap.size w w'))
                    case atStart => exact ⟨(0), (by first | rfl | (simp; done) | (simp [*]; done)), H', ⟨Nat.le_refl _⟩, ⟨by (with_reducible repeat (first | refine blk_drewN ?_ _ | refine blk_drew ?_ | refine blk_alloc ?_ _)); refine blk_far ?_ NB109_113.out _; (with_reducible repeat (first | refine blk_drewN ?_ _ | refine blk_drew ?_ | refine blk_alloc ?_ _)); refine blk_far ?_ NB109_113.out _; (with_reducible repeat (first | refine blk_drewN ?_ _ | refine blk_drew ?_ | refine blk_alloc ?_ _)); exact BK109.out⟩, ⟨by (with_reducible repeat (first | refine blk_drewN ?_ _ | refine blk_drew ?_ | refine blk_alloc ?_ _)); refine blk_put (cs := #[.string ((rd_T46 l0_2 x20_2).f0), .slice none 0 0]) ?_ 1 _ rfl; (with_reducible repeat (first | refine blk_drewN ?_ _ | refine blk_drew ?_ | refine blk_alloc ?_ _)); refine blk_put (cs := #[.string (⟨#[]⟩ : ByteArray), .slice none 0 0]) ?_ 0 _ rfl; (with_reducible repeat (first | refine blk_drewN ?_ _ | refine blk_drew ?_ | refine blk_alloc ?_ _)); exact BK113.out⟩, ⟨by repeat (first | (with_reducible first | exact HB.out | apply below_alloc | apply pw_below_drewN | apply below_drew1 | refine below_set ?_ GE109.out | refine below_set ?_ GE113.out) | exact HB.out)⟩⟩
                    case round =>
                      clear H'
                      try clear c1
                      try clear p1
                      try clear q1
                      try clear hx1
                      try clear c2
                      try clear p2
                      try clear c5
                      try clear c9
                      try clear c11
                      try clear c11b0
                      try clear p11
                      try clear q11
                      try clear hx11
                      try clear c12
                      try clear c12b0
                      try clear c13
                      try clear c13b0
                      try clear c14
                      try clear c15
                      try clear c17
                      try clear hcz10_0
                      try clear hcz10_1
                      try clear hcz10_2
                      try clear hcz18_0
                      try clear hcz18_1
                      try clear hcz7_0
                      try clear hcz7_1
                      try clear hcz7_2
                      try clear hcz8_0
                      try clear hcz8_1
                      try clear hcz8_2
                      try clear hfz10_0
                      try clear hfz10_1
                      try clear hfz10_2
                      try clear hfz18_0
                      try clear hfz18_1
                      try clear hfz7_0
                      try clear hfz7_1
                      try clear hfz7_2
                      try clear hfz8_0
                      try clear hfz8_1
                      try clear hfz8_2
                      try clear hx112_0
                      try clear hx112_1
                      try clear p112
                      try clear p2
                      try clear q112
                      obtain ⟨x31_3, rfl, HA, HK3, BK109, BK113, HB⟩ := hrel
                      cases gk with
                      | zero => exact absurd HA.out (by simp [sum_Right.l1])
                      | succ k3 =>
                        have H := HA.out
                        clear HA
                        simp only [sum_Right.l1] at H
                        by_cases c19 : x31_3 < (((rd_T46 l0_2 x20_2).f1).length : Int)
                        · rw [if_pos c19] at H
                          have c19b0 : decide (x31_3 < (((rd_T46 l0_2 x20_2).f1).length : Int)) = true := decide_eq_true c19
                          clear c19
                          by_cases c20 : 0 ≤ x31_3
                          · rw [if_pos c20] at H
                            have c20b0 : decide (0 ≤ x31_3) = true := decide_eq_true c20
                            clear c20
                            by_cases c21 : x31_3 < (((rd_T46 l0_2 x20_2).f1).length : Int)
                            · rw [if_pos c21] at H
                              have c21b0 : decide (x31_3 < (((rd_T46 l0_2 x20_2).f1).length : Int)) = true := decide_eq_true c21
                              clear c21
                              replace H := Option.bind_eq_some_iff.mp H
                              obtain ⟨t117, A220, H⟩ := H
                              replace H : (if t117 = true then ((trace_Text.f ((rd_T49 ((rd_T46 l0_2 x20_2).f1) x31_3).f1)).bind fun t118 => (if t118.toList = ([] : List UInt8) then (some false) else (sum_Right.l1 k3 l0_2 (l0_2.length : Int) x20_2 ((rd_T46 l0_2 x20_2).f1) (((rd_T46 l0_2 x20_2).f1).length : Int) (wrap64 (x31_3 + 1))))) else (some false)) = some r := H
                              have A22 := Aside0.mk A220
                              clear A220
                              by_cases c23 : t117 = true
                              · subst c23
                                have H1 : ((trace_Text.f ((rd_T49 ((rd_T46 l0_2 x20_2).f1) x31_3).f1)).bind fun t118 => (if t118.toList = ([] : List UInt8) then (some false) else (sum_Right.l1 k3 l0_2 (l0_2.length : Int) x20_2 ((rd_T46 l0_2 x20_2).f1) (((rd_T46 l0_2 x20_2).f1).length : Int) (wrap64 (x31_3 + 1))))) = some r := by rw [if_pos rfl] at H; exact H
                                clear H
                                have H := H1
                                clear H1
                                replace H := Option.bind_eq_some_iff.mp H
                                obtain ⟨t118, A240, H⟩ := H
                                replace H : (if t118.toList = ([] : List UInt8) then (some false) else (sum_Right.l1 k3 l0_2 (l0_2.length : Int) x20_2 ((rd_T46 l0_2 x20_2).f1) (((rd_T46 l0_2 x20_2).f1).length : Int) (wrap64 (x31_3 + 1)))) = some r := H
                                have A24 := Aside0.mk A240
                                clear A240
                                by_cases c25 : t118.toList = ([] : List UInt8)
                                · rw [if_pos c25] at H
                                  have c25b0 : (t118.toList == ([] : List UInt8)) = true := beq_iff_eq.mpr c25
                                  have c25b1 : (t118.toList != ([] : List UInt8)) = false := bne_eq_false_iff_eq.mpr c25
                                  clear c25
                                  obtain rfl := Option.some.inj H
                                  have p115 : 0 ≤ (x31_3 : Int) := of_decide_eq_true (by first | (with_reducible assumption) | assumption)
                                  have q115 : x31_3 < (((rd_T46 l0_2 x20_2).f1).length : Int) := of_decide_eq_true (by first | (with_reducible assumption) | assumption)
                                  obtain ⟨ad115, e115, hx115_0, hx115_1⟩ := at_T49 HR112_1.out x31_3 p115 q115
                                  cases e115
                                  replace hx115_0 := (HB.out.cell (World.block_lt_of_cell? w _ hx115_0)).trans hx115_0
                                  replace hx115_1 := (HB.out.cell (World.block_lt_of_cell? w _ hx115_1)).trans hx115_1
                                  replace p115 := eq_true p115
                                  replace q115 := eq_true q115
                                  go_wp2_with (first | ((with_reducible refine gate_dst (N := 6) rfl ?_); refine box_event ?hg (N := 6) ?hd (cs := #[.string (⟨#[]⟩ : ByteArray), .int .i64 0]) (t := 49) ?hr ?_; (case hd => rfl); (case hg => rfl); (case hr => first | (go_simp; done) | (go_simp; rfl)); intro gb116 hg w26 hbox hb; have n0_ := Aside0.mk (blk_below (g := gb109) (o := .cells #[.string a0_0, .string a0_1, .slice (some ad112) l0_2.length c0_2] 24 (0, 0)) (by (with_reducible repeat (first | refine blk_drewN ?_ _ | refine blk_drew ?_ | refine blk_alloc ?_ _)); exact BK109.out) hb); have n1_ := Aside0.mk (blk_below (g := gb113) (o := .cells #[.string ((rd_T46 l0_2 x20_2).f0), .slice (some ad115) ((rd_T46 l0_2 x20_2).f1).length c112_1] 46 (0, 0)) (by (with_reducible repeat (first | refine blk_drewN ?_ _ | refine blk_drew ?_ | refine blk_alloc ?_ _)); exact BK113.out) hb); have n2_ := Aside0.mk (below_step (by repeat (first | (with_reducible first | exact HB.out | apply below_alloc | apply pw_below_drewN | apply below_drew1 | refine below_set ?_ GE109.out | refine below_set ?_ GE113.out) | exact HB.out)) hb); have n3_ := Aside0.mk (hbox); have n4_ := Aside0.mk ((by rw [hg]; exact (below_size (by repeat (first | (with_reducible first | exact HB.out | apply below_alloc | apply pw_below_drewN | apply below_drew1 | refine below_set ?_ GE109.out | refine below_set ?_ GE113.out) | exact HB.out))) : w.heap.size ≤ gb116)); have n5_ := Aside0.mk ((by rw [hg]; exact (below_size (by repeat (first | (with_reducible first | exact HB.out | apply below_alloc | apply pw_below_drewN | apply below_drew1 | refine below_set ?_ GE109.out | refine below_set ?_ GE113.out) | exact HB.out))) : w.heap.size ≤ gb116)); have n6_ := Aside0.mk ((by rw [hg]; exact Nat.ne_of_lt (blk_lt (g := gb109) (o := .cells #[.string a0_0, .string a0_1, .slice (some ad112) l0_2.length c0_2] 24 (0, 0)) (by (with_reducible repeat (first | refine blk_drewN ?_ _ | refine blk_drew ?_ | refine blk_alloc ?_ _)); exact BK109.out)) : gb109 ≠ gb116)); have n7_ := Aside0.mk ((by rw [hg]; exact Nat.ne_of_gt (blk_lt (g := gb109) (o := .cells #[.string a0_0, .string a0_1, .slice (some ad112) l0_2.length c0_2] 24 (0, 0)) (by (with_reducible repeat (first | refine blk_drewN ?_ _ | refine blk_drew ?_ | refine blk_alloc ?_ _)); exact BK109.out)) : gb116 ≠ gb109)); have n8_ := Aside0.mk ((by rw [hg]; exact Nat.ne_of_lt (blk_lt (g := gb113) (o := .cells #[.string ((rd_T46 l0_2 x20_2).f0), .slice (some ad115) ((rd_T46 l0_2 x20_2).f1).length c112_1] 46 (0, 0)) (by (with_reducible repeat (first | refine blk_drewN ?_ _ | refine blk_drew ?_ | refine blk_alloc ?_ _)); exact BK113.out)) : gb113 ≠ gb116)); have n9_ := Aside0.mk ((by rw [hg]; exact Nat.ne_of_gt (blk_lt (g := gb113) (o := .cells #[.string ((rd_T46 l0_2 x20_2).f0), .slice (some ad115) ((rd_T46 l0_2 x20_2).f1).length c112_1] 46 (0, 0)) (by (with_reducible repeat (first | refine blk_drewN ?_ _ | refine blk_drew ?_ | refine blk_alloc ?_ _)); exact BK113.out)) : gb116 ≠ gb113)); clear BK109; clear BK113; clear HB; have BK109 := n0_; have BK113 := n1_; have HB := n2_; have BK116 := n3_; have GW116 := n4_; have GE116 := n5_; have NB109_116 := n6_; have NB116_109 := n7_; have NB113_116 := n8_; have NB116_113 := n9_; clear n0_ n1_ n2_ n3_ n4_ n5_ n6_ n7_ n8_ n9_; clear hb hbox hg; have hnb27 := NB116_109.out; have hnc27 := NB109_116.out; have hnb28 := NB116_113.out; have hnc28 := NB113_116.out; have hcz29_0 : w26.cell? ⟨gb116, 0, none⟩ = some (.string (⟨#[]⟩ : ByteArray)) := (blk_cell BK116.out 0).trans rfl; have hcz29_1 : w26.cell? ⟨gb116, 1, none⟩ = some (.int .i64 0) := (blk_cell BK116.out 1).trans rfl; have hfz29_0 := blk_frozen BK116.out 0; have hfz29_1 := blk_frozen BK116.out 1) | ((with_reducible refine gate_callee (f := 24) rfl ?_); refine goesL_ (some 37) rfl rfl Tryd.func24 (by kernel_rfl) rfl #[.string ((rd_T49 ((rd_T46 l0_2 x20_2).f1) x31_3).f0)] rfl (by (try simp only [List.map_toArray, List.map_cons, List.map_nil]); first | done | rfl | (simp only [List.length_drop, List.length_take]; rfl)) ?_; (with_reducible refine (name_Right.calls ((rd_T49 ((rd_T46 l0_2 x20_2).f1) x31_3).f0) true _ A22.out).mono ?_); rintro e w' ⟨rfl, ⟨nd, rfl⟩⟩; refine ⟨_, rfl, ?_⟩) | (go_at_call 25; (with_reducible refine (trace_Text.calls ((rd_T49 ((rd_T46 l0_2 x20_2).f1) x31_3).f1) t118 _ A24.out).mono ?_); rintro e w30 ⟨rfl, hb⟩; have n0_ := Aside0.mk (blk_below (g := gb109) (o := .cells #[.string a0_0, .string a0_1, .slice (some ad112) l0_2.length c0_2] 24 (0, 0)) (by (with_reducible repeat (first | refine blk_drewN ?_ _ | refine blk_drew ?_ | refine blk_alloc ?_ _)); refine blk_far ?_ NB109_116.out _; (with_reducible repeat (first | refine blk_drewN ?_ _ | refine blk_drew ?_ | refine blk_alloc ?_ _)); refine blk_far ?_ NB109_116.out _; (with_reducible repeat (first | refine blk_drewN ?_ _ | refine blk_drew ?_ | refine blk_alloc ?_ _)); exact BK109.out) hb); have n1_ := Aside0.mk (blk_below (g := gb113) (o := .cells #[.string ((rd_T46 l0_2 x20_2).f0), .slice (some ad115) ((rd_T46 l0_2 x20_2).f1).length c112_1] 46 (0, 0)) (by (with_reducible repeat (first | refine blk_drewN ?_ _ | refine blk_drew ?_ | refine blk_alloc ?_ _)); refine blk_far ?_ NB113_116.out _; (with_reducible repeat (first | refine blk_drewN ?_ _ | refine blk_drew ?_ | refine blk_alloc ?_ _)); refine blk_far ?_ NB113_116.out _; (with_reducible repeat (first | refine blk_drewN ?_ _ | refine blk_drew ?_ | refine blk_alloc ?_ _)); exact BK113.out) hb); have n2_ := Aside0.mk (blk_below (g := gb116) (o := .cells #[.string ((rd_T49 ((rd_T46 l0_2 x20_2).f1) x31_3).f0), .int .i64 ((rd_T49 ((rd_T46 l0_2 x20_2).f1) x31_3).f1)] 49 (0, 0)) (by (with_reducible repeat (first | refine blk_drewN ?_ _ | refine blk_drew ?_ | refine blk_alloc ?_ _)); refine blk_put (cs := #[.string ((rd_T49 ((rd_T46 l0_2 x20_2).f1) x31_3).f0), .int .i64 0]) ?_ 1 _ rfl; (with_reducible repeat (first | refine blk_drewN ?_ _ | refine blk_drew ?_ | refine blk_alloc ?_ _)); refine blk_put (cs := #[.string (⟨#[]⟩ : ByteArray), .int .i64 0]) ?_ 0 _ rfl; (with_reducible repeat (first | refine blk_drewN ?_ _ | refine blk_drew ?_ | refine blk_alloc ?_ _)); exact BK116.out) hb); have n3_ := Aside0.mk (below_step (by repeat (first | (with_reducible first | exact HB.out | apply below_alloc | apply pw_below_drewN | apply below_drew1 | refine below_set ?_ GE109.out | refine below_set ?_ GE113.out | refine below_set ?_ GE116.out) | exact HB.out)) hb); clear BK109; clear BK113; clear BK116; clear HB; have BK109 := n0_; have BK113 := n1_; have BK116 := n2_; have HB := n3_; clear n0_ n1_ n2_ n3_; (try clear hb); (try clear hb2); (try clear hk); (try clear hi)))
                                  go_ret
                                  exact ⟨by first | rfl | (simp [errW_none, errW_some] <;> rfl) | (simp [*, errW_none, errW_some] <;> rfl), by repeat (first | (with_reducible first | exact HB.out | apply below_alloc | apply pw_below_drewN | apply below_drew1 | refine below_set ?_ GE109.out | refine below_set ?_ GE113.out | refine below_set ?_ GE116.out) | exact HB.out)⟩
                                · rw [if_neg c25] at H
                                  have c25b0 : (t118.toList == ([] : List UInt8)) = false := beq_eq_false_iff_ne.mpr c25
                                  have c25b1 : (t118.toList != ([] : List UInt8)) = true := bne_iff_ne.mpr c25
                                  have H' := Aside0.mk H
                                  clear H
                                  have p115 : 0 ≤ (x31_3 : Int) := of_decide_eq_true (by first | (with_reducible assumption) | assumption)
                                  have q115 : x31_3 < (((rd_T46 l0_2 x20_2).f1).length : Int) := of_decide_eq_true (by first | (with_reducible assumption) | assumption)
                                  obtain ⟨ad115, e115, hx115_0, hx115_1⟩ := at_T49 HR112_1.out x31_3 p115 q115
                                  cases e115
                                  replace hx115_0 := (HB.out.cell (World.block_lt_of_cell? w _ hx115_0)).trans hx115_0
                                  replace hx115_1 := (HB.out.cell (World.block_lt_of_cell? w _ hx115_1)).trans hx115_1
                                  replace p115 := eq_true p115
                                  replace q115 := eq_true q115
                                  go_wp2_with (first | ((with_reducible refine gate_dst (N := 6) rfl ?_); refine box_event ?hg (N := 6) ?hd (cs := #[.string (⟨#[]⟩ : ByteArray), .int .i64 0]) (t := 49) ?hr ?_; (case hd => rfl); (case hg => rfl); (case hr => first | (go_simp; done) | (go_simp; rfl)); intro gb116 hg w31 hbox hb; have n0_ := Aside0.mk (blk_below (g := gb109) (o := .cells #[.string a0_0, .string a0_1, .slice (some ad112) l0_2.length c0_2] 24 (0, 0)) (by (with_reducible repeat (first | refine blk_drewN ?_ _ | refine blk_drew ?_ | refine blk_alloc ?_ _)); exact BK109.out) hb); have n1_ := Aside0.mk (blk_below (g := gb113) (o := .cells #[.string ((rd_T46 l0_2 x20_2).f0), .slice (some ad115) ((rd_T46 l0_2 x20_2).f1).length c112_1] 46 (0, 0)) (by (with_reducible repeat (first | refine blk_drewN ?_ _ | refine blk_drew ?_ | refine blk_alloc ?_ _)); exact BK113.out) hb); have n2_ := Aside0.mk (below_step (by repeat (first | (with_reducible first | exact HB.out | apply below_alloc | apply pw_below_drewN | apply below_drew1 | refine below_set ?_ GE109.out | refine below_set ?_ GE113.out) | exact HB.out)) hb); have n3_ := Aside0.mk (hbox); have n4_ := Aside0.mk ((by rw [hg]; exact (below_size (by repeat (first | (with_reducible first | exact HB.out | apply below_alloc | apply pw_below_drewN | apply below_drew1 | refine below_set ?_ GE109.out | refine below_set ?_ GE113.out) | exact HB.out))) : w.heap.size ≤ gb116)); have n5_ := Aside0.mk ((by rw [hg]; exact (below_size (by repeat (first | (with_reducible first | exact HB.out | apply below_alloc | apply pw_below_drewN | apply below_drew1 | refine below_set ?_ GE109.out | refine below_set ?_ GE113.out) | exact HB.out))) : w.heap.size ≤ gb116)); have n6_ := Aside0.mk ((by rw [hg]; exact Nat.ne_of_lt (blk_lt (g := gb109) (o := .cells #[.string a0_0, .string a0_1, .slice (some ad112) l0_2.length c0_2] 24 (0, 0)) (by (with_reducible repeat (first | refine blk_drewN ?_ _ | refine blk_drew ?_ | refine blk_alloc ?_ _)); exact BK109.out)) : gb109 ≠ gb116)); have n7_ := Aside0.mk ((by rw [hg]; exact Nat.ne_of_gt (blk_lt (g := gb109) (o := .cells #[.string a0_0, .string a0_1, .slice (some ad112) l0_2.length c0_2] 24 (0, 0)) (by (with_reducible repeat (first | refine blk_drewN ?_ _ | refine blk_drew ?_ | refine blk_alloc ?_ _)); exact BK109.out)) : gb116 ≠ gb109)); have n8_ := Aside0.mk ((by rw [hg]; exact Nat.ne_of_lt (blk_lt (g := gb113) (o := .cells #[.string ((rd_T46 l0_2 x20_2).f0), .slice (some ad115) ((rd_T46 l0_2 x20_2).f1).length c112_1] 46 (0, 0)) (by (with_reducible repeat (first | refine blk_drewN ?_ _ | refine blk_drew ?_ | refine blk_alloc ?_ _)); exact BK113.out)) : gb113 ≠ gb116)); have n9_ := Aside0.mk ((by rw [hg]; exact Nat.ne_of_gt (blk_lt (g := gb113) (o := .cells #[.string ((rd_T46 l0_2 x20_2).f0), .slice (some ad115) ((rd_T46 l0_2 x20_2).f1).length c112_1] 46 (0, 0)) (by (with_reducible repeat (first | refine blk_drewN ?_ _ | refine blk_drew ?_ | refine blk_alloc ?_ _)); exact BK113.out)) : gb116 ≠ gb113)); clear BK109; clear BK113; clear HB; have BK109 := n0_; have BK113 := n1_; have HB := n2_; have BK116 := n3_; have GW116 := n4_; have GE116 := n5_; have NB109_116 := n6_; have NB116_109 := n7_; have NB113_116 := n8_; have NB116_113 := n9_; clear n0_ n1_ n2_ n3_ n4_ n5_ n6_ n7_ n8_ n9_; clear hb hbox hg; have hnb32 := NB116_109.out; have hnc32 := NB109_116.out; have hnb33 := NB116_113.out; have hnc33 := NB113_116.out; have hcz34_0 : w31.cell? ⟨gb116, 0, none⟩ = some (.string (⟨#[]⟩ : ByteArray)) := (blk_cell BK116.out 0).trans rfl; have hcz34_1 : w31.cell? ⟨gb116, 1, none⟩ = some (.int .i64 0) := (blk_cell BK116.out 1).trans rfl; have hfz34_0 := blk_frozen BK116.out 0; have hfz34_1 := blk_frozen BK116.out 1) | ((with_reducible refine gate_callee (f := 24) rfl ?_); refine goesL_ (some 37) rfl rfl Tryd.func24 (by kernel_rfl) rfl #[.string ((rd_T49 ((rd_T46 l0_2 x20_2).f1) x31_3).f0)] rfl (by (try simp only [List.map_toArray, List.map_cons, List.map_nil]); first | done | rfl | (simp only [List.length_drop, List.length_take]; rfl)) ?_; (with_reducible refine (name_Right.calls ((rd_T49 ((rd_T46 l0_2 x20_2).f1) x31_3).f0) true _ A22.out).mono ?_); rintro e w' ⟨rfl, ⟨nd, rfl⟩⟩; refine ⟨_, rfl, ?_⟩) | (go_at_call 25; (with_reducible refine (trace_Text.calls ((rd_T49 ((rd_T46 l0_2 x20_2).f1) x31_3).f1) t118 _ A24.out).mono ?_); rintro e w35 ⟨rfl, hb⟩; have n0_ := Aside0.mk (blk_below (g := gb109) (o := .cells #[.string a0_0, .string a0_1, .slice (some ad112) l0_2.length c0_2] 24 (0, 0)) (by (with_reducible repeat (first | refine blk_drewN ?_ _ | refine blk_drew ?_ | refine blk_alloc ?_ _)); refine blk_far ?_ NB109_116.out _; (with_reducible repeat (first | refine blk_drewN ?_ _ | refine blk_drew ?_ | refine blk_alloc ?_ _)); refine blk_far ?_ NB109_116.out _; (with_reducible repeat (first | refine blk_drewN ?_ _ | refine blk_drew ?_ | refine blk_alloc ?_ _)); exact BK109.out) hb); have n1_ := Aside0.mk (blk_below (g := gb113) (o := .cells #[.string ((rd_T46 l0_2 x20_2).f0), .slice (some ad115) ((rd_T46 l0_2 x20_2).f1).length c112_1] 46 (0, 0)) (by (with_reducible repeat (first | refine blk_drewN ?_ _ | refine blk_drew ?_ | refine blk_alloc ?_ _)); refine blk_far ?_ NB113_116.out _; (with_reducible repeat (first | refine blk_drewN ?_ _ | refine blk_drew ?_ | refine blk_alloc ?_ _)); refine blk_far ?_ NB113_116.out _; (with_reducible repeat (first | refine blk_drewN ?_ _ | refine blk_drew ?_ | refine blk_alloc ?_ _)); exact BK113.out) hb); have n2_ := Aside0.mk (blk_below (g := gb116) (o := .cells #[.string ((rd_T49 ((rd_T46 l0_2 x20_2).f1) x31_3).f0), .int .i64 ((rd_T49 ((rd_T46 l0_2 x20_2).f1) x31_3).f1)] 49 (0, 0)) (by (with_reducible repeat (first | refine blk_drewN ?_ _ | refine blk_drew ?_ | refine blk_alloc ?_ _)); refine blk_put (cs := #[.string ((rd_T49 ((rd_T46 l0_2 x20_2).f1) x31_3).f0), .int .i64 0]) ?_ 1 _ rfl; (with_reducible repeat (first | refine blk_drewN ?_ _ | refine blk_drew ?_ | refine blk_alloc ?_ _)); refine blk_put (cs := #[.string (⟨#[]⟩ : ByteArray), .int .i64 0]) ?_ 0 _ rfl; (with_reducible repeat (first | refine blk_drewN ?_ _ | refine blk_drew ?_ | refine blk_alloc ?_ _)); exact BK116.out) hb); have n3_ := Aside0.mk (below_step (by repeat (first | (with_reducible first | exact HB.out | apply below_alloc | apply pw_below_drewN | apply below_drew1 | refine below_set ?_ GE109.out | refine below_set ?_ GE113.out | refine below_set ?_ GE116.out) | exact HB.out)) hb); clear BK109; clear BK113; clear BK116; clear HB; have BK109 := n0_; have BK113 := n1_; have BK116 := n2_; have HB := n3_; clear n0_ n1_ n2_ n3_; (try clear hb); (try clear hb2); (try clear hk); (try clear hi)))
                                  go_roundg k3
                                  case measure => have := HJ1.out; have := HK2.out; have := HK3.out; omega
                                  case rel => exact ⟨(wrap64 (x31_3 + 1)), (by first | rfl | (simp; done) | (simp [*]; done)), H', ⟨by have := HJ1.out; have := HK2.out; have := HK3.out; omega⟩, ⟨by (with_reducible repeat (first | refine blk_drewN ?_ _ | refine blk_drew ?_ | refine blk_alloc ?_ _)); exact BK109.out⟩, ⟨by (with_reducible repeat (first | refine blk_drewN ?_ _ | refine blk_drew ?_ | refine blk_alloc ?_ _)); exact BK113.out⟩, ⟨by repeat (first | (with_reducible first | exact HB.out | apply below_alloc | apply pw_below_drewN | apply below_drew1 | refine below_set ?_ GE109.out | refine below_set ?_ GE113.out | refine below_set ?_ GE116.out) | exact HB.out)⟩⟩
                              · replace c23 := Bool.eq_false_iff.mpr c23
                                subst c23
                                have H1 : (some false) = some r := by rw [if_neg (show ¬ (false = true) by decide)] at H; exact H
                                clear H
                                have H := H1
                                clear H1
                                obtain rfl := Option.some.inj H
                                have p115 : 0 ≤ (x31_3 : Int) := of_decide_eq_true (by first | (with_reducible assumption) | assumption)
                                have q115 : x31_3 < (((rd_T46 l0_2 x20_2).f1).length : Int) := of_decide_eq_true (by first | (with_reducible assumption) | assumption)
                                obtain ⟨ad115, e115, hx115_0, hx115_1⟩ := at_T49 HR112_1.out x31_3 p115 q115
                                cases e115
                                replace hx115_0 := (HB.out.cell (World.block_lt_of_cell? w _ hx115_0)).trans hx115_0
                                replace hx115_1 := (HB.out.cell (World.block_lt_of_cell? w _ hx115_1)).trans hx115_1
                                replace p115 := eq_true p115
                                replace q115 := eq_true q115
                                go_wp2_with (first | ((with_reducible refine gate_dst (N := 6) rfl ?_); refine box_event ?hg (N := 6) ?hd (cs := #[.string (⟨#[]⟩ : ByteArray), .int .i64 0]) (t := 49) ?hr ?_; (case hd => rfl); (case hg => rfl); (case hr => first | (go_simp; done) | (go_simp; rfl)); intro gb116 hg w36 hbox hb; have n0_ := Aside0.mk (blk_below (g := gb109) (o := .cells #[.string a0_0, .string a0_1, .slice (some ad112) l0_2.length c0_2] 24 (0, 0)) (by (with_reducible repeat (first | refine blk_drewN ?_ _ | refine blk_drew ?_ | refine blk_alloc ?_ _)); exact BK109.out) hb); have n1_ := Aside0.mk (blk_below (g := gb113) (o := .cells #[.string ((rd_T46 l0_2 x20_2).f0), .slice (some ad115) ((rd_T46 l0_2 x20_2).f1).length c112_1] 46 (0, 0)) (by (with_reducible repeat (first | refine blk_drewN ?_ _ | refine blk_drew ?_ | refine blk_alloc ?_ _)); exact BK113.out) hb); have n2_ := Aside0.mk (below_step (by repeat (first | (with_reducible first | exact HB.out | apply below_alloc | apply pw_below_drewN | apply below_drew1 | refine below_set ?_ GE109.out | refine below_set ?_ GE113.out) | exact HB.out)) hb); have n3_ := Aside0.mk (hbox); have n4_ := Aside0.mk ((by rw [hg]; exact (below_size (by repeat (first | (with_reducible first | exact HB.out | apply below_alloc | apply pw_below_drewN | apply below_drew1 | refine below_set ?_ GE109.out | refine below_set ?_ GE113.out) | exact HB.out))) : w.heap.size ≤ gb116)); have n5_ := Aside0.mk ((by rw [hg]; exact (below_size (by repeat (first | (with_reducible first | exact HB.out | apply below_alloc | apply pw_below_drewN | apply below_drew1 | refine below_set ?_ GE109.out | refine below_set ?_ GE113.out) | exact HB.out))) : w.heap.size ≤ gb116)); have n6_ := Aside0.mk ((by rw [hg]; exact Nat.ne_of_lt (blk_lt (g := gb109) (o := .cells #[.string a0_0, .string a0_1, .slice (some ad112) l0_2.length c0_2] 24 (0, 0)) (by (with_reducible repeat (first | refine blk_drewN ?_ _ | refine blk_drew ?_ | refine blk_alloc ?_ _)); exact BK109.out)) : gb109 ≠ gb116)); have n7_ := Aside0.mk ((by rw [hg]; exact Nat.ne_of_gt (blk_lt (g := gb109) (o := .cells #[.string a0_0, .string a0_1, .slice (some ad112) l0_2.length c0_2] 24 (0, 0)) (by (with_reducible repeat (first | refine blk_drewN ?_ _ | refine blk_drew ?_ | refine blk_alloc ?_ _)); exact BK109.out)) : gb116 ≠ gb109)); have n8_ := Aside0.mk ((by rw [hg]; exact Nat.ne_of_lt (blk_lt (g := gb113) (o := .cells #[.string ((rd_T46 l0_2 x20_2).f0), .slice (some ad115) ((rd_T46 l0_2 x20_2).f1).length c112_1] 46 (0, 0)) (by (with_reducible repeat (first | refine blk_drewN ?_ _ | refine blk_drew ?_ | refine blk_alloc ?_ _)); exact BK113.out)) : gb113 ≠ gb116)); have n9_ := Aside0.mk ((by rw [hg]; exact Nat.ne_of_gt (blk_lt (g := gb113) (o := .cells #[.string ((rd_T46 l0_2 x20_2).f0), .slice (some ad115) ((rd_T46 l0_2 x20_2).f1).length c112_1] 46 (0, 0)) (by (with_reducible repeat (first | refine blk_drewN ?_ _ | refine blk_drew ?_ | refine blk_alloc ?_ _)); exact BK113.out)) : gb116 ≠ gb113)); clear BK109; clear BK113; clear HB; have BK109 := n0_; have BK113 := n1_; have HB := n2_; have BK116 := n3_; have GW116 := n4_; have GE116 := n5_; have NB109_116 := n6_; have NB116_109 := n7_; have NB113_116 := n8_; have NB116_113 := n9_; clear n0_ n1_ n2_ n3_ n4_ n5_ n6_ n7_ n8_ n9_; clear hb hbox hg; have hnb37 := NB116_109.out; have hnc37 := NB109_116.out; have hnb38 := NB116_113.out; have hnc38 := NB113_116.out; have hcz39_0 : w36.cell? ⟨gb116, 0, none⟩ = some (.string (⟨#[]⟩ : ByteArray)) := (blk_cell BK116.out 0).trans rfl; have hcz39_1 : w36.cell? ⟨gb116, 1, none⟩ = some (.int .i64 0) := (blk_cell BK116.out 1).trans rfl; have hfz39_0 := blk_frozen BK116.out 0; have hfz39_1 := blk_frozen BK116.out 1) | ((with_reducible refine gate_callee (f := 24) rfl ?_); refine goesL_ (some 37) rfl rfl Tryd.func24 (by kernel_rfl) rfl #[.string ((rd_T49 ((rd_T46 l0_2 x20_2).f1) x31_3).f0)] rfl (by (try simp only [List.map_toArray, List.map_cons, List.map_nil]); first | done | rfl | (simp only [List.length_drop, List.length_take]; rfl)) ?_; (with_reducible refine (name_Right.calls ((rd_T49 ((rd_T46 l0_2 x20_2).f1) x31_3).f0) false _ A22.out).mono ?_); rintro e w' ⟨rfl, ⟨nd, rfl⟩⟩; refine ⟨_, rfl, ?_⟩))
                                go_ret
                                exact ⟨by first | rfl | (simp [errW_none, errW_some] <;> rfl) | (simp [*, errW_none, errW_some] <;> rfl), by repeat (first | (with_reducible first | exact HB.out | apply below_alloc | apply pw_below_drewN | apply below_drew1 | refine below_set ?_ GE109.out | refine below_set ?_ GE113.out | refine below_set ?_ GE116.out) | exact HB.out)⟩
                            · rw [if_neg c21] at H
                              exact absurd H (by simp)
                          · rw [if_neg c20] at H
                            exact absurd H (by simp)
                        · rw [if_neg c19] at H
                          have c19b0 : decide (x31_3 < (((rd_T46 l0_2 x20_2).f1).length : Int)) = false := decide_eq_false c19
                          clear c19
                          have H' := Aside0.mk H
                          clear H
                          go_wp2
                          go_roundg k3
                          case measure => have := HJ1.out; have := HK2.out; have := HK3.out; omega
                          case rel => exact ⟨(wrap64 (x20_2 + 1)), (by first | rfl | (simp; done) | (simp [*]; done)), H', ⟨by have := HJ1.out; have := HK2.out; have := HK3.out; omega⟩, ⟨by (with_reducible repeat (first | refine blk_drewN ?_ _ | refine blk_drew ?_ | refine blk_alloc ?_ _)); exact BK109.out⟩, ⟨by repeat (first | (with_reducible first | exact HB.out | apply below_alloc | apply pw_below_drewN | apply below_drew1 | refine below_set ?_ GE109.out | refine below_set ?_ GE113.out) | exact HB.out)⟩⟩
                  · replace c15 := Bool.eq_false_iff.mpr c15
                    subst c15
                    have H1 : (some false) = some r := by rw [if_neg (show ¬ (false = true) by decide)] at H; exact H
                    clear H
                    have H := H1
                    clear H1
                    obtain rfl := Option.some.inj H
                    have p112 : 0 ≤ (x20_2 : Int) := of_decide_eq_true (by first | (with_reducible assumption) | assumption)
                    have q112 : x20_2 < (l0_2.length : Int) := of_decide_eq_true (by first | (with_reducible assumption) | assumption)
                    obtain ⟨ad112, A112_1, c112_1, e112, hx112_0, hx112_1, hl112_1, hi112_1⟩ := at_T46 HR0_2.out x20_2 p112 q112
                    cases e112
                    replace hx112_0 := (HB.out.cell (World.block_lt_of_cell? w _ hx112_0)).trans hx112_0
                    replace hx112_1 := (HB.out.cell (World.block_lt_of_cell? w _ hx112_1)).trans hx112_1
                    have HR112_1 := Aside0.mk hi112_1
                    have HC112_1 := Aside0.mk hl112_1
                    clear hi112_1 hl112_1
                    replace p112 := eq_true p112
                    replace q112 := eq_true q112
                    go_wp2_with (first | ((with_reducible refine gate_dst (N := 4) rfl ?_); refine box_event ?hg (N := 4) ?hd (cs := #[.string (⟨#[]⟩ : ByteArray), .slice none 0 0]) (t := 46) ?hr ?_; (case hd => rfl); (case hg => rfl); (case hr => first | (go_simp; done) | (go_simp; rfl)); intro gb113 hg w40 hbox hb; have n0_ := Aside0.mk (blk_below (g := gb109) (o := .cells #[.string a0_0, .string a0_1, .slice (some ad112) l0_2.length c0_2] 24 (0, 0)) (by (with_reducible repeat (first | refine blk_drewN ?_ _ | refine blk_drew ?_ | refine blk_alloc ?_ _)); exact BK109.out) hb); have n1_ := Aside0.mk (below_step (by repeat (first | (with_reducible first | exact HB.out | apply below_alloc | apply pw_below_drewN | apply below_drew1 | refine below_set ?_ GE109.out) | exact HB.out)) hb); have n2_ := Aside0.mk (hbox); have n3_ := Aside0.mk ((by rw [hg]; exact (below_size (by repeat (first | (with_reducible first | exact HB.out | apply below_alloc | apply pw_below_drewN | apply below_drew1 | refine below_set ?_ GE109.out) | exact HB.out))) : w.heap.size ≤ gb113)); have n4_ := Aside0.mk ((by rw [hg]; exact (below_size (by repeat (first | (with_reducible first | exact HB.out | apply below_alloc | apply pw_below_drewN | apply below_drew1 | refine below_set ?_ GE109.out) | exact HB.out))) : w.heap.size ≤ gb113)); have n5_ := Aside0.mk ((by rw [hg]; exact Nat.ne_of_lt (blk_lt (g := gb109) (o := .cells #[.string a0_0, .string a0_1, .slice (some ad112) l0_2.length c0_2] 24 (0, 0)) (by (with_reducible repeat (first | refine blk_drewN ?_ _ | refine blk_drew ?_ | refine blk_alloc ?_ _)); exact BK109.out)) : gb109 ≠ gb113)); have n6_ := Aside0.mk ((by rw [hg]; exact Nat.ne_of_gt (blk_lt (g := gb109) (o := .cells #[.string a0_0, .string a0_1, .slice (some ad112) l0_2.length c0_2] 24 (0, 0)) (by (with_reducible repeat (first | refine blk_drewN ?_ _ | refine blk_drew ?_ | refine blk_alloc ?_ _)); exact BK109.out)) : gb113 ≠ gb109)); clear BK109; clear HB; have BK109 := n0_; have HB := n1_; have BK113 := n2_; have GW113 := n3_; have GE113 := n4_; have NB109_113 := n5_; have NB113_109 := n6_; clear n0_ n1_ n2_ n3_ n4_ n5_ n6_; clear hb hbox hg; have hnb41 := NB113_109.out; have hnc41 := NB109_113.out; have hcz42_0 : w40.cell? ⟨gb113, 0, none⟩ = some (.string (⟨#[]⟩ : ByteArray)) := (blk_cell BK113.out 0).trans rfl; have hcz42_1 : w40.cell? ⟨gb113, 1, none⟩ = some (.slice none 0 0) := (blk_cell BK113.out 1).trans rfl; have hfz42_0 := blk_frozen BK113.out 0; have hfz42_1 := blk_frozen BK113.out 1) | ((with_reducible refine gate_callee (f := 24) rfl ?_); refine goesL_ (some 26) rfl rfl Tryd.func24 (by kernel_rfl) rfl #[.string ((rd_T46 l0_2 x20_2).f0)] rfl (by (try simp only [List.map_toArray, List.map_cons, List.map_nil]); first | done | rfl | (simp only [List.length_drop, List.length_take]; rfl)) ?_; (with_reducible refine (name_Right.calls ((rd_T46 l0_2 x20_2).f0) false _ A14.out).mono ?_); rintro e w' ⟨rfl, ⟨nd, rfl⟩⟩; refine ⟨_, rfl, ?_⟩))
                    go_ret
                    exact ⟨by first | rfl | (simp [errW_none, errW_some] <;> rfl) | (simp [*, errW_none, errW_some] <;> rfl), by repeat (first | (with_reducible first | exact HB.out | apply below_alloc | apply pw_below_drewN | apply below_drew1 | refine below_set ?_ GE109.out | refine below_set ?_ GE113.out) | exact HB.out)⟩
                · rw [if_neg c13] at H
                  exact absurd H (by simp)
              · rw [if_neg c12] at H
                exact absurd H (by simp)
            · rw [if_neg c11] at H
              have c11b0 : decide (x20_2 < (l0_2.length : Int)) = false := decide_eq_false c11
              clear c11
              obtain rfl := Option.some.inj H
              go_wp2
              go_ret
              exact ⟨by first | rfl | (simp [errW_none, errW_some] <;> rfl) | (simp [*, errW_none, errW_some] <;> rfl), by repeat (first | (with_reducible first | exact HB.out | apply below_alloc | apply pw_below_drewN | apply below_drew1 | refine below_set ?_ GE109.out) | exact HB.out)⟩
end
section
attribute [local go_sem] max2_int min2_int max_two min_two max_three min_three max_four min_four   -- for this text's walks alone
def colloquylaw20_few.l0 : Nat → Int → Int → ByteArray → ByteArray → List (S46) → Option (Bool)
  | 0, _, _, _, _, _ => none
  | k + 1, x3, x4, x208000, x208001, x208002 => if x4 < (x208002.length : Int) then (if x3 ≤ 2000 then (if 0 ≤ x4 then (colloquylaw20_few.l0 k (wrap64 (x3 + (((rd_T46 x208002 x4).f1).length : Int))) (wrap64 (x4 + 1)) x208000 x208001 x208002) else (none)) else (some (decide (x3 ≤ 2000)))) else (some (decide (x3 ≤ 2000)))
def colloquylaw20_few.f (k : Nat) (a0_0 : ByteArray) (a0_1 : ByteArray) (l0_2 : List (S46)) : Option (Bool) := colloquylaw20_few.l0 k (l0_2.length : Int) 0 a0_0 a0_1 l0_2
theorem colloquylaw20_few.mono_l : ∀ k, (∀ y0 y1 y2 y3 y4, LeO (colloquylaw20_few.l0 k y0 y1 y2 y3 y4) (colloquylaw20_few.l0 (k + 1) y0 y1 y2 y3 y4))
  | 0 => fun _ _ _ _ _ r h => by simp [colloquylaw20_few.l0] at h
  | k + 1 => by
    have ih0 := colloquylaw20_few.mono_l k
    · intro y0 y1 y2 y3 y4
      unfold colloquylaw20_few.l0
      repeat' first
      | (with_reducible exact ih0 _ _ _ _ _)
      | (with_reducible exact LeO.refl _)
      | (with_reducible exact LeO.none _)
      | (with_reducible refine LeO.ite ?_ ?_)
      | (with_reducible refine LeO.bind ?_ (fun _ => ?_))
      | exact ih0 _ _ _ _ _
      | exact LeO.none _
      | refine LeO.ite ?_ ?_
      | refine LeO.bind ?_ (fun _ => ?_)
theorem colloquylaw20_few.mono : ∀ a0 a1 a2 k, LeO (colloquylaw20_few.f k a0 a1 a2) (colloquylaw20_few.f (k + 1) a0 a1 a2) := by
  intro a0 a1 a2 k
  have ih0 := colloquylaw20_few.mono_l k
  unfold colloquylaw20_few.f
  repeat' first
      | (with_reducible exact ih0 _ _ _ _ _)
      | (with_reducible exact LeO.refl _)
      | (with_reducible exact LeO.none _)
      | (with_reducible refine LeO.ite ?_ ?_)
      | (with_reducible refine LeO.bind ?_ (fun _ => ?_))
      | exact ih0 _ _ _ _ _
      | exact LeO.none _
      | refine LeO.ite ?_ ?_
      | refine LeO.bind ?_ (fun _ => ?_)
theorem colloquylaw20_few.calls (k : Nat) (a0_0 : ByteArray) (a0_1 : ByteArray) (A0_2 : Option Addr) (c0_2 : Nat) (l0_2 : List (S46)) (r : Bool) (w : World) (hr0_2 : Kd.C k46 w A0_2 l0_2.length l0_2) (hc0_2 : l0_2.length ≤ c0_2) (h : colloquylaw20_few.f k a0_0 a0_1 l0_2 = some r) :
    Calls Tryd.prog 10 #[.agg #[.string a0_0, .string a0_1, .slice A0_2 l0_2.length c0_2]] w fun e w' => e = .returned (.bool r) ∧ Below w.heap.size w w' := by
  have hu24 := Tryd.underlying24
  have HR0_2 := Aside0.mk hr0_2
  have HC0_2 := Aside0.mk hc0_2
  clear hr0_2 hc0_2
  have HB := Aside0.mk (Below.refl w.heap.size w)
  have H : (colloquylaw20_few.l0 k (l0_2.length : Int) 0 a0_0 a0_1 l0_2) = some r := h
  clear h
  have H' := Aside0.mk H
  clear H
  go_enter Tryd.func10, Tryd.ntmps10
  go_wp2_with (first | ((with_reducible refine gate_dst (N := 1) rfl ?_); refine box_event ?hg (N := 1) ?hd (cs := #[.string a0_0, .string a0_1, .slice A0_2 l0_2.length c0_2]) (t := 24) ?hr ?_; (case hd => rfl); (case hg => rfl); (case hr => first | (go_simp; done) | (go_simp; rfl)); intro gb207 hg w2 hbox hb; have n0_ := Aside0.mk (below_step (by repeat (first | (with_reducible first | exact HB.out | apply below_alloc | apply pw_below_drewN | apply below_drew1) | exact HB.out)) hb); have n1_ := Aside0.mk (hbox); have n2_ := Aside0.mk ((by rw [hg]; exact (below_size (by repeat (first | (with_reducible first | exact HB.out | apply below_alloc | apply pw_below_drewN | apply below_drew1) | exact HB.out))) : w.heap.size ≤ gb207)); have n3_ := Aside0.mk ((by rw [hg]; exact (below_size (by repeat (first | (with_reducible first | exact HB.out | apply below_alloc | apply pw_below_drewN | apply below_drew1) | exact HB.out))) : w.heap.size ≤ gb207)); clear HB; have HB := n0_; have BK207 := n1_; have GW207 := n2_; have GE207 := n3_; clear n0_ n1_ n2_ n3_; clear hb hbox hg; have hcz3_0 : w2.cell? ⟨gb207, 0, none⟩ = some (.string a0_0) := (blk_cell BK207.out 0).trans rfl; have hcz3_1 : w2.cell? ⟨gb207, 1, none⟩ = some (.string a0_1) := (blk_cell BK207.out 1).trans rfl; have hcz3_2 : w2.cell? ⟨gb207, 2, none⟩ = some (.slice A0_2 l0_2.length c0_2) := (blk_cell BK207.out 2).trans rfl; have hfz3_0 := blk_frozen BK207.out 0; have hfz3_1 := blk_frozen BK207.out 1; have hfz3_2 := blk_frozen BK207.out 2))
  go_loopg [3, 4] k (fun kq v3 v4 w' => ∃ (x3_1 : Int) (x4_1 : Int), v3 = .int .i64 x3_1 ∧ v4 = .int .i64 x4_1 ∧ Aside0 (colloquylaw20_few.l0 kq x3_1 x4_1 a0_0 a0_1 l0_2 = some r) ∧ Aside0 (kq ≤ k) ∧ Aside0 (w'.heap[gb207]? = some (.cells #[.string a0_0, .string a0_1, (.slice A0_2 l0_2.length c0_2)] 24 (0, 0))) ∧ Aside0 (Below w.heap.size w w'))
  case atStart => exact ⟨((l0_2.length : Int)), (0), (by first | rfl | (simp; done) | (simp [*]; done)), (by first | rfl | (simp; done) | (simp [*]; done)), H', ⟨Nat.le_refl _⟩, ⟨by (with_reducible repeat (first | refine blk_drewN ?_ _ | refine blk_drew ?_ | refine blk_alloc ?_ _)); exact BK207.out⟩, ⟨by repeat (first | (with_reducible first | exact HB.out | apply below_alloc | apply pw_below_drewN | apply below_drew1 | refine below_set ?_ GE207.out) | exact HB.out)⟩⟩
  case round =>
    clear H'
    try clear c1
    try clear p2
    try clear hcz3_0
    try clear hcz3_1
    try clear hcz3_2
    try clear hfz3_0
    try clear hfz3_1
    try clear hfz3_2
    obtain ⟨x3_1, x4_1, rfl, rfl, HA, HK1, BK207, HB⟩ := hrel
    cases gk with
    | zero => exact absurd HA.out (by simp [colloquylaw20_few.l0])
    | succ k1 =>
      have H := HA.out
      clear HA
      simp only [colloquylaw20_few.l0] at H
      by_cases c4 : x4_1 < (l0_2.length : Int)
      · rw [if_pos c4] at H
        have c4b0 : decide (x4_1 < (l0_2.length : Int)) = true := decide_eq_true c4
        clear c4
        by_cases c5 : x3_1 ≤ 2000
        · rw [if_pos c5] at H
          have c5b0 : decide (x3_1 ≤ 2000) = true := decide_eq_true c5
          clear c5
          by_cases c6 : 0 ≤ x4_1
          · rw [if_pos c6] at H
            have c6b0 : decide (0 ≤ x4_1) = true := decide_eq_true c6
            clear c6
            have H' := Aside0.mk H
            clear H
            have hcz7_0 : wr.cell? ⟨gb207, 0, none⟩ = some (.string a0_0) := (blk_cell BK207.out 0).trans rfl
            have hcz7_1 : wr.cell? ⟨gb207, 1, none⟩ = some (.string a0_1) := (blk_cell BK207.out 1).trans rfl
            have hcz7_2 : wr.cell? ⟨gb207, 2, none⟩ = some (.slice A0_2 l0_2.length c0_2) := (blk_cell BK207.out 2).trans rfl
            have hfz7_0 := blk_frozen BK207.out 0
            have hfz7_1 := blk_frozen BK207.out 1
            have hfz7_2 := blk_frozen BK207.out 2
            have p208 : 0 ≤ (x4_1 : Int) := of_decide_eq_true (by first | (with_reducible assumption) | assumption)
            have q208 : x4_1 < (l0_2.length : Int) := of_decide_eq_true (by first | (with_reducible assumption) | assumption)
            obtain ⟨ad208, A208_1, c208_1, e208, hx208_0, hx208_1, hl208_1, hi208_1⟩ := at_T46 HR0_2.out x4_1 p208 q208
            cases e208
            replace hx208_0 := (HB.out.cell (World.block_lt_of_cell? w _ hx208_0)).trans hx208_0
            replace hx208_1 := (HB.out.cell (World.block_lt_of_cell? w _ hx208_1)).trans hx208_1
            have HR208_1 := Aside0.mk hi208_1
            have HC208_1 := Aside0.mk hl208_1
            clear hi208_1 hl208_1
            replace p208 := eq_true p208
            replace q208 := eq_true q208
            go_wp2
            go_roundg k1
            case measure => have := HK1.out; omega
            case rel => exact ⟨(wrap64 (x3_1 + (((rd_T46 l0_2 x4_1).f1).length : Int))), (wrap64 (x4_1 + 1)), (by first | rfl | (simp; done) | (simp [*]; done)), (by first | rfl | (simp; done) | (simp [*]; done)), H', ⟨by have := HK1.out; omega⟩, ⟨by (with_reducible repeat (first | refine blk_drewN ?_ _ | refine blk_drew ?_ | refine blk_alloc ?_ _)); exact BK207.out⟩, ⟨by repeat (first | (with_reducible first | exact HB.out | apply below_alloc | apply pw_below_drewN | apply below_drew1 | refine below_set ?_ GE207.out) | exact HB.out)⟩⟩
          · rw [if_neg c6] at H
            exact absurd H (by simp)
        · rw [if_neg c5] at H
          have c5b0 : decide (x3_1 ≤ 2000) = false := decide_eq_false c5
          clear c5
          obtain rfl := Option.some.inj H
          have hcz8_0 : wr.cell? ⟨gb207, 0, none⟩ = some (.string a0_0) := (blk_cell BK207.out 0).trans rfl
          have hcz8_1 : wr.cell? ⟨gb207, 1, none⟩ = some (.string a0_1) := (blk_cell BK207.out 1).trans rfl
          have hcz8_2 : wr.cell? ⟨gb207, 2, none⟩ = some (.slice A0_2 l0_2.length c0_2) := (blk_cell BK207.out 2).trans rfl
          have hfz8_0 := blk_frozen BK207.out 0
          have hfz8_1 := blk_frozen BK207.out 1
          have hfz8_2 := blk_frozen BK207.out 2
          go_wp2
          go_ret
          exact ⟨by first | rfl | (simp [errW_none, errW_some] <;> rfl) | (simp [*, errW_none, errW_some] <;> rfl), by repeat (first | (with_reducible first | exact HB.out | apply below_alloc | apply pw_below_drewN | apply below_drew1 | refine below_set ?_ GE207.out) | exact HB.out)⟩
      · rw [if_neg c4] at H
        have c4b0 : decide (x4_1 < (l0_2.length : Int)) = false := decide_eq_false c4
        clear c4
        obtain rfl := Option.some.inj H
        have hcz9_0 : wr.cell? ⟨gb207, 0, none⟩ = some (.string a0_0) := (blk_cell BK207.out 0).trans rfl
        have hcz9_1 : wr.cell? ⟨gb207, 1, none⟩ = some (.string a0_1) := (blk_cell BK207.out 1).trans rfl
        have hcz9_2 : wr.cell? ⟨gb207, 2, none⟩ = some (.slice A0_2 l0_2.length c0_2) := (blk_cell BK207.out 2).trans rfl
        have hfz9_0 := blk_frozen BK207.out 0
        have hfz9_1 := blk_frozen BK207.out 1
        have hfz9_2 := blk_frozen BK207.out 2
        go_wp2
        go_ret
        exact ⟨by first | rfl | (simp [errW_none, errW_some] <;> rfl) | (simp [*, errW_none, errW_some] <;> rfl), by repeat (first | (with_reducible first | exact HB.out | apply below_alloc | apply pw_below_drewN | apply below_drew1 | refine below_set ?_ GE207.out) | exact HB.out)⟩
end
section
attribute [local go_sem] max2_int min2_int max_two min_two max_three min_three max_four min_four   -- for this text's walks alone
mutual
def colloquyref20_Right.l0 : Nat → Int → ByteArray → ByteArray → List (S53) → Option (Bool)
  | 0, _, _, _, _ => none
  | k + 1, x3, x214000, x214001, x214002 => if x3 < (x214002.length : Int) then (if 0 ≤ x3 then ((colloquyref02_Right.f ((rd_T53 x214002 x3).f0)).bind fun t217 => (if t217 = true then (colloquyref20_Right.l1 k x3 0 x214000 x214001 x214002) else (some false))) else (none)) else ((colloquyref02_Right.f x214000).bind fun t214 => (if t214 = true then ((colloquyref02_Right.f x214001).bind fun t215 => (some t215)) else (some false)))
def colloquyref20_Right.l1 : Nat → Int → Int → ByteArray → ByteArray → List (S53) → Option (Bool)
  | 0, _, _, _, _, _ => none
  | k + 1, x3, x4, x214000, x214001, x214002 => if 0 ≤ x3 then (if x3 < (x214002.length : Int) then (if x4 < (((rd_T53 x214002 x3).f1).length : Int) then (if 0 ≤ x4 then ((colloquyref02_Right.f ((rd_T49 ((rd_T53 x214002 x3).f1) x4).f0)).bind fun t222 => (if t222 = true then (if ((rd_T49 ((rd_T53 x214002 x3).f1) x4).f1) < 1 then (some false) else (if ((rd_T49 ((rd_T53 x214002 x3).f1) x4).f1) > 7 then (some false) else (colloquyref20_Right.l1 k x3 (wrap64 (x4 + 1)) x214000 x214001 x214002))) else (some false))) else (none)) else (colloquyref20_Right.l0 k (wrap64 (x3 + 1)) x214000 x214001 x214002)) else (none)) else (none)
end
def colloquyref20_Right.f (k : Nat) (a0_0 : ByteArray) (a0_1 : ByteArray) (l0_2 : List (S53)) : Option (Bool) := colloquyref20_Right.l0 k 0 a0_0 a0_1 l0_2
theorem colloquyref20_Right.mono_l : ∀ k, (∀ y0 y1 y2 y3, LeO (colloquyref20_Right.l0 k y0 y1 y2 y3) (colloquyref20_Right.l0 (k + 1) y0 y1 y2 y3)) ∧ (∀ y0 y1 y2 y3 y4, LeO (colloquyref20_Right.l1 k y0 y1 y2 y3 y4) (colloquyref20_Right.l1 (k + 1) y0 y1 y2 y3 y4))
  | 0 => ⟨fun _ _ _ _ r h => by simp [colloquyref20_Right.l0] at h, fun _ _ _ _ _ r h => by simp [colloquyref20_Right.l1] at h⟩
  | k + 1 => by
    obtain ⟨ih0, ih1⟩ := colloquyref20_Right.mono_l k
    refine ⟨?_, ?_⟩
    · intro y0 y1 y2 y3
      unfold colloquyref20_Right.l0
      repeat' first
      | (with_reducible exact ih0 _ _ _ _)
      | (with_reducible exact ih1 _ _ _ _ _)
      | (with_reducible exact LeO.refl _)
      | (with_reducible exact LeO.none _)
      | (with_reducible refine LeO.ite ?_ ?_)
      | (with_reducible refine LeO.bind ?_ (fun _ => ?_))
      | exact ih0 _ _ _ _
      | exact ih1 _ _ _ _ _
      | exact LeO.none _
      | refine LeO.ite ?_ ?_
      | refine LeO.bind ?_ (fun _ => ?_)
    · intro y0 y1 y2 y3 y4
      unfold colloquyref20_Right.l1
      repeat' first
      | (with_reducible exact ih0 _ _ _ _)
      | (with_reducible exact ih1 _ _ _ _ _)
      | (with_reducible exact LeO.refl _)
      | (with_reducible exact LeO.none _)
      | (with_reducible refine LeO.ite ?_ ?_)
      | (with_reducible refine LeO.bind ?_ (fun _ => ?_))
      | exact ih0 _ _ _ _
      | exact ih1 _ _ _ _ _
      | exact LeO.none _
      | refine LeO.ite ?_ ?_
      | refine LeO.bind ?_ (fun _ => ?_)
theorem colloquyref20_Right.mono : ∀ a0 a1 a2 k, LeO (colloquyref20_Right.f k a0 a1 a2) (colloquyref20_Right.f (k + 1) a0 a1 a2) := by
  intro a0 a1 a2 k
  obtain ⟨ih0, ih1⟩ := colloquyref20_Right.mono_l k
  unfold colloquyref20_Right.f
  repeat' first
      | (with_reducible exact ih0 _ _ _ _)
      | (with_reducible exact ih1 _ _ _ _ _)
      | (with_reducible exact LeO.refl _)
      | (with_reducible exact LeO.none _)
      | (with_reducible refine LeO.ite ?_ ?_)
      | (with_reducible refine LeO.bind ?_ (fun _ => ?_))
      | exact ih0 _ _ _ _
      | exact ih1 _ _ _ _ _
      | exact LeO.none _
      | refine LeO.ite ?_ ?_
      | refine LeO.bind ?_ (fun _ => ?_)
theorem colloquyref20_Right.calls (k : Nat) (a0_0 : ByteArray) (a0_1 : ByteArray) (A0_2 : Option Addr) (c0_2 : Nat) (l0_2 : List (S53)) (r : Bool) (w : World) (hr0_2 : Kd.C k53 w A0_2 l0_2.length l0_2) (hc0_2 : l0_2.length ≤ c0_2) (h : colloquyref20_Right.f k a0_0 a0_1 l0_2 = some r) :
    Calls Tryd.prog 15 #[.agg #[.string a0_0, .string a0_1, .slice A0_2 l0_2.length c0_2]] w fun e w' => e = .returned (.bool r) ∧ Below w.heap.size w w' := by
  have hu29 := Tryd.underlying29
  have hu49 := Tryd.underlying49
  have HR0_2 := Aside0.mk hr0_2
  have HC0_2 := Aside0.mk hc0_2
  clear hr0_2 hc0_2
  have HB := Aside0.mk (Below.refl w.heap.size w)
  have H : (colloquyref20_Right.l0 k 0 a0_0 a0_1 l0_2) = some r := h
  clear h
  have H' := Aside0.mk H
  clear H
  go_enter Tryd.func15, Tryd.ntmps15
  go_wp2_with (first | ((with_reducible refine gate_dst (N := 1) rfl ?_); refine box_event ?hg (N := 1) ?hd (cs := #[.string a0_0, .string a0_1, .slice A0_2 l0_2.length c0_2]) (t := 29) ?hr ?_; (case hd => rfl); (case hg => rfl); (case hr => first | (go_simp; done) | (go_simp; rfl)); intro gb213 hg w2 hbox hb; have n0_ := Aside0.mk (below_step (by repeat (first | (with_reducible first | exact HB.out | apply below_alloc | apply pw_below_drewN | apply below_drew1) | exact HB.out)) hb); have n1_ := Aside0.mk (hbox); have n2_ := Aside0.mk ((by rw [hg]; exact (below_size (by repeat (first | (with_reducible first | exact HB.out | apply below_alloc | apply pw_below_drewN | apply below_drew1) | exact HB.out))) : w.heap.size ≤ gb213)); have n3_ := Aside0.mk ((by rw [hg]; exact (below_size (by repeat (first | (with_reducible first | exact HB.out | apply below_alloc | apply pw_below_drewN | apply below_drew1) | exact HB.out))) : w.heap.size ≤ gb213)); clear HB; have HB := n0_; have BK213 := n1_; have GW213 := n2_; have GE213 := n3_; clear n0_ n1_ n2_ n3_; clear hb hbox hg))
  go_loopg [3] k (fun kq v3 w' => ∃ (x3_1 : Int), v3 = .int .i64 x3_1 ∧ Aside0 (colloquyref20_Right.l0 kq x3_1 a0_0 a0_1 l0_2 = some r) ∧ Aside0 (kq ≤ k) ∧ Aside0 (w'.heap[gb213]? = some (.cells #[.string a0_0, .string a0_1, (.slice A0_2 l0_2.length c0_2)] 29 (0, 0))) ∧ Aside0 (Below w.heap.size w w'))
  case atStart => exact ⟨(0), (by first | rfl | (simp; done) | (simp [*]; done)), H', ⟨Nat.le_refl _⟩, ⟨by (with_reducible repeat (first | refine blk_drewN ?_ _ | refine blk_drew ?_ | refine blk_alloc ?_ _)); exact BK213.out⟩, ⟨by repeat (first | (with_reducible first | exact HB.out | apply below_alloc | apply pw_below_drewN | apply below_drew1 | refine below_set ?_ GE213.out) | exact HB.out)⟩⟩
  case round =>
    clear H'
    try clear c1
    try clear p2
    obtain ⟨x3_1, rfl, HA, HK1, BK213, HB⟩ := hrel
    cases gk with
    | zero => exact absurd HA.out (by simp [colloquyref20_Right.l0])
    | succ k1 =>
      have H := HA.out
      clear HA
      simp only [colloquyref20_Right.l0] at H
      by_cases c3 : x3_1 < (l0_2.length : Int)
      · rw [if_pos c3] at H
        have c3b0 : decide (x3_1 < (l0_2.length : Int)) = true := decide_eq_true c3
        clear c3
        by_cases c4 : 0 ≤ x3_1
        · rw [if_pos c4] at H
          have c4b0 : decide (0 ≤ x3_1) = true := decide_eq_true c4
          clear c4
          replace H := Option.bind_eq_some_iff.mp H
          obtain ⟨t217, A50, H⟩ := H
          replace H : (if t217 = true then (colloquyref20_Right.l1 k1 x3_1 0 a0_0 a0_1 l0_2) else (some false)) = some r := H
          have A5 := Aside0.mk A50
          clear A50
          by_cases c6 : t217 = true
          · subst c6
            have H1 : (colloquyref20_Right.l1 k1 x3_1 0 a0_0 a0_1 l0_2) = some r := by rw [if_pos rfl] at H; exact H
            clear H
            have H := H1
            clear H1
            have H' := Aside0.mk H
            clear H
            have hcz7_0 : wr.cell? ⟨gb213, 0, none⟩ = some (.string a0_0) := (blk_cell BK213.out 0).trans rfl
            have hcz7_1 : wr.cell? ⟨gb213, 1, none⟩ = some (.string a0_1) := (blk_cell BK213.out 1).trans rfl
            have hcz7_2 : wr.cell? ⟨gb213, 2, none⟩ = some (.slice A0_2 l0_2.length c0_2) := (blk_cell BK213.out 2).trans rfl
            have hfz7_0 := blk_frozen BK213.out 0
            have hfz7_1 := blk_frozen BK213.out 1
            have hfz7_2 := blk_frozen BK213.out 2
            have p216 : 0 ≤ (x3_1 : Int) := of_decide_eq_true (by first | (with_reducible assumption) | assumption)
            have q216 : x3_1 < (l0_2.length : Int) := of_decide_eq_true (by first | (with_reducible assumption) | assumption)
            obtain ⟨ad216, A216_1, c216_1, e216, hx216_0, hx216_1, hl216_1, hi216_1⟩ := at_T53 HR0_2.out x3_1 p216 q216
            cases e216
            replace hx216_0 := (HB.out.cell (World.block_lt_of_cell? w _ hx216_0)).trans hx216_0
            replace hx216_1 := (HB.out.cell (World.block_lt_of_cell? w _ hx216_1)).trans hx216_1
            have HR216_1 := Aside0.mk hi216_1
            have HC216_1 := Aside0.mk hl216_1
            clear hi216_1 hl216_1
            replace p216 := eq_true p216
            replace q216 := eq_true q216
            go_wp2_with (first | ((with_reducible refine gate_callee (f := 26) rfl ?_); refine goesL_ (some 19) rfl rfl Tryd.func26 (by kernel_rfl) rfl #[.string ((rd_T53 l0_2 x3_1).f0)] rfl (by (try simp only [List.map_toArray, List.map_cons, List.map_nil]); first | done | rfl | (simp only [List.length_drop, List.length_take]; rfl)) ?_; (with_reducible refine (colloquyref02_Right.calls ((rd_T53 l0_2 x3_1).f0) true _ A5.out).mono ?_); rintro e w' ⟨rfl, ⟨nd, rfl⟩⟩; refine ⟨_, rfl, ?_⟩))
            go_loopg [4] k1 (fun kq v4 w' => ∃ (x4_2 : Int), v4 = .int .i64 x4_2 ∧ Aside0 (colloquyref20_Right.l1 kq x3_1 x4_2 a0_0 a0_1 l0_2 = some r) ∧ Aside0 (kq ≤ k1) ∧ Aside0 (w'.heap[gb213]? = some (.cells #[.string a0_0, .string a0_1, (.slice (some ad216) l0_2.length c0_2)] 29 (0, 0))) ∧ Aside0 (Below w.heap.size w w'))
            case atStart => exact ⟨(0), (by first | rfl | (simp; done) | (simp [*]; done)), H', ⟨Nat.le_refl _⟩, ⟨by (with_reducible repeat (first | refine blk_drewN ?_ _ | refine blk_drew ?_ | refine blk_alloc ?_ _)); exact BK213.out⟩, ⟨by repeat (first | (with_reducible first | exact HB.out | apply below_alloc | apply pw_below_drewN | apply below_drew1 | refine below_set ?_ GE213.out) | exact HB.out)⟩⟩
            case round =>
              clear H'
              try clear c1
              try clear c2
              try clear p2
              try clear q2
              try clear hx2
              try clear c3
              try clear c3b0
              try clear c4
              try clear c4b0
              try clear c6
              try clear hcz7_0
              try clear hcz7_1
              try clear hcz7_2
              try clear hfz7_0
              try clear hfz7_1
              try clear hfz7_2
              try clear hx216_0
              try clear hx216_1
              try clear p2
              try clear p216
              try clear q216
              obtain ⟨x4_2, rfl, HA, HK2, BK213, HB⟩ := hrel
              cases gk with
              | zero => exact absurd HA.out (by simp [colloquyref20_Right.l1])
              | succ k2 =>
                have H := HA.out
                clear HA
                simp only [colloquyref20_Right.l1] at H
                by_cases c8 : 0 ≤ x3_1
                · rw [if_pos c8] at H
                  have c8b0 : decide (0 ≤ x3_1) = true := decide_eq_true c8
                  clear c8
                  by_cases c9 : x3_1 < (l0_2.length : Int)
                  · rw [if_pos c9] at H
                    have c9b0 : decide (x3_1 < (l0_2.length : Int)) = true := decide_eq_true c9
                    clear c9
                    by_cases c10 : x4_2 < (((rd_T53 l0_2 x3_1).f1).length : Int)
                    · rw [if_pos c10] at H
                      have c10b0 : decide (x4_2 < (((rd_T53 l0_2 x3_1).f1).length : Int)) = true := decide_eq_true c10
                      clear c10
                      by_cases c11 : 0 ≤ x4_2
                      · rw [if_pos c11] at H
                        have c11b0 : decide (0 ≤ x4_2) = true := decide_eq_true c11
                        clear c11
                        replace H := Option.bind_eq_some_iff.mp H
                        obtain ⟨t222, A120, H⟩ := H
                        replace H : (if t222 = true then (if ((rd_T49 ((rd_T53 l0_2 x3_1).f1) x4_2).f1) < 1 then (some false) else (if ((rd_T49 ((rd_T53 l0_2 x3_1).f1) x4_2).f1) > 7 then (some false) else (colloquyref20_Right.l1 k2 x3_1 (wrap64 (x4_2 + 1)) a0_0 a0_1 l0_2))) else (some false)) = some r := H
                        have A12 := Aside0.mk A120
                        clear A120
                        by_cases c13 : t222 = true
                        · subst c13
                          have H1 : (if ((rd_T49 ((rd_T53 l0_2 x3_1).f1) x4_2).f1) < 1 then (some false) else (if ((rd_T49 ((rd_T53 l0_2 x3_1).f1) x4_2).f1) > 7 then (some false) else (colloquyref20_Right.l1 k2 x3_1 (wrap64 (x4_2 + 1)) a0_0 a0_1 l0_2))) = some r := by rw [if_pos rfl] at H; exact H
                          clear H
                          have H := H1
                          clear H1
                          by_cases c14 : ((rd_T49 ((rd_T53 l0_2 x3_1).f1) x4_2).f1) < 1
                          · rw [if_pos c14] at H
                            have c14b0 : decide (((rd_T49 ((rd_T53 l0_2 x3_1).f1) x4_2).f1) < 1) = true := decide_eq_true c14
                            clear c14
                            obtain rfl := Option.some.inj H
                            have hcz15_0 : wr.cell? ⟨gb213, 0, none⟩ = some (.string a0_0) := (blk_cell BK213.out 0).trans rfl
                            have hcz15_1 : wr.cell? ⟨gb213, 1, none⟩ = some (.string a0_1) := (blk_cell BK213.out 1).trans rfl
                            have hcz15_2 : wr.cell? ⟨gb213, 2, none⟩ = some (.slice (some ad216) l0_2.length c0_2) := (blk_cell BK213.out 2).trans rfl
                            have hfz15_0 := blk_frozen BK213.out 0
                            have hfz15_1 := blk_frozen BK213.out 1
                            have hfz15_2 := blk_frozen BK213.out 2
                            have p218 : 0 ≤ (x3_1 : Int) := of_decide_eq_true (by first | (with_reducible assumption) | assumption)
                            have q218 : x3_1 < (l0_2.length : Int) := of_decide_eq_true (by first | (with_reducible assumption) | assumption)
                            obtain ⟨ad218, A218_1, c218_1, e218, hx218_0, hx218_1, hl218_1, hi218_1⟩ := at_T53 HR0_2.out x3_1 p218 q218
                            obtain rfl : ad216 = ad218 := (by injection e218)
                            replace hx218_0 := (HB.out.cell (World.block_lt_of_cell? w _ hx218_0)).trans hx218_0
                            replace hx218_1 := (HB.out.cell (World.block_lt_of_cell? w _ hx218_1)).trans hx218_1
                            have HR218_1 := Aside0.mk hi218_1
                            have HC218_1 := Aside0.mk hl218_1
                            clear hi218_1 hl218_1
                            replace p218 := eq_true p218
                            replace q218 := eq_true q218
                            have p219 : 0 ≤ (x3_1 : Int) := of_decide_eq_true (by first | (with_reducible assumption) | assumption)
                            have q219 : x3_1 < (l0_2.length : Int) := of_decide_eq_true (by first | (with_reducible assumption) | assumption)
                            obtain ⟨ad219, A219_1, c219_1, e219, hx219_0, hx219_1, hl219_1, hi219_1⟩ := at_T53 HR0_2.out x3_1 p219 q219
                            obtain rfl : ad216 = ad219 := (by injection e219)
                            replace hx219_0 := (HB.out.cell (World.block_lt_of_cell? w _ hx219_0)).trans hx219_0
                            replace hx219_1 := (HB.out.cell (World.block_lt_of_cell? w _ hx219_1)).trans hx219_1
                            have HR219_1 := Aside0.mk hi219_1
                            have HC219_1 := Aside0.mk hl219_1
                            clear hi219_1 hl219_1
                            replace p219 := eq_true p219
                            replace q219 := eq_true q219
                            have ea_ := Option.some.inj (hx218_1.symm.trans hx219_1)
                            injection ea_ with ea_ en_ ec_
                            subst ea_
                            subst ec_
                            clear en_
                            have p220 : 0 ≤ (x4_2 : Int) := of_decide_eq_true (by first | (with_reducible assumption) | assumption)
                            have q220 : x4_2 < (((rd_T53 l0_2 x3_1).f1).length : Int) := of_decide_eq_true (by first | (with_reducible assumption) | assumption)
                            obtain ⟨ad220, e220, hx220_0, hx220_1⟩ := at_T49 HR219_1.out x4_2 p220 q220
                            cases e220
                            replace hx220_0 := (HB.out.cell (World.block_lt_of_cell? w _ hx220_0)).trans hx220_0
                            replace hx220_1 := (HB.out.cell (World.block_lt_of_cell? w _ hx220_1)).trans hx220_1
                            replace p220 := eq_true p220
                            replace q220 := eq_true q220
                            go_wp2_with (first | ((with_reducible refine gate_dst (N := 5) rfl ?_); refine box_event ?hg (N := 5) ?hd (cs := #[.string (⟨#[]⟩ : ByteArray), .int .i64 0]) (t := 49) ?hr ?_; (case hd => rfl); (case hg => rfl); (case hr => first | (go_simp; done) | (go_simp; rfl)); intro gb221 hg w16 hbox hb; have n0_ := Aside0.mk (blk_below (g := gb213) (o := .cells #[.string a0_0, .string a0_1, .slice (some ad216) l0_2.length c0_2] 29 (0, 0)) (by (with_reducible repeat (first | refine blk_drewN ?_ _ | refine blk_drew ?_ | refine blk_alloc ?_ _)); exact BK213.out) hb); have n1_ := Aside0.mk (below_step (by repeat (first | (with_reducible first | exact HB.out | apply below_alloc | apply pw_below_drewN | apply below_drew1 | refine below_set ?_ GE213.out) | exact HB.out)) hb); have n2_ := Aside0.mk (hbox); have n3_ := Aside0.mk ((by rw [hg]; exact (below_size (by repeat (first | (with_reducible first | exact HB.out | apply below_alloc | apply pw_below_drewN | apply below_drew1 | refine below_set ?_ GE213.out) | exact HB.out))) : w.heap.size ≤ gb221)); have n4_ := Aside0.mk ((by rw [hg]; exact (below_size (by repeat (first | (with_reducible first | exact HB.out | apply below_alloc | apply pw_below_drewN | apply below_drew1 | refine below_set ?_ GE213.out) | exact HB.out))) : w.heap.size ≤ gb221)); have n5_ := Aside0.mk ((by rw [hg]; exact Nat.ne_of_lt (blk_lt (g := gb213) (o := .cells #[.string a0_0, .string a0_1, .slice (some ad216) l0_2.length c0_2] 29 (0, 0)) (by (with_reducible repeat (first | refine blk_drewN ?_ _ | refine blk_drew ?_ | refine blk_alloc ?_ _)); exact BK213.out)) : gb213 ≠ gb221)); have n6_ := Aside0.mk ((by rw [hg]; exact Nat.ne_of_gt (blk_lt (g := gb213) (o := .cells #[.string a0_0, .string a0_1, .slice (some ad216) l0_2.length c0_2] 29 (0, 0)) (by (with_reducible repeat (first | refine blk_drewN ?_ _ | refine blk_drew ?_ | refine blk_alloc ?_ _)); exact BK213.out)) : gb221 ≠ gb213)); clear BK213; clear HB; have BK213 := n0_; have HB := n1_; have BK221 := n2_; have GW221 := n3_; have GE221 := n4_; have NB213_221 := n5_; have NB221_213 := n6_; clear n0_ n1_ n2_ n3_ n4_ n5_ n6_; clear hb hbox hg; have hnb17 := NB221_213.out; have hnc17 := NB213_221.out; have hcz18_0 : w16.cell? ⟨gb221, 0, none⟩ = some (.string (⟨#[]⟩ : ByteArray)) := (blk_cell BK221.out 0).trans rfl; have hcz18_1 : w16.cell? ⟨gb221, 1, none⟩ = some (.int .i64 0) := (blk_cell BK221.out 1).trans rfl; have hfz18_0 := blk_frozen BK221.out 0; have hfz18_1 := blk_frozen BK221.out 1) | ((with_reducible refine gate_callee (f := 26) rfl ?_); refine goesL_ (some 43) rfl rfl Tryd.func26 (by kernel_rfl) rfl #[.string ((rd_T49 ((rd_T53 l0_2 x3_1).f1) x4_2).f0)] rfl (by (try simp only [List.map_toArray, List.map_cons, List.map_nil]); first | done | rfl | (simp only [List.length_drop, List.length_take]; rfl)) ?_; (with_reducible refine (colloquyref02_Right.calls ((rd_T49 ((rd_T53 l0_2 x3_1).f1) x4_2).f0) true _ A12.out).mono ?_); rintro e w' ⟨rfl, ⟨nd, rfl⟩⟩; refine ⟨_, rfl, ?_⟩))
                            go_ret
                            exact ⟨by first | rfl | (simp [errW_none, errW_some] <;> rfl) | (simp [*, errW_none, errW_some] <;> rfl), by repeat (first | (with_reducible first | exact HB.out | apply below_alloc | apply pw_below_drewN | apply below_drew1 | refine below_set ?_ GE213.out | refine below_set ?_ GE221.out) | exact HB.out)⟩
                          · rw [if_neg c14] at H
                            have c14b0 : decide (((rd_T49 ((rd_T53 l0_2 x3_1).f1) x4_2).f1) < 1) = false := decide_eq_false c14
                            clear c14
                            by_cases c19 : ((rd_T49 ((rd_T53 l0_2 x3_1).f1) x4_2).f1) > 7
                            · rw [if_pos c19] at H
                              have c19b0 : decide (7 < ((rd_T49 ((rd_T53 l0_2 x3_1).f1) x4_2).f1)) = true := decide_eq_true c19
                              clear c19
                              obtain rfl := Option.some.inj H
                              have hcz20_0 : wr.cell? ⟨gb213, 0, none⟩ = some (.string a0_0) := (blk_cell BK213.out 0).trans rfl
                              have hcz20_1 : wr.cell? ⟨gb213, 1, none⟩ = some (.string a0_1) := (blk_cell BK213.out 1).trans rfl
                              have hcz20_2 : wr.cell? ⟨gb213, 2, none⟩ = some (.slice (some ad216) l0_2.length c0_2) := (blk_cell BK213.out 2).trans rfl
                              have hfz20_0 := blk_frozen BK213.out 0
                              have hfz20_1 := blk_frozen BK213.out 1
                              have hfz20_2 := blk_frozen BK213.out 2
                              have p218 : 0 ≤ (x3_1 : Int) := of_decide_eq_true (by first | (with_reducible assumption) | assumption)
                              have q218 : x3_1 < (l0_2.length : Int) := of_decide_eq_true (by first | (with_reducible assumption) | assumption)
                              obtain ⟨ad218, A218_1, c218_1, e218, hx218_0, hx218_1, hl218_1, hi218_1⟩ := at_T53 HR0_2.out x3_1 p218 q218
                              obtain rfl : ad216 = ad218 := (by injection e218)
                              replace hx218_0 := (HB.out.cell (World.block_lt_of_cell? w _ hx218_0)).trans hx218_0
                              replace hx218_1 := (HB.out.cell (World.block_lt_of_cell? w _ hx218_1)).trans hx218_1
                              have HR218_1 := Aside0.mk hi218_1
                              have HC218_1 := Aside0.mk hl218_1
                              clear hi218_1 hl218_1
                              replace p218 := eq_true p218
                              replace q218 := eq_true q218
                              have p219 : 0 ≤ (x3_1 : Int) := of_decide_eq_true (by first | (with_reducible assumption) | assumption)
                              have q219 : x3_1 < (l0_2.length : Int) := of_decide_eq_true (by first | (with_reducible assumption) | assumption)
                              obtain ⟨ad219, A219_1, c219_1, e219, hx219_0, hx219_1, hl219_1, hi219_1⟩ := at_T53 HR0_2.out x3_1 p219 q219
                              obtain rfl : ad216 = ad219 := (by injection e219)
                              replace hx219_0 := (HB.out.cell (World.block_lt_of_cell? w _ hx219_0)).trans hx219_0
                              replace hx219_1 := (HB.out.cell (World.block_lt_of_cell? w _ hx219_1)).trans hx219_1
                              have HR219_1 := Aside0.mk hi219_1
                              have HC219_1 := Aside0.mk hl219_1
                              clear hi219_1 hl219_1
                              replace p219 := eq_true p219
                              replace q219 := eq_true q219
                              have ea_ := Option.some.inj (hx218_1.symm.trans hx219_1)
                              injection ea_ with ea_ en_ ec_
                              subst ea_
                              subst ec_
                              clear en_
                              have p220 : 0 ≤ (x4_2 : Int) := of_decide_eq_true (by first | (with_reducible assumption) | assumption)
                              have q220 : x4_2 < (((rd_T53 l0_2 x3_1).f1).length : Int) := of_decide_eq_true (by first | (with_reducible assumption) | assumption)
                              obtain ⟨ad220, e220, hx220_0, hx220_1⟩ := at_T49 HR219_1.out x4_2 p220 q220
                              cases e220
                              replace hx220_0 := (HB.out.cell (World.block_lt_of_cell? w _ hx220_0)).trans hx220_0
                              replace hx220_1 := (HB.out.cell (World.block_lt_of_cell? w _ hx220_1)).trans hx220_1
                              replace p220 := eq_true p220
                              replace q220 := eq_true q220
                              go_wp2_with (first | ((with_reducible refine gate_dst (N := 5) rfl ?_); refine box_event ?hg (N := 5) ?hd (cs := #[.string (⟨#[]⟩ : ByteArray), .int .i64 0]) (t := 49) ?hr ?_; (case hd => rfl); (case hg => rfl); (case hr => first | (go_simp; done) | (go_simp; rfl)); intro gb221 hg w21 hbox hb; have n0_ := Aside0.mk (blk_below (g := gb213) (o := .cells #[.string a0_0, .string a0_1, .slice (some ad216) l0_2.length c0_2] 29 (0, 0)) (by (with_reducible repeat (first | refine blk_drewN ?_ _ | refine blk_drew ?_ | refine blk_alloc ?_ _)); exact BK213.out) hb); have n1_ := Aside0.mk (below_step (by repeat (first | (with_reducible first | exact HB.out | apply below_alloc | apply pw_below_drewN | apply below_drew1 | refine below_set ?_ GE213.out) | exact HB.out)) hb); have n2_ := Aside0.mk (hbox); have n3_ := Aside0.mk ((by rw [hg]; exact (below_size (by repeat (first | (with_reducible first | exact HB.out | apply below_alloc | apply pw_below_drewN | apply below_drew1 | refine below_set ?_ GE213.out) | exact HB.out))) : w.heap.size ≤ gb221)); have n4_ := Aside0.mk ((by rw [hg]; exact (below_size (by repeat (first | (with_reducible first | exact HB.out | apply below_alloc | apply pw_below_drewN | apply below_drew1 | refine below_set ?_ GE213.out) | exact HB.out))) : w.heap.size ≤ gb221)); have n5_ := Aside0.mk ((by rw [hg]; exact Nat.ne_of_lt (blk_lt (g := gb213) (o := .cells #[.string a0_0, .string a0_1, .slice (some ad216) l0_2.length c0_2] 29 (0, 0)) (by (with_reducible repeat (first | refine blk_drewN ?_ _ | refine blk_drew ?_ | refine blk_alloc ?_ _)); exact BK213.out)) : gb213 ≠ gb221)); have n6_ := Aside0.mk ((by rw [hg]; exact Nat.ne_of_gt (blk_lt (g := gb213) (o := .cells #[.string a0_0, .string a0_1, .slice (some ad216) l0_2.length c0_2] 29 (0, 0)) (by (with_reducible repeat (first | refine blk_drewN ?_ _ | refine blk_drew ?_ | refine blk_alloc ?_ _)); exact BK213.out)) : gb221 ≠ gb213)); clear BK213; clear HB; have BK213 := n0_; have HB := n1_; have BK221 := n2_; have GW221 := n3_; have GE221 := n4_; have NB213_221 := n5_; have NB221_213 := n6_; clear n0_ n1_ n2_ n3_ n4_ n5_ n6_; clear hb hbox hg; have hnb22 := NB221_213.out; have hnc22 := NB213_221.out; have hcz23_0 : w21.cell? ⟨gb221, 0, none⟩ = some (.string (⟨#[]⟩ : ByteArray)) := (blk_cell BK221.out 0).trans rfl; have hcz23_1 : w21.cell? ⟨gb221, 1, none⟩ = some (.int .i64 0) := (blk_cell BK221.out 1).trans rfl; have hfz23_0 := blk_frozen BK221.out 0; have hfz23_1 := blk_frozen BK221.out 1) | ((with_reducible refine gate_callee (f := 26) rfl ?_); refine goesL_ (some 43) rfl rfl Tryd.func26 (by kernel_rfl) rfl #[.string ((rd_T49 ((rd_T53 l0_2 x3_1).f1) x4_2).f0)] rfl (by (try simp only [List.map_toArray, List.map_cons, List.map_nil]); first | done | rfl | (simp only [List.length_drop, List.length_take]; rfl)) ?_; (with_reducible refine (colloquyref02_Right.calls ((rd_T49 ((rd_T53 l0_2 x3_1).f1) x4_2).f0) true _ A12.out).mono ?_); rintro e w' ⟨rfl, ⟨nd, rfl⟩⟩; refine ⟨_, rfl, ?_⟩))
                              go_ret
                              exact ⟨by first | rfl | (simp [errW_none, errW_some] <;> rfl) | (simp [*, errW_none, errW_some] <;> rfl), by repeat (first | (with_reducible first | exact HB.out | apply below_alloc | apply pw_below_drewN | apply below_drew1 | refine below_set ?_ GE213.out | refine below_set ?_ GE221.out) | exact HB.out)⟩
                            · rw [if_neg c19] at H
                              have c19b0 : decide (7 < ((rd_T49 ((rd_T53 l0_2 x3_1).f1) x4_2).f1)) = false := decide_eq_false c19
                              clear c19
                              have H' := Aside0.mk H
                              clear H
                              have hcz24_0 : wr.cell? ⟨gb213, 0, none⟩ = some (.string a0_0) := (blk_cell BK213.out 0).trans rfl
                              have hcz24_1 : wr.cell? ⟨gb213, 1, none⟩ = some (.string a0_1) := (blk_cell BK213.out 1).trans rfl
                              have hcz24_2 : wr.cell? ⟨gb213, 2, none⟩ = some (.slice (some ad216) l0_2.length c0_2) := (blk_cell BK213.out 2).trans rfl
                              have hfz24_0 := blk_frozen BK213.out 0
                              have hfz24_1 := blk_frozen BK213.out 1
                              have hfz24_2 := blk_frozen BK213.out 2
                              have p218 : 0 ≤ (x3_1 : Int) := of_decide_eq_true (by first | (with_reducible assumption) | assumption)
                              have q218 : x3_1 < (l0_2.length : Int) := of_decide_eq_true (by first | (with_reducible assumption) | assumption)
                              obtain ⟨ad218, A218_1, c218_1, e218, hx218_0, hx218_1, hl218_1, hi218_1⟩ := at_T53 HR0_2.out x3_1 p218 q218
                              obtain rfl : ad216 = ad218 := (by injection e218)
                              replace hx218_0 := (HB.out.cell (World.block_lt_of_cell? w _ hx218_0)).trans hx218_0
                              replace hx218_1 := (HB.out.cell (World.block_lt_of_cell? w _ hx218_1)).trans hx218_1
                              have HR218_1 := Aside0.mk hi218_1
                              have HC218_1 := Aside0.mk hl218_1
                              clear hi218_1 hl218_1
                              replace p218 := eq_true p218
                              replace q218 := eq_true q218
                              have p219 : 0 ≤ (x3_1 : Int) := of_decide_eq_true (by first | (with_reducible assumption) | assumption)
                              have q219 : x3_1 < (l0_2.length : Int) := of_decide_eq_true (by first | (with_reducible assumption) | assumption)
                              obtain ⟨ad219, A219_1, c219_1, e219, hx219_0, hx219_1, hl219_1, hi219_1⟩ := at_T53 HR0_2.out x3_1 p219 q219
                              obtain rfl : ad216 = ad219 := (by injection e219)
                              replace hx219_0 := (HB.out.cell (World.block_lt_of_cell? w _ hx219_0)).trans hx219_0
                              replace hx219_1 := (HB.out.cell (World.block_lt_of_cell? w _ hx219_1)).trans hx219_1
                              have HR219_1 := Aside0.mk hi219_1
                              have HC219_1 := Aside0.mk hl219_1
                              clear hi219_1 hl219_1
                              replace p219 := eq_true p219
                              replace q219 := eq_true q219
                              have ea_ := Option.some.inj (hx218_1.symm.trans hx219_1)
                              injection ea_ with ea_ en_ ec_
                              subst ea_
                              subst ec_
                              clear en_
                              have p220 : 0 ≤ (x4_2 : Int) := of_decide_eq_true (by first | (with_reducible assumption) | assumption)
                              have q220 : x4_2 < (((rd_T53 l0_2 x3_1).f1).length : Int) := of_decide_eq_true (by first | (with_reducible assumption) | assumption)
                              obtain ⟨ad220, e220, hx220_0, hx220_1⟩ := at_T49 HR219_1.out x4_2 p220 q220
                              cases e220
                              replace hx220_0 := (HB.out.cell (World.block_lt_of_cell? w _ hx220_0)).trans hx220_0
                              replace hx220_1 := (HB.out.cell (World.block_lt_of_cell? w _ hx220_1)).trans hx220_1
                              replace p220 := eq_true p220
                              replace q220 := eq_true q220
                              go_wp2_with (first | ((with_reducible refine gate_dst (N := 5) rfl ?_); refine box_event ?hg (N := 5) ?hd (cs := #[.string (⟨#[]⟩ : ByteArray), .int .i64 0]) (t := 49) ?hr ?_; (case hd => rfl); (case hg => rfl); (case hr => first | (go_simp; done) | (go_simp; rfl)); intro gb221 hg w25 hbox hb; have n0_ := Aside0.mk (blk_below (g := gb213) (o := .cells #[.string a0_0, .string a0_1, .slice (some ad216) l0_2.length c0_2] 29 (0, 0)) (by (with_reducible repeat (first | refine blk_drewN ?_ _ | refine blk_drew ?_ | refine blk_alloc ?_ _)); exact BK213.out) hb); have n1_ := Aside0.mk (below_step (by repeat (first | (with_reducible first | exact HB.out | apply below_alloc | apply pw_below_drewN | apply below_drew1 | refine below_set ?_ GE213.out) | exact HB.out)) hb); have n2_ := Aside0.mk (hbox); have n3_ := Aside0.mk ((by rw [hg]; exact (below_size (by repeat (first | (with_reducible first | exact HB.out | apply below_alloc | apply pw_below_drewN | apply below_drew1 | refine below_set ?_ GE213.out) | exact HB.out))) : w.heap.size ≤ gb221)); have n4_ := Aside0.mk ((by rw [hg]; exact (below_size (by repeat (first | (with_reducible first | exact HB.out | apply below_alloc | apply pw_below_drewN | apply below_drew1 | refine below_set ?_ GE213.out) | exact HB.out))) : w.heap.size ≤ gb221)); have n5_ := Aside0.mk ((by rw [hg]; exact Nat.ne_of_lt (blk_lt (g := gb213) (o := .cells #[.string a0_0, .string a0_1, .slice (some ad216) l0_2.length c0_2] 29 (0, 0)) (by (with_reducible repeat (first | refine blk_drewN ?_ _ | refine blk_drew ?_ | refine blk_alloc ?_ _)); exact BK213.out)) : gb213 ≠ gb221)); have n6_ := Aside0.mk ((by rw [hg]; exact Nat.ne_of_gt (blk_lt (g := gb213) (o := .cells #[.string a0_0, .string a0_1, .slice (some ad216) l0_2.length c0_2] 29 (0, 0)) (by (with_reducible repeat (first | refine blk_drewN ?_ _ | refine blk_drew ?_ | refine blk_alloc ?_ _)); exact BK213.out)) : gb221 ≠ gb213)); clear BK213; clear HB; have BK213 := n0_; have HB := n1_; have BK221 := n2_; have GW221 := n3_; have GE221 := n4_; have NB213_221 := n5_; have NB221_213 := n6_; clear n0_ n1_ n2_ n3_ n4_ n5_ n6_; clear hb hbox hg; have hnb26 := NB221_213.out; have hnc26 := NB213_221.out; have hcz27_0 : w25.cell? ⟨gb221, 0, none⟩ = some (.string (⟨#[]⟩ : ByteArray)) := (blk_cell BK221.out 0).trans rfl; have hcz27_1 : w25.cell? ⟨gb221, 1, none⟩ = some (.int .i64 0) := (blk_cell BK221.out 1).trans rfl; have hfz27_0 := blk_frozen BK221.out 0; have hfz27_1 := blk_frozen BK221.out 1) | ((with_reducible refine gate_callee (f := 26) rfl ?_); refine goesL_ (some 43) rfl rfl Tryd.func26 (by kernel_rfl) rfl #[.string ((rd_T49 ((rd_T53 l0_2 x3_1).f1) x4_2).f0)] rfl (by (try simp only [List.map_toArray, List.map_cons, List.map_nil]); first | done | rfl | (simp only [List.length_drop, List.length_take]; rfl)) ?_; (with_reducible refine (colloquyref02_Right.calls ((rd_T49 ((rd_T53 l0_2 x3_1).f1) x4_2).f0) true _ A12.out).mono ?_); rintro e w' ⟨rfl, ⟨nd, rfl⟩⟩; refine ⟨_, rfl, ?_⟩))
                              go_roundg k2
                              case measure => have := HK1.out; have := HK2.out; omega
                              case rel => exact ⟨(wrap64 (x4_2 + 1)), (by first | rfl | (simp; done) | (simp [*]; done)), H', ⟨by have := HK1.out; have := HK2.out; omega⟩, ⟨by (with_reducible repeat (first | refine blk_drewN ?_ _ | refine blk_drew ?_ | refine blk_alloc ?_ _)); refine blk_far ?_ NB213_221.out _; (with_reducible repeat (first | refine blk_drewN ?_ _ | refine blk_drew ?_ | refine blk_alloc ?_ _)); refine blk_far ?_ NB213_221.out _; (with_reducible repeat (first | refine blk_drewN ?_ _ | refine blk_drew ?_ | refine blk_alloc ?_ _)); exact BK213.out⟩, ⟨by repeat (first | (with_reducible first | exact HB.out | apply below_alloc | apply pw_below_drewN | apply below_drew1 | refine below_set ?_ GE213.out | refine below_set ?_ GE221.out) | exact HB.out)⟩⟩
                        · replace c13 := Bool.eq_false_iff.mpr c13
                          subst c13
                          have H1 : (some false) = some r := by rw [if_neg (show ¬ (false = true) by decide)] at H; exact H
                          clear H
                          have H := H1
                          clear H1
                          obtain rfl := Option.some.inj H
                          have hcz28_0 : wr.cell? ⟨gb213, 0, none⟩ = some (.string a0_0) := (blk_cell BK213.out 0).trans rfl
                          have hcz28_1 : wr.cell? ⟨gb213, 1, none⟩ = some (.string a0_1) := (blk_cell BK213.out 1).trans rfl
                          have hcz28_2 : wr.cell? ⟨gb213, 2, none⟩ = some (.slice (some ad216) l0_2.length c0_2) := (blk_cell BK213.out 2).trans rfl
                          have hfz28_0 := blk_frozen BK213.out 0
                          have hfz28_1 := blk_frozen BK213.out 1
                          have hfz28_2 := blk_frozen BK213.out 2
                          have p218 : 0 ≤ (x3_1 : Int) := of_decide_eq_true (by first | (with_reducible assumption) | assumption)
                          have q218 : x3_1 < (l0_2.length : Int) := of_decide_eq_true (by first | (with_reducible assumption) | assumption)
                          obtain ⟨ad218, A218_1, c218_1, e218, hx218_0, hx218_1, hl218_1, hi218_1⟩ := at_T53 HR0_2.out x3_1 p218 q218
                          obtain rfl : ad216 = ad218 := (by injection e218)
                          replace hx218_0 := (HB.out.cell (World.block_lt_of_cell? w _ hx218_0)).trans hx218_0
                          replace hx218_1 := (HB.out.cell (World.block_lt_of_cell? w _ hx218_1)).trans hx218_1
                          have HR218_1 := Aside0.mk hi218_1
                          have HC218_1 := Aside0.mk hl218_1
                          clear hi218_1 hl218_1
                          replace p218 := eq_true p218
                          replace q218 := eq_true q218
                          have p219 : 0 ≤ (x3_1 : Int) := of_decide_eq_true (by first | (with_reducible assumption) | assumption)
                          have q219 : x3_1 < (l0_2.length : Int) := of_decide_eq_true (by first | (with_reducible assumption) | assumption)
                          obtain ⟨ad219, A219_1, c219_1, e219, hx219_0, hx219_1, hl219_1, hi219_1⟩ := at_T53 HR0_2.out x3_1 p219 q219
                          obtain rfl : ad216 = ad219 := (by injection e219)
                          replace hx219_0 := (HB.out.cell (World.block_lt_of_cell? w _ hx219_0)).trans hx219_0
                          replace hx219_1 := (HB.out.cell (World.block_lt_of_cell? w _ hx219_1)).trans hx219_1
                          have HR219_1 := Aside0.mk hi219_1
                          have HC219_1 := Aside0.mk hl219_1
                          clear hi219_1 hl219_1
                          replace p219 := eq_true p219
                          replace q219 := eq_true q219
                          have ea_ := Option.some.inj (hx218_1.symm.trans hx219_1)
                          injection ea_ with ea_ en_ ec_
                          subst ea_
                          subst ec_
                          clear en_
                          have p220 : 0 ≤ (x4_2 : Int) := of_decide_eq_true (by first | (with_reducible assumption) | assumption)
                          have q220 : x4_2 < (((rd_T53 l0_2 x3_1).f1).length : Int) := of_decide_eq_true (by first | (with_reducible assumption) | assumption)
                          obtain ⟨ad220, e220, hx220_0, hx220_1⟩ := at_T49 HR219_1.out x4_2 p220 q220
                          cases e220
                          replace hx220_0 := (HB.out.cell (World.block_lt_of_cell? w _ hx220_0)).trans hx220_0
                          replace hx220_1 := (HB.out.cell (World.block_lt_of_cell? w _ hx220_1)).trans hx220_1
                          replace p220 := eq_true p220
                          replace q220 := eq_true q220
                          go_wp2_with (first | ((with_reducible refine gate_dst (N := 5) rfl ?_); refine box_event ?hg (N := 5) ?hd (cs := #[.string (⟨#[]⟩ : ByteArray), .int .i64 0]) (t := 49) ?hr ?_; (case hd => rfl); (case hg => rfl); (case hr => first | (go_simp; done) | (go_simp; rfl)); intro gb221 hg w29 hbox hb; have n0_ := Aside0.mk (blk_below (g := gb213) (o := .cells #[.string a0_0, .string a0_1, .slice (some ad216) l0_2.length c0_2] 29 (0, 0)) (by (with_reducible repeat (first | refine blk_drewN ?_ _ | refine blk_drew ?_ | refine blk_alloc ?_ _)); exact BK213.out) hb); have n1_ := Aside0.mk (below_step (by repeat (first | (with_reducible first | exact HB.out | apply below_alloc | apply pw_below_drewN | apply below_drew1 | refine below_set ?_ GE213.out) | exact HB.out)) hb); have n2_ := Aside0.mk (hbox); have n3_ := Aside0.mk ((by rw [hg]; exact (below_size (by repeat (first | (with_reducible first | exact HB.out | apply below_alloc | apply pw_below_drewN | apply below_drew1 | refine below_set ?_ GE213.out) | exact HB.out))) : w.heap.size ≤ gb221)); have n4_ := Aside0.mk ((by rw [hg]; exact (below_size (by repeat (first | (with_reducible first | exact HB.out | apply below_alloc | apply pw_below_drewN | apply below_drew1 | refine below_set ?_ GE213.out) | exact HB.out))) : w.heap.size ≤ gb221)); have n5_ := Aside0.mk ((by rw [hg]; exact Nat.ne_of_lt (blk_lt (g := gb213) (o := .cells #[.string a0_0, .string a0_1, .slice (some ad216) l0_2.length c0_2] 29 (0, 0)) (by (with_reducible repeat (first | refine blk_drewN ?_ _ | refine blk_drew ?_ | refine blk_alloc ?_ _)); exact BK213.out)) : gb213 ≠ gb221)); have n6_ := Aside0.mk ((by rw [hg]; exact Nat.ne_of_gt (blk_lt (g := gb213) (o := .cells #[.string a0_0, .string a0_1, .slice (some ad216) l0_2.length c0_2] 29 (0, 0)) (by (with_reducible repeat (first | refine blk_drewN ?_ _ | refine blk_drew ?_ | refine blk_alloc ?_ _)); exact BK213.out)) : gb221 ≠ gb213)); clear BK213; clear HB; have BK213 := n0_; have HB := n1_; have BK221 := n2_; have GW221 := n3_; have GE221 := n4_; have NB213_221 := n5_; have NB221_213 := n6_; clear n0_ n1_ n2_ n3_ n4_ n5_ n6_; clear hb hbox hg; have hnb30 := NB221_213.out; have hnc30 := NB213_221.out; have hcz31_0 : w29.cell? ⟨gb221, 0, none⟩ = some (.string (⟨#[]⟩ : ByteArray)) := (blk_cell BK221.out 0).trans rfl; have hcz31_1 : w29.cell? ⟨gb221, 1, none⟩ = some (.int .i64 0) := (blk_cell BK221.out 1).trans rfl; have hfz31_0 := blk_frozen BK221.out 0; have hfz31_1 := blk_frozen BK221.out 1) | ((with_reducible refine gate_callee (f := 26) rfl ?_); refine goesL_ (some 43) rfl rfl Tryd.func26 (by kernel_rfl) rfl #[.string ((rd_T49 ((rd_T53 l0_2 x3_1).f1) x4_2).f0)] rfl (by (try simp only [List.map_toArray, List.map_cons, List.map_nil]); first | done | rfl | (simp only [List.length_drop, List.length_take]; rfl)) ?_; (with_reducible refine (colloquyref02_Right.calls ((rd_T49 ((rd_T53 l0_2 x3_1).f1) x4_2).f0) false _ A12.out).mono ?_); rintro e w' ⟨rfl, ⟨nd, rfl⟩⟩; refine ⟨_, rfl, ?_⟩))
                          go_ret
                          exact ⟨by first | rfl | (simp [errW_none, errW_some] <;> rfl) | (simp [*, errW_none, errW_some] <;> rfl), by repeat (first | (with_reducible first | exact HB.out | apply below_alloc | apply pw_below_drewN | apply below_drew1 | refine below_set ?_ GE213.out | refine below_set ?_ GE221.out) | exact HB.out)⟩
                      · rw [if_neg c11] at H
                        exact absurd H (by simp)
                    · rw [if_neg c10] at H
                      have c10b0 : decide (x4_2 < (((rd_T53 l0_2 x3_1).f1).length : Int)) = false := decide_eq_false c10
                      clear c10
                      have H' := Aside0.mk H
                      clear H
                      have hcz32_0 : wr.cell? ⟨gb213, 0, none⟩ = some (.string a0_0) := (blk_cell BK213.out 0).trans rfl
                      have hcz32_1 : wr.cell? ⟨gb213, 1, none⟩ = some (.string a0_1) := (blk_cell BK213.out 1).trans rfl
                      have hcz32_2 : wr.cell? ⟨gb213, 2, none⟩ = some (.slice (some ad216) l0_2.length c0_2) := (blk_cell BK213.out 2).trans rfl
                      have hfz32_0 := blk_frozen BK213.out 0
                      have hfz32_1 := blk_frozen BK213.out 1
                      have hfz32_2 := blk_frozen BK213.out 2
                      have p218 : 0 ≤ (x3_1 : Int) := of_decide_eq_true (by first | (with_reducible assumption) | assumption)
                      have q218 : x3_1 < (l0_2.length : Int) := of_decide_eq_true (by first | (with_reducible assumption) | assumption)
                      obtain ⟨ad218, A218_1, c218_1, e218, hx218_0, hx218_1, hl218_1, hi218_1⟩ := at_T53 HR0_2.out x3_1 p218 q218
                      obtain rfl : ad216 = ad218 := (by injection e218)
                      replace hx218_0 := (HB.out.cell (World.block_lt_of_cell? w _ hx218_0)).trans hx218_0
                      replace hx218_1 := (HB.out.cell (World.block_lt_of_cell? w _ hx218_1)).trans hx218_1
                      have HR218_1 := Aside0.mk hi218_1
                      have HC218_1 := Aside0.mk hl218_1
                      clear hi218_1 hl218_1
                      replace p218 := eq_true p218
                      replace q218 := eq_true q218
                      go_wp2
                      go_roundg k2
                      case measure => have := HK1.out; have := HK2.out; omega
                      case rel => exact ⟨(wrap64 (x3_1 + 1)), (by first | rfl | (simp; done) | (simp [*]; done)), H', ⟨by have := HK1.out; have := HK2.out; omega⟩, ⟨by (with_reducible repeat (first | refine blk_drewN ?_ _ | refine blk_drew ?_ | refine blk_alloc ?_ _)); exact BK213.out⟩, ⟨by repeat (first | (with_reducible first | exact HB.out | apply below_alloc | apply pw_below_drewN | apply below_drew1 | refine below_set ?_ GE213.out) | exact HB.out)⟩⟩
                  · rw [if_neg c9] at H
                    exact absurd H (by simp)
                · rw [if_neg c8] at H
                  exact absurd H (by simp)
          · replace c6 := Bool.eq_false_iff.mpr c6
            subst c6
            have H1 : (some false) = some r := by rw [if_neg (show ¬ (false = true) by decide)] at H; exact H
            clear H
            have H := H1
            clear H1
            obtain rfl := Option.some.inj H
            have hcz33_0 : wr.cell? ⟨gb213, 0, none⟩ = some (.string a0_0) := (blk_cell BK213.out 0).trans rfl
            have hcz33_1 : wr.cell? ⟨gb213, 1, none⟩ = some (.string a0_1) := (blk_cell BK213.out 1).trans rfl
            have hcz33_2 : wr.cell? ⟨gb213, 2, none⟩ = some (.slice A0_2 l0_2.length c0_2) := (blk_cell BK213.out 2).trans rfl
            have hfz33_0 := blk_frozen BK213.out 0
            have hfz33_1 := blk_frozen BK213.out 1
            have hfz33_2 := blk_frozen BK213.out 2
            have p216 : 0 ≤ (x3_1 : Int) := of_decide_eq_true (by first | (with_reducible assumption) | assumption)
            have q216 : x3_1 < (l0_2.length : Int) := of_decide_eq_true (by first | (with_reducible assumption) | assumption)
            obtain ⟨ad216, A216_1, c216_1, e216, hx216_0, hx216_1, hl216_1, hi216_1⟩ := at_T53 HR0_2.out x3_1 p216 q216
            cases e216
            replace hx216_0 := (HB.out.cell (World.block_lt_of_cell? w _ hx216_0)).trans hx216_0
            replace hx216_1 := (HB.out.cell (World.block_lt_of_cell? w _ hx216_1)).trans hx216_1
            have HR216_1 := Aside0.mk hi216_1
            have HC216_1 := Aside0.mk hl216_1
            clear hi216_1 hl216_1
            replace p216 := eq_true p216
            replace q216 := eq_true q216
            go_wp2_with (first | ((with_reducible refine gate_callee (f := 26) rfl ?_); refine goesL_ (some 19) rfl rfl Tryd.func26 (by kernel_rfl) rfl #[.string ((rd_T53 l0_2 x3_1).f0)] rfl (by (try simp only [List.map_toArray, List.map_cons, List.map_nil]); first | done | rfl | (simp only [List.length_drop, List.length_take]; rfl)) ?_; (with_reducible refine (colloquyref02_Right.calls ((rd_T53 l0_2 x3_1).f0) false _ A5.out).mono ?_); rintro e w' ⟨rfl, ⟨nd, rfl⟩⟩; refine ⟨_, rfl, ?_⟩))
            go_ret
            exact ⟨by first | rfl | (simp [errW_none, errW_some] <;> rfl) | (simp [*, errW_none, errW_some] <;> rfl), by repeat (first | (with_reducible first | exact HB.out | apply below_alloc | apply pw_below_drewN | apply below_drew1 | refine below_set ?_ GE213.out) | exact HB.out)⟩
        · rw [if_neg c4] at H
          exact absurd H (by simp)
      · rw [if_neg c3] at H
        have c3b0 : decide (x3_1 < (l0_2.length : Int)) = false := decide_eq_false c3
        clear c3
        replace H := Option.bind_eq_some_iff.mp H
        obtain ⟨t214, A340, H⟩ := H
        replace H : (if t214 = true then ((colloquyref02_Right.f a0_1).bind fun t215 => (some t215)) else (some false)) = some r := H
        have A34 := Aside0.mk A340
        clear A340
        by_cases c35 : t214 = true
        · subst c35
          have H1 : ((colloquyref02_Right.f a0_1).bind fun t215 => (some t215)) = some r := by rw [if_pos rfl] at H; exact H
          clear H
          have H := H1
          clear H1
          replace H := Option.bind_eq_some_iff.mp H
          obtain ⟨t215, A360, H⟩ := H
          replace H : (some t215) = some r := H
          have A36 := Aside0.mk A360
          clear A360
          obtain rfl := Option.some.inj H
          have hcz37_0 : wr.cell? ⟨gb213, 0, none⟩ = some (.string a0_0) := (blk_cell BK213.out 0).trans rfl
          have hcz37_1 : wr.cell? ⟨gb213, 1, none⟩ = some (.string a0_1) := (blk_cell BK213.out 1).trans rfl
          have hcz37_2 : wr.cell? ⟨gb213, 2, none⟩ = some (.slice A0_2 l0_2.length c0_2) := (blk_cell BK213.out 2).trans rfl
          have hfz37_0 := blk_frozen BK213.out 0
          have hfz37_1 := blk_frozen BK213.out 1
          have hfz37_2 := blk_frozen BK213.out 2
          go_wp2_with (first | ((with_reducible refine gate_callee (f := 26) rfl ?_); refine goesL_ (some 57) rfl rfl Tryd.func26 (by kernel_rfl) rfl #[.string a0_0] rfl (by (try simp only [List.map_toArray, List.map_cons, List.map_nil]); first | done | rfl | (simp only [List.length_drop, List.length_take]; rfl)) ?_; (with_reducible refine (colloquyref02_Right.calls a0_0 true _ A34.out).mono ?_); rintro e w' ⟨rfl, ⟨nd, rfl⟩⟩; refine ⟨_, rfl, ?_⟩) | (go_at_call 26; (with_reducible refine (colloquyref02_Right.calls a0_1 t215 _ A36.out).mono ?_); rintro e w' ⟨rfl, ⟨nd, rfl⟩⟩))
          go_ret
          exact ⟨by first | rfl | (simp [errW_none, errW_some] <;> rfl) | (simp [*, errW_none, errW_some] <;> rfl), by repeat (first | (with_reducible first | exact HB.out | apply below_alloc | apply pw_below_drewN | apply below_drew1 | refine below_set ?_ GE213.out) | exact HB.out)⟩
        · replace c35 := Bool.eq_false_iff.mpr c35
          subst c35
          have H1 : (some false) = some r := by rw [if_neg (show ¬ (false = true) by decide)] at H; exact H
          clear H
          have H := H1
          clear H1
          obtain rfl := Option.some.inj H
          have hcz38_0 : wr.cell? ⟨gb213, 0, none⟩ = some (.string a0_0) := (blk_cell BK213.out 0).trans rfl
          have hcz38_1 : wr.cell? ⟨gb213, 1, none⟩ = some (.string a0_1) := (blk_cell BK213.out 1).trans rfl
          have hcz38_2 : wr.cell? ⟨gb213, 2, none⟩ = some (.slice A0_2 l0_2.length c0_2) := (blk_cell BK213.out 2).trans rfl
          have hfz38_0 := blk_frozen BK213.out 0
          have hfz38_1 := blk_frozen BK213.out 1
          have hfz38_2 := blk_frozen BK213.out 2
          go_wp2_with (first | ((with_reducible refine gate_callee (f := 26) rfl ?_); refine goesL_ (some 57) rfl rfl Tryd.func26 (by kernel_rfl) rfl #[.string a0_0] rfl (by (try simp only [List.map_toArray, List.map_cons, List.map_nil]); first | done | rfl | (simp only [List.length_drop, List.length_take]; rfl)) ?_; (with_reducible refine (colloquyref02_Right.calls a0_0 false _ A34.out).mono ?_); rintro e w' ⟨rfl, ⟨nd, rfl⟩⟩; refine ⟨_, rfl, ?_⟩))
          go_ret
          exact ⟨by first | rfl | (simp [errW_none, errW_some] <;> rfl) | (simp [*, errW_none, errW_some] <;> rfl), by repeat (first | (with_reducible first | exact HB.out | apply below_alloc | apply pw_below_drewN | apply below_drew1 | refine below_set ?_ GE213.out) | exact HB.out)⟩
end
section
attribute [local go_sem] max2_int min2_int max_two min_two max_three min_three max_four min_four   -- for this text's walks alone
def colloquyref18_Count.l0 : Nat → List (S49) → Int → Int → Int → Option (Int)
  | 0, _, _, _, _ => none
  | k + 1, x0, x1, x5, x6 => if x6 < (x0.length : Int) then (if 0 ≤ x6 then (if ((rd_T49 x0 x6).f1) = x1 then (colloquyref18_Count.l0 k x0 x1 (wrap64 (x5 + 1)) (wrap64 (x6 + 1))) else (if x1 = 0 then (if ((rd_T49 x0 x6).f1) < 0 then (colloquyref18_Count.l0 k x0 x1 (wrap64 (x5 + 1)) (wrap64 (x6 + 1))) else (if ((rd_T49 x0 x6).f1) > 7 then (colloquyref18_Count.l0 k x0 x1 (wrap64 (x5 + 1)) (wrap64 (x6 + 1))) else (colloquyref18_Count.l0 k x0 x1 x5 (wrap64 (x6 + 1))))) else (colloquyref18_Count.l0 k x0 x1 x5 (wrap64 (x6 + 1))))) else (none)) else (some x5)
def colloquyref18_Count.f (k : Nat) (l0 : List (S49)) (a1 : Int) : Option (Int) := colloquyref18_Count.l0 k l0 a1 0 0
theorem colloquyref18_Count.mono_l : ∀ k, (∀ y0 y1 y2 y3, LeO (colloquyref18_Count.l0 k y0 y1 y2 y3) (colloquyref18_Count.l0 (k + 1) y0 y1 y2 y3))
  | 0 => fun _ _ _ _ r h => by simp [colloquyref18_Count.l0] at h
  | k + 1 => by
    have ih0 := colloquyref18_Count.mono_l k
    · intro y0 y1 y2 y3
      unfold colloquyref18_Count.l0
      repeat' first
      | (with_reducible exact ih0 _ _ _ _)
      | (with_reducible exact LeO.refl _)
      | (with_reducible exact LeO.none _)
      | (with_reducible refine LeO.ite ?_ ?_)
      | (with_reducible refine LeO.bind ?_ (fun _ => ?_))
      | exact ih0 _ _ _ _
      | exact LeO.none _
      | refine LeO.ite ?_ ?_
      | refine LeO.bind ?_ (fun _ => ?_)
theorem colloquyref18_Count.mono : ∀ a0 a1 k, LeO (colloquyref18_Count.f k a0 a1) (colloquyref18_Count.f (k + 1) a0 a1) := by
  intro a0 a1 k
  have ih0 := colloquyref18_Count.mono_l k
  unfold colloquyref18_Count.f
  repeat' first
      | (with_reducible exact ih0 _ _ _ _)
      | (with_reducible exact LeO.refl _)
      | (with_reducible exact LeO.none _)
      | (with_reducible refine LeO.ite ?_ ?_)
      | (with_reducible refine LeO.bind ?_ (fun _ => ?_))
      | exact ih0 _ _ _ _
      | exact LeO.none _
      | refine LeO.ite ?_ ?_
      | refine LeO.bind ?_ (fun _ => ?_)
theorem colloquyref18_Count.calls (k : Nat) (A0 : Option Addr) (c0 : Nat) (l0 : List (S49)) (a1 : Int) (r : Int) (w : World) (hr0 : Kd.C k49 w A0 l0.length l0) (hc0 : l0.length ≤ c0) (h : colloquyref18_Count.f k l0 a1 = some r) :
    Calls Tryd.prog 23 #[.slice A0 l0.length c0, .int .i64 a1] w fun e w' => e = .returned (.int .i64 r) ∧ Drawn0 w w' := by
  have HR0 := Aside0.mk hr0
  have HC0 := Aside0.mk hc0
  clear hr0 hc0
  have H : (colloquyref18_Count.l0 k l0 a1 0 0) = some r := h
  clear h
  have H' := Aside0.mk H
  clear H
  go_enter Tryd.func23, Tryd.ntmps23
  go_wp2
  go_loopg [5, 6] k (fun kq v5 v6 w' => ∃ (x5_1 : Int) (x6_1 : Int), v5 = .int .i64 x5_1 ∧ v6 = .int .i64 x6_1 ∧ Aside0 (colloquyref18_Count.l0 kq l0 a1 x5_1 x6_1 = some r) ∧ Aside0 (kq ≤ k) ∧ Drawn0 w w')
  case atStart => exact ⟨(0), (0), (by first | rfl | (simp; done) | (simp [*]; done)), (by first | rfl | (simp; done) | (simp [*]; done)), H', ⟨Nat.le_refl _⟩, by repeat (first | exact Drawn0.refl _ | apply Drawn0.step)⟩
  case round =>
    clear H'
    try clear c2
    try clear p2
    obtain ⟨x5_1, x6_1, rfl, rfl, HA, HK1, ⟨m1, rfl⟩⟩ := hrel
    cases gk with
    | zero => exact absurd HA.out (by simp [colloquyref18_Count.l0])
    | succ k1 =>
      have H := HA.out
      clear HA
      simp only [colloquyref18_Count.l0] at H
      by_cases c3 : x6_1 < (l0.length : Int)
      · rw [if_pos c3] at H
        have c3b0 : decide (x6_1 < (l0.length : Int)) = true := decide_eq_true c3
        clear c3
        by_cases c4 : 0 ≤ x6_1
        · rw [if_pos c4] at H
          have c4b0 : decide (0 ≤ x6_1) = true := decide_eq_true c4
          clear c4
          by_cases c5 : ((rd_T49 l0 x6_1).f1) = a1
          · rw [if_pos c5] at H
            have c5b0 : (((rd_T49 l0 x6_1).f1) == a1) = true := beq_iff_eq.mpr c5
            have c5b1 : (((rd_T49 l0 x6_1).f1) != a1) = false := bne_eq_false_iff_eq.mpr c5
            clear c5
            have H' := Aside0.mk H
            clear H
            have p209 : 0 ≤ (x6_1 : Int) := of_decide_eq_true (by first | (with_reducible assumption) | assumption)
            have q209 : x6_1 < (l0.length : Int) := of_decide_eq_true (by first | (with_reducible assumption) | assumption)
            obtain ⟨ad209, e209, hx209_0, hx209_1⟩ := at_T49 HR0.out x6_1 p209 q209
            cases e209
            replace p209 := eq_true p209
            replace q209 := eq_true q209
            go_wp2
            go_roundg k1
            case measure => have := HK1.out; omega
            case rel => exact ⟨(wrap64 (x5_1 + 1)), (wrap64 (x6_1 + 1)), (by first | rfl | (simp; done) | (simp [*]; done)), (by first | rfl | (simp; done) | (simp [*]; done)), H', ⟨by have := HK1.out; omega⟩, by repeat (first | exact Drawn0.refl _ | apply Drawn0.step)⟩
          · rw [if_neg c5] at H
            have c5b0 : (((rd_T49 l0 x6_1).f1) == a1) = false := beq_eq_false_iff_ne.mpr c5
            have c5b1 : (((rd_T49 l0 x6_1).f1) != a1) = true := bne_iff_ne.mpr c5
            by_cases c6 : a1 = 0
            · rw [if_pos c6] at H
              have c6b0 : (a1 == 0) = true := beq_iff_eq.mpr c6
              have c6b1 : (a1 != 0) = false := bne_eq_false_iff_eq.mpr c6
              clear c6
              by_cases c7 : ((rd_T49 l0 x6_1).f1) < 0
              · rw [if_pos c7] at H
                have c7b0 : decide (((rd_T49 l0 x6_1).f1) < 0) = true := decide_eq_true c7
                clear c7
                have H' := Aside0.mk H
                clear H
                have p209 : 0 ≤ (x6_1 : Int) := of_decide_eq_true (by first | (with_reducible assumption) | assumption)
                have q209 : x6_1 < (l0.length : Int) := of_decide_eq_true (by first | (with_reducible assumption) | assumption)
                obtain ⟨ad209, e209, hx209_0, hx209_1⟩ := at_T49 HR0.out x6_1 p209 q209
                cases e209
                replace p209 := eq_true p209
                replace q209 := eq_true q209
                go_wp2
                go_roundg k1
                case measure => have := HK1.out; omega
                case rel => exact ⟨(wrap64 (x5_1 + 1)), (wrap64 (x6_1 + 1)), (by first | rfl | (simp; done) | (simp [*]; done)), (by first | rfl | (simp; done) | (simp [*]; done)), H', ⟨by have := HK1.out; omega⟩, by repeat (first | exact Drawn0.refl _ | apply Drawn0.step)⟩
              · rw [if_neg c7] at H
                have c7b0 : decide (((rd_T49 l0 x6_1).f1) < 0) = false := decide_eq_false c7
                clear c7
                by_cases c8 : ((rd_T49 l0 x6_1).f1) > 7
                · rw [if_pos c8] at H
                  have c8b0 : decide (7 < ((rd_T49 l0 x6_1).f1)) = true := decide_eq_true c8
                  clear c8
                  have H' := Aside0.mk H
                  clear H
                  have p209 : 0 ≤ (x6_1 : Int) := of_decide_eq_true (by first | (with_reducible assumption) | assumption)
                  have q209 : x6_1 < (l0.length : Int) := of_decide_eq_true (by first | (with_reducible assumption) | assumption)
                  obtain ⟨ad209, e209, hx209_0, hx209_1⟩ := at_T49 HR0.out x6_1 p209 q209
                  cases e209
                  replace p209 := eq_true p209
                  replace q209 := eq_true q209
                  go_wp2
                  go_roundg k1
                  case measure => have := HK1.out; omega
                  case rel => exact ⟨(wrap64 (x5_1 + 1)), (wrap64 (x6_1 + 1)), (by first | rfl | (simp; done) | (simp [*]; done)), (by first | rfl | (simp; done) | (simp [*]; done)), H', ⟨by have := HK1.out; omega⟩, by repeat (first | exact Drawn0.refl _ | apply Drawn0.step)⟩
                · rw [if_neg c8] at H
                  have c8b0 : decide (7 < ((rd_T49 l0 x6_1).f1)) = false := decide_eq_false c8
                  clear c8
                  have H' := Aside0.mk H
                  clear H
                  have p209 : 0 ≤ (x6_1 : Int) := of_decide_eq_true (by first | (with_reducible assumption) | assumption)
                  have q209 : x6_1 < (l0.length : Int) := of_decide_eq_true (by first | (with_reducible assumption) | assumption)
                  obtain ⟨ad209, e209, hx209_0, hx209_1⟩ := at_T49 HR0.out x6_1 p209 q209
                  cases e209
                  replace p209 := eq_true p209
                  replace q209 := eq_true q209
                  go_wp2
                  go_roundg k1
                  case measure => have := HK1.out; omega
                  case rel => exact ⟨(x5_1), (wrap64 (x6_1 + 1)), (by first | rfl | (simp; done) | (simp [*]; done)), (by first | rfl | (simp; done) | (simp [*]; done)), H', ⟨by have := HK1.out; omega⟩, by repeat (first | exact Drawn0.refl _ | apply Drawn0.step)⟩
            · rw [if_neg c6] at H
              have c6b0 : (a1 == 0) = false := beq_eq_false_iff_ne.mpr c6
              have c6b1 : (a1 != 0) = true := bne_iff_ne.mpr c6
              have H' := Aside0.mk H
              clear H
              have p209 : 0 ≤ (x6_1 : Int) := of_decide_eq_true (by first | (with_reducible assumption) | assumption)
              have q209 : x6_1 < (l0.length : Int) := of_decide_eq_true (by first | (with_reducible assumption) | assumption)
              obtain ⟨ad209, e209, hx209_0, hx209_1⟩ := at_T49 HR0.out x6_1 p209 q209
              cases e209
              replace p209 := eq_true p209
              replace q209 := eq_true q209
              go_wp2
              go_roundg k1
              case measure => have := HK1.out; omega
              case rel => exact ⟨(x5_1), (wrap64 (x6_1 + 1)), (by first | rfl | (simp; done) | (simp [*]; done)), (by first | rfl | (simp; done) | (simp [*]; done)), H', ⟨by have := HK1.out; omega⟩, by repeat (first | exact Drawn0.refl _ | apply Drawn0.step)⟩
        · rw [if_neg c4] at H
          exact absurd H (by simp)
      · rw [if_neg c3] at H
        have c3b0 : decide (x6_1 < (l0.length : Int)) = false := decide_eq_false c3
        clear c3
        obtain rfl := Option.some.inj H
        go_wp2
        go_ret
        exact ⟨by first | rfl | (simp; done) | (simp [*]; done), by repeat (first | exact Drawn0.refl _ | apply Drawn0.step)⟩
end
section
attribute [local go_sem] max2_int min2_int max_two min_two max_three min_three max_four min_four   -- for this text's walks alone
def colloquyref20_Total.l0 : Nat → Int → Int → Int → ByteArray → ByteArray → List (S53) → Option (Int)
  | 0, _, _, _, _, _, _ => none
  | k + 1, x1, x5, x6, x211000, x211001, x211002 => if x6 < (x211002.length : Int) then (if 0 ≤ x6 then ((colloquyref18_Count.f k ((rd_T53 x211002 x6).f1) x1).bind fun t212 => (colloquyref20_Total.l0 k x1 (wrap64 (x5 + t212)) (wrap64 (x6 + 1)) x211000 x211001 x211002)) else (none)) else (some x5)
def colloquyref20_Total.f (k : Nat) (a0_0 : ByteArray) (a0_1 : ByteArray) (l0_2 : List (S53)) (a1 : Int) : Option (Int) := colloquyref20_Total.l0 k a1 0 0 a0_0 a0_1 l0_2
theorem colloquyref20_Total.mono_l : ∀ k, (∀ y0 y1 y2 y3 y4 y5, LeO (colloquyref20_Total.l0 k y0 y1 y2 y3 y4 y5) (colloquyref20_Total.l0 (k + 1) y0 y1 y2 y3 y4 y5))
  | 0 => fun _ _ _ _ _ _ r h => by simp [colloquyref20_Total.l0] at h
  | k + 1 => by
    have ih0 := colloquyref20_Total.mono_l k
    · intro y0 y1 y2 y3 y4 y5
      unfold colloquyref20_Total.l0
      repeat' first
      | (with_reducible exact ih0 _ _ _ _ _ _)
      | (with_reducible exact colloquyref18_Count.mono _ _ _)
      | (with_reducible exact LeO.refl _)
      | (with_reducible exact LeO.none _)
      | (with_reducible refine LeO.ite ?_ ?_)
      | (with_reducible refine LeO.bind ?_ (fun _ => ?_))
      | exact ih0 _ _ _ _ _ _
      | exact colloquyref18_Count.mono _ _ _
      | exact LeO.none _
      | refine LeO.ite ?_ ?_
      | refine LeO.bind ?_ (fun _ => ?_)
theorem colloquyref20_Total.mono : ∀ a0 a1 a2 a3 k, LeO (colloquyref20_Total.f k a0 a1 a2 a3) (colloquyref20_Total.f (k + 1) a0 a1 a2 a3) := by
  intro a0 a1 a2 a3 k
  have ih0 := colloquyref20_Total.mono_l k
  unfold colloquyref20_Total.f
  repeat' first
      | (with_reducible exact ih0 _ _ _ _ _ _)
      | (with_reducible exact colloquyref18_Count.mono _ _ _)
      | (with_reducible exact LeO.refl _)
      | (with_reducible exact LeO.none _)
      | (with_reducible refine LeO.ite ?_ ?_)
      | (with_reducible refine LeO.bind ?_ (fun _ => ?_))
      | exact ih0 _ _ _ _ _ _
      | exact colloquyref18_Count.mono _ _ _
      | exact LeO.none _
      | refine LeO.ite ?_ ?_
      | refine LeO.bind ?_ (fun _ => ?_)
theorem colloquyref20_Total.calls (k : Nat) (a0_0 : ByteArray) (a0_1 : ByteArray) (A0_2 : Option Addr) (c0_2 : Nat) (l0_2 : List (S53)) (a1 : Int) (r : Int) (w : World) (hr0_2 : Kd.C k53 w A0_2 l0_2.length l0_2) (hc0_2 : l0_2.length ≤ c0_2) (h : colloquyref20_Total.f k a0_0 a0_1 l0_2 a1 = some r) :
    Calls Tryd.prog 13 #[.agg #[.string a0_0, .string a0_1, .slice A0_2 l0_2.length c0_2], .int .i64 a1] w fun e w' => e = .returned (.int .i64 r) ∧ Below w.heap.size w w' := by
  have hu29 := Tryd.underlying29
  have HR0_2 := Aside0.mk hr0_2
  have HC0_2 := Aside0.mk hc0_2
  clear hr0_2 hc0_2
  have HB := Aside0.mk (Below.refl w.heap.size w)
  have H : (colloquyref20_Total.l0 k a1 0 0 a0_0 a0_1 l0_2) = some r := h
  clear h
  have H' := Aside0.mk H
  clear H
  go_enter Tryd.func13, Tryd.ntmps13
  go_wp2_with (first | ((with_reducible refine gate_dst (N := 2) rfl ?_); refine box_event ?hg (N := 2) ?hd (cs := #[.string a0_0, .string a0_1, .slice A0_2 l0_2.length c0_2]) (t := 29) ?hr ?_; (case hd => rfl); (case hg => rfl); (case hr => first | (go_simp; done) | (go_simp; rfl)); intro gb210 hg w3 hbox hb; have n0_ := Aside0.mk (below_step (by repeat (first | (with_reducible first | exact HB.out | apply below_alloc | apply pw_below_drewN | apply below_drew1) | exact HB.out)) hb); have n1_ := Aside0.mk (hbox); have n2_ := Aside0.mk ((by rw [hg]; exact (below_size (by repeat (first | (with_reducible first | exact HB.out | apply below_alloc | apply pw_below_drewN | apply below_drew1) | exact HB.out))) : w.heap.size ≤ gb210)); have n3_ := Aside0.mk ((by rw [hg]; exact (below_size (by repeat (first | (with_reducible first | exact HB.out | apply below_alloc | apply pw_below_drewN | apply below_drew1) | exact HB.out))) : w.heap.size ≤ gb210)); clear HB; have HB := n0_; have BK210 := n1_; have GW210 := n2_; have GE210 := n3_; clear n0_ n1_ n2_ n3_; clear hb hbox hg))
  go_loopg [5, 6] k (fun kq v5 v6 w' => ∃ (x5_1 : Int) (x6_1 : Int), v5 = .int .i64 x5_1 ∧ v6 = .int .i64 x6_1 ∧ Aside0 (colloquyref20_Total.l0 kq a1 x5_1 x6_1 a0_0 a0_1 l0_2 = some r) ∧ Aside0 (kq ≤ k) ∧ Aside0 (w'.heap[gb210]? = some (.cells #[.string a0_0, .string a0_1, (.slice A0_2 l0_2.length c0_2)] 29 (0, 0))) ∧ Aside0 (Below w.heap.size w w'))
  case atStart => exact ⟨(0), (0), (by first | rfl | (simp; done) | (simp [*]; done)), (by first | rfl | (simp; done) | (simp [*]; done)), H', ⟨Nat.le_refl _⟩, ⟨by (with_reducible repeat (first | refine blk_drewN ?_ _ | refine blk_drew ?_ | refine blk_alloc ?_ _)); exact BK210.out⟩, ⟨by repeat (first | (with_reducible first | exact HB.out | apply below_alloc | apply pw_below_drewN | apply below_drew1 | refine below_set ?_ GE210.out) | exact HB.out)⟩⟩
  case round =>
    clear H'
    try clear c1
    try clear p2
    obtain ⟨x5_1, x6_1, rfl, rfl, HA, HK1, BK210, HB⟩ := hrel
    cases gk with
    | zero => exact absurd HA.out (by simp [colloquyref20_Total.l0])
    | succ k1 =>
      have H := HA.out
      clear HA
      simp only [colloquyref20_Total.l0] at H
      by_cases c4 : x6_1 < (l0_2.length : Int)
      · rw [if_pos c4] at H
        have c4b0 : decide (x6_1 < (l0_2.length : Int)) = true := decide_eq_true c4
        clear c4
        by_cases c5 : 0 ≤ x6_1
        · rw [if_pos c5] at H
          have c5b0 : decide (0 ≤ x6_1) = true := decide_eq_true c5
          clear c5
          replace H := Option.bind_eq_some_iff.mp H
          obtain ⟨t212, A60, H⟩ := H
          replace H : (colloquyref20_Total.l0 k1 a1 (wrap64 (x5_1 + t212)) (wrap64 (x6_1 + 1)) a0_0 a0_1 l0_2) = some r := H
          have A6 := Aside0.mk A60
          clear A60
          have H' := Aside0.mk H
          clear H
          have hcz7_0 : wr.cell? ⟨gb210, 0, none⟩ = some (.string a0_0) := (blk_cell BK210.out 0).trans rfl
          have hcz7_1 : wr.cell? ⟨gb210, 1, none⟩ = some (.string a0_1) := (blk_cell BK210.out 1).trans rfl
          have hcz7_2 : wr.cell? ⟨gb210, 2, none⟩ = some (.slice A0_2 l0_2.length c0_2) := (blk_cell BK210.out 2).trans rfl
          have hfz7_0 := blk_frozen BK210.out 0
          have hfz7_1 := blk_frozen BK210.out 1
          have hfz7_2 := blk_frozen BK210.out 2
          have p211 : 0 ≤ (x6_1 : Int) := of_decide_eq_true (by first | (with_reducible assumption) | assumption)
          have q211 : x6_1 < (l0_2.length : Int) := of_decide_eq_true (by first | (with_reducible assumption) | assumption)
          obtain ⟨ad211, A211_1, c211_1, e211, hx211_0, hx211_1, hl211_1, hi211_1⟩ := at_T53 HR0_2.out x6_1 p211 q211
          cases e211
          replace hx211_0 := (HB.out.cell (World.block_lt_of_cell? w _ hx211_0)).trans hx211_0
          replace hx211_1 := (HB.out.cell (World.block_lt_of_cell? w _ hx211_1)).trans hx211_1
          have HR211_1 := Aside0.mk hi211_1
          have HC211_1 := Aside0.mk hl211_1
          clear hi211_1 hl211_1
          replace p211 := eq_true p211
          replace q211 := eq_true q211
          go_wp2_with (first | ((with_reducible refine gate_callee (f := 23) rfl ?_); refine goesL_ (some 22) rfl rfl Tryd.func23 (by kernel_rfl) rfl #[.slice A211_1 ((rd_T53 l0_2 x6_1).f1).length c211_1, .int .i64 a1] rfl (by (try simp only [List.map_toArray, List.map_cons, List.map_nil]); first | done | rfl | (simp only [List.length_drop, List.length_take]; rfl)) ?_; (with_reducible refine (colloquyref18_Count.calls k1 _ _ ((rd_T53 l0_2 x6_1).f1) a1 t212 _ ?side1 ?side2 A6.out).mono ?_); (case side1 => repeat (first | exact (Kd.C_below HR211_1.out HB.out) | (with_reducible refine Kd.C_alloc ?_ _) | (with_reducible refine Kd.C_drewN ?_ _) | (with_reducible refine Kd.C_drew ?_))); (case side2 => exact HC211_1.out); rintro e w' ⟨rfl, ⟨nd, rfl⟩⟩; refine ⟨_, rfl, ?_⟩))
          go_roundg k1
          case measure => have := HK1.out; omega
          case rel => exact ⟨(wrap64 (x5_1 + t212)), (wrap64 (x6_1 + 1)), (by first | rfl | (simp; done) | (simp [*]; done)), (by first | rfl | (simp; done) | (simp [*]; done)), H', ⟨by have := HK1.out; omega⟩, ⟨by (with_reducible repeat (first | refine blk_drewN ?_ _ | refine blk_drew ?_ | refine blk_alloc ?_ _)); exact BK210.out⟩, ⟨by repeat (first | (with_reducible first | exact HB.out | apply below_alloc | apply pw_below_drewN | apply below_drew1 | refine below_set ?_ GE210.out) | exact HB.out)⟩⟩
        · rw [if_neg c5] at H
          exact absurd H (by simp)
      · rw [if_neg c4] at H
        have c4b0 : decide (x6_1 < (l0_2.length : Int)) = false := decide_eq_false c4
        clear c4
        obtain rfl := Option.some.inj H
        have hcz8_0 : wr.cell? ⟨gb210, 0, none⟩ = some (.string a0_0) := (blk_cell BK210.out 0).trans rfl
        have hcz8_1 : wr.cell? ⟨gb210, 1, none⟩ = some (.string a0_1) := (blk_cell BK210.out 1).trans rfl
        have hcz8_2 : wr.cell? ⟨gb210, 2, none⟩ = some (.slice A0_2 l0_2.length c0_2) := (blk_cell BK210.out 2).trans rfl
        have hfz8_0 := blk_frozen BK210.out 0
        have hfz8_1 := blk_frozen BK210.out 1
        have hfz8_2 := blk_frozen BK210.out 2
        go_wp2
        go_ret
        exact ⟨by first | rfl | (simp [errW_none, errW_some] <;> rfl) | (simp [*, errW_none, errW_some] <;> rfl), by repeat (first | (with_reducible first | exact HB.out | apply below_alloc | apply pw_below_drewN | apply below_drew1 | refine below_set ?_ GE210.out) | exact HB.out)⟩
end
section
attribute [local go_sem] max2_int min2_int max_two min_two max_three min_three max_four min_four   -- for this text's walks alone
def colloquyref18_Text.f (a0 : Int) : Option (ByteArray) := if a0 = 1 then (some (⟨#[80, 65, 83, 83]⟩ : ByteArray)) else (if a0 = 2 then (some (⟨#[70, 65, 73, 76]⟩ : ByteArray)) else (if a0 = 3 then (some (⟨#[88, 80, 65, 83, 83]⟩ : ByteArray)) else (if a0 = 4 then (some (⟨#[88, 70, 65, 73, 76]⟩ : ByteArray)) else (if a0 = 5 then (some (⟨#[85, 78, 82, 69, 83, 79, 76, 86, 69, 68]⟩ : ByteArray)) else (if a0 = 6 then (some (⟨#[85, 78, 84, 69, 83, 84, 69, 68]⟩ : ByteArray)) else (if a0 = 7 then (some (⟨#[85, 78, 83, 85, 80, 80, 79, 82, 84, 69, 68]⟩ : ByteArray)) else (some (⟨#[]⟩ : ByteArray))))))))
theorem colloquyref18_Text.calls (a0 : Int) (r : ByteArray) (w : World) (h : colloquyref18_Text.f a0 = some r) :
    Calls Tryd.prog 45 #[.int .i64 a0] w fun e w' => e = .returned (.string r) ∧ Drawn0 w w' := by
  have H : (if a0 = 1 then (some (⟨#[80, 65, 83, 83]⟩ : ByteArray)) else (if a0 = 2 then (some (⟨#[70, 65, 73, 76]⟩ : ByteArray)) else (if a0 = 3 then (some (⟨#[88, 80, 65, 83, 83]⟩ : ByteArray)) else (if a0 = 4 then (some (⟨#[88, 70, 65, 73, 76]⟩ : ByteArray)) else (if a0 = 5 then (some (⟨#[85, 78, 82, 69, 83, 79, 76, 86, 69, 68]⟩ : ByteArray)) else (if a0 = 6 then (some (⟨#[85, 78, 84, 69, 83, 84, 69, 68]⟩ : ByteArray)) else (if a0 = 7 then (some (⟨#[85, 78, 83, 85, 80, 80, 79, 82, 84, 69, 68]⟩ : ByteArray)) else (some (⟨#[]⟩ : ByteArray))))))))) = some r := h
  clear h
  by_cases c2 : a0 = 1
  · rw [if_pos c2] at H
    have c2b0 : (a0 == 1) = true := beq_iff_eq.mpr c2
    have c2b1 : (a0 != 1) = false := bne_eq_false_iff_eq.mpr c2
    clear c2
    obtain rfl := Option.some.inj H
    go_enter Tryd.func45, Tryd.ntmps45
    go_wp2
    go_ret
    exact ⟨by first | rfl | (simp; done) | (simp [*]; done), by repeat (first | exact Drawn0.refl _ | apply Drawn0.step)⟩
  · rw [if_neg c2] at H
    have c2b0 : (a0 == 1) = false := beq_eq_false_iff_ne.mpr c2
    have c2b1 : (a0 != 1) = true := bne_iff_ne.mpr c2
    by_cases c3 : a0 = 2
    · rw [if_pos c3] at H
      have c3b0 : (a0 == 2) = true := beq_iff_eq.mpr c3
      have c3b1 : (a0 != 2) = false := bne_eq_false_iff_eq.mpr c3
      clear c3
      obtain rfl := Option.some.inj H
      go_enter Tryd.func45, Tryd.ntmps45
      go_wp2
      go_ret
      exact ⟨by first | rfl | (simp; done) | (simp [*]; done), by repeat (first | exact Drawn0.refl _ | apply Drawn0.step)⟩
    · rw [if_neg c3] at H
      have c3b0 : (a0 == 2) = false := beq_eq_false_iff_ne.mpr c3
      have c3b1 : (a0 != 2) = true := bne_iff_ne.mpr c3
      by_cases c4 : a0 = 3
      · rw [if_pos c4] at H
        have c4b0 : (a0 == 3) = true := beq_iff_eq.mpr c4
        have c4b1 : (a0 != 3) = false := bne_eq_false_iff_eq.mpr c4
        clear c4
        obtain rfl := Option.some.inj H
        go_enter Tryd.func45, Tryd.ntmps45
        go_wp2
        go_ret
        exact ⟨by first | rfl | (simp; done) | (simp [*]; done), by repeat (first | exact Drawn0.refl _ | apply Drawn0.step)⟩
      · rw [if_neg c4] at H
        have c4b0 : (a0 == 3) = false := beq_eq_false_iff_ne.mpr c4
        have c4b1 : (a0 != 3) = true := bne_iff_ne.mpr c4
        by_cases c5 : a0 = 4
        · rw [if_pos c5] at H
          have c5b0 : (a0 == 4) = true := beq_iff_eq.mpr c5
          have c5b1 : (a0 != 4) = false := bne_eq_false_iff_eq.mpr c5
          clear c5
          obtain rfl := Option.some.inj H
          go_enter Tryd.func45, Tryd.ntmps45
          go_wp2
          go_ret
          exact ⟨by first | rfl | (simp; done) | (simp [*]; done), by repeat (first | exact Drawn0.refl _ | apply Drawn0.step)⟩
        · rw [if_neg c5] at H
          have c5b0 : (a0 == 4) = false := beq_eq_false_iff_ne.mpr c5
          have c5b1 : (a0 != 4) = true := bne_iff_ne.mpr c5
          by_cases c6 : a0 = 5
          · rw [if_pos c6] at H
            have c6b0 : (a0 == 5) = true := beq_iff_eq.mpr c6
            have c6b1 : (a0 != 5) = false := bne_eq_false_iff_eq.mpr c6
            clear c6
            obtain rfl := Option.some.inj H
            go_enter Tryd.func45, Tryd.ntmps45
            go_wp2
            go_ret
            exact ⟨by first | rfl | (simp; done) | (simp [*]; done), by repeat (first | exact Drawn0.refl _ | apply Drawn0.step)⟩
          · rw [if_neg c6] at H
            have c6b0 : (a0 == 5) = false := beq_eq_false_iff_ne.mpr c6
            have c6b1 : (a0 != 5) = true := bne_iff_ne.mpr c6
            by_cases c7 : a0 = 6
            · rw [if_pos c7] at H
              have c7b0 : (a0 == 6) = true := beq_iff_eq.mpr c7
              have c7b1 : (a0 != 6) = false := bne_eq_false_iff_eq.mpr c7
              clear c7
              obtain rfl := Option.some.inj H
              go_enter Tryd.func45, Tryd.ntmps45
              go_wp2
              go_ret
              exact ⟨by first | rfl | (simp; done) | (simp [*]; done), by repeat (first | exact Drawn0.refl _ | apply Drawn0.step)⟩
            · rw [if_neg c7] at H
              have c7b0 : (a0 == 6) = false := beq_eq_false_iff_ne.mpr c7
              have c7b1 : (a0 != 6) = true := bne_iff_ne.mpr c7
              by_cases c8 : a0 = 7
              · rw [if_pos c8] at H
                have c8b0 : (a0 == 7) = true := beq_iff_eq.mpr c8
                have c8b1 : (a0 != 7) = false := bne_eq_false_iff_eq.mpr c8
                clear c8
                obtain rfl := Option.some.inj H
                go_enter Tryd.func45, Tryd.ntmps45
                go_wp2
                go_ret
                exact ⟨by first | rfl | (simp; done) | (simp [*]; done), by repeat (first | exact Drawn0.refl _ | apply Drawn0.step)⟩
              · rw [if_neg c8] at H
                have c8b0 : (a0 == 7) = false := beq_eq_false_iff_ne.mpr c8
                have c8b1 : (a0 != 7) = true := bne_iff_ne.mpr c8
                obtain rfl := Option.some.inj H
                go_enter Tryd.func45, Tryd.ntmps45
                go_wp2
                go_ret
                exact ⟨by first | rfl | (simp; done) | (simp [*]; done), by repeat (first | exact Drawn0.refl _ | apply Drawn0.step)⟩
end
section
attribute [local go_sem] max2_int min2_int max_two min_two max_three min_three max_four min_four   -- for this text's walks alone
def colloquyref01_Decimal.l0 : Nat → Int → ByteArray → Option (ByteArray)
  | 0, _, _ => none
  | k + 1, x0, x3 => if x3.toList = ([] : List UInt8) then ((some (([(wrap64 (48 + (Int.tmod x0 10))) % 256] : List Int) : List Int)).bind fun y238 => (if (strOfNums y238).size + x3.size ≤ 9223372036854775807 then (colloquyref01_Decimal.l0 k (wrap64 (Int.tdiv x0 10)) ((strOfNums y238) ++ x3)) else (none))) else (if x0 > 0 then ((some (([(wrap64 (48 + (Int.tmod x0 10))) % 256] : List Int) : List Int)).bind fun y241 => (if (strOfNums y241).size + x3.size ≤ 9223372036854775807 then (colloquyref01_Decimal.l0 k (wrap64 (Int.tdiv x0 10)) ((strOfNums y241) ++ x3)) else (none))) else (some x3))
def colloquyref01_Decimal.f (k : Nat) (a0 : Int) : Option (ByteArray) := colloquyref01_Decimal.l0 k a0 (⟨#[]⟩ : ByteArray)
theorem colloquyref01_Decimal.mono_l : ∀ k, (∀ y0 y1, LeO (colloquyref01_Decimal.l0 k y0 y1) (colloquyref01_Decimal.l0 (k + 1) y0 y1))
  | 0 => fun _ _ r h => by simp [colloquyref01_Decimal.l0] at h
  | k + 1 => by
    have ih0 := colloquyref01_Decimal.mono_l k
    · intro y0 y1
      unfold colloquyref01_Decimal.l0
      repeat' first
      | (with_reducible exact ih0 _ _)
      | (with_reducible exact LeO.refl _)
      | (with_reducible exact LeO.none _)
      | (with_reducible refine LeO.ite ?_ ?_)
      | (with_reducible refine LeO.bind ?_ (fun _ => ?_))
      | exact ih0 _ _
      | exact LeO.none _
      | refine LeO.ite ?_ ?_
      | refine LeO.bind ?_ (fun _ => ?_)
theorem colloquyref01_Decimal.mono : ∀ a0 k, LeO (colloquyref01_Decimal.f k a0) (colloquyref01_Decimal.f (k + 1) a0) := by
  intro a0 k
  have ih0 := colloquyref01_Decimal.mono_l k
  unfold colloquyref01_Decimal.f
  repeat' first
      | (with_reducible exact ih0 _ _)
      | (with_reducible exact LeO.refl _)
      | (with_reducible exact LeO.none _)
      | (with_reducible refine LeO.ite ?_ ?_)
      | (with_reducible refine LeO.bind ?_ (fun _ => ?_))
      | exact ih0 _ _
      | exact LeO.none _
      | refine LeO.ite ?_ ?_
      | refine LeO.bind ?_ (fun _ => ?_)
theorem colloquyref01_Decimal.calls (k : Nat) (a0 : Int) (r : ByteArray) (w : World) (h : colloquyref01_Decimal.f k a0 = some r) :
    Calls Tryd.prog 46 #[.int .i64 a0] w fun e w' => e = .returned (.string r) ∧ Below w.heap.size w w' := by
  have HB := Aside0.mk (Below.refl w.heap.size w)
  have H : (colloquyref01_Decimal.l0 k a0 (⟨#[]⟩ : ByteArray)) = some r := h
  clear h
  have H' := Aside0.mk H
  clear H
  go_enter Tryd.func46, Tryd.ntmps46
  go_wp2
  go_loopg [0, 3] k (fun kq v0 v3 w' => ∃ (x0_1 : Int) (x3_1 : ByteArray), v0 = .int .i64 x0_1 ∧ v3 = .string x3_1 ∧ Aside0 (colloquyref01_Decimal.l0 kq x0_1 x3_1 = some r) ∧ Aside0 (kq ≤ k) ∧ Aside0 (Below w.heap.size w w'))
  case atStart => exact ⟨(a0), ((⟨#[]⟩ : ByteArray)), (by first | rfl | (simp; done) | (simp [*]; done)), (by first | rfl | (simp; done) | (simp [*]; done)), H', ⟨Nat.le_refl _⟩, ⟨by repeat (first | (with_reducible first | exact HB.out | apply below_alloc | apply pw_below_drewN | apply below_drew1) | exact HB.out)⟩⟩
  case round =>
    clear H'
    obtain ⟨x0_1, x3_1, rfl, rfl, HA, HK1, HB⟩ := hrel
    cases gk with
    | zero => exact absurd HA.out (by simp [colloquyref01_Decimal.l0])
    | succ k1 =>
      have H := HA.out
      clear HA
      simp only [colloquyref01_Decimal.l0] at H
      by_cases c2 : x3_1.toList = ([] : List UInt8)
      · rw [if_pos c2] at H
        have c2b0 : (x3_1.toList == ([] : List UInt8)) = true := beq_iff_eq.mpr c2
        have c2b1 : (x3_1.toList != ([] : List UInt8)) = false := bne_eq_false_iff_eq.mpr c2
        clear c2
        obtain ⟨y238, hy238⟩ : ∃ y_ : List Int, y_ = (([(wrap64 (48 + (Int.tmod x0_1 10))) % 256] : List Int)) := ⟨_, rfl⟩
        replace H : (if (strOfNums y238).size + x3_1.size ≤ 9223372036854775807 then (colloquyref01_Decimal.l0 k1 (wrap64 (Int.tdiv x0_1 10)) ((strOfNums y238) ++ x3_1)) else (none)) = some r := by first | (rw [hy238]; with_reducible exact H) | (have H2_ := (Option.bind_some _ _).symm.trans H; rw [hy238]; with_reducible exact H2_) | (have H2_ := (Option.bind_some _ _).symm.trans H; with_reducible exact H2_) | with_reducible exact H | (rw [hy238]; exact H) | exact H
        have Ny238 := Aside0.mk hy238
        clear hy238
        by_cases c3 : (strOfNums y238).size + x3_1.size ≤ 9223372036854775807
        · rw [if_pos c3] at H
          have c3b0 := eq_true c3
          have c3b1 : decide ((strOfNums y238).size + x3_1.size ≤ 9223372036854775807) = true := decide_eq_true c3
          try have c3b2 : (9223372036854775807 < (strOfNums y238).size + x3_1.size) = False := eq_false (Nat.not_lt.2 c3)
          try (have c3b3 := c3; simp only [ByteArray.size_append] at c3b3; replace c3b3 := eq_false (Nat.not_lt.2 c3b3))
          have H' := Aside0.mk H
          clear H
          go_wp2_with (first | ((with_reducible refine gate_dst (N := 14) rfl ?_); refine Kd.R_lit (Kd.int .u8) _ 5 ?hg (N := 14) ?hd (xs := ([(wrap64 (48 + (Int.tmod x0_1 10))) % 256] : List Int)) (inner := [.int .u8 ((wrap64 (48 + (Int.tmod x0_1 10))) % 256)]) (ok := fun _ => True) (okp := fun _ => True) ?hr ?hp (fun _ hk => hk) trivial (Below.refl _ _) (Nat.le_refl _) (by simp) ?_; (case hd => rfl); (case hg => rfl); (case hr => first | (go_simp; done) | (go_simp; rfl)); (case hp => exact (Reps.one (show Kd.M (Kd.int .u8) _ _ _ ((wrap64 (48 + (Int.tmod x0_1 10))) % 256) [.int .u8 ((wrap64 (48 + (Int.tmod x0_1 10))) % 256)] from rfl) (Reps.none _ _))); intro v239 w4 ho5 hb hg_ hnew_; clear hg_ hnew_; (first | rw [← Ny238.out] at ho5 | (simp only [Int.reduceToNat] at ho5; rw [← Ny238.out] at ho5)); have n0_ := Aside0.mk (Kd.R_lower ho5 (below_size (by repeat (first | (with_reducible first | exact HB.out | apply below_alloc | apply pw_below_drewN | apply below_drew1) | exact HB.out)))); have n1_ := Aside0.mk (below_step (by repeat (first | (with_reducible first | exact HB.out | apply below_alloc | apply pw_below_drewN | apply below_drew1) | exact HB.out)) hb); clear HB; have HO240 := n0_; have HB := n1_; clear n0_ n1_; clear hb ho5; have hcv6 := own_string (P := Tryd.prog) Tryd.underlying74 Tryd.underlying5 Tryd.underlying9 (Kd.own_of_R HO240.out); have hcv7 := fun (nq : Nat) => own_string (P := Tryd.prog) Tryd.underlying74 Tryd.underlying5 Tryd.underlying9 (Kd.own_of_R (Kd.R_drewN HO240.out nq))))
          go_roundg k1
          case measure => have := HK1.out; omega
          case rel => exact ⟨(wrap64 (Int.tdiv x0_1 10)), ((strOfNums y238) ++ x3_1), (by first | rfl | (simp; done) | (simp [*]; done)), (by first | rfl | (simp; done) | (simp [*]; done)), H', ⟨by have := HK1.out; omega⟩, ⟨by repeat (first | (with_reducible first | exact HB.out | apply below_alloc | apply pw_below_drewN | apply below_drew1) | exact HB.out)⟩⟩
        · rw [if_neg c3] at H
          exact absurd H (by simp)
      · rw [if_neg c2] at H
        have c2b0 : (x3_1.toList == ([] : List UInt8)) = false := beq_eq_false_iff_ne.mpr c2
        have c2b1 : (x3_1.toList != ([] : List UInt8)) = true := bne_iff_ne.mpr c2
        by_cases c8 : x0_1 > 0
        · rw [if_pos c8] at H
          have c8b0 : decide (0 < x0_1) = true := decide_eq_true c8
          clear c8
          obtain ⟨y241, hy241⟩ : ∃ y_ : List Int, y_ = (([(wrap64 (48 + (Int.tmod x0_1 10))) % 256] : List Int)) := ⟨_, rfl⟩
          replace H : (if (strOfNums y241).size + x3_1.size ≤ 9223372036854775807 then (colloquyref01_Decimal.l0 k1 (wrap64 (Int.tdiv x0_1 10)) ((strOfNums y241) ++ x3_1)) else (none)) = some r := by first | (rw [hy241]; with_reducible exact H) | (have H2_ := (Option.bind_some _ _).symm.trans H; rw [hy241]; with_reducible exact H2_) | (have H2_ := (Option.bind_some _ _).symm.trans H; with_reducible exact H2_) | with_reducible exact H | (rw [hy241]; exact H) | exact H
          have Ny241 := Aside0.mk hy241
          clear hy241
          by_cases c9 : (strOfNums y241).size + x3_1.size ≤ 9223372036854775807
          · rw [if_pos c9] at H
            have c9b0 := eq_true c9
            have c9b1 : decide ((strOfNums y241).size + x3_1.size ≤ 9223372036854775807) = true := decide_eq_true c9
            try have c9b2 : (9223372036854775807 < (strOfNums y241).size + x3_1.size) = False := eq_false (Nat.not_lt.2 c9)
            try (have c9b3 := c9; simp only [ByteArray.size_append] at c9b3; replace c9b3 := eq_false (Nat.not_lt.2 c9b3))
            have H' := Aside0.mk H
            clear H
            go_wp2_with (first | ((with_reducible refine gate_dst (N := 14) rfl ?_); refine Kd.R_lit (Kd.int .u8) _ 5 ?hg (N := 14) ?hd (xs := ([(wrap64 (48 + (Int.tmod x0_1 10))) % 256] : List Int)) (inner := [.int .u8 ((wrap64 (48 + (Int.tmod x0_1 10))) % 256)]) (ok := fun _ => True) (okp := fun _ => True) ?hr ?hp (fun _ hk => hk) trivial (Below.refl _ _) (Nat.le_refl _) (by simp) ?_; (case hd => rfl); (case hg => rfl); (case hr => first | (go_simp; done) | (go_simp; rfl)); (case hp => exact (Reps.one (show Kd.M (Kd.int .u8) _ _ _ ((wrap64 (48 + (Int.tmod x0_1 10))) % 256) [.int .u8 ((wrap64 (48 + (Int.tmod x0_1 10))) % 256)] from rfl) (Reps.none _ _))); intro v242 w10 ho11 hb hg_ hnew_; clear hg_ hnew_; (first | rw [← Ny241.out] at ho11 | (simp only [Int.reduceToNat] at ho11; rw [← Ny241.out] at ho11)); have n0_ := Aside0.mk (Kd.R_lower ho11 (below_size (by repeat (first | (with_reducible first | exact HB.out | apply below_alloc | apply pw_below_drewN | apply below_drew1) | exact HB.out)))); have n1_ := Aside0.mk (below_step (by repeat (first | (with_reducible first | exact HB.out | apply below_alloc | apply pw_below_drewN | apply below_drew1) | exact HB.out)) hb); clear HB; have HO243 := n0_; have HB := n1_; clear n0_ n1_; clear hb ho11; have hcv12 := own_string (P := Tryd.prog) Tryd.underlying74 Tryd.underlying5 Tryd.underlying9 (Kd.own_of_R HO243.out); have hcv13 := fun (nq : Nat) => own_string (P := Tryd.prog) Tryd.underlying74 Tryd.underlying5 Tryd.underlying9 (Kd.own_of_R (Kd.R_drewN HO243.out nq))))
            go_roundg k1
            case measure => have := HK1.out; omega
            case rel => exact ⟨(wrap64 (Int.tdiv x0_1 10)), ((strOfNums y241) ++ x3_1), (by first | rfl | (simp; done) | (simp [*]; done)), (by first | rfl | (simp; done) | (simp [*]; done)), H', ⟨by have := HK1.out; omega⟩, ⟨by repeat (first | (with_reducible first | exact HB.out | apply below_alloc | apply pw_below_drewN | apply below_drew1) | exact HB.out)⟩⟩
          · rw [if_neg c9] at H
            exact absurd H (by simp)
        · rw [if_neg c8] at H
          have c8b0 : decide (0 < x0_1) = false := decide_eq_false c8
          clear c8
          obtain rfl := Option.some.inj H
          go_wp2
          go_ret
          exact ⟨by first | rfl | (simp [errW_none, errW_some] <;> rfl) | (simp [*, errW_none, errW_some] <;> rfl), by repeat (first | (with_reducible first | exact HB.out | apply below_alloc | apply pw_below_drewN | apply below_drew1) | exact HB.out)⟩
end
end Go.Proofs.YtljmbgilcngfgaaDoor.PA
