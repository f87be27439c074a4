/- The row of the law MergeMerges: for every input the call returns true and leaves its arguments as they were. Printed by a program of this session. -/
/- What this claim uses of this session's own texts, put together by a program: GCloneE GMerge HFrz GMergeI PAx11 HAliveM GAliveM GMergeL HOpen Ty37 Ty51 Ty35 StmtMergeMerges PureMergeMerges LawMergeMerges. -/
import Derived.Test.YtmhgblhmkhoopaaKMergeMerges1
import Derived.Test.YtmhgblhmkhoopaaProg
import Derived.Test.YtmhgblhmkhoopaaRows
section
namespace Go.Proofs.Ytmhgblhmkhoopaa.PA
open Go.RowKit Go.Proofs.YtmhgblhmkhoopaaW.PrintWords Go.Proofs.YtmhgblhmkhoopaaW.PrintLast Go.Proofs.YtmhgblhmkhoopaaW.PrintMore
set_option linter.unusedVariables false
set_option linter.unusedSimpArgs false
namespace GCloneE_
theorem gwagg3 : ∀ w, (isAgg 3).run Try.prog w = .ok false w := fun _ => by kernel_rfl
theorem gwagg32 : ∀ w, (isAgg 32).run Try.prog w = .ok false w := fun _ => by kernel_rfl
theorem gwagg33 : ∀ w, (isAgg 33).run Try.prog w = .ok false w := fun _ => by kernel_rfl
theorem gwagg35 : ∀ w, (isAgg 35).run Try.prog w = .ok true w := fun _ => by kernel_rfl
theorem gwagg42 : ∀ w, (isAgg 42).run Try.prog w = .ok false w := fun _ => by kernel_rfl
theorem gwfld35_0 (g off : Nat) : ∀ w, (Instr.fieldAt 35 (.pointer (some ⟨g, off, none⟩)) 0).run Try.prog w = .ok (.pointer (some ⟨g, off + 0, none⟩)) w := fun _ => by kernel_rfl
theorem gwfld35_1 (g off : Nat) : ∀ w, (Instr.fieldAt 35 (.pointer (some ⟨g, off, none⟩)) 1).run Try.prog w = .ok (.pointer (some ⟨g, off + 1, none⟩)) w := fun _ => by kernel_rfl
theorem gwfld35_2 (g off : Nat) : ∀ w, (Instr.fieldAt 35 (.pointer (some ⟨g, off, none⟩)) 2).run Try.prog w = .ok (.pointer (some ⟨g, off + 2, none⟩)) w := fun _ => by kernel_rfl
theorem gwinfo42 : (Try.prog.info? 42).map (fun i => (i.zero, i.size, i.bytes)) = some (some (.slice none 0 0), 1, 24) := by kernel_rfl
theorem gwsiz33 : ∀ w, (sizeOf 33).run Try.prog w = .ok 1 w := fun _ => by kernel_rfl
theorem gwsiz35 : ∀ w, (sizeOf 35).run Try.prog w = .ok 3 w := fun _ => by kernel_rfl
theorem gwsiz42 : ∀ w, (sizeOf 42).run Try.prog w = .ok 1 w := fun _ => by kernel_rfl
theorem gwzer35 : ∀ w, (zeroValue 35).run Try.prog w = .ok (.agg #[.int .i64 0, .slice none 0 0, .slice none 0 0]) w := fun _ => by kernel_rfl
set_option maxHeartbeats 4000000 in
set_option maxRecDepth 100000 in
theorem clone_walk (x : EE) (A1 : Option Addr) (c1 : Nat) (A2 : Option Addr) (c2 : Nat) (w : World) (h1 : Kd.C k37 w A1 x.f1.length x.f1) (l1 : x.f1.length ≤ c1) (h2 : Kd.C (Kd.slice 51 k51) w A2 x.f2.length x.f2) (l2 : x.f2.length ≤ c2) (hx : okB x) :
    Calls Try.prog 12 #[.agg #[.int .i64 x.f0, .slice A1 x.f1.length c1, .slice A2 x.f2.length c2]] w fun e w' => ∃ v1 v2 S_, e = .returned (.agg #[.int .i64 x.f0, v1, v2]) ∧ Out w w' (fun _ => False) [Chunk.ent w.heap.size S_ x v1 v2] := by
 obtain ⟨hx1, hx2, hx3⟩ := hx
 refine gw_start (N := 28) (vs := [.agg #[J x.f0, .slice A1 x.f1.length c1, .slice A2 x.f2.length c2]]) Try.func12 rfl rfl (by simp) fun a HF HO => ?_
 replace HO : Own w w [] := HO
 refine gR fun K1 hK1 => ?_
 refine gw_new HF HO (want_none rfl) rfl (by decide) (op_box rfl (HF.ev rfl)) ?_
 intro g2 _ w4 H5 O6; clear HF HO
 have O7 : Own w w4 [Bk g2 [J x.f0, .slice A1 x.f1.length c1, .slice A2 x.f2.length c2] 35] := O6
 clear O6
 refine gw_new H5 O7 (want_none rfl) rfl (by decide) (op_alloc gwzer35 rfl) ?_
 intro g8 _ w10 H11 O12; clear H5 O7
 have O13 : Own w w10 [Bk g8 [J 0, .slice none 0 0, .slice none 0 0] 35, Bk g2 [J x.f0, .slice A1 x.f1.length c1, .slice A2 x.f2.length c2] 35] := O12
 clear O12
 refine gE hK1 ?_
 refine gw_seq fun K14 hK14 => ?_
 refine gx_draw (M := [Bk g8 [J 0, .slice none 0 0, .slice none 0 0] 35, Bk g2 [J x.f0, .slice A1 x.f1.length c1, .slice A2 x.f2.length c2] 35]) (fun j_ => j_ == 7) O13 (by kernel_rfl) fun w15 O16 => ?_
 clear O13
 refine gx_take 0 rfl (by kernel_rfl) H11 (by exact O16.sel [0, 1] (by decide)) (want_none rfl) rfl (by decide) (fun wq HO => (op_field (gwfld35_0 _ _) rfl (H11.ev rfl))) ?_
 intro _ H18; clear H11
 refine gx_take 1 rfl (by kernel_rfl) H18 (by exact O16.sel [0, 1] (by decide)) (want_none rfl) rfl (by decide) (fun wq HO => (op_load1 gwagg3 rfl (H18.ev rfl) (blk_at (HO.get 1 rfl) rfl))) ?_
 intro _ H20; clear H18
 refine gx_take 2 rfl (by kernel_rfl) H20 (by exact O16.sel [0, 1] (by decide)) (want_none rfl) rfl (by decide) (fun wq HO => (op_field (gwfld35_1 _ _) rfl (H20.ev rfl))) ?_
 intro _ H22; clear H20
 refine gx_take 3 rfl (by kernel_rfl) H22 (by exact O16.sel [0, 1] (by decide)) (want_none rfl) rfl (by decide) (fun wq HO => (op_load1 gwagg32 rfl (H22.ev rfl) (blk_at (HO.get 1 rfl) rfl))) ?_
 intro _ H24; clear H22
 refine gx_step2 4 6 rfl rfl (by kernel_rfl) ?_ ?_
 ·
  refine gw_call H24 (want_none rfl) rfl (by decide) (op_callL Try.func18 (by kernel_rfl) rfl rfl (ar_cons (H24.ev rfl) ar_nil)) (clone0_R A1 c1 x.f1 _ (Kd.C_below h1 O16.below) l1 (hx1)) ?_
  rintro e28 w29 ⟨A25, c26, S27, rfl, hb30⟩
  refine ⟨_, rfl, fun _ H32 => ?_⟩
  have O33 := O16.fresh hb30
  have hbel34 := O16.below
  clear H24 O16 hb30
  have O35 := O33.lowrow 0 rfl (base' := w.heap.size) (Below.size hbel34)
  refine gx_on (i := 4) (B := (fun j_ => j_ == 7)) (fun _ => (by exact O35.sel [1, 2] (by decide))) ?_
  refine gx_take 5 rfl (by kernel_rfl) H32 (by exact O35.sel [1, 2] (by decide)) (want_none rfl) rfl (by decide) (fun wq HO => (op_build (cells := #[J x.f0, .slice A25 x.f1.length c26, .slice none 0 0]) rfl (pt_cons (H32.ev rfl) (pt_cons (H32.ev rfl) pt_nil)) (by kernel_rfl))) ?_
  intro _ H37; clear H32
  refine gx_step 6 rfl (by kernel_rfl) ?_
  refine gw_new H37 O35 (want_none rfl) rfl (by decide) (op_alloc gwzer35 rfl) ?_
  intro g38 _ w40 H41 O42; clear H37 O35
  have O43 : Own w w40 [Bk g38 [J 0, .slice none 0 0, .slice none 0 0] 35, Chunk.row k37 37 w.heap.size S27 (.slice A25 x.f1.length c26) x.f1, Bk g8 [J 0, .slice none 0 0, .slice none 0 0] 35, Bk g2 [J x.f0, .slice A1 x.f1.length c1, .slice A2 x.f2.length c2] 35] := O42
  clear O42
  refine gx_on (i := 6) (B := (fun j_ => j_ == 7)) (fun _ => (by exact O43.sel [2, 3] (by decide))) ?_
  refine gx_step 7 rfl (by kernel_rfl) ?_
  refine gw_setn 0 H41 O43 rfl (want_none rfl) rfl (op_storen gwsiz35 rfl (H41.ev rfl) (H41.ev rfl) (O43.get 0 rfl) rfl (by simp) (by simp [Value.oneCell'])) ?_
  intro _ w46 H45 O47; clear H41 O43
  refine gx_on (i := 7) (B := (fun j_ => j_ == 7)) (fun h_ => by cases h_) ?_
  refine gx_done (by kernel_rfl) ?_
  refine gw_nx (hK14 _ _ ?_)
  refine gw_seq fun K48 hK48 => ?_
  refine gR fun K49 hK49 => ?_
  refine V H45 (op_field (gwfld35_2 _ _) rfl (H45.ev rfl)) ?_
  intro _ H51; clear H45
  refine V H51 (op_load1 gwagg33 rfl (H51.ev rfl) (blk_at (O47.get 3 rfl) rfl)) ?_
  intro _ H53; clear H51
  refine V H53 (op_len Try.underlying33 rfl (H53.ev rfl)) ?_
  intro _ H55; clear H53
  refine V H55 (op_move rfl (ev_c _ _)) ?_
  intro _ H57; clear H55
  refine gE hK49 ?_
  refine wp_block ?_
  have O58 := O47.row_nil (Kd.slice 51 k51) 42 w.heap.size
  clear O47
  have O59 : Own w w46 [Chunk.row (Kd.slice 51 k51) 42 w.heap.size (fun _ => False) (.slice none (([] : List (List S51)).length) 0) ([] : List (List S51)), Bk g38 [J x.f0, .slice A25 x.f1.length c26, .slice none (([] : List (List S51)).length) 0] 35, Chunk.row k37 37 w.heap.size S27 (.slice A25 x.f1.length c26) x.f1, Bk g8 [J 0, .slice none 0 0, .slice none 0 0] 35, Bk g2 [J x.f0, .slice A1 x.f1.length c1, .slice A2 x.f2.length c2] 35] := O58
  clear O58
  refine gw_loop (fun m_ a_ w_ => ∃ (i : Int) (At : Option Addr) (ct : Nat) (St : Nat → Prop), Fr 28 a_ [(15, J i), (2, .pointer (some ⟨g8, 0, none⟩)), (3, .pointer (some ⟨g38, 0, none⟩)), (13, .slice A2 x.f2.length c2), (14, J (x.f2.length : Int))] ∧ Own w w_ [Chunk.row (Kd.slice 51 k51) 42 w.heap.size St (.slice At ((x.f2.take i.toNat).length) ct) (x.f2.take i.toNat), Bk g38 [J x.f0, .slice A25 x.f1.length c26, .slice At ((x.f2.take i.toNat).length) ct] 35, Chunk.row k37 37 w.heap.size S27 (.slice A25 x.f1.length c26) x.f1, Bk g8 [J 0, .slice none 0 0, .slice none 0 0] 35, Bk g2 [J x.f0, .slice A1 x.f1.length c1, .slice A2 x.f2.length c2] 35] ∧ (0 ≤ i ∧ i ≤ x.f2.length) ∧ m_ = (x.f2.length - i.toNat)) ((x.f2.length - (0 : Int).toNat)) ?_ ?_
  ·
   refine ⟨0, none, 0, (fun _ => False), (H57.pick (t := 15) rfl (H57.pick (t := 2) rfl (H57.pick (t := 3) rfl (H57.pick (t := 13) rfl (H57.pick (t := 14) rfl H57.nil))))), O59.sel [0, 1, 2, 3, 4] (by decide), ?_, rfl⟩
   ·
    omega
  ·
   rintro m61 _ w63 ⟨i, At, ct, St, H64, O65, hi, hm66⟩
   refine gR fun K67 hK67 => ?_
   refine V H64 (op_lss rfl (H64.ev rfl) (H64.ev rfl)) ?_
   intro _ H69; clear H64
   refine gE hK67 ?_
   refine gw_seq fun K70 hK70 => ?_
   refine gw_cond H69 rfl (fun hb71 => ?_) (fun hb71 => ?_)
   ·
    have H72 := H69.subst_ (d := 16) (b := true) rfl hb71
    clear H69
    (try simp only [decide_eq_true_eq] at hb71)
    refine wp_skip ?_
    refine gw_nx (hK70 _ _ ?_)
    refine gw_seq fun K73 hK73 => ?_
    refine wp_block ?_
    refine gR fun K74 hK74 => ?_
    obtain ⟨ad75, cs78, hA76, hl79, hK80, hc77⟩ := Kd.C_get h2 ([] : List S51) i (by omega) (by omega)
    obtain ⟨A81, c82, rfl, hl83, hC84⟩ := id hK80
    clear hl79
    refine V H72 (op_index Try.underlying33 gwsiz42 rfl (H72.ev rfl) (H72.ev rfl) hA76 (⟨by omega, by omega⟩)) ?_
    intro _ H86; clear H72
    refine V H86 (op_load1 gwagg42 rfl (H86.ev rfl) (O65.cell0 (at0 hc77))) ?_
    intro _ H88; clear H86
    refine V H88 (op_assign rfl (H88.ev rfl)) ?_
    intro _ H90; clear H88
    refine gE hK74 ?_
    refine gx_draw (M := [Bk g38 [J x.f0, .slice A25 x.f1.length c26, .slice At ((x.f2.take i.toNat).length) ct] 35, Chunk.row k37 37 w.heap.size S27 (.slice A25 x.f1.length c26) x.f1, Bk g8 [J 0, .slice none 0 0, .slice none 0 0] 35, Bk g2 [J x.f0, .slice A1 x.f1.length c1, .slice A2 x.f2.length c2] 35]) (fun j_ => j_ == 5 || j_ == 7) O65 (by kernel_rfl) fun w91 O92 => ?_
    clear O65
    refine gx_step2 0 2 rfl rfl (by kernel_rfl) ?_ ?_
    ·
     refine V H90 (op_field (gwfld35_2 _ _) rfl (H90.ev rfl)) ?_
     intro _ H94; clear H90
     refine gx_on (i := 0) (B := (fun j_ => j_ == 5 || j_ == 7)) (fun _ => (by exact O92.sel [1, 2, 3, 4] (by decide))) ?_
     refine gx_take 1 rfl (by kernel_rfl) H94 (by exact O92.sel [1, 2, 3, 4] (by decide)) (want_none rfl) rfl (by decide) (fun wq HO => (op_load1 gwagg33 rfl (H94.ev rfl) (blk_at (HO.get 0 rfl) rfl))) ?_
     intro _ H96; clear H94
     refine gx_step 2 rfl (by kernel_rfl) ?_
     refine V H96 (op_move rfl (H96.ev rfl)) ?_
     intro _ H98; clear H96
     refine gx_on (i := 2) (B := (fun j_ => j_ == 5 || j_ == 7)) (fun _ => (by exact O92.sel [1, 2, 3, 4] (by decide))) ?_
     refine gx_step 3 rfl (by kernel_rfl) ?_
     refine gw_call H98 (want_none rfl) rfl (by decide) (op_callL Try.func19 (by kernel_rfl) rfl rfl (ar_cons (H98.ev rfl) ar_nil)) (clone0_V A81 c82 (x.f2.getD i.toNat ([] : List S51)) _ (Kd.C_below hC84 O92.below) hl83 (hx3 _ (getD_mem (z := ([] : List S51)) x.f2 i.toNat (by omega)))) ?_
     rintro e102 w103 ⟨A99, c100, S101, rfl, hb104⟩
     refine ⟨_, rfl, fun _ H106 => ?_⟩
     have O107 := O92.fresh hb104
     have hbel108 := O92.below
     clear H98 O92 hb104
     have O109 := O107.lowrow 0 rfl (base' := w.heap.size) (Below.size hbel108)
     refine gx_on (i := 3) (B := (fun j_ => j_ == 5 || j_ == 7)) (fun _ => (by exact O109.sel [2, 3, 4, 5] (by decide))) ?_
     refine gx_step 4 rfl (by kernel_rfl) ?_
     refine gw_news (O := .cells #[.slice A99 ((x.f2.getD i.toNat ([] : List S51)).length) c100] 42 (0, 0)) (n := 1) H106 O109 (want_none rfl) rfl (by decide) (op_bslice (by kernel_rfl) rfl (pt_cons (H106.ev rfl) pt_nil)) ?_
     intro g110 _ w112 H113 O114; clear H106 O109
     have O115 : Own w w112 [Bk g110 [.slice A99 ((x.f2.getD i.toNat ([] : List S51)).length) c100] 42, Chunk.row k51 51 w.heap.size S101 (.slice A99 ((x.f2.getD i.toNat ([] : List S51)).length) c100) (x.f2.getD i.toNat ([] : List S51)), Chunk.row (Kd.slice 51 k51) 42 w.heap.size St (.slice At ((x.f2.take i.toNat).length) ct) (x.f2.take i.toNat), Bk g38 [J x.f0, .slice A25 x.f1.length c26, .slice At ((x.f2.take i.toNat).length) ct] 35, Chunk.row k37 37 w.heap.size S27 (.slice A25 x.f1.length c26) x.f1, Bk g8 [J 0, .slice none 0 0, .slice none 0 0] 35, Bk g2 [J x.f0, .slice A1 x.f1.length c1, .slice A2 x.f2.length c2] 35] := O114
     clear O114
     refine gx_on (i := 4) (B := (fun j_ => j_ == 5 || j_ == 7)) (fun _ => (by exact O115.sel [3, 4, 5, 6] (by decide))) ?_
     refine gx_step 5 rfl (by kernel_rfl) ?_
     have O116 : Own w _ [Chunk.row (Kd.slice 51 k51) 42 w.heap.size St (.slice At ((x.f2.take i.toNat).length) ct) (x.f2.take i.toNat), Chunk.row k51 51 w.heap.size S101 (.slice A99 ((x.f2.getD i.toNat ([] : List S51)).length) c100) (x.f2.getD i.toNat ([] : List S51)), Bk g110 [.slice A99 ((x.f2.getD i.toNat ([] : List S51)).length) c100] 42, Bk g38 [J x.f0, .slice A25 x.f1.length c26, .slice At ((x.f2.take i.toNat).length) ct] 35, Chunk.row k37 37 w.heap.size S27 (.slice A25 x.f1.length c26) x.f1, Bk g8 [J 0, .slice none 0 0, .slice none 0 0] 35, Bk g2 [J x.f0, .slice A1 x.f1.length c1, .slice A2 x.f2.length c2] 35] := O115.sel [2, 1, 0, 3, 4, 5, 6] (by decide)
     refine gw_append1 (Kd.slice 51 k51) 0 (p := (x.f2.getD i.toNat ([] : List S51))) (cs := [.slice A99 ((x.f2.getD i.toNat ([] : List S51)).length) c100]) H113 O116 (want_none rfl) rfl (by decide) rfl Try.underlying33 gwinfo42 rfl (by decide) (by decide) rfl (H113.ev rfl) (H113.ev rfl) (fun w_ h_ => ⟨_, rfl, h_⟩) O116.below.size (by rw [List.length_take]; omega) ?_
     intro A117 c118 S119 _ w121 H122 O123; clear H113 O115 O116
     have O124 : Own w w121 [Chunk.row (Kd.slice 51 k51) 42 w.heap.size S119 (.slice A117 (((x.f2.take i.toNat) ++ [(x.f2.getD i.toNat ([] : List S51))]).length) c118) ((x.f2.take i.toNat) ++ [(x.f2.getD i.toNat ([] : List S51))]), Bk g110 [.slice A99 ((x.f2.getD i.toNat ([] : List S51)).length) c100] 42, Bk g38 [J x.f0, .slice A25 x.f1.length c26, .slice At ((x.f2.take i.toNat).length) ct] 35, Chunk.row k37 37 w.heap.size S27 (.slice A25 x.f1.length c26) x.f1, Bk g8 [J 0, .slice none 0 0, .slice none 0 0] 35, Bk g2 [J x.f0, .slice A1 x.f1.length c1, .slice A2 x.f2.length c2] 35] := O123
     clear O123
     refine gx_on (i := 5) (B := (fun j_ => j_ == 5 || j_ == 7)) (fun h_ => by cases h_) ?_
     refine gx_step 6 rfl (by kernel_rfl) ?_
     refine V H122 (op_field (gwfld35_2 _ _) rfl (H122.ev rfl)) ?_
     intro _ H126; clear H122
     refine gx_on (i := 6) (B := (fun j_ => j_ == 5 || j_ == 7)) (fun _ => (by exact O124.sel [2, 3, 4, 5] (by decide))) ?_
     refine gx_step 7 rfl (by kernel_rfl) ?_
     refine gw_set 2 H126 O124 rfl (want_none rfl) rfl (op_store1 gwsiz33 rfl (H126.ev rfl) (H126.ev rfl) rfl (blk_at (O124.get 2 rfl) rfl) (blkf (O124.get 2 rfl))) ?_
     intro _ w129 H128 O130; clear H126 O124
     refine gx_on (i := 7) (B := (fun j_ => j_ == 5 || j_ == 7)) (fun h_ => by cases h_) ?_
     refine gx_done (by kernel_rfl) ?_
     refine gw_blk ?_
     refine gw_nx (hK73 _ _ ?_)
     refine wp_region_lit ?_
     refine V H128 (op_add rfl (H128.ev rfl) (ev_c _ _) (by omega)) ?_
     intro _ H132; clear H128
     refine V H132 (op_move rfl (H132.ev rfl)) ?_
     intro _ H134; clear H132
     refine wpList_nil ?_
     rw [show x.f2.take i.toNat ++ [x.f2.getD i.toNat ([] : List S51)] = x.f2.take (i + 1).toNat from take_nextL _ _ (by omega) (by omega)] at O130
     (try rw [show x.f2.take i.toNat ++ [x.f2.getD i.toNat ([] : List S51)] = x.f2.take (i + 1).toNat from take_nextL _ _ (by omega) (by omega)] at H134)
     refine gw_nx ⟨_, ?_, i + 1, A117, c118, S119, (H134.pick (t := 15) rfl (H134.pick (t := 2) rfl (H134.pick (t := 3) rfl (H134.pick (t := 13) rfl (H134.pick (t := 14) rfl H134.nil))))), O130.sel [0, 2, 3, 4, 5] (by decide), ?_, rfl⟩
     ·
      rw [hm66]; omega
     ·
      omega
    ·
     refine V H90 (op_move rfl (H90.ev rfl)) ?_
     intro _ H136; clear H90
     refine gx_on (i := 2) (B := (fun j_ => j_ == 5 || j_ == 7)) (fun _ => (by exact O92.sel [1, 2, 3, 4] (by decide))) ?_
     refine gx_step2 0 3 rfl rfl (by kernel_rfl) ?_ ?_
     ·
      refine V H136 (op_field (gwfld35_2 _ _) rfl (H136.ev rfl)) ?_
      intro _ H138; clear H136
      refine gx_on (i := 0) (B := (fun j_ => j_ == 5 || j_ == 7)) (fun _ => (by exact O92.sel [1, 2, 3, 4] (by decide))) ?_
      refine gx_take 1 rfl (by kernel_rfl) H138 (by exact O92.sel [1, 2, 3, 4] (by decide)) (want_none rfl) rfl (by decide) (fun wq HO => (op_load1 gwagg33 rfl (H138.ev rfl) (blk_at (HO.get 0 rfl) rfl))) ?_
      intro _ H140; clear H138
      refine gx_step 3 rfl (by kernel_rfl) ?_
      refine gw_call H140 (want_none rfl) rfl (by decide) (op_callL Try.func19 (by kernel_rfl) rfl rfl (ar_cons (H140.ev rfl) ar_nil)) (clone0_V A81 c82 (x.f2.getD i.toNat ([] : List S51)) _ (Kd.C_below hC84 O92.below) hl83 (hx3 _ (getD_mem (z := ([] : List S51)) x.f2 i.toNat (by omega)))) ?_
      rintro e144 w145 ⟨A141, c142, S143, rfl, hb146⟩
      refine ⟨_, rfl, fun _ H148 => ?_⟩
      have O149 := O92.fresh hb146
      have hbel150 := O92.below
      clear H140 O92 hb146
      have O151 := O149.lowrow 0 rfl (base' := w.heap.size) (Below.size hbel150)
      refine gx_on (i := 3) (B := (fun j_ => j_ == 5 || j_ == 7)) (fun _ => (by exact O151.sel [2, 3, 4, 5] (by decide))) ?_
      refine gx_step 4 rfl (by kernel_rfl) ?_
      refine gw_news (O := .cells #[.slice A141 ((x.f2.getD i.toNat ([] : List S51)).length) c142] 42 (0, 0)) (n := 1) H148 O151 (want_none rfl) rfl (by decide) (op_bslice (by kernel_rfl) rfl (pt_cons (H148.ev rfl) pt_nil)) ?_
      intro g152 _ w154 H155 O156; clear H148 O151
      have O157 : Own w w154 [Bk g152 [.slice A141 ((x.f2.getD i.toNat ([] : List S51)).length) c142] 42, Chunk.row k51 51 w.heap.size S143 (.slice A141 ((x.f2.getD i.toNat ([] : List S51)).length) c142) (x.f2.getD i.toNat ([] : List S51)), Chunk.row (Kd.slice 51 k51) 42 w.heap.size St (.slice At ((x.f2.take i.toNat).length) ct) (x.f2.take i.toNat), Bk g38 [J x.f0, .slice A25 x.f1.length c26, .slice At ((x.f2.take i.toNat).length) ct] 35, Chunk.row k37 37 w.heap.size S27 (.slice A25 x.f1.length c26) x.f1, Bk g8 [J 0, .slice none 0 0, .slice none 0 0] 35, Bk g2 [J x.f0, .slice A1 x.f1.length c1, .slice A2 x.f2.length c2] 35] := O156
      clear O156
      refine gx_on (i := 4) (B := (fun j_ => j_ == 5 || j_ == 7)) (fun _ => (by exact O157.sel [3, 4, 5, 6] (by decide))) ?_
      refine gx_step 5 rfl (by kernel_rfl) ?_
      have O158 : Own w _ [Chunk.row (Kd.slice 51 k51) 42 w.heap.size St (.slice At ((x.f2.take i.toNat).length) ct) (x.f2.take i.toNat), Chunk.row k51 51 w.heap.size S143 (.slice A141 ((x.f2.getD i.toNat ([] : List S51)).length) c142) (x.f2.getD i.toNat ([] : List S51)), Bk g152 [.slice A141 ((x.f2.getD i.toNat ([] : List S51)).length) c142] 42, Bk g38 [J x.f0, .slice A25 x.f1.length c26, .slice At ((x.f2.take i.toNat).length) ct] 35, Chunk.row k37 37 w.heap.size S27 (.slice A25 x.f1.length c26) x.f1, Bk g8 [J 0, .slice none 0 0, .slice none 0 0] 35, Bk g2 [J x.f0, .slice A1 x.f1.length c1, .slice A2 x.f2.length c2] 35] := O157.sel [2, 1, 0, 3, 4, 5, 6] (by decide)
      refine gw_append1 (Kd.slice 51 k51) 0 (p := (x.f2.getD i.toNat ([] : List S51))) (cs := [.slice A141 ((x.f2.getD i.toNat ([] : List S51)).length) c142]) H155 O158 (want_none rfl) rfl (by decide) rfl Try.underlying33 gwinfo42 rfl (by decide) (by decide) rfl (H155.ev rfl) (H155.ev rfl) (fun w_ h_ => ⟨_, rfl, h_⟩) O158.below.size (by rw [List.length_take]; omega) ?_
      intro A159 c160 S161 _ w163 H164 O165; clear H155 O157 O158
      have O166 : Own w w163 [Chunk.row (Kd.slice 51 k51) 42 w.heap.size S161 (.slice A159 (((x.f2.take i.toNat) ++ [(x.f2.getD i.toNat ([] : List S51))]).length) c160) ((x.f2.take i.toNat) ++ [(x.f2.getD i.toNat ([] : List S51))]), Bk g152 [.slice A141 ((x.f2.getD i.toNat ([] : List S51)).length) c142] 42, Bk g38 [J x.f0, .slice A25 x.f1.length c26, .slice At ((x.f2.take i.toNat).length) ct] 35, Chunk.row k37 37 w.heap.size S27 (.slice A25 x.f1.length c26) x.f1, Bk g8 [J 0, .slice none 0 0, .slice none 0 0] 35, Bk g2 [J x.f0, .slice A1 x.f1.length c1, .slice A2 x.f2.length c2] 35] := O165
      clear O165
      refine gx_on (i := 5) (B := (fun j_ => j_ == 5 || j_ == 7)) (fun h_ => by cases h_) ?_
      refine gx_step 6 rfl (by kernel_rfl) ?_
      refine V H164 (op_field (gwfld35_2 _ _) rfl (H164.ev rfl)) ?_
      intro _ H168; clear H164
      refine gx_on (i := 6) (B := (fun j_ => j_ == 5 || j_ == 7)) (fun _ => (by exact O166.sel [2, 3, 4, 5] (by decide))) ?_
      refine gx_step 7 rfl (by kernel_rfl) ?_
      refine gw_set 2 H168 O166 rfl (want_none rfl) rfl (op_store1 gwsiz33 rfl (H168.ev rfl) (H168.ev rfl) rfl (blk_at (O166.get 2 rfl) rfl) (blkf (O166.get 2 rfl))) ?_
      intro _ w171 H170 O172; clear H168 O166
      refine gx_on (i := 7) (B := (fun j_ => j_ == 5 || j_ == 7)) (fun h_ => by cases h_) ?_
      refine gx_done (by kernel_rfl) ?_
      refine gw_blk ?_
      refine gw_nx (hK73 _ _ ?_)
      refine wp_region_lit ?_
      refine V H170 (op_add rfl (H170.ev rfl) (ev_c _ _) (by omega)) ?_
      intro _ H174; clear H170
      refine V H174 (op_move rfl (H174.ev rfl)) ?_
      intro _ H176; clear H174
      refine wpList_nil ?_
      rw [show x.f2.take i.toNat ++ [x.f2.getD i.toNat ([] : List S51)] = x.f2.take (i + 1).toNat from take_nextL _ _ (by omega) (by omega)] at O172
      (try rw [show x.f2.take i.toNat ++ [x.f2.getD i.toNat ([] : List S51)] = x.f2.take (i + 1).toNat from take_nextL _ _ (by omega) (by omega)] at H176)
      refine gw_nx ⟨_, ?_, i + 1, A159, c160, S161, (H176.pick (t := 15) rfl (H176.pick (t := 2) rfl (H176.pick (t := 3) rfl (H176.pick (t := 13) rfl (H176.pick (t := 14) rfl H176.nil))))), O172.sel [0, 2, 3, 4, 5] (by decide), ?_, rfl⟩
      ·
       rw [hm66]; omega
      ·
       omega
     ·
      refine gw_call H136 (want_none rfl) rfl (by decide) (op_callL Try.func19 (by kernel_rfl) rfl rfl (ar_cons (H136.ev rfl) ar_nil)) (clone0_V A81 c82 (x.f2.getD i.toNat ([] : List S51)) _ (Kd.C_below hC84 O92.below) hl83 (hx3 _ (getD_mem (z := ([] : List S51)) x.f2 i.toNat (by omega)))) ?_
      rintro e180 w181 ⟨A177, c178, S179, rfl, hb182⟩
      refine ⟨_, rfl, fun _ H184 => ?_⟩
      have O185 := O92.fresh hb182
      have hbel186 := O92.below
      clear H136 O92 hb182
      have O187 := O185.lowrow 0 rfl (base' := w.heap.size) (Below.size hbel186)
      refine gx_on (i := 3) (B := (fun j_ => j_ == 5 || j_ == 7)) (fun _ => (by exact O187.sel [2, 3, 4, 5] (by decide))) ?_
      refine gx_step2 0 4 rfl rfl (by kernel_rfl) ?_ ?_
      ·
       refine V H184 (op_field (gwfld35_2 _ _) rfl (H184.ev rfl)) ?_
       intro _ H189; clear H184
       refine gx_on (i := 0) (B := (fun j_ => j_ == 5 || j_ == 7)) (fun _ => (by exact O187.sel [2, 3, 4, 5] (by decide))) ?_
       refine gx_take 1 rfl (by kernel_rfl) H189 (by exact O187.sel [2, 3, 4, 5] (by decide)) (want_none rfl) rfl (by decide) (fun wq HO => (op_load1 gwagg33 rfl (H189.ev rfl) (blk_at (HO.get 0 rfl) rfl))) ?_
       intro _ H191; clear H189
       refine gx_step 4 rfl (by kernel_rfl) ?_
       refine gw_news (O := .cells #[.slice A177 ((x.f2.getD i.toNat ([] : List S51)).length) c178] 42 (0, 0)) (n := 1) H191 O187 (want_none rfl) rfl (by decide) (op_bslice (by kernel_rfl) rfl (pt_cons (H191.ev rfl) pt_nil)) ?_
       intro g192 _ w194 H195 O196; clear H191 O187
       have O197 : Own w w194 [Bk g192 [.slice A177 ((x.f2.getD i.toNat ([] : List S51)).length) c178] 42, Chunk.row k51 51 w.heap.size S179 (.slice A177 ((x.f2.getD i.toNat ([] : List S51)).length) c178) (x.f2.getD i.toNat ([] : List S51)), Chunk.row (Kd.slice 51 k51) 42 w.heap.size St (.slice At ((x.f2.take i.toNat).length) ct) (x.f2.take i.toNat), Bk g38 [J x.f0, .slice A25 x.f1.length c26, .slice At ((x.f2.take i.toNat).length) ct] 35, Chunk.row k37 37 w.heap.size S27 (.slice A25 x.f1.length c26) x.f1, Bk g8 [J 0, .slice none 0 0, .slice none 0 0] 35, Bk g2 [J x.f0, .slice A1 x.f1.length c1, .slice A2 x.f2.length c2] 35] := O196
       clear O196
       refine gx_on (i := 4) (B := (fun j_ => j_ == 5 || j_ == 7)) (fun _ => (by exact O197.sel [3, 4, 5, 6] (by decide))) ?_
       refine gx_step 5 rfl (by kernel_rfl) ?_
       have O198 : Own w _ [Chunk.row (Kd.slice 51 k51) 42 w.heap.size St (.slice At ((x.f2.take i.toNat).length) ct) (x.f2.take i.toNat), Chunk.row k51 51 w.heap.size S179 (.slice A177 ((x.f2.getD i.toNat ([] : List S51)).length) c178) (x.f2.getD i.toNat ([] : List S51)), Bk g192 [.slice A177 ((x.f2.getD i.toNat ([] : List S51)).length) c178] 42, Bk g38 [J x.f0, .slice A25 x.f1.length c26, .slice At ((x.f2.take i.toNat).length) ct] 35, Chunk.row k37 37 w.heap.size S27 (.slice A25 x.f1.length c26) x.f1, Bk g8 [J 0, .slice none 0 0, .slice none 0 0] 35, Bk g2 [J x.f0, .slice A1 x.f1.length c1, .slice A2 x.f2.length c2] 35] := O197.sel [2, 1, 0, 3, 4, 5, 6] (by decide)
       refine gw_append1 (Kd.slice 51 k51) 0 (p := (x.f2.getD i.toNat ([] : List S51))) (cs := [.slice A177 ((x.f2.getD i.toNat ([] : List S51)).length) c178]) H195 O198 (want_none rfl) rfl (by decide) rfl Try.underlying33 gwinfo42 rfl (by decide) (by decide) rfl (H195.ev rfl) (H195.ev rfl) (fun w_ h_ => ⟨_, rfl, h_⟩) O198.below.size (by rw [List.length_take]; omega) ?_
       intro A199 c200 S201 _ w203 H204 O205; clear H195 O197 O198
       have O206 : Own w w203 [Chunk.row (Kd.slice 51 k51) 42 w.heap.size S201 (.slice A199 (((x.f2.take i.toNat) ++ [(x.f2.getD i.toNat ([] : List S51))]).length) c200) ((x.f2.take i.toNat) ++ [(x.f2.getD i.toNat ([] : List S51))]), Bk g192 [.slice A177 ((x.f2.getD i.toNat ([] : List S51)).length) c178] 42, Bk g38 [J x.f0, .slice A25 x.f1.length c26, .slice At ((x.f2.take i.toNat).length) ct] 35, Chunk.row k37 37 w.heap.size S27 (.slice A25 x.f1.length c26) x.f1, Bk g8 [J 0, .slice none 0 0, .slice none 0 0] 35, Bk g2 [J x.f0, .slice A1 x.f1.length c1, .slice A2 x.f2.length c2] 35] := O205
       clear O205
       refine gx_on (i := 5) (B := (fun j_ => j_ == 5 || j_ == 7)) (fun h_ => by cases h_) ?_
       refine gx_step 6 rfl (by kernel_rfl) ?_
       refine V H204 (op_field (gwfld35_2 _ _) rfl (H204.ev rfl)) ?_
       intro _ H208; clear H204
       refine gx_on (i := 6) (B := (fun j_ => j_ == 5 || j_ == 7)) (fun _ => (by exact O206.sel [2, 3, 4, 5] (by decide))) ?_
       refine gx_step 7 rfl (by kernel_rfl) ?_
       refine gw_set 2 H208 O206 rfl (want_none rfl) rfl (op_store1 gwsiz33 rfl (H208.ev rfl) (H208.ev rfl) rfl (blk_at (O206.get 2 rfl) rfl) (blkf (O206.get 2 rfl))) ?_
       intro _ w211 H210 O212; clear H208 O206
       refine gx_on (i := 7) (B := (fun j_ => j_ == 5 || j_ == 7)) (fun h_ => by cases h_) ?_
       refine gx_done (by kernel_rfl) ?_
       refine gw_blk ?_
       refine gw_nx (hK73 _ _ ?_)
       refine wp_region_lit ?_
       refine V H210 (op_add rfl (H210.ev rfl) (ev_c _ _) (by omega)) ?_
       intro _ H214; clear H210
       refine V H214 (op_move rfl (H214.ev rfl)) ?_
       intro _ H216; clear H214
       refine wpList_nil ?_
       rw [show x.f2.take i.toNat ++ [x.f2.getD i.toNat ([] : List S51)] = x.f2.take (i + 1).toNat from take_nextL _ _ (by omega) (by omega)] at O212
       (try rw [show x.f2.take i.toNat ++ [x.f2.getD i.toNat ([] : List S51)] = x.f2.take (i + 1).toNat from take_nextL _ _ (by omega) (by omega)] at H216)
       refine gw_nx ⟨_, ?_, i + 1, A199, c200, S201, (H216.pick (t := 15) rfl (H216.pick (t := 2) rfl (H216.pick (t := 3) rfl (H216.pick (t := 13) rfl (H216.pick (t := 14) rfl H216.nil))))), O212.sel [0, 2, 3, 4, 5] (by decide), ?_, rfl⟩
       ·
        rw [hm66]; omega
       ·
        omega
      ·
       refine gw_news (O := .cells #[.slice A177 ((x.f2.getD i.toNat ([] : List S51)).length) c178] 42 (0, 0)) (n := 1) H184 O187 (want_none rfl) rfl (by decide) (op_bslice (by kernel_rfl) rfl (pt_cons (H184.ev rfl) pt_nil)) ?_
       intro g217 _ w219 H220 O221; clear H184 O187
       have O222 : Own w w219 [Bk g217 [.slice A177 ((x.f2.getD i.toNat ([] : List S51)).length) c178] 42, Chunk.row k51 51 w.heap.size S179 (.slice A177 ((x.f2.getD i.toNat ([] : List S51)).length) c178) (x.f2.getD i.toNat ([] : List S51)), Chunk.row (Kd.slice 51 k51) 42 w.heap.size St (.slice At ((x.f2.take i.toNat).length) ct) (x.f2.take i.toNat), Bk g38 [J x.f0, .slice A25 x.f1.length c26, .slice At ((x.f2.take i.toNat).length) ct] 35, Chunk.row k37 37 w.heap.size S27 (.slice A25 x.f1.length c26) x.f1, Bk g8 [J 0, .slice none 0 0, .slice none 0 0] 35, Bk g2 [J x.f0, .slice A1 x.f1.length c1, .slice A2 x.f2.length c2] 35] := O221
       clear O221
       refine gx_on (i := 4) (B := (fun j_ => j_ == 5 || j_ == 7)) (fun _ => (by exact O222.sel [3, 4, 5, 6] (by decide))) ?_
       refine gx_step 0 rfl (by kernel_rfl) ?_
       refine V H220 (op_field (gwfld35_2 _ _) rfl (H220.ev rfl)) ?_
       intro _ H224; clear H220
       refine gx_on (i := 0) (B := (fun j_ => j_ == 5 || j_ == 7)) (fun _ => (by exact O222.sel [3, 4, 5, 6] (by decide))) ?_
       refine gx_take 1 rfl (by kernel_rfl) H224 (by exact O222.sel [3, 4, 5, 6] (by decide)) (want_none rfl) rfl (by decide) (fun wq HO => (op_load1 gwagg33 rfl (H224.ev rfl) (blk_at (HO.get 0 rfl) rfl))) ?_
       intro _ H226; clear H224
       refine gx_step 5 rfl (by kernel_rfl) ?_
       have O227 : Own w _ [Chunk.row (Kd.slice 51 k51) 42 w.heap.size St (.slice At ((x.f2.take i.toNat).length) ct) (x.f2.take i.toNat), Chunk.row k51 51 w.heap.size S179 (.slice A177 ((x.f2.getD i.toNat ([] : List S51)).length) c178) (x.f2.getD i.toNat ([] : List S51)), Bk g217 [.slice A177 ((x.f2.getD i.toNat ([] : List S51)).length) c178] 42, Bk g38 [J x.f0, .slice A25 x.f1.length c26, .slice At ((x.f2.take i.toNat).length) ct] 35, Chunk.row k37 37 w.heap.size S27 (.slice A25 x.f1.length c26) x.f1, Bk g8 [J 0, .slice none 0 0, .slice none 0 0] 35, Bk g2 [J x.f0, .slice A1 x.f1.length c1, .slice A2 x.f2.length c2] 35] := O222.sel [2, 1, 0, 3, 4, 5, 6] (by decide)
       refine gw_append1 (Kd.slice 51 k51) 0 (p := (x.f2.getD i.toNat ([] : List S51))) (cs := [.slice A177 ((x.f2.getD i.toNat ([] : List S51)).length) c178]) H226 O227 (want_none rfl) rfl (by decide) rfl Try.underlying33 gwinfo42 rfl (by decide) (by decide) rfl (H226.ev rfl) (H226.ev rfl) (fun w_ h_ => ⟨_, rfl, h_⟩) O227.below.size (by rw [List.length_take]; omega) ?_
       intro A228 c229 S230 _ w232 H233 O234; clear H226 O222 O227
       have O235 : Own w w232 [Chunk.row (Kd.slice 51 k51) 42 w.heap.size S230 (.slice A228 (((x.f2.take i.toNat) ++ [(x.f2.getD i.toNat ([] : List S51))]).length) c229) ((x.f2.take i.toNat) ++ [(x.f2.getD i.toNat ([] : List S51))]), Bk g217 [.slice A177 ((x.f2.getD i.toNat ([] : List S51)).length) c178] 42, Bk g38 [J x.f0, .slice A25 x.f1.length c26, .slice At ((x.f2.take i.toNat).length) ct] 35, Chunk.row k37 37 w.heap.size S27 (.slice A25 x.f1.length c26) x.f1, Bk g8 [J 0, .slice none 0 0, .slice none 0 0] 35, Bk g2 [J x.f0, .slice A1 x.f1.length c1, .slice A2 x.f2.length c2] 35] := O234
       clear O234
       refine gx_on (i := 5) (B := (fun j_ => j_ == 5 || j_ == 7)) (fun h_ => by cases h_) ?_
       refine gx_step 6 rfl (by kernel_rfl) ?_
       refine V H233 (op_field (gwfld35_2 _ _) rfl (H233.ev rfl)) ?_
       intro _ H237; clear H233
       refine gx_on (i := 6) (B := (fun j_ => j_ == 5 || j_ == 7)) (fun _ => (by exact O235.sel [2, 3, 4, 5] (by decide))) ?_
       refine gx_step 7 rfl (by kernel_rfl) ?_
       refine gw_set 2 H237 O235 rfl (want_none rfl) rfl (op_store1 gwsiz33 rfl (H237.ev rfl) (H237.ev rfl) rfl (blk_at (O235.get 2 rfl) rfl) (blkf (O235.get 2 rfl))) ?_
       intro _ w240 H239 O241; clear H237 O235
       refine gx_on (i := 7) (B := (fun j_ => j_ == 5 || j_ == 7)) (fun h_ => by cases h_) ?_
       refine gx_done (by kernel_rfl) ?_
       refine gw_blk ?_
       refine gw_nx (hK73 _ _ ?_)
       refine wp_region_lit ?_
       refine V H239 (op_add rfl (H239.ev rfl) (ev_c _ _) (by omega)) ?_
       intro _ H243; clear H239
       refine V H243 (op_move rfl (H243.ev rfl)) ?_
       intro _ H245; clear H243
       refine wpList_nil ?_
       rw [show x.f2.take i.toNat ++ [x.f2.getD i.toNat ([] : List S51)] = x.f2.take (i + 1).toNat from take_nextL _ _ (by omega) (by omega)] at O241
       (try rw [show x.f2.take i.toNat ++ [x.f2.getD i.toNat ([] : List S51)] = x.f2.take (i + 1).toNat from take_nextL _ _ (by omega) (by omega)] at H245)
       refine gw_nx ⟨_, ?_, i + 1, A228, c229, S230, (H245.pick (t := 15) rfl (H245.pick (t := 2) rfl (H245.pick (t := 3) rfl (H245.pick (t := 13) rfl (H245.pick (t := 14) rfl H245.nil))))), O241.sel [0, 2, 3, 4, 5] (by decide), ?_, rfl⟩
       ·
        rw [hm66]; omega
       ·
        omega
   ·
    have H246 := H69.subst_ (d := 16) (b := false) rfl hb71
    clear H69
    (try simp only [decide_eq_false_iff_not, Int.not_lt] at hb71)
    refine wp_exit ?_
    refine gw_thx ?_
    refine gw_thx ?_
    refine gw_in ?_
    refine gw_nx (hK48 _ _ ?_)
    refine gR fun K247 hK247 => ?_
    refine V H246 (op_loadn gwagg35 gwsiz35 rfl (H246.ev rfl) (O65.get 1 rfl) rfl rfl) ?_
    intro _ H249; clear H246
    refine gw_setn 3 H249 O65 rfl (want_none rfl) rfl (op_storen gwsiz35 rfl (H249.ev rfl) (H249.ev rfl) (O65.get 3 rfl) rfl (by simp) (by simp [Value.oneCell'])) ?_
    intro _ w252 H251 O253; clear H249 O65
    refine gE hK247 ?_
    refine wp_ret ?_
    refine gw_rets1 H251 rfl (rv_celln H251 rfl gwagg35 gwsiz35 (O253.get 3 rfl) rfl) ?_
    have htk : x.f2.take i.toNat = x.f2 := List.take_of_length_le (by omega)
    have O254 := ent_of (x := x) (by have h_ := O253.sel [2, 0] (by decide); simp only [htk] at h_; exact h_)
    simp only [htk]
    exact ⟨_, _, _, rfl, O254.out⟩
 ·
  refine gw_new H24 O16 (want_none rfl) rfl (by decide) (op_alloc gwzer35 rfl) ?_
  intro g255 _ w257 H258 O259; clear H24 O16
  have O260 : Own w w257 [Bk g255 [J 0, .slice none 0 0, .slice none 0 0] 35, Bk g8 [J 0, .slice none 0 0, .slice none 0 0] 35, Bk g2 [J x.f0, .slice A1 x.f1.length c1, .slice A2 x.f2.length c2] 35] := O259
  clear O259
  refine gx_on (i := 6) (B := (fun j_ => j_ == 7)) (fun _ => (by exact O260.sel [1, 2] (by decide))) ?_
  refine gx_step 4 rfl (by kernel_rfl) ?_
  refine gw_call H258 (want_none rfl) rfl (by decide) (op_callL Try.func18 (by kernel_rfl) rfl rfl (ar_cons (H258.ev rfl) ar_nil)) (clone0_R A1 c1 x.f1 _ (Kd.C_below h1 O260.below) l1 (hx1)) ?_
  rintro e264 w265 ⟨A261, c262, S263, rfl, hb266⟩
  refine ⟨_, rfl, fun _ H268 => ?_⟩
  have O269 := O260.fresh hb266
  have hbel270 := O260.below
  clear H258 O260 hb266
  have O271 := O269.lowrow 0 rfl (base' := w.heap.size) (Below.size hbel270)
  refine gx_on (i := 4) (B := (fun j_ => j_ == 7)) (fun _ => (by exact O271.sel [2, 3] (by decide))) ?_
  refine gx_take 5 rfl (by kernel_rfl) H268 (by exact O271.sel [2, 3] (by decide)) (want_none rfl) rfl (by decide) (fun wq HO => (op_build (cells := #[J x.f0, .slice A261 x.f1.length c262, .slice none 0 0]) rfl (pt_cons (H268.ev rfl) (pt_cons (H268.ev rfl) pt_nil)) (by kernel_rfl))) ?_
  intro _ H273; clear H268
  refine gx_step 7 rfl (by kernel_rfl) ?_
  refine gw_setn 1 H273 O271 rfl (want_none rfl) rfl (op_storen gwsiz35 rfl (H273.ev rfl) (H273.ev rfl) (O271.get 1 rfl) rfl (by simp) (by simp [Value.oneCell'])) ?_
  intro _ w276 H275 O277; clear H273 O271
  refine gx_on (i := 7) (B := (fun j_ => j_ == 7)) (fun h_ => by cases h_) ?_
  refine gx_done (by kernel_rfl) ?_
  refine gw_nx (hK14 _ _ ?_)
  refine gw_seq fun K278 hK278 => ?_
  refine gR fun K279 hK279 => ?_
  refine V H275 (op_field (gwfld35_2 _ _) rfl (H275.ev rfl)) ?_
  intro _ H281; clear H275
  refine V H281 (op_load1 gwagg33 rfl (H281.ev rfl) (blk_at (O277.get 3 rfl) rfl)) ?_
  intro _ H283; clear H281
  refine V H283 (op_len Try.underlying33 rfl (H283.ev rfl)) ?_
  intro _ H285; clear H283
  refine V H285 (op_move rfl (ev_c _ _)) ?_
  intro _ H287; clear H285
  refine gE hK279 ?_
  refine wp_block ?_
  have O288 := O277.row_nil (Kd.slice 51 k51) 42 w.heap.size
  clear O277
  have O289 : Own w w276 [Chunk.row (Kd.slice 51 k51) 42 w.heap.size (fun _ => False) (.slice none (([] : List (List S51)).length) 0) ([] : List (List S51)), Chunk.row k37 37 w.heap.size S263 (.slice A261 x.f1.length c262) x.f1, Bk g255 [J x.f0, .slice A261 x.f1.length c262, .slice none (([] : List (List S51)).length) 0] 35, Bk g8 [J 0, .slice none 0 0, .slice none 0 0] 35, Bk g2 [J x.f0, .slice A1 x.f1.length c1, .slice A2 x.f2.length c2] 35] := O288
  clear O288
  refine gw_loop (fun m_ a_ w_ => ∃ (i : Int) (At : Option Addr) (ct : Nat) (St : Nat → Prop), Fr 28 a_ [(15, J i), (2, .pointer (some ⟨g8, 0, none⟩)), (3, .pointer (some ⟨g255, 0, none⟩)), (13, .slice A2 x.f2.length c2), (14, J (x.f2.length : Int))] ∧ Own w w_ [Chunk.row (Kd.slice 51 k51) 42 w.heap.size St (.slice At ((x.f2.take i.toNat).length) ct) (x.f2.take i.toNat), Bk g255 [J x.f0, .slice A261 x.f1.length c262, .slice At ((x.f2.take i.toNat).length) ct] 35, Chunk.row k37 37 w.heap.size S263 (.slice A261 x.f1.length c262) x.f1, Bk g8 [J 0, .slice none 0 0, .slice none 0 0] 35, Bk g2 [J x.f0, .slice A1 x.f1.length c1, .slice A2 x.f2.length c2] 35] ∧ (0 ≤ i ∧ i ≤ x.f2.length) ∧ m_ = (x.f2.length - i.toNat)) ((x.f2.length - (0 : Int).toNat)) ?_ ?_
  ·
   refine ⟨0, none, 0, (fun _ => False), (H287.pick (t := 15) rfl (H287.pick (t := 2) rfl (H287.pick (t := 3) rfl (H287.pick (t := 13) rfl (H287.pick (t := 14) rfl H287.nil))))), O289.sel [0, 2, 1, 3, 4] (by decide), ?_, rfl⟩
   ·
    omega
  ·
   rintro m291 _ w293 ⟨i, At, ct, St, H294, O295, hi, hm296⟩
   refine gR fun K297 hK297 => ?_
   refine V H294 (op_lss rfl (H294.ev rfl) (H294.ev rfl)) ?_
   intro _ H299; clear H294
   refine gE hK297 ?_
   refine gw_seq fun K300 hK300 => ?_
   refine gw_cond H299 rfl (fun hb301 => ?_) (fun hb301 => ?_)
   ·
    have H302 := H299.subst_ (d := 16) (b := true) rfl hb301
    clear H299
    (try simp only [decide_eq_true_eq] at hb301)
    refine wp_skip ?_
    refine gw_nx (hK300 _ _ ?_)
    refine gw_seq fun K303 hK303 => ?_
    refine wp_block ?_
    refine gR fun K304 hK304 => ?_
    obtain ⟨ad305, cs308, hA306, hl309, hK310, hc307⟩ := Kd.C_get h2 ([] : List S51) i (by omega) (by omega)
    obtain ⟨A311, c312, rfl, hl313, hC314⟩ := id hK310
    clear hl309
    refine V H302 (op_index Try.underlying33 gwsiz42 rfl (H302.ev rfl) (H302.ev rfl) hA306 (⟨by omega, by omega⟩)) ?_
    intro _ H316; clear H302
    refine V H316 (op_load1 gwagg42 rfl (H316.ev rfl) (O295.cell0 (at0 hc307))) ?_
    intro _ H318; clear H316
    refine V H318 (op_assign rfl (H318.ev rfl)) ?_
    intro _ H320; clear H318
    refine gE hK304 ?_
    refine gx_draw (M := [Bk g255 [J x.f0, .slice A261 x.f1.length c262, .slice At ((x.f2.take i.toNat).length) ct] 35, Chunk.row k37 37 w.heap.size S263 (.slice A261 x.f1.length c262) x.f1, Bk g8 [J 0, .slice none 0 0, .slice none 0 0] 35, Bk g2 [J x.f0, .slice A1 x.f1.length c1, .slice A2 x.f2.length c2] 35]) (fun j_ => j_ == 5 || j_ == 7) O295 (by kernel_rfl) fun w321 O322 => ?_
    clear O295
    refine gx_step2 0 2 rfl rfl (by kernel_rfl) ?_ ?_
    ·
     refine V H320 (op_field (gwfld35_2 _ _) rfl (H320.ev rfl)) ?_
     intro _ H324; clear H320
     refine gx_on (i := 0) (B := (fun j_ => j_ == 5 || j_ == 7)) (fun _ => (by exact O322.sel [1, 2, 3, 4] (by decide))) ?_
     refine gx_take 1 rfl (by kernel_rfl) H324 (by exact O322.sel [1, 2, 3, 4] (by decide)) (want_none rfl) rfl (by decide) (fun wq HO => (op_load1 gwagg33 rfl (H324.ev rfl) (blk_at (HO.get 0 rfl) rfl))) ?_
     intro _ H326; clear H324
     refine gx_step 2 rfl (by kernel_rfl) ?_
     refine V H326 (op_move rfl (H326.ev rfl)) ?_
     intro _ H328; clear H326
     refine gx_on (i := 2) (B := (fun j_ => j_ == 5 || j_ == 7)) (fun _ => (by exact O322.sel [1, 2, 3, 4] (by decide))) ?_
     refine gx_step 3 rfl (by kernel_rfl) ?_
     refine gw_call H328 (want_none rfl) rfl (by decide) (op_callL Try.func19 (by kernel_rfl) rfl rfl (ar_cons (H328.ev rfl) ar_nil)) (clone0_V A311 c312 (x.f2.getD i.toNat ([] : List S51)) _ (Kd.C_below hC314 O322.below) hl313 (hx3 _ (getD_mem (z := ([] : List S51)) x.f2 i.toNat (by omega)))) ?_
     rintro e332 w333 ⟨A329, c330, S331, rfl, hb334⟩
     refine ⟨_, rfl, fun _ H336 => ?_⟩
     have O337 := O322.fresh hb334
     have hbel338 := O322.below
     clear H328 O322 hb334
     have O339 := O337.lowrow 0 rfl (base' := w.heap.size) (Below.size hbel338)
     refine gx_on (i := 3) (B := (fun j_ => j_ == 5 || j_ == 7)) (fun _ => (by exact O339.sel [2, 3, 4, 5] (by decide))) ?_
     refine gx_step 4 rfl (by kernel_rfl) ?_
     refine gw_news (O := .cells #[.slice A329 ((x.f2.getD i.toNat ([] : List S51)).length) c330] 42 (0, 0)) (n := 1) H336 O339 (want_none rfl) rfl (by decide) (op_bslice (by kernel_rfl) rfl (pt_cons (H336.ev rfl) pt_nil)) ?_
     intro g340 _ w342 H343 O344; clear H336 O339
     have O345 : Own w w342 [Bk g340 [.slice A329 ((x.f2.getD i.toNat ([] : List S51)).length) c330] 42, Chunk.row k51 51 w.heap.size S331 (.slice A329 ((x.f2.getD i.toNat ([] : List S51)).length) c330) (x.f2.getD i.toNat ([] : List S51)), Chunk.row (Kd.slice 51 k51) 42 w.heap.size St (.slice At ((x.f2.take i.toNat).length) ct) (x.f2.take i.toNat), Bk g255 [J x.f0, .slice A261 x.f1.length c262, .slice At ((x.f2.take i.toNat).length) ct] 35, Chunk.row k37 37 w.heap.size S263 (.slice A261 x.f1.length c262) x.f1, Bk g8 [J 0, .slice none 0 0, .slice none 0 0] 35, Bk g2 [J x.f0, .slice A1 x.f1.length c1, .slice A2 x.f2.length c2] 35] := O344
     clear O344
     refine gx_on (i := 4) (B := (fun j_ => j_ == 5 || j_ == 7)) (fun _ => (by exact O345.sel [3, 4, 5, 6] (by decide))) ?_
     refine gx_step 5 rfl (by kernel_rfl) ?_
     have O346 : Own w _ [Chunk.row (Kd.slice 51 k51) 42 w.heap.size St (.slice At ((x.f2.take i.toNat).length) ct) (x.f2.take i.toNat), Chunk.row k51 51 w.heap.size S331 (.slice A329 ((x.f2.getD i.toNat ([] : List S51)).length) c330) (x.f2.getD i.toNat ([] : List S51)), Bk g340 [.slice A329 ((x.f2.getD i.toNat ([] : List S51)).length) c330] 42, Bk g255 [J x.f0, .slice A261 x.f1.length c262, .slice At ((x.f2.take i.toNat).length) ct] 35, Chunk.row k37 37 w.heap.size S263 (.slice A261 x.f1.length c262) x.f1, Bk g8 [J 0, .slice none 0 0, .slice none 0 0] 35, Bk g2 [J x.f0, .slice A1 x.f1.length c1, .slice A2 x.f2.length c2] 35] := O345.sel [2, 1, 0, 3, 4, 5, 6] (by decide)
     refine gw_append1 (Kd.slice 51 k51) 0 (p := (x.f2.getD i.toNat ([] : List S51))) (cs := [.slice A329 ((x.f2.getD i.toNat ([] : List S51)).length) c330]) H343 O346 (want_none rfl) rfl (by decide) rfl Try.underlying33 gwinfo42 rfl (by decide) (by decide) rfl (H343.ev rfl) (H343.ev rfl) (fun w_ h_ => ⟨_, rfl, h_⟩) O346.below.size (by rw [List.length_take]; omega) ?_
     intro A347 c348 S349 _ w351 H352 O353; clear H343 O345 O346
     have O354 : Own w w351 [Chunk.row (Kd.slice 51 k51) 42 w.heap.size S349 (.slice A347 (((x.f2.take i.toNat) ++ [(x.f2.getD i.toNat ([] : List S51))]).length) c348) ((x.f2.take i.toNat) ++ [(x.f2.getD i.toNat ([] : List S51))]), Bk g340 [.slice A329 ((x.f2.getD i.toNat ([] : List S51)).length) c330] 42, Bk g255 [J x.f0, .slice A261 x.f1.length c262, .slice At ((x.f2.take i.toNat).length) ct] 35, Chunk.row k37 37 w.heap.size S263 (.slice A261 x.f1.length c262) x.f1, Bk g8 [J 0, .slice none 0 0, .slice none 0 0] 35, Bk g2 [J x.f0, .slice A1 x.f1.length c1, .slice A2 x.f2.length c2] 35] := O353
     clear O353
     refine gx_on (i := 5) (B := (fun j_ => j_ == 5 || j_ == 7)) (fun h_ => by cases h_) ?_
     refine gx_step 6 rfl (by kernel_rfl) ?_
     refine V H352 (op_field (gwfld35_2 _ _) rfl (H352.ev rfl)) ?_
     intro _ H356; clear H352
     refine gx_on (i := 6) (B := (fun j_ => j_ == 5 || j_ == 7)) (fun _ => (by exact O354.sel [2, 3, 4, 5] (by decide))) ?_
     refine gx_step 7 rfl (by kernel_rfl) ?_
     refine gw_set 2 H356 O354 rfl (want_none rfl) rfl (op_store1 gwsiz33 rfl (H356.ev rfl) (H356.ev rfl) rfl (blk_at (O354.get 2 rfl) rfl) (blkf (O354.get 2 rfl))) ?_
     intro _ w359 H358 O360; clear H356 O354
     refine gx_on (i := 7) (B := (fun j_ => j_ == 5 || j_ == 7)) (fun h_ => by cases h_) ?_
     refine gx_done (by kernel_rfl) ?_
     refine gw_blk ?_
     refine gw_nx (hK303 _ _ ?_)
     refine wp_region_lit ?_
     refine V H358 (op_add rfl (H358.ev rfl) (ev_c _ _) (by omega)) ?_
     intro _ H362; clear H358
     refine V H362 (op_move rfl (H362.ev rfl)) ?_
     intro _ H364; clear H362
     refine wpList_nil ?_
     rw [show x.f2.take i.toNat ++ [x.f2.getD i.toNat ([] : List S51)] = x.f2.take (i + 1).toNat from take_nextL _ _ (by omega) (by omega)] at O360
     (try rw [show x.f2.take i.toNat ++ [x.f2.getD i.toNat ([] : List S51)] = x.f2.take (i + 1).toNat from take_nextL _ _ (by omega) (by omega)] at H364)
     refine gw_nx ⟨_, ?_, i + 1, A347, c348, S349, (H364.pick (t := 15) rfl (H364.pick (t := 2) rfl (H364.pick (t := 3) rfl (H364.pick (t := 13) rfl (H364.pick (t := 14) rfl H364.nil))))), O360.sel [0, 2, 3, 4, 5] (by decide), ?_, rfl⟩
     ·
      rw [hm296]; omega
     ·
      omega
    ·
     refine V H320 (op_move rfl (H320.ev rfl)) ?_
     intro _ H366; clear H320
     refine gx_on (i := 2) (B := (fun j_ => j_ == 5 || j_ == 7)) (fun _ => (by exact O322.sel [1, 2, 3, 4] (by decide))) ?_
     refine gx_step2 0 3 rfl rfl (by kernel_rfl) ?_ ?_
     ·
      refine V H366 (op_field (gwfld35_2 _ _) rfl (H366.ev rfl)) ?_
      intro _ H368; clear H366
      refine gx_on (i := 0) (B := (fun j_ => j_ == 5 || j_ == 7)) (fun _ => (by exact O322.sel [1, 2, 3, 4] (by decide))) ?_
      refine gx_take 1 rfl (by kernel_rfl) H368 (by exact O322.sel [1, 2, 3, 4] (by decide)) (want_none rfl) rfl (by decide) (fun wq HO => (op_load1 gwagg33 rfl (H368.ev rfl) (blk_at (HO.get 0 rfl) rfl))) ?_
      intro _ H370; clear H368
      refine gx_step 3 rfl (by kernel_rfl) ?_
      refine gw_call H370 (want_none rfl) rfl (by decide) (op_callL Try.func19 (by kernel_rfl) rfl rfl (ar_cons (H370.ev rfl) ar_nil)) (clone0_V A311 c312 (x.f2.getD i.toNat ([] : List S51)) _ (Kd.C_below hC314 O322.below) hl313 (hx3 _ (getD_mem (z := ([] : List S51)) x.f2 i.toNat (by omega)))) ?_
      rintro e374 w375 ⟨A371, c372, S373, rfl, hb376⟩
      refine ⟨_, rfl, fun _ H378 => ?_⟩
      have O379 := O322.fresh hb376
      have hbel380 := O322.below
      clear H370 O322 hb376
      have O381 := O379.lowrow 0 rfl (base' := w.heap.size) (Below.size hbel380)
      refine gx_on (i := 3) (B := (fun j_ => j_ == 5 || j_ == 7)) (fun _ => (by exact O381.sel [2, 3, 4, 5] (by decide))) ?_
      refine gx_step 4 rfl (by kernel_rfl) ?_
      refine gw_news (O := .cells #[.slice A371 ((x.f2.getD i.toNat ([] : List S51)).length) c372] 42 (0, 0)) (n := 1) H378 O381 (want_none rfl) rfl (by decide) (op_bslice (by kernel_rfl) rfl (pt_cons (H378.ev rfl) pt_nil)) ?_
      intro g382 _ w384 H385 O386; clear H378 O381
      have O387 : Own w w384 [Bk g382 [.slice A371 ((x.f2.getD i.toNat ([] : List S51)).length) c372] 42, Chunk.row k51 51 w.heap.size S373 (.slice A371 ((x.f2.getD i.toNat ([] : List S51)).length) c372) (x.f2.getD i.toNat ([] : List S51)), Chunk.row (Kd.slice 51 k51) 42 w.heap.size St (.slice At ((x.f2.take i.toNat).length) ct) (x.f2.take i.toNat), Bk g255 [J x.f0, .slice A261 x.f1.length c262, .slice At ((x.f2.take i.toNat).length) ct] 35, Chunk.row k37 37 w.heap.size S263 (.slice A261 x.f1.length c262) x.f1, Bk g8 [J 0, .slice none 0 0, .slice none 0 0] 35, Bk g2 [J x.f0, .slice A1 x.f1.length c1, .slice A2 x.f2.length c2] 35] := O386
      clear O386
      refine gx_on (i := 4) (B := (fun j_ => j_ == 5 || j_ == 7)) (fun _ => (by exact O387.sel [3, 4, 5, 6] (by decide))) ?_
      refine gx_step 5 rfl (by kernel_rfl) ?_
      have O388 : Own w _ [Chunk.row (Kd.slice 51 k51) 42 w.heap.size St (.slice At ((x.f2.take i.toNat).length) ct) (x.f2.take i.toNat), Chunk.row k51 51 w.heap.size S373 (.slice A371 ((x.f2.getD i.toNat ([] : List S51)).length) c372) (x.f2.getD i.toNat ([] : List S51)), Bk g382 [.slice A371 ((x.f2.getD i.toNat ([] : List S51)).length) c372] 42, Bk g255 [J x.f0, .slice A261 x.f1.length c262, .slice At ((x.f2.take i.toNat).length) ct] 35, Chunk.row k37 37 w.heap.size S263 (.slice A261 x.f1.length c262) x.f1, Bk g8 [J 0, .slice none 0 0, .slice none 0 0] 35, Bk g2 [J x.f0, .slice A1 x.f1.length c1, .slice A2 x.f2.length c2] 35] := O387.sel [2, 1, 0, 3, 4, 5, 6] (by decide)
      refine gw_append1 (Kd.slice 51 k51) 0 (p := (x.f2.getD i.toNat ([] : List S51))) (cs := [.slice A371 ((x.f2.getD i.toNat ([] : List S51)).length) c372]) H385 O388 (want_none rfl) rfl (by decide) rfl Try.underlying33 gwinfo42 rfl (by decide) (by decide) rfl (H385.ev rfl) (H385.ev rfl) (fun w_ h_ => ⟨_, rfl, h_⟩) O388.below.size (by rw [List.length_take]; omega) ?_
      intro A389 c390 S391 _ w393 H394 O395; clear H385 O387 O388
      have O396 : Own w w393 [Chunk.row (Kd.slice 51 k51) 42 w.heap.size S391 (.slice A389 (((x.f2.take i.toNat) ++ [(x.f2.getD i.toNat ([] : List S51))]).length) c390) ((x.f2.take i.toNat) ++ [(x.f2.getD i.toNat ([] : List S51))]), Bk g382 [.slice A371 ((x.f2.getD i.toNat ([] : List S51)).length) c372] 42, Bk g255 [J x.f0, .slice A261 x.f1.length c262, .slice At ((x.f2.take i.toNat).length) ct] 35, Chunk.row k37 37 w.heap.size S263 (.slice A261 x.f1.length c262) x.f1, Bk g8 [J 0, .slice none 0 0, .slice none 0 0] 35, Bk g2 [J x.f0, .slice A1 x.f1.length c1, .slice A2 x.f2.length c2] 35] := O395
      clear O395
      refine gx_on (i := 5) (B := (fun j_ => j_ == 5 || j_ == 7)) (fun h_ => by cases h_) ?_
      refine gx_step 6 rfl (by kernel_rfl) ?_
      refine V H394 (op_field (gwfld35_2 _ _) rfl (H394.ev rfl)) ?_
      intro _ H398; clear H394
      refine gx_on (i := 6) (B := (fun j_ => j_ == 5 || j_ == 7)) (fun _ => (by exact O396.sel [2, 3, 4, 5] (by decide))) ?_
      refine gx_step 7 rfl (by kernel_rfl) ?_
      refine gw_set 2 H398 O396 rfl (want_none rfl) rfl (op_store1 gwsiz33 rfl (H398.ev rfl) (H398.ev rfl) rfl (blk_at (O396.get 2 rfl) rfl) (blkf (O396.get 2 rfl))) ?_
      intro _ w401 H400 O402; clear H398 O396
      refine gx_on (i := 7) (B := (fun j_ => j_ == 5 || j_ == 7)) (fun h_ => by cases h_) ?_
      refine gx_done (by kernel_rfl) ?_
      refine gw_blk ?_
      refine gw_nx (hK303 _ _ ?_)
      refine wp_region_lit ?_
      refine V H400 (op_add rfl (H400.ev rfl) (ev_c _ _) (by omega)) ?_
      intro _ H404; clear H400
      refine V H404 (op_move rfl (H404.ev rfl)) ?_
      intro _ H406; clear H404
      refine wpList_nil ?_
      rw [show x.f2.take i.toNat ++ [x.f2.getD i.toNat ([] : List S51)] = x.f2.take (i + 1).toNat from take_nextL _ _ (by omega) (by omega)] at O402
      (try rw [show x.f2.take i.toNat ++ [x.f2.getD i.toNat ([] : List S51)] = x.f2.take (i + 1).toNat from take_nextL _ _ (by omega) (by omega)] at H406)
      refine gw_nx ⟨_, ?_, i + 1, A389, c390, S391, (H406.pick (t := 15) rfl (H406.pick (t := 2) rfl (H406.pick (t := 3) rfl (H406.pick (t := 13) rfl (H406.pick (t := 14) rfl H406.nil))))), O402.sel [0, 2, 3, 4, 5] (by decide), ?_, rfl⟩
      ·
       rw [hm296]; omega
      ·
       omega
     ·
      refine gw_call H366 (want_none rfl) rfl (by decide) (op_callL Try.func19 (by kernel_rfl) rfl rfl (ar_cons (H366.ev rfl) ar_nil)) (clone0_V A311 c312 (x.f2.getD i.toNat ([] : List S51)) _ (Kd.C_below hC314 O322.below) hl313 (hx3 _ (getD_mem (z := ([] : List S51)) x.f2 i.toNat (by omega)))) ?_
      rintro e410 w411 ⟨A407, c408, S409, rfl, hb412⟩
      refine ⟨_, rfl, fun _ H414 => ?_⟩
      have O415 := O322.fresh hb412
      have hbel416 := O322.below
      clear H366 O322 hb412
      have O417 := O415.lowrow 0 rfl (base' := w.heap.size) (Below.size hbel416)
      refine gx_on (i := 3) (B := (fun j_ => j_ == 5 || j_ == 7)) (fun _ => (by exact O417.sel [2, 3, 4, 5] (by decide))) ?_
      refine gx_step2 0 4 rfl rfl (by kernel_rfl) ?_ ?_
      ·
       refine V H414 (op_field (gwfld35_2 _ _) rfl (H414.ev rfl)) ?_
       intro _ H419; clear H414
       refine gx_on (i := 0) (B := (fun j_ => j_ == 5 || j_ == 7)) (fun _ => (by exact O417.sel [2, 3, 4, 5] (by decide))) ?_
       refine gx_take 1 rfl (by kernel_rfl) H419 (by exact O417.sel [2, 3, 4, 5] (by decide)) (want_none rfl) rfl (by decide) (fun wq HO => (op_load1 gwagg33 rfl (H419.ev rfl) (blk_at (HO.get 0 rfl) rfl))) ?_
       intro _ H421; clear H419
       refine gx_step 4 rfl (by kernel_rfl) ?_
       refine gw_news (O := .cells #[.slice A407 ((x.f2.getD i.toNat ([] : List S51)).length) c408] 42 (0, 0)) (n := 1) H421 O417 (want_none rfl) rfl (by decide) (op_bslice (by kernel_rfl) rfl (pt_cons (H421.ev rfl) pt_nil)) ?_
       intro g422 _ w424 H425 O426; clear H421 O417
       have O427 : Own w w424 [Bk g422 [.slice A407 ((x.f2.getD i.toNat ([] : List S51)).length) c408] 42, Chunk.row k51 51 w.heap.size S409 (.slice A407 ((x.f2.getD i.toNat ([] : List S51)).length) c408) (x.f2.getD i.toNat ([] : List S51)), Chunk.row (Kd.slice 51 k51) 42 w.heap.size St (.slice At ((x.f2.take i.toNat).length) ct) (x.f2.take i.toNat), Bk g255 [J x.f0, .slice A261 x.f1.length c262, .slice At ((x.f2.take i.toNat).length) ct] 35, Chunk.row k37 37 w.heap.size S263 (.slice A261 x.f1.length c262) x.f1, Bk g8 [J 0, .slice none 0 0, .slice none 0 0] 35, Bk g2 [J x.f0, .slice A1 x.f1.length c1, .slice A2 x.f2.length c2] 35] := O426
       clear O426
       refine gx_on (i := 4) (B := (fun j_ => j_ == 5 || j_ == 7)) (fun _ => (by exact O427.sel [3, 4, 5, 6] (by decide))) ?_
       refine gx_step 5 rfl (by kernel_rfl) ?_
       have O428 : Own w _ [Chunk.row (Kd.slice 51 k51) 42 w.heap.size St (.slice At ((x.f2.take i.toNat).length) ct) (x.f2.take i.toNat), Chunk.row k51 51 w.heap.size S409 (.slice A407 ((x.f2.getD i.toNat ([] : List S51)).length) c408) (x.f2.getD i.toNat ([] : List S51)), Bk g422 [.slice A407 ((x.f2.getD i.toNat ([] : List S51)).length) c408] 42, Bk g255 [J x.f0, .slice A261 x.f1.length c262, .slice At ((x.f2.take i.toNat).length) ct] 35, Chunk.row k37 37 w.heap.size S263 (.slice A261 x.f1.length c262) x.f1, Bk g8 [J 0, .slice none 0 0, .slice none 0 0] 35, Bk g2 [J x.f0, .slice A1 x.f1.length c1, .slice A2 x.f2.length c2] 35] := O427.sel [2, 1, 0, 3, 4, 5, 6] (by decide)
       refine gw_append1 (Kd.slice 51 k51) 0 (p := (x.f2.getD i.toNat ([] : List S51))) (cs := [.slice A407 ((x.f2.getD i.toNat ([] : List S51)).length) c408]) H425 O428 (want_none rfl) rfl (by decide) rfl Try.underlying33 gwinfo42 rfl (by decide) (by decide) rfl (H425.ev rfl) (H425.ev rfl) (fun w_ h_ => ⟨_, rfl, h_⟩) O428.below.size (by rw [List.length_take]; omega) ?_
       intro A429 c430 S431 _ w433 H434 O435; clear H425 O427 O428
       have O436 : Own w w433 [Chunk.row (Kd.slice 51 k51) 42 w.heap.size S431 (.slice A429 (((x.f2.take i.toNat) ++ [(x.f2.getD i.toNat ([] : List S51))]).length) c430) ((x.f2.take i.toNat) ++ [(x.f2.getD i.toNat ([] : List S51))]), Bk g422 [.slice A407 ((x.f2.getD i.toNat ([] : List S51)).length) c408] 42, Bk g255 [J x.f0, .slice A261 x.f1.length c262, .slice At ((x.f2.take i.toNat).length) ct] 35, Chunk.row k37 37 w.heap.size S263 (.slice A261 x.f1.length c262) x.f1, Bk g8 [J 0, .slice none 0 0, .slice none 0 0] 35, Bk g2 [J x.f0, .slice A1 x.f1.length c1, .slice A2 x.f2.length c2] 35] := O435
       clear O435
       refine gx_on (i := 5) (B := (fun j_ => j_ == 5 || j_ == 7)) (fun h_ => by cases h_) ?_
       refine gx_step 6 rfl (by kernel_rfl) ?_
       refine V H434 (op_field (gwfld35_2 _ _) rfl (H434.ev rfl)) ?_
       intro _ H438; clear H434
       refine gx_on (i := 6) (B := (fun j_ => j_ == 5 || j_ == 7)) (fun _ => (by exact O436.sel [2, 3, 4, 5] (by decide))) ?_
       refine gx_step 7 rfl (by kernel_rfl) ?_
       refine gw_set 2 H438 O436 rfl (want_none rfl) rfl (op_store1 gwsiz33 rfl (H438.ev rfl) (H438.ev rfl) rfl (blk_at (O436.get 2 rfl) rfl) (blkf (O436.get 2 rfl))) ?_
       intro _ w441 H440 O442; clear H438 O436
       refine gx_on (i := 7) (B := (fun j_ => j_ == 5 || j_ == 7)) (fun h_ => by cases h_) ?_
       refine gx_done (by kernel_rfl) ?_
       refine gw_blk ?_
       refine gw_nx (hK303 _ _ ?_)
       refine wp_region_lit ?_
       refine V H440 (op_add rfl (H440.ev rfl) (ev_c _ _) (by omega)) ?_
       intro _ H444; clear H440
       refine V H444 (op_move rfl (H444.ev rfl)) ?_
       intro _ H446; clear H444
       refine wpList_nil ?_
       rw [show x.f2.take i.toNat ++ [x.f2.getD i.toNat ([] : List S51)] = x.f2.take (i + 1).toNat from take_nextL _ _ (by omega) (by omega)] at O442
       (try rw [show x.f2.take i.toNat ++ [x.f2.getD i.toNat ([] : List S51)] = x.f2.take (i + 1).toNat from take_nextL _ _ (by omega) (by omega)] at H446)
       refine gw_nx ⟨_, ?_, i + 1, A429, c430, S431, (H446.pick (t := 15) rfl (H446.pick (t := 2) rfl (H446.pick (t := 3) rfl (H446.pick (t := 13) rfl (H446.pick (t := 14) rfl H446.nil))))), O442.sel [0, 2, 3, 4, 5] (by decide), ?_, rfl⟩
       ·
        rw [hm296]; omega
       ·
        omega
      ·
       refine gw_news (O := .cells #[.slice A407 ((x.f2.getD i.toNat ([] : List S51)).length) c408] 42 (0, 0)) (n := 1) H414 O417 (want_none rfl) rfl (by decide) (op_bslice (by kernel_rfl) rfl (pt_cons (H414.ev rfl) pt_nil)) ?_
       intro g447 _ w449 H450 O451; clear H414 O417
       have O452 : Own w w449 [Bk g447 [.slice A407 ((x.f2.getD i.toNat ([] : List S51)).length) c408] 42, Chunk.row k51 51 w.heap.size S409 (.slice A407 ((x.f2.getD i.toNat ([] : List S51)).length) c408) (x.f2.getD i.toNat ([] : List S51)), Chunk.row (Kd.slice 51 k51) 42 w.heap.size St (.slice At ((x.f2.take i.toNat).length) ct) (x.f2.take i.toNat), Bk g255 [J x.f0, .slice A261 x.f1.length c262, .slice At ((x.f2.take i.toNat).length) ct] 35, Chunk.row k37 37 w.heap.size S263 (.slice A261 x.f1.length c262) x.f1, Bk g8 [J 0, .slice none 0 0, .slice none 0 0] 35, Bk g2 [J x.f0, .slice A1 x.f1.length c1, .slice A2 x.f2.length c2] 35] := O451
       clear O451
       refine gx_on (i := 4) (B := (fun j_ => j_ == 5 || j_ == 7)) (fun _ => (by exact O452.sel [3, 4, 5, 6] (by decide))) ?_
       refine gx_step 0 rfl (by kernel_rfl) ?_
       refine V H450 (op_field (gwfld35_2 _ _) rfl (H450.ev rfl)) ?_
       intro _ H454; clear H450
       refine gx_on (i := 0) (B := (fun j_ => j_ == 5 || j_ == 7)) (fun _ => (by exact O452.sel [3, 4, 5, 6] (by decide))) ?_
       refine gx_take 1 rfl (by kernel_rfl) H454 (by exact O452.sel [3, 4, 5, 6] (by decide)) (want_none rfl) rfl (by decide) (fun wq HO => (op_load1 gwagg33 rfl (H454.ev rfl) (blk_at (HO.get 0 rfl) rfl))) ?_
       intro _ H456; clear H454
       refine gx_step 5 rfl (by kernel_rfl) ?_
       have O457 : Own w _ [Chunk.row (Kd.slice 51 k51) 42 w.heap.size St (.slice At ((x.f2.take i.toNat).length) ct) (x.f2.take i.toNat), Chunk.row k51 51 w.heap.size S409 (.slice A407 ((x.f2.getD i.toNat ([] : List S51)).length) c408) (x.f2.getD i.toNat ([] : List S51)), Bk g447 [.slice A407 ((x.f2.getD i.toNat ([] : List S51)).length) c408] 42, Bk g255 [J x.f0, .slice A261 x.f1.length c262, .slice At ((x.f2.take i.toNat).length) ct] 35, Chunk.row k37 37 w.heap.size S263 (.slice A261 x.f1.length c262) x.f1, Bk g8 [J 0, .slice none 0 0, .slice none 0 0] 35, Bk g2 [J x.f0, .slice A1 x.f1.length c1, .slice A2 x.f2.length c2] 35] := O452.sel [2, 1, 0, 3, 4, 5, 6] (by decide)
       refine gw_append1 (Kd.slice 51 k51) 0 (p := (x.f2.getD i.toNat ([] : List S51))) (cs := [.slice A407 ((x.f2.getD i.toNat ([] : List S51)).length) c408]) H456 O457 (want_none rfl) rfl (by decide) rfl Try.underlying33 gwinfo42 rfl (by decide) (by decide) rfl (H456.ev rfl) (H456.ev rfl) (fun w_ h_ => ⟨_, rfl, h_⟩) O457.below.size (by rw [List.length_take]; omega) ?_
       intro A458 c459 S460 _ w462 H463 O464; clear H456 O452 O457
       have O465 : Own w w462 [Chunk.row (Kd.slice 51 k51) 42 w.heap.size S460 (.slice A458 (((x.f2.take i.toNat) ++ [(x.f2.getD i.toNat ([] : List S51))]).length) c459) ((x.f2.take i.toNat) ++ [(x.f2.getD i.toNat ([] : List S51))]), Bk g447 [.slice A407 ((x.f2.getD i.toNat ([] : List S51)).length) c408] 42, Bk g255 [J x.f0, .slice A261 x.f1.length c262, .slice At ((x.f2.take i.toNat).length) ct] 35, Chunk.row k37 37 w.heap.size S263 (.slice A261 x.f1.length c262) x.f1, Bk g8 [J 0, .slice none 0 0, .slice none 0 0] 35, Bk g2 [J x.f0, .slice A1 x.f1.length c1, .slice A2 x.f2.length c2] 35] := O464
       clear O464
       refine gx_on (i := 5) (B := (fun j_ => j_ == 5 || j_ == 7)) (fun h_ => by cases h_) ?_
       refine gx_step 6 rfl (by kernel_rfl) ?_
       refine V H463 (op_field (gwfld35_2 _ _) rfl (H463.ev rfl)) ?_
       intro _ H467; clear H463
       refine gx_on (i := 6) (B := (fun j_ => j_ == 5 || j_ == 7)) (fun _ => (by exact O465.sel [2, 3, 4, 5] (by decide))) ?_
       refine gx_step 7 rfl (by kernel_rfl) ?_
       refine gw_set 2 H467 O465 rfl (want_none rfl) rfl (op_store1 gwsiz33 rfl (H467.ev rfl) (H467.ev rfl) rfl (blk_at (O465.get 2 rfl) rfl) (blkf (O465.get 2 rfl))) ?_
       intro _ w470 H469 O471; clear H467 O465
       refine gx_on (i := 7) (B := (fun j_ => j_ == 5 || j_ == 7)) (fun h_ => by cases h_) ?_
       refine gx_done (by kernel_rfl) ?_
       refine gw_blk ?_
       refine gw_nx (hK303 _ _ ?_)
       refine wp_region_lit ?_
       refine V H469 (op_add rfl (H469.ev rfl) (ev_c _ _) (by omega)) ?_
       intro _ H473; clear H469
       refine V H473 (op_move rfl (H473.ev rfl)) ?_
       intro _ H475; clear H473
       refine wpList_nil ?_
       rw [show x.f2.take i.toNat ++ [x.f2.getD i.toNat ([] : List S51)] = x.f2.take (i + 1).toNat from take_nextL _ _ (by omega) (by omega)] at O471
       (try rw [show x.f2.take i.toNat ++ [x.f2.getD i.toNat ([] : List S51)] = x.f2.take (i + 1).toNat from take_nextL _ _ (by omega) (by omega)] at H475)
       refine gw_nx ⟨_, ?_, i + 1, A458, c459, S460, (H475.pick (t := 15) rfl (H475.pick (t := 2) rfl (H475.pick (t := 3) rfl (H475.pick (t := 13) rfl (H475.pick (t := 14) rfl H475.nil))))), O471.sel [0, 2, 3, 4, 5] (by decide), ?_, rfl⟩
       ·
        rw [hm296]; omega
       ·
        omega
   ·
    have H476 := H299.subst_ (d := 16) (b := false) rfl hb301
    clear H299
    (try simp only [decide_eq_false_iff_not, Int.not_lt] at hb301)
    refine wp_exit ?_
    refine gw_thx ?_
    refine gw_thx ?_
    refine gw_in ?_
    refine gw_nx (hK278 _ _ ?_)
    refine gR fun K477 hK477 => ?_
    refine V H476 (op_loadn gwagg35 gwsiz35 rfl (H476.ev rfl) (O295.get 1 rfl) rfl rfl) ?_
    intro _ H479; clear H476
    refine gw_setn 3 H479 O295 rfl (want_none rfl) rfl (op_storen gwsiz35 rfl (H479.ev rfl) (H479.ev rfl) (O295.get 3 rfl) rfl (by simp) (by simp [Value.oneCell'])) ?_
    intro _ w482 H481 O483; clear H479 O295
    refine gE hK477 ?_
    refine wp_ret ?_
    refine gw_rets1 H481 rfl (rv_celln H481 rfl gwagg35 gwsiz35 (O483.get 3 rfl) rfl) ?_
    have htk : x.f2.take i.toNat = x.f2 := List.take_of_length_le (by omega)
    have O484 := ent_of (x := x) (by have h_ := O483.sel [2, 0] (by decide); simp only [htk] at h_; exact h_)
    simp only [htk]
    exact ⟨_, _, _, rfl, O484.out⟩
end GCloneE_
export GCloneE_ (clone_walk)
end Go.Proofs.Ytmhgblhmkhoopaa.PA
end
section
namespace Go.Proofs.Ytmhgblhmkhoopaa.PA
open Go.RowKit Go.Proofs.YtmhgblhmkhoopaaW.PrintWords Go.Proofs.YtmhgblhmkhoopaaW.PrintLast Go.Proofs.YtmhgblhmkhoopaaW.PrintMore
set_option linter.unusedVariables false
set_option linter.unusedSimpArgs false
namespace GMerge_
theorem gwagg25 : ∀ w, (isAgg 25).run Try.prog w = .ok false w := fun _ => by kernel_rfl
theorem gwagg3 : ∀ w, (isAgg 3).run Try.prog w = .ok false w := fun _ => by kernel_rfl
theorem gwagg35 : ∀ w, (isAgg 35).run Try.prog w = .ok true w := fun _ => by kernel_rfl
theorem gwfld35_0 (g off : Nat) : ∀ w, (Instr.fieldAt 35 (.pointer (some ⟨g, off, none⟩)) 0).run Try.prog w = .ok (.pointer (some ⟨g, off + 0, none⟩)) w := fun _ => by kernel_rfl
theorem gwinfo35 : (Try.prog.info? 35).map (fun i => (i.zero, i.size, i.bytes)) = some (some (.agg #[.int .i64 0, .slice none 0 0, .slice none 0 0]), 3, 56) := by kernel_rfl
theorem gwsiz25 : ∀ w, (sizeOf 25).run Try.prog w = .ok 1 w := fun _ => by kernel_rfl
theorem gwsiz35 : ∀ w, (sizeOf 35).run Try.prog w = .ok 3 w := fun _ => by kernel_rfl
theorem gwzer35 : ∀ w, (zeroValue 35).run Try.prog w = .ok (.agg #[.int .i64 0, .slice none 0 0, .slice none 0 0]) w := fun _ => by kernel_rfl
set_option maxHeartbeats 4000000 in
set_option maxRecDepth 100000 in
theorem Merge_walk (n : Int) (A1 : Option Addr) (c1 : Nat) (ps : List (List EE)) (w : World) (hr : Kd.C (Kd.slice 35 k35) w A1 ps.length ps) (hc : ps.length ≤ c1) (hf : fewP ps) (hn : n ≤ 2000) (hw : ∀ e ∈ ps.flatten, -9223372036854775808 ≤ e.f0 ∧ e.f0 ≤ 9223372036854775807) :
    Calls Try.prog 7 #[.int .i64 n, .slice A1 ps.length c1] w fun e w' => ∃ A c S_, e = .returned (.tuple #[.slice A (mergeG n ps.flatten).1.length c, .int .i64 (mergeG n ps.flatten).2]) ∧ Out w w' (fun _ => False) [Chunk.row k35 35 w.heap.size S_ (.slice A (mergeG n ps.flatten).1.length c) (mergeG n ps.flatten).1] := by
 have hmx : (0 ≤ n → mx n 0 = n) ∧ (n < 0 → mx n 0 = 0) := by unfold mx; constructor <;> intro h_ <;> split <;> omega
 have hfl := hf.2.1
 have hfp := hf.1
 refine gw_start (N := 78) (vs := [J n, .slice A1 ps.length c1]) Try.func7 rfl rfl (by simp) fun a HF HO => ?_
 replace HO : Own w w [] := HO
 refine gR fun K1 hK1 => ?_
 refine V HF (op_assign rfl (ev_c _ _)) ?_
 intro _ H3; clear HF
 refine V H3 (op_assign rfl (ev_c _ _)) ?_
 intro _ H5; clear H3
 refine gE hK1 ?_
 refine gR fun K6 hK6 => ?_
 refine V H5 (op_move rfl (H5.ev rfl)) ?_
 intro _ H8; clear H5
 refine V H8 (op_max rfl (H8.ev rfl) (ev_c _ _)) ?_
 intro _ H10; clear H8
 refine V H10 (op_assign rfl (H10.ev rfl)) ?_
 intro _ H12; clear H10
 refine gE hK6 ?_
 refine gR fun K13 hK13 => ?_
 refine gw_mkmap (K := 3) H12 HO (want_none rfl) rfl (by decide) rfl ?_
 intro g14 _ w16 H17 O18; clear H12 HO
 have O19 : Own w w16 [Chunk.lmap Try.prog 3 g14 ([] : List (Lit × Value))] := O18
 clear O18
 refine V H17 (op_assign rfl (H17.ev rfl)) ?_
 intro _ H21; clear H17
 refine gE hK13 ?_
 refine gw_seq fun K22 hK22 => ?_
 refine gR fun K23 hK23 => ?_
 refine V H21 (op_move rfl (H21.ev rfl)) ?_
 intro _ H25; clear H21
 refine V H25 (op_len Try.underlying22 rfl (H25.ev rfl)) ?_
 intro _ H27; clear H25
 refine V H27 (op_move rfl (ev_c _ _)) ?_
 intro _ H29; clear H27
 refine gE hK23 ?_
 refine wp_block ?_
 refine gw_loop (fun m_ a_ w_ => ∃ (i : Int) (M : List (Lit × Value)), Fr 78 a_ [(20, J i), (0, J (mx n 0)), (6, .map (some g14)), (18, .slice A1 ps.length c1), (19, J (ps.length : Int))] ∧ Own w w_ [Chunk.lmap Try.prog 3 g14 M] ∧ (0 ≤ i ∧ i ≤ ps.length) ∧ (MRel w M (ps.take i.toNat).flatten) ∧ (goodE n (ps.take i.toNat).flatten) ∧ m_ = (ps.length - i.toNat)) ((ps.length - (0 : Int).toNat)) ?_ ?_
 ·
  refine ⟨0, ([] : List (Lit × Value)), (H29.pick (t := 20) rfl (H29.pick (t := 0) rfl (H29.pick (t := 6) rfl (H29.pick (t := 18) rfl (H29.pick (t := 19) rfl H29.nil))))), O19.sel [0] (by decide), ?_, ?_, ?_, rfl⟩
  ·
   omega
  ·
   exact MRel.nil w
  ·
   exact good0 n
 ·
  rintro m31 _ w33 ⟨i, M, H34, O35, hi, hM, hG, hm36⟩
  refine gR fun K37 hK37 => ?_
  refine V H34 (op_lss rfl (H34.ev rfl) (H34.ev rfl)) ?_
  intro _ H39; clear H34
  refine gE hK37 ?_
  refine gw_seq fun K40 hK40 => ?_
  refine gw_cond H39 rfl (fun hb41 => ?_) (fun hb41 => ?_)
  ·
   have H42 := H39.subst_ (d := 21) (b := true) rfl hb41
   clear H39
   (try simp only [decide_eq_true_eq] at hb41)
   refine wp_skip ?_
   refine gw_nx (hK40 _ _ ?_)
   refine gw_seq fun K43 hK43 => ?_
   refine wp_block ?_
   refine gR fun K44 hK44 => ?_
   obtain ⟨ad45, cs48, hA46, hl49, hK50, hc47⟩ := Kd.C_get hr ([] : List S35) i (by omega) (by omega)
   obtain ⟨A51, c52, rfl, hl53, hC54⟩ := id hK50
   clear hl49
   refine V H42 (op_index Try.underlying22 gwsiz25 rfl (H42.ev rfl) (H42.ev rfl) hA46 (⟨by omega, by omega⟩)) ?_
   intro _ H56; clear H42
   refine V H56 (op_load1 gwagg25 rfl (H56.ev rfl) (O35.cell0 (at0 hc47))) ?_
   intro _ H58; clear H56
   refine V H58 (op_assign rfl (H58.ev rfl)) ?_
   intro _ H60; clear H58
   refine gE hK44 ?_
   refine gR fun K61 hK61 => ?_
   refine V H60 (op_move rfl (H60.ev rfl)) ?_
   intro _ H63; clear H60
   refine V H63 (op_len Try.underlying25 rfl (H63.ev rfl)) ?_
   intro _ H65; clear H63
   refine V H65 (op_move rfl (ev_c _ _)) ?_
   intro _ H67; clear H65
   refine gE hK61 ?_
   refine wp_block ?_
   refine gw_loop (fun m_ a_ w_ => ∃ (j : Int) (M2 : List (Lit × Value)), Fr 78 a_ [(26, J j), (20, J i), (0, J (mx n 0)), (6, .map (some g14)), (18, .slice A1 ps.length c1), (19, J (ps.length : Int)), (21, .bool true), (22, .pointer (some (ad45.add (i.toNat * 1)))), (23, .slice A51 ((ps.getD i.toNat ([] : List S35)).length) c52), (8, .slice A51 ((ps.getD i.toNat ([] : List S35)).length) c52), (24, .slice A51 ((ps.getD i.toNat ([] : List S35)).length) c52), (25, J (((ps.getD i.toNat ([] : List S35)).length) : Int))] ∧ Own w w_ [Chunk.lmap Try.prog 3 g14 M2] ∧ (0 ≤ j ∧ j ≤ (ps.getD i.toNat ([] : List S35)).length ∧ (ps.getD i.toNat ([] : List S35)).length ≤ 2000) ∧ (MRel w M2 ((ps.take i.toNat).flatten ++ (ps.getD i.toNat ([] : List S35)).take j.toNat)) ∧ (goodE n ((ps.take i.toNat).flatten ++ (ps.getD i.toNat ([] : List S35)).take j.toNat)) ∧ m_ = ((ps.getD i.toNat ([] : List S35)).length - j.toNat)) (((ps.getD i.toNat ([] : List S35)).length - (0 : Int).toNat)) ?_ ?_
   ·
    refine ⟨0, M, (H67.pick (t := 26) rfl (H67.pick (t := 20) rfl (H67.pick (t := 0) rfl (H67.pick (t := 6) rfl (H67.pick (t := 18) rfl (H67.pick (t := 19) rfl (H67.pick (t := 21) rfl (H67.pick (t := 22) rfl (H67.pick (t := 23) rfl (H67.pick (t := 8) rfl (H67.pick (t := 24) rfl (H67.pick (t := 25) rfl H67.nil)))))))))))), O35.sel [0] (by decide), ?_, ?_, ?_, rfl⟩
    ·
     have h_ := flat_le ps i.toNat (ps.getD i.toNat ([] : List S35)).length (by omega); rw [List.length_append, List.take_length] at h_; omega
    ·
     simpa using hM
    ·
     simpa using hG
   ·
    rintro m69 _ w71 ⟨j, M2, H72, O73, hj, hM2, hG2, hm74⟩
    refine gR fun K75 hK75 => ?_
    refine V H72 (op_lss rfl (H72.ev rfl) (H72.ev rfl)) ?_
    intro _ H77; clear H72
    refine gE hK75 ?_
    refine gw_seq fun K78 hK78 => ?_
    refine gw_cond H77 rfl (fun hb79 => ?_) (fun hb79 => ?_)
    ·
     have H80 := H77.subst_ (d := 27) (b := true) rfl hb79
     clear H77
     (try simp only [decide_eq_true_eq] at hb79)
     have hpl := flat_le ps i.toNat (ps.getD i.toNat ([] : List S35)).length (by omega)
     rw [List.length_append, List.take_length] at hpl
     have hem := flat_mem ps z35 i.toNat j.toNat (by omega) (by omega)
     have hwe := hw _ hem
     rcases hf_ : lfind (gk ((ps.getD i.toNat ([] : List S35)).getD j.toNat z35).f0) M2 with _ | V_
     ·
      refine wp_skip ?_
      refine gw_nx (hK78 _ _ ?_)
      refine gw_seq fun K81 hK81 => ?_
      refine wp_block ?_
      refine gR fun K82 hK82 => ?_
      obtain ⟨ad83, cs86, hA84, hl87, hK88, hc85⟩ := Kd.C_get hC54 z35 j (by omega) (by omega)
      obtain ⟨A89, c90, A93, c94, rfl, hl91, hC92, hl95, hC96⟩ := k35_open hK88
      clear hl87
      refine V H80 (op_index Try.underlying25 gwsiz35 rfl (H80.ev rfl) (H80.ev rfl) hA84 (⟨by omega, by omega⟩)) ?_
      intro _ H98; clear H80
      refine V H98 (op_loadc gwagg35 gwsiz35 rfl (H98.ev rfl) rfl (cells0 O73 hc85)) ?_
      intro _ H100; clear H98
      refine gw_new H100 O73 (want_none rfl) rfl (by decide) (op_alloc gwzer35 rfl) ?_
      intro g101 _ w103 H104 O105; clear H100 O73
      have O106 : Own w w103 [Bk g101 [J 0, .slice none 0 0, .slice none 0 0] 35, Chunk.lmap Try.prog 3 g14 M2] := O105
      clear O105
      refine gw_setn 0 H104 O106 rfl (want_none rfl) rfl (op_storen gwsiz35 rfl (H104.ev rfl) (H104.ev rfl) (O106.get 0 rfl) rfl (by simp) (by simp [Value.oneCell'])) ?_
      intro _ w109 H108 O110; clear H104 O106
      refine gE hK82 ?_
      refine gR fun K111 hK111 => ?_
      refine V H108 (op_move rfl (H108.ev rfl)) ?_
      intro _ H113; clear H108
      refine V H113 (op_field (gwfld35_0 _ _) rfl (H113.ev rfl)) ?_
      intro _ H115; clear H113
      refine V H115 (op_load1 gwagg3 rfl (H115.ev rfl) (blk_at (O110.get 0 rfl) rfl)) ?_
      intro _ H117; clear H115
      refine V H117 (op_mlok_none (Go.Maps.int_keyed Try.underlying3) Try.underlying43 gwzer35 rfl (H117.ev rfl) (H117.ev rfl) (Go.Maps.keyOf_int_mk Try.underlying3 (wfI _ (by omega))) (O110.get 1 rfl) (hf_)) ?_
      intro _ H119; clear H117
      refine V H119 (op_move rfl (H119.ev rfl)) ?_
      intro _ H121; clear H119
      refine V H121 (op_extract rfl (H121.ev rfl) rfl) ?_
      intro _ H123; clear H121
      refine V H123 (op_extract rfl (H123.ev rfl) rfl) ?_
      intro _ H125; clear H123
      refine gw_new H125 O110 (want_none rfl) rfl (by decide) (op_alloc gwzer35 rfl) ?_
      intro g126 _ w128 H129 O130; clear H125 O110
      have O131 : Own w w128 [Bk g126 [J 0, .slice none 0 0, .slice none 0 0] 35, Bk g101 [J (((ps.getD i.toNat ([] : List S35)).getD j.toNat z35).f0), .slice A89 (((ps.getD i.toNat ([] : List S35)).getD j.toNat z35).f1.length) c90, .slice A93 (((ps.getD i.toNat ([] : List S35)).getD j.toNat z35).f2.length) c94] 35, Chunk.lmap Try.prog 3 g14 M2] := O130
      clear O130
      refine gw_setn 0 H129 O131 rfl (want_none rfl) rfl (op_storen gwsiz35 rfl (H129.ev rfl) (H129.ev rfl) (O131.get 0 rfl) rfl (by simp) (by simp [Value.oneCell'])) ?_
      intro _ w134 H133 O135; clear H129 O131
      refine V H133 (op_assign rfl (H133.ev rfl)) ?_
      intro _ H137; clear H133
      refine gE hK111 ?_
      refine gw_seq fun K138 hK138 => ?_
      refine gR fun K139 hK139 => ?_
      refine V H137 (op_field (gwfld35_0 _ _) rfl (H137.ev rfl)) ?_
      intro _ H141; clear H137
      refine V H141 (op_load1 gwagg3 rfl (H141.ev rfl) (blk_at (O135.get 1 rfl) rfl)) ?_
      intro _ H143; clear H141
      refine V H143 (op_lss rfl (H143.ev rfl) (ev_c _ _)) ?_
      intro _ H145; clear H143
      refine V H145 (op_move rfl (H145.ev rfl)) ?_
      intro _ H147; clear H145
      refine gw_evG H147 rfl rfl rfl rfl (on_f _) rfl (by decide) (fun h_ => (op_field (gwfld35_0 _ _) rfl (H147.ev rfl))) ?_
      intro _ H149; clear H147
      refine gw_evG H149 rfl rfl rfl rfl (on_f _) rfl (by decide) (fun h_ => (op_load1 gwagg3 rfl (ev_gv (H149.ev rfl) h_) (blk_at (O135.get 1 rfl) rfl))) ?_
      intro _ H151; clear H149
      refine gw_evG H151 rfl rfl rfl rfl (on_f _) rfl (by decide) (fun h_ => (op_move rfl (H151.ev rfl))) ?_
      intro _ H153; clear H151
      refine gw_evG H153 rfl rfl rfl rfl (on_f _) rfl (by decide) (fun h_ => (op_geq rfl (ev_gv (H153.ev rfl) h_) (ev_gv (H153.ev rfl) h_))) ?_
      intro _ H155; clear H153
      refine V H155 (op_pick_or rfl (H155.ev rfl) (ev_c _ _) (fun hp_ => (ev_gv (H155.ev rfl) (not_t hp_)))) ?_
      intro _ H157; clear H155
      refine V H157 (op_move rfl (H157.ev rfl)) ?_
      intro _ H159; clear H157
      refine gw_evG H159 rfl rfl rfl rfl (on_f _) rfl (by decide) (fun h_ => (op_move rfl (H159.ev rfl))) ?_
      intro _ H161; clear H159
      refine gw_evG H161 rfl rfl rfl rfl (on_f _) rfl (by decide) (fun h_ => (op_move rfl (ev_gv (H161.ev rfl) h_))) ?_
      intro _ H163; clear H161
      refine gw_evG H163 rfl rfl rfl rfl (on_gt _ _) rfl (by decide) (fun h_ => (op_loadn gwagg35 gwsiz35 rfl (H163.ev rfl) (O135.get 0 rfl) rfl rfl)) ?_
      intro _ H165; clear H163
      refine gw_evG H165 rfl rfl rfl rfl (on_gt _ _) rfl (by decide) (fun h_ => (op_loadn gwagg35 gwsiz35 rfl (H165.ev rfl) (O135.get 1 rfl) rfl rfl)) ?_
      intro _ H167; clear H165
      refine gw_callG H167 rfl rfl rfl rfl (on_gt _ _) rfl (by decide) (fun h_ => (op_callL Try.func10 (by kernel_rfl) rfl rfl (ar_cons (ev_gv (H167.ev rfl) (andi (and1 h_) (and2 h_))) (ar_cons (ev_gv (H167.ev rfl) (andi (and1 h_) (and2 h_))) ar_nil)))) (fun h_ => show Calls _ _ _ _ (fun e w' => e = .returned (.bool false) ∧ Below _ _ w') from (by simp at h_)) ?_
      intro _ w170 hb171 H169
      have O172 := O135.after hb171; clear H167 O135 hb171
      refine gw_evG H169 rfl rfl rfl rfl (on_gt _ _) rfl (by decide) (fun h_ => (op_not rfl (ev_gv (H169.ev rfl) (andi (and1 h_) (and2 h_))))) ?_
      intro _ H174; clear H169
      refine gw_evG H174 rfl rfl rfl rfl (on_f _) rfl (by decide) (fun h_ => (op_pick_f rfl (ev_gv (H174.ev rfl) h_) (ev_c _ _))) ?_
      intro _ H176; clear H174
      refine V H176 (op_pick_or rfl (H176.ev rfl) (ev_c _ _) (fun hp_ => (ev_gv (H176.ev rfl) (not_t hp_)))) ?_
      intro _ H178; clear H176
      refine gE hK139 ?_
      refine gw_cond H178 rfl (fun hb179 => ?_) (fun hb179 => ?_)
      ·
       have H180 := H178.subst_ (d := 54) (b := true) rfl hb179
       clear H178
       (try simp only [Bool.or_eq_true, Bool.or_eq_false_iff, decide_eq_true_eq, decide_eq_false_iff_not, Int.not_lt, Int.not_le] at hb179)
       have hbad : ¬ goodE n ps.flatten := by (try simp only [Bool.false_and, Bool.false_eq_true, false_and, or_false] at hb179); exact bad_range hem (by omega)
       refine gR fun K181 hK181 => ?_
       refine V H180 (op_assign rfl (ev_c _ _)) ?_
       intro _ H183; clear H180
       refine V H183 (op_assign rfl (ev_c _ _)) ?_
       intro _ H185; clear H183
       refine gE hK181 ?_
       refine wp_ret ?_
       refine gw_thr ?_
       refine gw_blr ?_
       refine gw_thr ?_
       refine gw_thr ?_
       refine gw_blr ?_
       refine gw_blr ?_
       refine gw_thr ?_
       refine gw_thr ?_
       refine gw_blr ?_
       refine gw_thr ?_
       refine gw_ret2 H185 rfl rfl rfl ?_
       rw [mergeG_bad hbad]
       exact ⟨none, 0, _, rfl, ((O172.row_nil k35 35 w.heap.size).sel [0] (by decide)).out⟩
      ·
       have H186 := H178.subst_ (d := 54) (b := false) rfl hb179
       clear H178
       (try simp only [Bool.or_eq_true, Bool.or_eq_false_iff, decide_eq_true_eq, decide_eq_false_iff_not, Int.not_lt, Int.not_le] at hb179)
       have hok : ¬ ((ps.getD i.toNat ([] : List S35)).getD j.toNat z35).f0 < 0 ∧ ((ps.getD i.toNat ([] : List S35)).getD j.toNat z35).f0 < mx n 0 := by have h_ := hb179; omega
       refine wp_skip ?_
       refine gw_nx (hK138 _ _ ?_)
       refine wp_region_lit ?_
       refine V H186 (op_move rfl (H186.ev rfl)) ?_
       intro _ H188; clear H186
       refine V H188 (op_field (gwfld35_0 _ _) rfl (H188.ev rfl)) ?_
       intro _ H190; clear H188
       refine V H190 (op_load1 gwagg3 rfl (H190.ev rfl) (blk_at (O172.get 1 rfl) rfl)) ?_
       intro _ H192; clear H190
       refine V H192 (op_loadn gwagg35 gwsiz35 rfl (H192.ev rfl) (O172.get 1 rfl) rfl rfl) ?_
       intro _ H194; clear H192
       refine gw_mput 2 (Go.Maps.int_keyed Try.underlying3) Try.underlying43 H194 O172 rfl (want_none rfl) rfl rfl (H194.ev rfl) (H194.ev rfl) (H194.ev rfl) (Go.Maps.keyOf_int_mk Try.underlying3 (wfI _ (by omega))) (by have h_ := hM2.len; have h2_ := flat_le ps i.toNat j.toNat (by omega); omega) ?_
       intro _ w196 H197 O198; clear H194 O172
       have O199 : Own w w196 [Bk g126 [J 0, .slice none 0 0, .slice none 0 0] 35, Bk g101 [J (((ps.getD i.toNat ([] : List S35)).getD j.toNat z35).f0), .slice A89 (((ps.getD i.toNat ([] : List S35)).getD j.toNat z35).f1.length) c90, .slice A93 (((ps.getD i.toNat ([] : List S35)).getD j.toNat z35).f2.length) c94] 35, Chunk.lmap Try.prog 3 g14 (lput (Lit.int .i64 (((ps.getD i.toNat ([] : List S35)).getD j.toNat z35).f0)) (.agg #[J (((ps.getD i.toNat ([] : List S35)).getD j.toNat z35).f0), .slice A89 (((ps.getD i.toNat ([] : List S35)).getD j.toNat z35).f1.length) c90, .slice A93 (((ps.getD i.toNat ([] : List S35)).getD j.toNat z35).f2.length) c94]) M2)] := O198
       clear O198
       refine wpList_nil ?_
       refine gw_blk ?_
       refine gw_nx (hK81 _ _ ?_)
       refine wp_region_lit ?_
       refine V H197 (op_add rfl (H197.ev rfl) (ev_c _ _) (by omega)) ?_
       intro _ H201; clear H197
       refine V H201 (op_move rfl (H201.ev rfl)) ?_
       intro _ H203; clear H201
       refine wpList_nil ?_
       refine gw_nx ⟨_, ?_, j + 1, (lput (Lit.int .i64 (((ps.getD i.toNat ([] : List S35)).getD j.toNat z35).f0)) (.agg #[J (((ps.getD i.toNat ([] : List S35)).getD j.toNat z35).f0), .slice A89 (((ps.getD i.toNat ([] : List S35)).getD j.toNat z35).f1.length) c90, .slice A93 (((ps.getD i.toNat ([] : List S35)).getD j.toNat z35).f2.length) c94]) M2), (H203.pick (t := 26) rfl (H203.pick (t := 20) rfl (H203.pick (t := 0) rfl (H203.pick (t := 6) rfl (H203.pick (t := 18) rfl (H203.pick (t := 19) rfl (H203.pick (t := 21) rfl (H203.pick (t := 22) rfl (H203.pick (t := 23) rfl (H203.pick (t := 8) rfl (H203.pick (t := 24) rfl (H203.pick (t := 25) rfl H203.nil)))))))))))), O199.sel [2] (by decide), ?_, ?_, ?_, rfl⟩
       ·
        rw [hm74]; omega
       ·
        omega
       ·
        rw [show (j + 1).toNat = j.toNat + 1 by omega, flat_at ps z35 _ _ (by omega) (by omega)]; exact hM2.put ⟨_, _, _, _, rfl, hl91, hC92, hl95, hC96⟩
       ·
        rw [show (j + 1).toNat = j.toNat + 1 by omega, flat_at ps z35 _ _ (by omega) (by omega)]; exact good_step hG2 (by omega) (by omega) (fun y_ hy_ h_ => absurd h_ (hM2.none_ hf_ y_ hy_))
     ·
      obtain ⟨x_, hxm, hxg, A5, c5, A6, c6, rfl, k1, k2, k3, k4⟩ := hM2.from_ _ _ hf_
      refine wp_skip ?_
      refine gw_nx (hK78 _ _ ?_)
      refine gw_seq fun K204 hK204 => ?_
      refine wp_block ?_
      refine gR fun K205 hK205 => ?_
      obtain ⟨ad206, cs209, hA207, hl210, hK211, hc208⟩ := Kd.C_get hC54 z35 j (by omega) (by omega)
      obtain ⟨A212, c213, A216, c217, rfl, hl214, hC215, hl218, hC219⟩ := k35_open hK211
      clear hl210
      refine V H80 (op_index Try.underlying25 gwsiz35 rfl (H80.ev rfl) (H80.ev rfl) hA207 (⟨by omega, by omega⟩)) ?_
      intro _ H221; clear H80
      refine V H221 (op_loadc gwagg35 gwsiz35 rfl (H221.ev rfl) rfl (cells0 O73 hc208)) ?_
      intro _ H223; clear H221
      refine gw_new H223 O73 (want_none rfl) rfl (by decide) (op_alloc gwzer35 rfl) ?_
      intro g224 _ w226 H227 O228; clear H223 O73
      have O229 : Own w w226 [Bk g224 [J 0, .slice none 0 0, .slice none 0 0] 35, Chunk.lmap Try.prog 3 g14 M2] := O228
      clear O228
      refine gw_setn 0 H227 O229 rfl (want_none rfl) rfl (op_storen gwsiz35 rfl (H227.ev rfl) (H227.ev rfl) (O229.get 0 rfl) rfl (by simp) (by simp [Value.oneCell'])) ?_
      intro _ w232 H231 O233; clear H227 O229
      refine gE hK205 ?_
      refine gR fun K234 hK234 => ?_
      refine V H231 (op_move rfl (H231.ev rfl)) ?_
      intro _ H236; clear H231
      refine V H236 (op_field (gwfld35_0 _ _) rfl (H236.ev rfl)) ?_
      intro _ H238; clear H236
      refine V H238 (op_load1 gwagg3 rfl (H238.ev rfl) (blk_at (O233.get 0 rfl) rfl)) ?_
      intro _ H240; clear H238
      refine V H240 (op_mlok_some (Go.Maps.int_keyed Try.underlying3) Try.underlying43 gwzer35 rfl (H240.ev rfl) (H240.ev rfl) (Go.Maps.keyOf_int_mk Try.underlying3 (wfI _ (by omega))) (O233.get 1 rfl) (hf_)) ?_
      intro _ H242; clear H240
      refine V H242 (op_move rfl (H242.ev rfl)) ?_
      intro _ H244; clear H242
      refine V H244 (op_extract rfl (H244.ev rfl) rfl) ?_
      intro _ H246; clear H244
      refine V H246 (op_extract rfl (H246.ev rfl) rfl) ?_
      intro _ H248; clear H246
      refine gw_new H248 O233 (want_none rfl) rfl (by decide) (op_alloc gwzer35 rfl) ?_
      intro g249 _ w251 H252 O253; clear H248 O233
      have O254 : Own w w251 [Bk g249 [J 0, .slice none 0 0, .slice none 0 0] 35, Bk g224 [J (((ps.getD i.toNat ([] : List S35)).getD j.toNat z35).f0), .slice A212 (((ps.getD i.toNat ([] : List S35)).getD j.toNat z35).f1.length) c213, .slice A216 (((ps.getD i.toNat ([] : List S35)).getD j.toNat z35).f2.length) c217] 35, Chunk.lmap Try.prog 3 g14 M2] := O253
      clear O253
      refine gw_setn 0 H252 O254 rfl (want_none rfl) rfl (op_storen gwsiz35 rfl (H252.ev rfl) (H252.ev rfl) (O254.get 0 rfl) rfl (by simp) (by simp [Value.oneCell'])) ?_
      intro _ w257 H256 O258; clear H252 O254
      refine V H256 (op_assign rfl (H256.ev rfl)) ?_
      intro _ H260; clear H256
      refine gE hK234 ?_
      refine gw_seq fun K261 hK261 => ?_
      refine gR fun K262 hK262 => ?_
      refine V H260 (op_field (gwfld35_0 _ _) rfl (H260.ev rfl)) ?_
      intro _ H264; clear H260
      refine V H264 (op_load1 gwagg3 rfl (H264.ev rfl) (blk_at (O258.get 1 rfl) rfl)) ?_
      intro _ H266; clear H264
      refine V H266 (op_lss rfl (H266.ev rfl) (ev_c _ _)) ?_
      intro _ H268; clear H266
      refine V H268 (op_move rfl (H268.ev rfl)) ?_
      intro _ H270; clear H268
      refine gw_evG H270 rfl rfl rfl rfl (on_f _) rfl (by decide) (fun h_ => (op_field (gwfld35_0 _ _) rfl (H270.ev rfl))) ?_
      intro _ H272; clear H270
      refine gw_evG H272 rfl rfl rfl rfl (on_f _) rfl (by decide) (fun h_ => (op_load1 gwagg3 rfl (ev_gv (H272.ev rfl) h_) (blk_at (O258.get 1 rfl) rfl))) ?_
      intro _ H274; clear H272
      refine gw_evG H274 rfl rfl rfl rfl (on_f _) rfl (by decide) (fun h_ => (op_move rfl (H274.ev rfl))) ?_
      intro _ H276; clear H274
      refine gw_evG H276 rfl rfl rfl rfl (on_f _) rfl (by decide) (fun h_ => (op_geq rfl (ev_gv (H276.ev rfl) h_) (ev_gv (H276.ev rfl) h_))) ?_
      intro _ H278; clear H276
      refine V H278 (op_pick_or rfl (H278.ev rfl) (ev_c _ _) (fun hp_ => (ev_gv (H278.ev rfl) (not_t hp_)))) ?_
      intro _ H280; clear H278
      refine V H280 (op_move rfl (H280.ev rfl)) ?_
      intro _ H282; clear H280
      refine gw_evG H282 rfl rfl rfl rfl (on_f _) rfl (by decide) (fun h_ => (op_move rfl (H282.ev rfl))) ?_
      intro _ H284; clear H282
      refine gw_evG H284 rfl rfl rfl rfl (on_f _) rfl (by decide) (fun h_ => (op_move rfl (ev_gv (H284.ev rfl) h_))) ?_
      intro _ H286; clear H284
      refine gw_evG H286 rfl rfl rfl rfl (on_gt _ _) rfl (by decide) (fun h_ => (op_loadn gwagg35 gwsiz35 rfl (H286.ev rfl) (O258.get 0 rfl) rfl rfl)) ?_
      intro _ H288; clear H286
      refine gw_evG H288 rfl rfl rfl rfl (on_gt _ _) rfl (by decide) (fun h_ => (op_loadn gwagg35 gwsiz35 rfl (H288.ev rfl) (O258.get 1 rfl) rfl rfl)) ?_
      intro _ H290; clear H288
      refine gw_callG H290 rfl rfl rfl rfl (on_gt _ _) rfl (by decide) (fun h_ => (op_callL Try.func10 (by kernel_rfl) rfl rfl (ar_cons (ev_gv (H290.ev rfl) (andi (and1 h_) (and2 h_))) (ar_cons (ev_gv (H290.ev rfl) (andi (and1 h_) (and2 h_))) ar_nil)))) (fun h_ => Same_walk x_ A5 c5 A6 c6 ((ps.getD i.toNat ([] : List S35)).getD j.toNat z35) A212 c213 A216 c217 _ (Kd.C_below k2 O258.below) k1 (Kd.C_below k4 O258.below) k3 (Kd.C_below hC215 O258.below) hl214 (Kd.C_below hC219 O258.below) hl218) ?_
      intro _ w293 hb294 H292
      have O295 := O258.after hb294; clear H290 O258 hb294
      refine gw_evG H292 rfl rfl rfl rfl (on_gt _ _) rfl (by decide) (fun h_ => (op_not rfl (ev_gv (H292.ev rfl) (andi (and1 h_) (and2 h_))))) ?_
      intro _ H297; clear H292
      refine gw_evG H297 rfl rfl rfl rfl (on_f _) rfl (by decide) (fun h_ => (op_pick_t rfl (ev_gv (H297.ev rfl) h_) (ev_gv (H297.ev rfl) (andi h_ (by rfl))))) ?_
      intro _ H299; clear H297
      refine V H299 (op_pick_or rfl (H299.ev rfl) (ev_c _ _) (fun hp_ => (ev_gv (H299.ev rfl) (not_t hp_)))) ?_
      intro _ H301; clear H299
      refine gE hK262 ?_
      refine gw_cond H301 rfl (fun hb302 => ?_) (fun hb302 => ?_)
      ·
       have H303 := H301.subst_ (d := 54) (b := true) rfl hb302
       clear H301
       (try simp only [Bool.and_eq_true, Bool.and_eq_false_iff, Bool.not_and, Bool.or_eq_true, Bool.or_eq_false_iff, Bool.not_or, Bool.not_not, Bool.not_eq_true', Bool.not_eq_false', Bool.not_eq_true, Bool.not_eq_false, decide_eq_true_eq, decide_eq_false_iff_not, Int.not_lt, Int.not_le] at hb302)
       have hbad : ¬ goodE n ps.flatten := by (try simp only [true_and] at hb302); rcases hb302 with h_ | h_; exact bad_range hem (by omega); exact bad_two (flat_sub ps i.toNat j.toNat (by omega) _ hxm) hem hxg (eqA_no.1 h_)
       refine gR fun K304 hK304 => ?_
       refine V H303 (op_assign rfl (ev_c _ _)) ?_
       intro _ H306; clear H303
       refine V H306 (op_assign rfl (ev_c _ _)) ?_
       intro _ H308; clear H306
       refine gE hK304 ?_
       refine wp_ret ?_
       refine gw_thr ?_
       refine gw_blr ?_
       refine gw_thr ?_
       refine gw_thr ?_
       refine gw_blr ?_
       refine gw_blr ?_
       refine gw_thr ?_
       refine gw_thr ?_
       refine gw_blr ?_
       refine gw_thr ?_
       refine gw_ret2 H308 rfl rfl rfl ?_
       rw [mergeG_bad hbad]
       exact ⟨none, 0, _, rfl, ((O295.row_nil k35 35 w.heap.size).sel [0] (by decide)).out⟩
      ·
       have H309 := H301.subst_ (d := 54) (b := false) rfl hb302
       clear H301
       (try simp only [Bool.and_eq_true, Bool.and_eq_false_iff, Bool.not_and, Bool.or_eq_true, Bool.or_eq_false_iff, Bool.not_or, Bool.not_not, Bool.not_eq_true', Bool.not_eq_false', Bool.not_eq_true, Bool.not_eq_false, decide_eq_true_eq, decide_eq_false_iff_not, Int.not_lt, Int.not_le] at hb302)
       have hok : ¬ ((ps.getD i.toNat ([] : List S35)).getD j.toNat z35).f0 < 0 ∧ ((ps.getD i.toNat ([] : List S35)).getD j.toNat z35).f0 < mx n 0 := by have h_ := (hb302).1; omega
       have hbs : eqA x_ ((ps.getD i.toNat ([] : List S35)).getD j.toNat z35) = true := by have h_ := (hb302).2; simpa using h_
       refine wp_skip ?_
       refine gw_nx (hK261 _ _ ?_)
       refine wp_region_lit ?_
       refine V H309 (op_move rfl (H309.ev rfl)) ?_
       intro _ H311; clear H309
       refine V H311 (op_field (gwfld35_0 _ _) rfl (H311.ev rfl)) ?_
       intro _ H313; clear H311
       refine V H313 (op_load1 gwagg3 rfl (H313.ev rfl) (blk_at (O295.get 1 rfl) rfl)) ?_
       intro _ H315; clear H313
       refine V H315 (op_loadn gwagg35 gwsiz35 rfl (H315.ev rfl) (O295.get 1 rfl) rfl rfl) ?_
       intro _ H317; clear H315
       refine gw_mput 2 (Go.Maps.int_keyed Try.underlying3) Try.underlying43 H317 O295 rfl (want_none rfl) rfl rfl (H317.ev rfl) (H317.ev rfl) (H317.ev rfl) (Go.Maps.keyOf_int_mk Try.underlying3 (wfI _ (by omega))) (by have h_ := hM2.len; have h2_ := flat_le ps i.toNat j.toNat (by omega); omega) ?_
       intro _ w319 H320 O321; clear H317 O295
       have O322 : Own w w319 [Bk g249 [J x_.f0, .slice A5 x_.f1.length c5, .slice A6 x_.f2.length c6] 35, Bk g224 [J (((ps.getD i.toNat ([] : List S35)).getD j.toNat z35).f0), .slice A212 (((ps.getD i.toNat ([] : List S35)).getD j.toNat z35).f1.length) c213, .slice A216 (((ps.getD i.toNat ([] : List S35)).getD j.toNat z35).f2.length) c217] 35, Chunk.lmap Try.prog 3 g14 (lput (Lit.int .i64 (((ps.getD i.toNat ([] : List S35)).getD j.toNat z35).f0)) (.agg #[J (((ps.getD i.toNat ([] : List S35)).getD j.toNat z35).f0), .slice A212 (((ps.getD i.toNat ([] : List S35)).getD j.toNat z35).f1.length) c213, .slice A216 (((ps.getD i.toNat ([] : List S35)).getD j.toNat z35).f2.length) c217]) M2)] := O321
       clear O321
       refine wpList_nil ?_
       refine gw_blk ?_
       refine gw_nx (hK204 _ _ ?_)
       refine wp_region_lit ?_
       refine V H320 (op_add rfl (H320.ev rfl) (ev_c _ _) (by omega)) ?_
       intro _ H324; clear H320
       refine V H324 (op_move rfl (H324.ev rfl)) ?_
       intro _ H326; clear H324
       refine wpList_nil ?_
       refine gw_nx ⟨_, ?_, j + 1, (lput (Lit.int .i64 (((ps.getD i.toNat ([] : List S35)).getD j.toNat z35).f0)) (.agg #[J (((ps.getD i.toNat ([] : List S35)).getD j.toNat z35).f0), .slice A212 (((ps.getD i.toNat ([] : List S35)).getD j.toNat z35).f1.length) c213, .slice A216 (((ps.getD i.toNat ([] : List S35)).getD j.toNat z35).f2.length) c217]) M2), (H326.pick (t := 26) rfl (H326.pick (t := 20) rfl (H326.pick (t := 0) rfl (H326.pick (t := 6) rfl (H326.pick (t := 18) rfl (H326.pick (t := 19) rfl (H326.pick (t := 21) rfl (H326.pick (t := 22) rfl (H326.pick (t := 23) rfl (H326.pick (t := 8) rfl (H326.pick (t := 24) rfl (H326.pick (t := 25) rfl H326.nil)))))))))))), O322.sel [2] (by decide), ?_, ?_, ?_, rfl⟩
       ·
        rw [hm74]; omega
       ·
        omega
       ·
        rw [show (j + 1).toNat = j.toNat + 1 by omega, flat_at ps z35 _ _ (by omega) (by omega)]; exact hM2.put ⟨_, _, _, _, rfl, hl214, hC215, hl218, hC219⟩
       ·
        rw [show (j + 1).toNat = j.toNat + 1 by omega, flat_at ps z35 _ _ (by omega) (by omega)]; exact good_step hG2 (by omega) (by omega) (fun y_ hy_ h_ => (hG2.2 y_ hy_ x_ hxm (by omega)).trans (eqA_iff.1 hbs))
    ·
     have H327 := H77.subst_ (d := 27) (b := false) rfl hb79
     clear H77
     (try simp only [decide_eq_false_iff_not, Int.not_lt] at hb79)
     refine wp_exit ?_
     refine gw_thx ?_
     refine gw_thx ?_
     refine gw_in ?_
     refine gw_blk ?_
     refine gw_nx (hK43 _ _ ?_)
     refine wp_region_lit ?_
     refine V H327 (op_add rfl (H327.ev rfl) (ev_c _ _) (by omega)) ?_
     intro _ H329; clear H327
     refine V H329 (op_move rfl (H329.ev rfl)) ?_
     intro _ H331; clear H329
     refine wpList_nil ?_
     refine gw_nx ⟨_, ?_, i + 1, M2, (H331.pick (t := 20) rfl (H331.pick (t := 0) rfl (H331.pick (t := 6) rfl (H331.pick (t := 18) rfl (H331.pick (t := 19) rfl H331.nil))))), O73.sel [0] (by decide), ?_, ?_, ?_, rfl⟩
     ·
      rw [hm36]; omega
     ·
      omega
     ·
      rw [show (i + 1).toNat = i.toNat + 1 by omega, flat_take ps _ (by omega)]; have h_ := hM2; rw [List.take_of_length_le (show (ps.getD i.toNat ([] : List S35)).length ≤ j.toNat by omega)] at h_; exact h_
     ·
      rw [show (i + 1).toNat = i.toNat + 1 by omega, flat_take ps _ (by omega)]; have h_ := hG2; rw [List.take_of_length_le (show (ps.getD i.toNat ([] : List S35)).length ≤ j.toNat by omega)] at h_; exact h_
  ·
   have H332 := H39.subst_ (d := 21) (b := false) rfl hb41
   clear H39
   (try simp only [decide_eq_false_iff_not, Int.not_lt] at hb41)
   rw [List.take_of_length_le (by omega)] at hM hG
   refine wp_exit ?_
   refine gw_thx ?_
   refine gw_thx ?_
   refine gw_in ?_
   refine gw_nx (hK22 _ _ ?_)
   refine gw_seq fun K333 hK333 => ?_
   refine gR fun K334 hK334 => ?_
   refine V H332 (op_move rfl (H332.ev rfl)) ?_
   intro _ H336; clear H332
   refine V H336 (op_mlen Try.underlying43 rfl (H336.ev rfl) (O35.get 0 rfl)) ?_
   intro _ H338; clear H336
   refine V H338 (op_move rfl (H338.ev rfl)) ?_
   intro _ H340; clear H338
   refine V H340 (op_lss rfl (H340.ev rfl) (H340.ev rfl)) ?_
   intro _ H342; clear H340
   refine gE hK334 ?_
   refine gw_cond H342 rfl (fun hb343 => ?_) (fun hb343 => ?_)
   ·
    have H344 := H342.subst_ (d := 64) (b := true) rfl hb343
    clear H342
    (try simp only [decide_eq_true_eq] at hb343)
    have hsh := hM.short (lmap_rising (Go.Maps.int_keyed Try.underlying3) (O35.get 0 rfl)).1 hb343
    refine gR fun K345 hK345 => ?_
    refine V H344 (op_assign rfl (ev_c _ _)) ?_
    intro _ H347; clear H344
    refine V H347 (op_assign rfl (ev_c _ _)) ?_
    intro _ H349; clear H347
    refine gE hK345 ?_
    refine wp_ret ?_
    refine gw_thr ?_
    refine gw_ret2 H349 rfl rfl rfl ?_
    rw [mergeG_gap hG hsh]
    exact ⟨none, 0, _, rfl, ((O35.row_nil k35 35 w.heap.size).sel [0] (by decide)).out⟩
   ·
    have H350 := H342.subst_ (d := 64) (b := false) rfl hb343
    clear H342
    (try simp only [decide_eq_false_iff_not, Int.not_lt] at hb343)
    have hfu := hM.full hG (lmap_rising (Go.Maps.int_keyed Try.underlying3) (O35.get 0 rfl)).1 (by omega)
    refine wp_skip ?_
    refine gw_nx (hK333 _ _ ?_)
    refine gR fun K351 hK351 => ?_
    refine V H350 (op_assign rfl (ev_c _ _)) ?_
    intro _ H353; clear H350
    refine gE hK351 ?_
    refine gw_seq fun K354 hK354 => ?_
    refine gR fun K355 hK355 => ?_
    refine V H353 (op_move rfl (H353.ev rfl)) ?_
    intro _ H357; clear H353
    refine V H357 (op_move rfl (ev_c _ _)) ?_
    intro _ H359; clear H357
    refine gE hK355 ?_
    refine wp_block ?_
    have O360 := O35.row_nil k35 35 w.heap.size
    clear O35
    have O361 : Own w w33 [Chunk.row k35 35 w.heap.size (fun _ => False) (.slice none (([] : List S35).length) 0) ([] : List S35), Chunk.lmap Try.prog 3 g14 M] := O360
    clear O360
    refine gw_loop (fun m_ a_ w_ => ∃ (g : Int) (Ao : Option Addr) (co : Nat) (So : Nat → Prop), Fr 78 a_ [(66, J g), (13, .slice Ao ((groupsU g.toNat ps.flatten).length) co), (6, .map (some g14)), (65, J (mx n 0))] ∧ Own w w_ [Chunk.row k35 35 w.heap.size So (.slice Ao ((groupsU g.toNat ps.flatten).length) co) (groupsU g.toNat ps.flatten), Chunk.lmap Try.prog 3 g14 M] ∧ (0 ≤ g ∧ g ≤ mx n 0) ∧ m_ = ((mx n 0).toNat - g.toNat)) (((mx n 0).toNat - (0 : Int).toNat)) ?_ ?_
    ·
     refine ⟨0, none, 0, (fun _ => False), (H359.pick (t := 66) rfl (H359.pick (t := 13) rfl (H359.pick (t := 6) rfl (H359.pick (t := 65) rfl H359.nil)))), O361.sel [0, 1] (by decide), ?_, rfl⟩
     ·
      omega
    ·
     rintro m363 _ w365 ⟨g, Ao, co, So, H366, O367, hg, hm368⟩
     refine gR fun K369 hK369 => ?_
     refine V H366 (op_lss rfl (H366.ev rfl) (H366.ev rfl)) ?_
     intro _ H371; clear H366
     refine gE hK369 ?_
     refine gw_seq fun K372 hK372 => ?_
     refine gw_cond H371 rfl (fun hb373 => ?_) (fun hb373 => ?_)
     ·
      have H374 := H371.subst_ (d := 67) (b := true) rfl hb373
      clear H371
      (try simp only [decide_eq_true_eq] at hb373)
      obtain ⟨V_, x_, hf_, hxm, hxg, A5, c5, A6, c6, rfl, k1, k2, k3, k4⟩ := hM.get hfu (g := g) (by omega) (by omega)
      refine wp_skip ?_
      refine gw_nx (hK372 _ _ ?_)
      refine gw_seq fun K375 hK375 => ?_
      refine wp_block ?_
      refine gR fun K376 hK376 => ?_
      refine V H374 (op_move rfl (H374.ev rfl)) ?_
      intro _ H378; clear H374
      refine V H378 (op_assign rfl (H378.ev rfl)) ?_
      intro _ H380; clear H378
      refine gE hK376 ?_
      refine wp_region_lit ?_
      refine V H380 (op_move rfl (H380.ev rfl)) ?_
      intro _ H382; clear H380
      refine V H382 (op_move rfl (H382.ev rfl)) ?_
      intro _ H384; clear H382
      refine V H384 (op_move rfl (H384.ev rfl)) ?_
      intro _ H386; clear H384
      refine V H386 (op_ml_some (Go.Maps.int_keyed Try.underlying3) Try.underlying43 gwzer35 rfl (H386.ev rfl) (H386.ev rfl) (Go.Maps.keyOf_int_mk Try.underlying3 (wfI _ (by omega))) (O367.get 1 rfl) (hf_)) ?_
      intro _ H388; clear H386
      refine gw_call H388 (want_none rfl) rfl (by decide) (op_callL Try.func12 (by kernel_rfl) rfl rfl (ar_cons (H388.ev rfl) ar_nil)) (clone_walk x_ A5 c5 A6 c6 _ (Kd.C_below k2 O367.below) k1 (Kd.C_below k4 O367.below) k3 (okB_of (hf.2.2 _ hxm))) ?_
      rintro e393 w394 ⟨v389, v390, S391, rfl, hb395⟩
      refine ⟨_, rfl, fun _ H397 => ?_⟩
      have O398 := O367.fresh hb395
      have hbel399 := O367.below
      clear H388 O367 hb395
      have O400 := O398.ent_low 0 rfl (base' := w.heap.size) (Below.size hbel399)
      refine gw_news (O := .cells #[J x_.f0, v389, v390] 35 (0, 0)) (n := 1) H397 O400 (want_none rfl) rfl (by decide) (op_bslice (by kernel_rfl) rfl (pt_cons (H397.ev rfl) pt_nil)) ?_
      intro g401 _ w403 H404 O405; clear H397 O400
      have O406 : Own w w403 [Bk g401 [J x_.f0, v389, v390] 35, Chunk.ent w.heap.size S391 x_ v389 v390, Chunk.row k35 35 w.heap.size So (.slice Ao ((groupsU g.toNat ps.flatten).length) co) (groupsU g.toNat ps.flatten), Chunk.lmap Try.prog 3 g14 M] := O405
      clear O405
      have O407 : Own w _ [Chunk.row k35 35 w.heap.size So (.slice Ao ((groupsU g.toNat ps.flatten).length) co) (groupsU g.toNat ps.flatten), Chunk.ent w.heap.size S391 x_ v389 v390, Bk g401 [J x_.f0, v389, v390] 35, Chunk.lmap Try.prog 3 g14 M] := O406.sel [2, 1, 0, 3] (by decide)
      refine gw_append1 k35 0 (p := x_) (cs := [J x_.f0, v389, v390]) H404 O407 (want_none rfl) rfl (by decide) rfl Try.underlying25 gwinfo35 rfl (by decide) (by decide) rfl (H404.ev rfl) (H404.ev rfl) (fun w_ h_ => h_) O407.below.size (by rw [groups_len]; omega) ?_
      intro A408 c409 S410 _ w412 H413 O414; clear H404 O406 O407
      have O415 : Own w w412 [Chunk.row k35 35 w.heap.size S410 (.slice A408 (((groupsU g.toNat ps.flatten) ++ [x_]).length) c409) ((groupsU g.toNat ps.flatten) ++ [x_]), Bk g401 [J x_.f0, v389, v390] 35, Chunk.lmap Try.prog 3 g14 M] := O414
      clear O414
      refine V H413 (op_assign rfl (H413.ev rfl)) ?_
      intro _ H417; clear H413
      refine wpList_nil ?_
      refine gw_blk ?_
      refine gw_nx (hK375 _ _ ?_)
      refine wp_region_lit ?_
      refine V H417 (op_add rfl (H417.ev rfl) (ev_c _ _) (by omega)) ?_
      intro _ H419; clear H417
      refine V H419 (op_move rfl (H419.ev rfl)) ?_
      intro _ H421; clear H419
      refine wpList_nil ?_
      rw [show (groupsU g.toNat ps.flatten) ++ [x_] = groupsU (g + 1).toNat ps.flatten from by rw [show (g + 1).toNat = g.toNat + 1 by omega, groups_next, first_at hG hxm (by omega)]] at O415
      (try rw [show (groupsU g.toNat ps.flatten) ++ [x_] = groupsU (g + 1).toNat ps.flatten from by rw [show (g + 1).toNat = g.toNat + 1 by omega, groups_next, first_at hG hxm (by omega)]] at H421)
      refine gw_nx ⟨_, ?_, g + 1, A408, c409, S410, (H421.pick (t := 66) rfl (H421.pick (t := 13) rfl (H421.pick (t := 6) rfl (H421.pick (t := 65) rfl H421.nil)))), O415.sel [0, 2] (by decide), ?_, rfl⟩
      ·
       rw [hm368]; omega
      ·
       omega
     ·
      have H422 := H371.subst_ (d := 67) (b := false) rfl hb373
      clear H371
      (try simp only [decide_eq_false_iff_not, Int.not_lt] at hb373)
      refine wp_exit ?_
      refine gw_thx ?_
      refine gw_thx ?_
      refine gw_in ?_
      refine gw_nx (hK354 _ _ ?_)
      refine gR fun K423 hK423 => ?_
      refine V H422 (op_move rfl (H422.ev rfl)) ?_
      intro _ H425; clear H422
      refine V H425 (op_assign rfl (H425.ev rfl)) ?_
      intro _ H427; clear H425
      refine V H427 (op_assign rfl (ev_c _ _)) ?_
      intro _ H429; clear H427
      refine gE hK423 ?_
      refine wp_ret ?_
      refine gw_ret2 H429 rfl rfl rfl ?_
      rw [mergeG_all hG hfu, show n.toNat = g.toNat by omega]
      exact ⟨_, _, _, rfl, (O367.sel [0] (by decide)).out⟩
end GMerge_
export GMerge_ (Merge_walk)
end Go.Proofs.Ytmhgblhmkhoopaa.PA
end
section
namespace Go.Proofs.Ytmhgblhmkhoopaa.PA
open Go.RowKit Go.Maps Go.Proofs.YtmhgblhmkhoopaaW.PrintWords Go.Proofs.YtmhgblhmkhoopaaW.PrintLast Go.Proofs.YtmhgblhmkhoopaaW.PrintMore
set_option linter.unusedVariables false
set_option linter.unusedSimpArgs false
def Chunk.frz (w1 : World) (S : Nat → Prop) : Chunk := ⟨S, fun w => ∀ k, S k → w.heap[k]? = w1.heap[k]?, fun h hm k hk => (hm k hk).trans (h k hk)⟩
section
variable {α β : Type} {d : Kd α} {d' : Kd β} {e base n c i : Nat} {S : Nat → Prop} {A : Option Addr} {xs : List α} {w0 w w1 : World} {L : List Chunk}
abbrev okF (w0 : World) (S : Nat → Prop) : Nat → Prop := fun k => k < w0.heap.size ∨ S k
theorem Own.frz (h : Own w0 w L) (i : Nat) {c : Chunk} (hi : L[i]? = some c) : Own w0 w (L.set i (Chunk.frz w c.S)) :=
  h.calls (cs := []) i hi (Out.one (Out.refl w _) (c := Chunk.frz w c.S) (fun _ _ => rfl) fun k hk => ⟨.inl hk, (h.lt i hi hk).2⟩)
theorem frz_C (HO : Own w0 w L) (hi : L[i]? = some (Chunk.frz w1 S)) (hb : Below w0.heap.size w0 w1) (hF : d.F w1 (okF w0 S) A n xs) : d.C w A n xs :=
  hF w fun k hk _ => hk.elim (fun h => (HO.below.block k h).trans (hb.block k h).symm) fun h => HO.get i hi k h
theorem frz_cells {ad : Addr} {m : Nat} {cs : List Value} (HO : Own w0 w L) (hi : L[i]? = some (Chunk.frz w1 S)) (hb : Below w0.heap.size w0 w1) (hok : okF w0 S ad.block) (hc : ∀ j u, cs[j]? = some u → w1.cell? (ad.add (m + j)) = some u) : ∀ j u, cs[j]? = some u → w.cell? ((ad.add m).add j) = some u := fun j u hj => by
  have hk : w.heap[ad.block]? = w1.heap[ad.block]? := hok.elim (fun h => (HO.below.block _ h).trans (hb.block _ h).symm) fun h => HO.get i hi _ h
  rw [add_add, cell_same, hc j u hj]
  rw [add_block]
  exact hk
theorem frz_row (h : Own w0 w L) (i : Nat) (hi : L[i]? = some (Chunk.row d e base S (.slice A n c) xs)) : Own w0 w (L.set i (Chunk.frz w S)) ∧ Kd.F d w (okF w0 S) A n xs ∧ n ≤ c ∧ Below w0.heap.size w0 w ∧ d.R e w base S (.slice A n c) xs := by
  have hR : d.R e w base S (.slice A n c) xs := h.get i hi
  exact ⟨h.frz i hi, Kd.F_mono (Kd.Q_F (Kd.Q_of_R hR)) (fun _ hk => .inr hk), by have := Kd.R_reads' hR; omega, h.below, hR⟩
end
theorem refMerge_frz (w0 w : World) (R : Chunk) (A0 : Option Addr) (c0 : Nat) (n : Int) (ps : List (List EE)) (hr : Kd.C (Kd.slice 35 k35) w0 A0 ps.length ps) (hc : ps.length ≤ c0) (hf : fewP ps) (hn : n ≤ 2000) (HO : Own w0 w [R]) :
    Calls Try.prog 8 #[.int .i64 n, .slice A0 ps.length c0] w fun e w' => ∃ (w1 : World) (A : Option Addr) (c : Nat) (S : Nat → Prop), e = .returned (.tuple #[.slice A (mergeG n ps.flatten).1.length c, .int .i64 (mergeG n ps.flatten).2]) ∧ Own w0 w' [Chunk.frz w1 S, R] ∧ Below w0.heap.size w0 w1 ∧ Kd.F kE w1 (okF w0 S) A (mergeG n ps.flatten).1.length (mergeG n ps.flatten).1 ∧ (mergeG n ps.flatten).1.length ≤ c := by
  have hF := Kd.F_below (Kd.C_F (Kd.heap_slice 35 k35_heap) hr) HO.below
  refine (refMerge_calls A0 c0 n ps _ w hF hc hf hn).mono ?_
  rintro e w' ⟨v, rfl, hN, hb⟩
  obtain ⟨A, c, rfl⟩ := Kd.N_slice hN
  have hO := HO.fresh (cs := [Chunk.frz w' fun k => w.heap.size ≤ k ∧ k < w'.heap.size]) (Out.one (Out.of_below hb _) (c := Chunk.frz w' fun k => w.heap.size ≤ k ∧ k < w'.heap.size) (fun _ _ => rfl) fun k hk => ⟨.inr hk.1, hk.2⟩)
  exact ⟨w', A, c, _, rfl, hO, (HO.after hb).below, Kd.F_mono (Kd.F_bound (Kd.N_F hN)) (fun k hk => hk.1.elim .inl fun h => .inr ⟨h, hk.2⟩), by have := Kd.N_reads' hN; omega⟩
theorem mergeG_mem {n : Int} {l : List EE} : ∀ x ∈ (mergeG n l).1, x ∈ l := fun x hx => by
  by_cases hg : goodE n l
  · by_cases hf : fullE n l
    · rw [mergeG_all hg hf] at hx
      obtain ⟨g, hg2, rfl⟩ := List.mem_map.1 hx
      have hlt := List.mem_range.1 hg2
      obtain ⟨e, he, h2⟩ := hf (g : Int) (by omega) (by omega)
      rw [first_at hg he h2]
      exact he
    · rw [mergeG_gap hg hf] at hx; cases hx
  · rw [mergeG_bad hg] at hx; cases hx
theorem mergeG_len {n : Int} {l : List EE} (hn : n ≤ 2000) : (mergeG n l).1.length ≤ 9223372036854775806 := by
  by_cases hg : goodE n l
  · by_cases hf : fullE n l
    · rw [mergeG_all hg hf]; show (groupsU n.toNat l).length ≤ _; rw [groups_len]; omega
    · rw [mergeG_gap hg hf]; simp
  · rw [mergeG_bad hg]; simp
theorem refMerge_is (w0 w : World) (R : Chunk) (A0 : Option Addr) (c0 : Nat) (n : Int) (ps : List (List EE)) (RS : List EE × Int) (hRS : RS = mergeG n ps.flatten) (hr : Kd.C (Kd.slice 35 k35) w0 A0 ps.length ps) (hc : ps.length ≤ c0) (hf : fewP ps) (hn : n ≤ 2000) (HO : Own w0 w [R]) :
    Calls Try.prog 8 #[.int .i64 n, .slice A0 ps.length c0] w fun e w' => ∃ (w1 : World) (A : Option Addr) (c : Nat) (S : Nat → Prop), e = .returned (.tuple #[.slice A RS.1.length c, .int .i64 RS.2]) ∧ Own w0 w' [Chunk.frz w1 S, R] ∧ Below w0.heap.size w0 w1 ∧ Kd.F kE w1 (okF w0 S) A RS.1.length RS.1 ∧ RS.1.length ≤ c := by
  subst hRS
  exact refMerge_frz w0 w R A0 c0 n ps hr hc hf hn HO
def lawH (ps : List (List EE)) : Prop := smallP ps ∧ ∀ e ∈ ps.flatten, -9223372036854775808 ≤ e.f0 ∧ e.f0 ≤ 9223372036854775807
structure MutP (w : World) (S : Nat → Prop) (ad : Addr) (B : Nat → Option Addr) (C : Nat → Nat) (L : List EE) : Prop where
  row : ∀ i, i < L.length → w.cell? ((ad.add (i * 3)).add 1) = some (.slice (B i) (L.getD i zE).f1.length (C i)) ∧ S ad.block
  inn : ∀ i, i < L.length → ∀ k, k < (L.getD i zE).f1.length → ∃ (g : Nat) (z : Int), B i = some ⟨g, 0, none⟩ ∧ S g ∧ g ≠ ad.block ∧ w.cell? ⟨g, k * 2 + 1, none⟩ = some (.int .i64 z) ∧ w.frozen? ⟨g, k * 2 + 1, none⟩ = false
theorem cell_of {w w' : World} {p : Addr} (h : w'.heap[p.block]? = w.heap[p.block]?) : w'.cell? p = w.cell? p := cell_same h
theorem frozen_of {w w' : World} {p : Addr} (h : w'.heap[p.block]? = w.heap[p.block]?) : w'.frozen? p = w.frozen? p := by
  unfold World.frozen?
  rw [h]
def Chunk.mut (S : Nat → Prop) (ad : Addr) (B : Nat → Option Addr) (C : Nat → Nat) (L : List EE) : Chunk := ⟨S, fun w => MutP w S ad B C L, fun {w w'} h hm => ⟨fun i hi => by
    obtain ⟨h1, h2⟩ := h.row i hi
    refine ⟨(cell_of ?_).trans h1, h2⟩
    rw [add_block, add_block]
    exact hm _ h2, fun i hi k hk => by
    obtain ⟨g, z, h1, h2, h3, h4, h5⟩ := h.inn i hi k hk
    exact ⟨g, z, h1, h2, h3, (cell_of (hm _ h2)).trans h4, (frozen_of (hm _ h2)).trans h5⟩⟩⟩
theorem mut_of {w : World} {base n c : Nat} {S : Nat → Prop} {A : Option Addr} {L : List EE} (h : kE.R 35 w base S (.slice A n c) L) : ∃ ad B C, (0 < L.length → A = some ad) ∧ MutP w S ad B C L := by
  by_cases h0 : 0 < L.length
  · obtain ⟨g, cap, hv, _, _, _⟩ := Kd.R_form h h0
    injection hv with hA hn hc
    subst hA hn hc
    have hSg : S g := row_in h (ad := ⟨g, 0, none⟩) rfl
    have key : ∀ i, ∃ (b : Option Addr) (cc : Nat), i < L.length → w.cell? ⟨g, i * 3 + 1, none⟩ = some (.slice b (L.getD i zE).f1.length cc) ∧ ∀ k, k < (L.getD i zE).f1.length → ∃ (q : Nat) (z : Int), b = some ⟨q, 0, none⟩ ∧ S q ∧ q ≠ g ∧ w.cell? ⟨q, k * 2 + 1, none⟩ = some (.int .i64 z) ∧ w.frozen? ⟨q, k * 2 + 1, none⟩ = false := by
      intro i
      by_cases hi : i < L.length
      · obtain ⟨cs, hl, hM, hcc, _⟩ := Kd.R_elem h zE (i : Int) (by omega) (by omega)
        rw [Int.toNat_natCast] at hM hcc
        obtain ⟨v1, v2, rfl, hR1, hR2⟩ := k35_openM hM
        obtain ⟨b, cc, rfl⟩ := Kd.R_slice hR1
        refine ⟨b, cc, fun _ => ⟨hcc 1 _ rfl, fun k hk => ?_⟩⟩
        obtain ⟨q, cap2, hv2, _, _, _⟩ := Kd.R_form hR1 (by omega)
        injection hv2 with hA2 _ hc2
        subst hA2 hc2
        obtain ⟨cs2, hl2, hM2, hcc2, hfz⟩ := Kd.R_elem hR1 z37 (k : Int) (by omega) (by omega)
        rw [Int.toNat_natCast] at hM2 hcc2 hfz
        have e2 := k37_openM hM2
        subst e2
        have hq := hR1.1 q (by simp [Value.ownBlock])
        exact ⟨q, _, rfl, hq.1, hq.2, hcc2 1 _ rfl, hfz 1⟩
      · exact ⟨none, 0, fun h => absurd h hi⟩
    obtain ⟨B, key⟩ := Classical.skolem.1 key
    obtain ⟨C, key⟩ := Classical.skolem.1 key
    refine ⟨⟨g, 0, none⟩, B, C, fun _ => rfl, ⟨fun i hi => ⟨?_, hSg⟩, fun i hi k hk => (key i hi).2 k hk⟩⟩
    rw [add_plain, add_at]
    exact (key i hi).1
  · exact ⟨⟨0, 0, none⟩, fun _ => none, fun _ => 0, fun h => absurd h h0, ⟨fun i hi => absurd hi (by omega), fun i hi => absurd hi (by omega)⟩⟩
theorem frz_mut {w0 w w1 : World} {L : List Chunk} {base n c : Nat} {S : Nat → Prop} {A : Option Addr} {xs : List EE} (HO : Own w0 w L) (i : Nat) (hi : L[i]? = some (Chunk.frz w1 S)) (hR : kE.R 35 w1 base S (.slice A n c) xs) : ∃ ad B C, (0 < xs.length → A = some ad) ∧ Own w0 w (L.set i (Chunk.mut S ad B C xs)) := by
  obtain ⟨ad, B, C, h1, h2⟩ := mut_of (Kd.R_move hR fun k hk => HO.get i hi k hk)
  exact ⟨ad, B, C, h1, HO.calls (cs := []) i hi (Out.one (Out.refl w _) (c := Chunk.mut S ad B C xs) h2 fun k hk => ⟨.inl hk, (HO.lt i hi hk).2⟩)⟩
section
variable {S : Nat → Prop} {ad : Addr} {B : Nat → Option Addr} {C : Nat → Nat} {xs : List EE} {w : World}
theorem mut_row (h : (Chunk.mut S ad B C xs).P w) (i : Int) (h0 : 0 ≤ i) (h1 : i < xs.length) : w.cell? ((ad.add (i.toNat * 3)).add 1) = some (.slice (B i.toNat) (xs.getD i.toNat zE).f1.length (C i.toNat)) := (h.row i.toNat (by omega)).1
theorem mut_in (h : (Chunk.mut S ad B C xs).P w) (i k : Int) (h0 : 0 ≤ i) (h1 : i < xs.length) (h2 : 0 ≤ k) (h3 : k < (xs.getD i.toNat zE).f1.length) : ∃ g : Nat, B i.toNat = some ⟨g, 0, none⟩ := by
  obtain ⟨g, _, hB, _⟩ := h.inn i.toNat (by omega) k.toNat (by omega)
  exact ⟨g, hB⟩
end
section
variable {D : List Deferred} {P : Program} {ops : Array Oper} {Q : Exit → Act → World → Prop} {rest : List Oper} {o : Oper} {N : Nat} {a : Act} {F : List (Nat × Value)} {w w0 : World} {L : List Chunk}
theorem gw_mut {S : Nat → Prop} {ad : Addr} {B : Nat → Option Addr} {C : Nat → Nat} {xs : List EE} {t : TypeId} {x y : Operand} {it kt u : Int} {g : Nat} (i : Nat) (HF : FrD D N a F) (HO : Own w0 w L) (hi : L[i]? = some (Chunk.mut S ad B C xs)) (hw : Region.wanted o (yielded ops a.tmps) = true) (hd : o.dst = none)
    (hS : ∀ w, (sizeOf t).run P w = .ok 1 w) (h0 : 0 ≤ it) (h1 : it < xs.length) (h2 : 0 ≤ kt) (h3 : kt < (xs.getD it.toNat zE).f1.length) (hB : B it.toNat = some ⟨g, 0, none⟩) (ho : o.op = .store t x y) (hx : a.eval x = .pointer (some (((⟨g, 0, none⟩ : Addr).add (kt.toNat * 2)).add 1))) (hy : a.eval y = .int .i64 u)
    (kk : ∀ a' w1, FrD D N a' F → Own w0 w1 (L.set i (Chunk.mut S ad B C xs)) → wpList P ops Q rest a' w1) : wpList P ops Q (o :: rest) a w := by
  have hM : MutP w S ad B C xs := HO.get i hi
  obtain ⟨g', z, hB', hSg, hng, hc, hf⟩ := hM.inn it.toNat (by omega) kt.toNat (by omega)
  rw [hB] at hB'
  obtain rfl : g = g' := by injection hB' with h; injection h
  have e : ((⟨g, 0, none⟩ : Addr).add (kt.toNat * 2)).add 1 = ⟨g, kt.toNat * 2 + 1, none⟩ := by rw [add_plain, add_at]
  rw [e] at hx
  refine gw_skip HF hw hd (op_store1 hS ho hx hy rfl hc hf) fun a' HF' => kk a' _ HF' (HO.calls (cs := []) i hi ?_)
  refine Out.one (c := Chunk.mut S ad B C xs) ((Out.refl w S).setCell (.inl hSg) _) ⟨fun j hj => ?_, fun j hj k hk => ?_⟩ ?_
  · obtain ⟨h4, h5⟩ := hM.row j hj
    refine ⟨?_, h5⟩
    rw [World.cell?_setCell_other _ _ _ _ (fun q => hng ?_)]
    · exact h4
    · have := congrArg Addr.block q
      rwa [add_block, add_block] at this
  · obtain ⟨g2, z2, h4, h5, h6, h7, h8⟩ := hM.inn j hj k hk
    by_cases hq : (⟨g, kt.toNat * 2 + 1, none⟩ : Addr) = ⟨g2, k * 2 + 1, none⟩
    · refine ⟨g2, u, h4, h5, h6, ?_, by rw [World.frozen?_setCell]; exact h8⟩
      rw [← hq]
      exact World.cell?_setCell_same _ _ _ hc
    · exact ⟨g2, z2, h4, h5, h6, by rw [World.cell?_setCell_other _ _ _ _ hq]; exact h7, by rw [World.frozen?_setCell]; exact h8⟩
  · intro q hq
    exact ⟨.inl hq, by have := (HO.lt i hi hq).2; simpa [World.setCell] using this⟩
end
end Go.Proofs.Ytmhgblhmkhoopaa.PA
end
section
namespace Go.Proofs.Ytmhgblhmkhoopaa.PA
open Go.RowKit Go.Proofs.YtmhgblhmkhoopaaW.PrintWords Go.Proofs.YtmhgblhmkhoopaaW.PrintLast Go.Proofs.YtmhgblhmkhoopaaW.PrintMore
set_option linter.unusedVariables false
set_option linter.unusedSimpArgs false
namespace GMergeI_
theorem Merge_is (n : Int) (A1 : Option Addr) (c1 : Nat) (ps : List (List EE)) (w : World) {RS : List EE × Int} (hRS : RS = mergeG n ps.flatten) (hr : Kd.C (Kd.slice 35 k35) w A1 ps.length ps) (hc : ps.length ≤ c1) (hf : fewP ps) (hn : n ≤ 2000) (hw : ∀ e ∈ ps.flatten, -9223372036854775808 ≤ e.f0 ∧ e.f0 ≤ 9223372036854775807) :
    Calls Try.prog 7 #[.int .i64 n, .slice A1 ps.length c1] w fun e w' => ∃ A c S_, e = .returned (.tuple #[.slice A RS.1.length c, .int .i64 RS.2]) ∧ Out w w' (fun _ => False) [Chunk.row k35 35 w.heap.size S_ (.slice A RS.1.length c) RS.1] := by
  subst hRS
  exact Merge_walk n A1 c1 ps w hr hc hf hn hw
end GMergeI_
export GMergeI_ (Merge_is)
end Go.Proofs.Ytmhgblhmkhoopaa.PA
end
section
namespace Go.Proofs.Ytmhgblhmkhoopaa.PA
open Go.RowKit Go.Proofs.YtmhgblhmkhoopaaW.PrintWords Go.Proofs.YtmhgblhmkhoopaaW.PrintLast Go.Proofs.YtmhgblhmkhoopaaW.PrintMore
attribute [local go_sem] max2_int min2_int max_two min_two max_three min_three max_four min_four   -- for this text's walks alone
set_option linter.unusedVariables false
set_option linter.unusedSimpArgs false
def colloquylaw22_entry.f (a0 : Int) : Option (Int × (List (S37)) × (List (List (S51)))) := some (a0, (([(⟨(⟨#[116]⟩ : ByteArray), 6⟩ : S37)] : List (S37))), (([[]] : List (List (S51)))))
set_option maxHeartbeats 8000000 in
set_option maxRecDepth 100000 in
theorem colloquylaw22_entry.calls (a0 : Int) (r1 : Int) (r2 : List (S37)) (r3 : List (List (S51))) (w : World) (h : colloquylaw22_entry.f a0 = some (r1, r2, r3)) :
    Calls Try.prog 11 #[.int .i64 a0] w fun e w' => ∃ v1_ v2_ : Value, e = .returned (.agg #[.int .i64 r1, v1_, v2_]) ∧ Kd.R k37 37 w' w.heap.size (fun _ => True) v1_ r2 ∧ Kd.S (Kd.slice 51 k51) 42 w' w.heap.size (fun _ => True) v2_ r3 ∧ Below w.heap.size w w' := by
  have hu35 := Try.underlying35
  have hu37 := Try.underlying37
  have HB := Aside0.mk (Below.refl w.heap.size w)
  have H : (some (a0, (([(⟨(⟨#[116]⟩ : ByteArray), 6⟩ : S37)] : List (S37))), (([[]] : List (List (S51)))))) = some (r1, r2, r3) := h
  clear h
  obtain ⟨y113, hy113⟩ : ∃ y_ : List (S37), y_ = (([(⟨(⟨#[116]⟩ : ByteArray), 6⟩ : S37)] : List (S37))) := ⟨_, rfl⟩
  replace H : (some (a0, y113, (([[]] : List (List (S51)))))) = some (r1, r2, r3) := by first | (rw [hy113]; with_reducible exact H) | (have H2_ := (Option.bind_some _ _).symm.trans H; rw [hy113]; with_reducible exact H2_) | (have H2_ := (Option.bind_some _ _).symm.trans H; with_reducible exact H2_) | with_reducible exact H | (rw [hy113]; exact H) | exact H
  have Ny113 := Aside0.mk hy113
  clear hy113
  obtain ⟨y116, hy116⟩ : ∃ y_ : List (List (S51)), y_ = (([[]] : List (List (S51)))) := ⟨_, rfl⟩
  replace H : (some (a0, y113, y116)) = some (r1, r2, r3) := by first | (rw [hy116]; with_reducible exact H) | (have H2_ := (Option.bind_some _ _).symm.trans H; rw [hy116]; with_reducible exact H2_) | (have H2_ := (Option.bind_some _ _).symm.trans H; with_reducible exact H2_) | with_reducible exact H | (rw [hy116]; exact H) | exact H
  have Ny116 := Aside0.mk hy116
  clear hy116
  simp only [Option.some.injEq, Prod.mk.injEq] at H
  obtain ⟨rfl, rfl, rfl⟩ := H
  go_enter Try.func11, Try.ntmps11
  go_wp2_with (first | ((with_reducible refine gate_dst (N := 2) rfl ?_); refine box_event ?hg (N := 2) ?hd (cs := #[.int .i64 0, .slice none 0 0, .slice none 0 0]) (t := 35) ?hr ?_; (case hd => rfl); (case hg => rfl); (case hr => first | (go_simp; done) | (go_simp; rfl)); intro gb112 hg w2 hbox hb; have n0_ := Aside0.mk (below_step (by repeat (first | (with_reducible first | exact HB.out | apply below_alloc | apply pw_below_drewN | apply below_drew1) | exact HB.out)) hb); have n1_ := Aside0.mk (hbox); have n2_ := Aside0.mk ((by rw [hg]; exact (below_size (by repeat (first | (with_reducible first | exact HB.out | apply below_alloc | apply pw_below_drewN | apply below_drew1) | exact HB.out))) : w.heap.size ≤ gb112)); have n3_ := Aside0.mk ((by rw [hg]; exact (below_size (by repeat (first | (with_reducible first | exact HB.out | apply below_alloc | apply pw_below_drewN | apply below_drew1) | exact HB.out))) : w.heap.size ≤ gb112)); clear HB; have HB := n0_; have BK112 := n1_; have GW112 := n2_; have GE112 := n3_; clear n0_ n1_ n2_ n3_; clear hb hbox hg) | ((with_reducible refine gate_dst (N := 5) rfl ?_); refine Kd.R_lit k37 _ 37 ?hg (N := 5) ?hd (xs := ([(⟨(⟨#[116]⟩ : ByteArray), 6⟩ : S37)] : List (S37))) (inner := [.string (⟨#[116]⟩ : ByteArray), .int .i64 6]) (ok := fun _ => True) (okp := fun _ => True) ?hr ?hp (fun _ hk => hk) trivial (Below.refl _ _) (Nat.le_refl _) (by simp) ?_; (case hd => rfl); (case hg => rfl); (case hr => first | (go_simp; done) | (go_simp; rfl)); (case hp => exact (Reps.c2 (show Kd.M k37 _ _ _ (⟨(⟨#[116]⟩ : ByteArray), 6⟩ : S37) [.string (⟨#[116]⟩ : ByteArray), .int .i64 6] from (k37_mkM _ _ _ (⟨(⟨#[116]⟩ : ByteArray), 6⟩ : S37) )) (Reps.none _ _))); intro v114 w3 ho4 hb hg_ hnew_; clear hg_ hnew_; (first | rw [← Ny113.out] at ho4 | (simp only [Int.reduceToNat] at ho4; rw [← Ny113.out] at ho4)); have n0_ := Aside0.mk (Kd.R_lower ho4 (below_size (by repeat (first | (with_reducible first | exact HB.out | apply below_alloc | apply pw_below_drewN | apply below_drew1 | refine below_set ?_ GE112.out) | exact HB.out)))); have n1_ := Aside0.mk (blk_below (g := gb112) (o := .cells #[.int .i64 0, .slice none 0 0, .slice none 0 0] 35 (0, 0)) (by (with_reducible repeat (first | refine blk_drewN ?_ _ | refine blk_drew ?_ | refine blk_alloc ?_ _)); exact BK112.out) hb); have n2_ := Aside0.mk (below_step (by repeat (first | (with_reducible first | exact HB.out | apply below_alloc | apply pw_below_drewN | apply below_drew1 | refine below_set ?_ GE112.out) | exact HB.out)) hb); clear BK112; clear HB; have HO115 := n0_; have BK112 := n1_; have HB := n2_; clear n0_ n1_ n2_; clear hb ho4) | ((with_reducible refine gate_dst (N := 6) rfl ?_); refine Kd.S_lit (Kd.slice 51 k51) _ 42 ?hg (N := 6) ?hd (xs := ([[]] : List (List (S51)))) (inner := [.slice none 0 0]) (ok := fun _ => True) (okp := fun _ => True) ?hr ?hp (fun _ hk => hk) trivial (Below.refl _ _) (Nat.le_refl _) (by simp) ?_; (case hd => rfl); (case hg => rfl); (case hr => first | (go_simp; done) | (go_simp; rfl)); (case hp => exact (Reps.one (show Kd.M (Kd.slice 51 k51) _ _ _ [] [.slice none 0 0] from ⟨_, rfl, Kd.R_nil _ _ _ _ _⟩) (Reps.none _ _))); intro v117 w5 ho6 hb hg_ hnew_; clear hg_ hnew_; (first | rw [← Ny116.out] at ho6 | (simp only [Int.reduceToNat] at ho6; rw [← Ny116.out] at ho6)); have n0_ := Aside0.mk (Kd.R_below (by (with_reducible repeat (first | apply Kd.R_alloc | apply Kd.R_drewN | apply Kd.R_drew)); exact HO115.out) hb); have n1_ := Aside0.mk (Kd.S_lower ho6 (below_size (by repeat (first | (with_reducible first | exact HB.out | apply below_alloc | apply pw_below_drewN | apply below_drew1 | refine below_set ?_ GE112.out) | exact HB.out)))); have n2_ := Aside0.mk (blk_below (g := gb112) (o := .cells #[.int .i64 0, .slice none 0 0, .slice none 0 0] 35 (0, 0)) (by (with_reducible repeat (first | refine blk_drewN ?_ _ | refine blk_drew ?_ | refine blk_alloc ?_ _)); exact BK112.out) hb); have n3_ := Aside0.mk (below_step (by repeat (first | (with_reducible first | exact HB.out | apply below_alloc | apply pw_below_drewN | apply below_drew1 | refine below_set ?_ GE112.out) | exact HB.out)) hb); clear HO115; clear BK112; clear HB; have HO115 := n0_; have HO118 := n1_; have BK112 := n2_; have HB := n3_; clear n0_ n1_ n2_ n3_; clear hb ho6; obtain ⟨Ao7, co7, eo7⟩ := Kd.S_slice HO118.out; subst eo7; obtain ⟨Ao8, co8, eo8⟩ := Kd.R_slice HO115.out; subst eo8; have hcz9_0 : w5.cell? ⟨gb112, 0, none⟩ = some (.int .i64 0) := (blk_cell BK112.out 0).trans rfl; have hcz9_1 : w5.cell? ⟨gb112, 1, none⟩ = some (.slice none 0 0) := (blk_cell BK112.out 1).trans rfl; have hcz9_2 : w5.cell? ⟨gb112, 2, none⟩ = some (.slice none 0 0) := (blk_cell BK112.out 2).trans rfl; have hfz9_0 := blk_frozen BK112.out 0; have hfz9_1 := blk_frozen BK112.out 1; have hfz9_2 := blk_frozen BK112.out 2))
  refine bodyPost_ret (results_cell_row rfl _ _ gb112 35 #[.int .i64 a0, .slice Ao8 y113.length co8, .slice Ao7 y116.length co7] (0, 0) _ rfl (by (with_reducible repeat (first | refine blk_drewN ?_ _ | refine blk_drew ?_ | refine blk_alloc ?_ _)); refine blk_put (cs := #[.int .i64 a0, .slice Ao8 y113.length co8, .slice none 0 0]) ?_ 2 _ rfl; (with_reducible repeat (first | refine blk_drewN ?_ _ | refine blk_drew ?_ | refine blk_alloc ?_ _)); refine blk_put (cs := #[.int .i64 a0, .slice none 0 0, .slice none 0 0]) ?_ 1 _ rfl; (with_reducible repeat (first | refine blk_drewN ?_ _ | refine blk_drew ?_ | refine blk_alloc ?_ _)); refine blk_put (cs := #[.int .i64 0, .slice none 0 0, .slice none 0 0]) ?_ 0 _ rfl; (with_reducible repeat (first | refine blk_drewN ?_ _ | refine blk_drew ?_ | refine blk_alloc ?_ _)); exact BK112.out) Try.underlying35 rfl (by kernel_rfl)) rfl ?_
  exact ⟨_, _, by first | rfl | (simp [errW_none, errW_some] <;> rfl) | (simp [*, errW_none, errW_some] <;> rfl), by (with_reducible repeat (first | apply Kd.R_alloc | apply Kd.R_drewN | apply Kd.R_drew)); exact Kd.R_mono (Kd.R_far (p := ⟨gb112, 2, none⟩) (Kd.R_far (p := ⟨gb112, 1, none⟩) (Kd.R_far (p := ⟨gb112, 0, none⟩) (Kd.R_types HO115.out BK112.out (by decide)) (fun _ hk => hk.2) (.int .i64 a0)) (fun _ hk => hk.2) (.slice Ao8 y113.length co8)) (fun _ hk => hk.2) (.slice Ao7 y116.length co7)) (fun _ hk => trivial), by (with_reducible repeat (first | apply Kd.S_alloc | apply Kd.S_drewN | apply Kd.S_drew)); exact Kd.S_mono (Kd.S_far (p := ⟨gb112, 2, none⟩) (Kd.S_far (p := ⟨gb112, 1, none⟩) (Kd.S_far (p := ⟨gb112, 0, none⟩) (Kd.S_types HO118.out BK112.out (by decide)) (fun _ hk => hk.2) (.int .i64 a0)) (fun _ hk => hk.2) (.slice Ao8 y113.length co8)) (fun _ hk => hk.2) (.slice Ao7 y116.length co7)) (fun _ hk => trivial), by repeat (first | (with_reducible first | exact HB.out | apply below_alloc | apply pw_below_drewN | apply below_drew1 | refine below_set ?_ GE112.out) | exact HB.out)⟩
end Go.Proofs.Ytmhgblhmkhoopaa.PA
end
section
namespace Go.Proofs.Ytmhgblhmkhoopaa.PA
open Go.RowKit Go.Maps Go.Proofs.YtmhgblhmkhoopaaW.PrintWords Go.Proofs.YtmhgblhmkhoopaaW.PrintLast Go.Proofs.YtmhgblhmkhoopaaW.PrintMore
set_option linter.unusedVariables false
set_option linter.unusedSimpArgs false
def entR : List RR := [⟨(⟨#[116]⟩ : ByteArray), 6⟩]
def entT : List (List VV) := [[]]
def entE (g : Int) : EE := ⟨g, entR, entT⟩
def Chunk.elv (S : Nat → Prop) (x : EE) (cs : List Value) : Chunk := ⟨S, fun w => Kd.FK kE w S x cs, fun h hm => Foot.step h fun k hk _ => hm k hk⟩
theorem entry_elv (g : Int) (w : World) : Calls Try.prog 11 #[.int .i64 g] w fun e w' => ∃ A1 c1 A2 c2 S, e = .returned (.agg #[.int .i64 g, .slice A1 1 c1, .slice A2 1 c2]) ∧ Out w w' (fun _ => False) [Chunk.elv S (entE g) [.int .i64 g, .slice A1 1 c1, .slice A2 1 c2]] := by
  refine (colloquylaw22_entry.calls g g entR entT w rfl).mono ?_
  rintro e w' ⟨v1, v2, rfl, h1, h2, hb⟩
  obtain ⟨A1, c1, rfl⟩ := Kd.R_slice h1
  have h2 := Kd.S_R h2
  obtain ⟨A2, c2, rfl⟩ := Kd.R_slice h2
  have hM : kE.M w' w.heap.size (fun k => w.heap.size ≤ k ∧ k < w'.heap.size) (entE g) [.int .i64 g, .slice A1 1 c1, .slice A2 1 c2] :=
    k35_mkM w' _ _ (entE g) (Kd.R_mono (Kd.R_bound h1) fun k hk => ⟨hk.2.1, hk.2.2.1⟩) (Kd.R_mono (Kd.R_bound h2) fun k hk => ⟨hk.2.1, hk.2.2.1⟩)
  exact ⟨A1, c1, A2, c2, _, rfl, Out.one (Out.of_below hb _) (c := Chunk.elv (fun k => w.heap.size ≤ k ∧ k < w'.heap.size) (entE g) [.int .i64 g, .slice A1 1 c1, .slice A2 1 c2]) (Kd.FK_of_M hM) fun k hk => ⟨.inr hk.1, hk.2⟩⟩
section
variable {w0 w : World} {L : List Chunk} {g T : Nat} {S1 S2 : Nat → Prop} {x y : EE} {a b c a' b' c' : Value}
theorem elv_1 {A1 A2 : Option Addr} {n1 n2 c1 c2 : Nat} (h : (Chunk.elv S1 x [a, .slice A1 n1 c1, .slice A2 n2 c2]).P w) : Kd.C k37 w A1 x.f1.length x.f1 ∧ x.f1.length ≤ c1 ∧ Kd.C (Kd.slice 51 k51) w A2 x.f2.length x.f2 ∧ x.f2.length ≤ c2 := by
  obtain ⟨B1, d1, B2, d2, he, l1, g1, l2, g2⟩ := k35_open (Kd.FK_now h)
  injection he with _ he
  injection he with h1 he
  injection he with h2 _
  injection h1 with q1 q2 q3
  injection h2 with q4 q5 q6
  subst q1 q3 q4 q6
  exact ⟨g1, l1, g2, l2⟩
theorem lit_e1 (h : Own w0 w (Chunk.blk g (.cells #[a, b, c] T (0, 0)) :: Chunk.elv S1 x [a, b, c] :: L)) : Own w0 w (Chunk.view kE (fun k => k = g ∨ S1 k) (some ⟨g, 0, none⟩) 1 1 [x] :: L) :=
  Own.lit_view (cs := [a, b, c]) h kE [x] (fun w h => reps_more (show Kd.FK kE w S1 x [a, b, c] from h) rfl reps_none) (by simp [maxLen])
theorem two_all {c1 c2 : Chunk} (h : Own w0 w (c1 :: c2 :: L)) : Own w0 w (Chunk.all [c1, c2] :: L) := Own.bundle (A := [_, _]) h
theorem all_1 {c1 c2 : Chunk} (h : (Chunk.all [c1, c2]).P w) : c1.P w := h.1 _ (List.mem_cons_self ..)
theorem all_2 {c1 c2 : Chunk} (h : (Chunk.all [c1, c2]).P w) : c2.P w := h.1 _ (List.mem_cons_of_mem _ (List.mem_cons_self ..))
theorem allS_1 {c1 c2 : Chunk} (k : Nat) (h : c1.S k) : (Chunk.all [c1, c2]).S k := ⟨_, List.mem_cons_self .., h⟩
theorem allS_2 {c1 c2 : Chunk} (k : Nat) (h : c2.S k) : (Chunk.all [c1, c2]).S k := ⟨_, List.mem_cons_of_mem _ (List.mem_cons_self ..), h⟩
theorem lit_e2 (h : Own w0 w (Chunk.blk g (.cells #[a, b, c, a', b', c'] T (0, 0)) :: Chunk.all [Chunk.elv S1 x [a, b, c], Chunk.elv S2 y [a', b', c']] :: L)) : Own w0 w (Chunk.view kE (fun k => k = g ∨ (Chunk.all [Chunk.elv S1 x [a, b, c], Chunk.elv S2 y [a', b', c']]).S k) (some ⟨g, 0, none⟩) 2 2 [x, y] :: L) :=
  Own.lit_view (cs := [a, b, c, a', b', c']) h kE [x, y] (fun w h => reps_more (show Kd.FK kE w _ x [a, b, c] from Foot.mono (all_1 h) (allS_1 (c1 := Chunk.elv S1 x [a, b, c]) (c2 := Chunk.elv S2 y [a', b', c']))) rfl (reps_more (show Kd.FK kE w _ y [a', b', c'] from Foot.mono (all_2 h) (allS_2 (c1 := Chunk.elv S1 x [a, b, c]) (c2 := Chunk.elv S2 y [a', b', c']))) rfl reps_none)) (by simp [maxLen])
theorem view_FK {A : Option Addr} {n m : Nat} {xs : List EE} {S : Nat → Prop} (h : (Chunk.view kE S A n m xs).P w) (hn : n = xs.length) : Kd.FK (Kd.slice 35 kE) w S xs [.slice A n m] := fun W' hW => by
  subst hn
  exact ⟨A, m, rfl, h.2.1, h.1 W' hW⟩
theorem lit_s2 {A1 A2 : Option Addr} {n1 n2 m1 m2 : Nat} {xs ys : List EE} (h : Own w0 w (Chunk.blk g (.cells #[.slice A1 n1 m1, .slice A2 n2 m2] T (0, 0)) :: Chunk.all [Chunk.view kE S1 A1 n1 m1 xs, Chunk.view kE S2 A2 n2 m2 ys] :: L)) (h1 : n1 = xs.length) (h2 : n2 = ys.length) : Own w0 w (Chunk.view (Kd.slice 35 kE) (fun k => k = g ∨ (Chunk.all [Chunk.view kE S1 A1 n1 m1 xs, Chunk.view kE S2 A2 n2 m2 ys]).S k) (some ⟨g, 0, none⟩) 2 2 [xs, ys] :: L) :=
  Own.lit_view (cs := [.slice A1 n1 m1, .slice A2 n2 m2]) h (Kd.slice 35 kE) [xs, ys] (fun w h => reps_more (show Kd.FK (Kd.slice 35 kE) w _ xs [.slice A1 n1 m1] from Foot.mono (view_FK (all_1 h) h1) (allS_1 (c1 := Chunk.view kE S1 A1 n1 m1 xs) (c2 := Chunk.view kE S2 A2 n2 m2 ys))) rfl (reps_more (show Kd.FK (Kd.slice 35 kE) w _ ys [.slice A2 n2 m2] from Foot.mono (view_FK (all_2 h) h2) (allS_2 (c1 := Chunk.view kE S1 A1 n1 m1 xs) (c2 := Chunk.view kE S2 A2 n2 m2 ys))) rfl reps_none)) (by simp [maxLen])
end
theorem al_okE (g : Int) : okE (entE g) := ⟨by show (1 : Nat) ≤ 2000; decide, by show (1 : Nat) ≤ 100; decide, fun t ht => by rw [List.mem_singleton.1 (show t ∈ [[]] from ht)]; decide⟩
theorem al_in {ps : List (List EE)} (h : ps.flatten = [entE 1, entE 0, entE 1] ∨ ps.flatten = [entE 1, entE 0]) : ∀ e ∈ ps.flatten, e = entE 0 ∨ e = entE 1 := by
  rcases h with h | h <;> rw [h] <;> intro e he <;> simp at he <;> rcases he with rfl | he <;> simp_all
theorem al_few {ps : List (List EE)} (hp : ps.length ≤ 100) (h : ps.flatten = [entE 1, entE 0, entE 1] ∨ ps.flatten = [entE 1, entE 0]) : fewP ps :=
  ⟨hp, by rcases h with h | h <;> rw [h] <;> decide, fun e he => by rcases al_in h e he with rfl | rfl <;> exact al_okE _⟩
theorem al_wf {ps : List (List EE)} (h : ps.flatten = [entE 1, entE 0, entE 1] ∨ ps.flatten = [entE 1, entE 0]) : ∀ e ∈ ps.flatten, -9223372036854775808 ≤ e.f0 ∧ e.f0 ≤ 9223372036854775807 := fun e he => by
  rcases al_in h e he with rfl | rfl <;> decide
theorem al_good (n : Int) (h : 2 ≤ n) (l : List EE) (hl : ∀ e ∈ l, e = entE 0 ∨ e = entE 1) : goodE n l := by
  refine ⟨fun e he => ?_, fun e he e' he' hh => ?_⟩
  · rcases hl e he with rfl | rfl
    · show 0 ≤ (0 : Int) ∧ 0 < n; omega
    · show 0 ≤ (1 : Int) ∧ 1 < n; omega
  · rcases hl e he with rfl | rfl <;> rcases hl e' he' with rfl | rfl
    · rfl
    · exact absurd (show (0 : Int) = 1 from hh) (by decide)
    · exact absurd (show (1 : Int) = 0 from hh) (by decide)
    · rfl
theorem al_ok {ps : List (List EE)} (h : ps.flatten = [entE 1, entE 0, entE 1]) : (([entE 0, entE 1], 0) : List EE × Int) = mergeG 2 ps.flatten := by
  have hi := al_in (.inl h)
  rw [h] at hi ⊢
  rw [mergeG_all (al_good 2 (by decide) _ hi)]
  · rfl
  · intro g h0 h1
    by_cases e : g = 0
    · exact ⟨entE 0, by simp, e.symm⟩
    · exact ⟨entE 1, by simp, by show (1 : Int) = g; omega⟩
theorem al_gap {ps : List (List EE)} (h : ps.flatten = [entE 1, entE 0]) : (([], 4) : List EE × Int) = mergeG 3 ps.flatten := by
  have hi := al_in (.inr h)
  rw [h] at hi ⊢
  rw [mergeG_gap (al_good 3 (by decide) _ hi)]
  refine gap_is (g := 2) (by decide) (by decide) fun e he => ?_
  rcases hi e he with rfl | rfl
  · show (0 : Int) ≠ 2; decide
  · show (1 : Int) ≠ 2; decide
theorem al_ne : eqA (entE 0) (entE 1) = false := eqA_no.2 fun h => absurd (congrArg (·.f0) h) (by show ¬ ((0 : Int) = 1); decide)
end Go.Proofs.Ytmhgblhmkhoopaa.PA
end
section
namespace Go.Proofs.Ytmhgblhmkhoopaa.PA
open Go.RowKit Go.Proofs.YtmhgblhmkhoopaaW.PrintWords Go.Proofs.YtmhgblhmkhoopaaW.PrintLast Go.Proofs.YtmhgblhmkhoopaaW.PrintMore
set_option linter.unusedVariables false
set_option linter.unusedSimpArgs false
namespace GAliveM_
theorem gwagg3 : ∀ w, (isAgg 3).run Try.prog w = .ok false w := fun _ => by kernel_rfl
theorem gwagg35 : ∀ w, (isAgg 35).run Try.prog w = .ok true w := fun _ => by kernel_rfl
theorem gwflda35_0 (ad : Addr) : ∀ w, (Instr.fieldAt 35 (.pointer (some ad)) 0).run Try.prog w = .ok (.pointer (some (ad.add 0))) w := fun _ => by kernel_rfl
theorem gwsiz35 : ∀ w, (sizeOf 35).run Try.prog w = .ok 3 w := fun _ => by kernel_rfl
set_option maxHeartbeats 4000000 in
set_option maxRecDepth 100000 in
theorem alive_walk (w : World) :
    Calls Try.prog 5 #[] w fun e w' => e = .returned (.bool true) ∧ Below w.heap.size w w' := by
 refine gw_start (N := 66) (vs := []) Try.func5 rfl rfl (by simp) fun a HF HO => ?_
 replace HO : Own w w [] := HO
 refine gR fun K1 hK1 => ?_
 refine V HF (op_assign rfl (ev_c _ _)) ?_
 intro _ H3; clear HF
 refine gE hK1 ?_
 refine gR fun K4 hK4 => ?_
 refine gw_call H3 (want_none rfl) rfl (by decide) (op_callL Try.func11 (by kernel_rfl) rfl rfl (ar_cons (ev_c _ _) ar_nil)) (entry_elv 1 _) ?_
 rintro e11 w12 ⟨A5, c6, A7, c8, S9, rfl, hb13⟩
 refine ⟨_, rfl, fun _ H15 => ?_⟩
 have O16 := HO.fresh hb13
 clear H3 HO hb13
 refine gw_news (O := .cells #[J 1, .slice A5 1 c6, .slice A7 1 c8] 35 (0, 0)) (n := 1) H15 O16 (want_none rfl) rfl (by decide) (op_bslice (by kernel_rfl) rfl (pt_cons (H15.ev rfl) pt_nil)) ?_
 intro g18 _ w20 H21 O22; clear H15 O16
 have O23 : Own w w20 [Bk g18 [J 1, .slice A5 1 c6, .slice A7 1 c8] 35, Chunk.elv S9 (entE 1) [J 1, .slice A5 1 c6, .slice A7 1 c8]] := O22
 clear O22
 have O25 := lit_e1 (by exact O23.sel [0, 1] (by decide))
 clear O23
 have O27 : Own w w20 [Chunk.view k35 (fun k_ => k_ = g18 ∨ S9 k_) (some ⟨g18, 0, none⟩) 1 1 ([(entE 1)])] := O25
 clear O25
 refine gw_call H21 (want_none rfl) rfl (by decide) (op_callL Try.func11 (by kernel_rfl) rfl rfl (ar_cons (ev_c _ _) ar_nil)) (entry_elv 0 _) ?_
 rintro e34 w35 ⟨A28, c29, A30, c31, S32, rfl, hb36⟩
 refine ⟨_, rfl, fun _ H38 => ?_⟩
 have O39 := O27.fresh hb36
 clear H21 O27 hb36
 refine gw_call H38 (want_none rfl) rfl (by decide) (op_callL Try.func11 (by kernel_rfl) rfl rfl (ar_cons (ev_c _ _) ar_nil)) (entry_elv 1 _) ?_
 rintro e47 w48 ⟨A41, c42, A43, c44, S45, rfl, hb49⟩
 refine ⟨_, rfl, fun _ H51 => ?_⟩
 have O52 := O39.fresh hb49
 clear H38 O39 hb49
 refine gw_news (O := .cells #[J 0, .slice A28 1 c29, .slice A30 1 c31, J 1, .slice A41 1 c42, .slice A43 1 c44] 35 (0, 0)) (n := 2) H51 O52 (want_none rfl) rfl (by decide) (op_bslice (by kernel_rfl) rfl (pt_cons (H51.ev rfl) (pt_cons (H51.ev rfl) pt_nil))) ?_
 intro g54 _ w56 H57 O58; clear H51 O52
 have O59 : Own w w56 [Bk g54 [J 0, .slice A28 1 c29, .slice A30 1 c31, J 1, .slice A41 1 c42, .slice A43 1 c44] 35, Chunk.elv S45 (entE 1) [J 1, .slice A41 1 c42, .slice A43 1 c44], Chunk.elv S32 (entE 0) [J 0, .slice A28 1 c29, .slice A30 1 c31], Chunk.view k35 (fun k_ => k_ = g18 ∨ S9 k_) (some ⟨g18, 0, none⟩) 1 1 ([(entE 1)])] := O58
 clear O58
 have O60 : Own w w56 [Chunk.all [Chunk.elv S32 (entE 0) [J 0, .slice A28 1 c29, .slice A30 1 c31], Chunk.elv S45 (entE 1) [J 1, .slice A41 1 c42, .slice A43 1 c44]], Bk g54 [J 0, .slice A28 1 c29, .slice A30 1 c31, J 1, .slice A41 1 c42, .slice A43 1 c44] 35, Chunk.view k35 (fun k_ => k_ = g18 ∨ S9 k_) (some ⟨g18, 0, none⟩) 1 1 ([(entE 1)])] := two_all (by exact O59.sel [2, 1, 0, 3] (by decide))
 have O61 := lit_e2 (by exact O60.sel [1, 0, 2] (by decide))
 clear O60
 clear O59
 have O63 : Own w w56 [Chunk.view k35 (fun k_ => k_ = g54 ∨ (Chunk.all [Chunk.elv S32 (entE 0) [J 0, .slice A28 1 c29, .slice A30 1 c31], Chunk.elv S45 (entE 1) [J 1, .slice A41 1 c42, .slice A43 1 c44]]).S k_) (some ⟨g54, 0, none⟩) 2 2 ([(entE 0), (entE 1)]), Chunk.view k35 (fun k_ => k_ = g18 ∨ S9 k_) (some ⟨g18, 0, none⟩) 1 1 ([(entE 1)])] := O61
 clear O61
 refine gw_news (O := .cells #[.slice (some ⟨g18, 0, none⟩) 1 1, .slice (some ⟨g54, 0, none⟩) 2 2] 25 (0, 0)) (n := 2) H57 O63 (want_none rfl) rfl (by decide) (op_bslice (by kernel_rfl) rfl (pt_cons (H57.ev rfl) (pt_cons (H57.ev rfl) pt_nil))) ?_
 intro g64 _ w66 H67 O68; clear H57 O63
 have O69 : Own w w66 [Bk g64 [.slice (some ⟨g18, 0, none⟩) 1 1, .slice (some ⟨g54, 0, none⟩) 2 2] 25, Chunk.view k35 (fun k_ => k_ = g54 ∨ (Chunk.all [Chunk.elv S32 (entE 0) [J 0, .slice A28 1 c29, .slice A30 1 c31], Chunk.elv S45 (entE 1) [J 1, .slice A41 1 c42, .slice A43 1 c44]]).S k_) (some ⟨g54, 0, none⟩) 2 2 ([(entE 0), (entE 1)]), Chunk.view k35 (fun k_ => k_ = g18 ∨ S9 k_) (some ⟨g18, 0, none⟩) 1 1 ([(entE 1)])] := O68
 clear O68
 have O70 : Own w w66 [Chunk.all [Chunk.view k35 (fun k_ => k_ = g18 ∨ S9 k_) (some ⟨g18, 0, none⟩) 1 1 ([(entE 1)]), Chunk.view k35 (fun k_ => k_ = g54 ∨ (Chunk.all [Chunk.elv S32 (entE 0) [J 0, .slice A28 1 c29, .slice A30 1 c31], Chunk.elv S45 (entE 1) [J 1, .slice A41 1 c42, .slice A43 1 c44]]).S k_) (some ⟨g54, 0, none⟩) 2 2 ([(entE 0), (entE 1)])], Bk g64 [.slice (some ⟨g18, 0, none⟩) 1 1, .slice (some ⟨g54, 0, none⟩) 2 2] 25] := two_all (by exact O69.sel [2, 1, 0] (by decide))
 have O71 := lit_s2 (by exact O70.sel [1, 0] (by decide)) (by rfl) (by rfl)
 clear O70
 clear O69
 have O73 : Own w w66 [Chunk.view (Kd.slice 35 k35) (fun k_ => k_ = g64 ∨ (Chunk.all [Chunk.view k35 (fun k_ => k_ = g18 ∨ S9 k_) (some ⟨g18, 0, none⟩) 1 1 ([(entE 1)]), Chunk.view k35 (fun k_ => k_ = g54 ∨ (Chunk.all [Chunk.elv S32 (entE 0) [J 0, .slice A28 1 c29, .slice A30 1 c31], Chunk.elv S45 (entE 1) [J 1, .slice A41 1 c42, .slice A43 1 c44]]).S k_) (some ⟨g54, 0, none⟩) 2 2 ([(entE 0), (entE 1)])]).S k_) (some ⟨g64, 0, none⟩) 2 2 ([[(entE 1)], [(entE 0), (entE 1)]])] := O71
 clear O71
 refine gw_call H67 (want_none rfl) rfl (by decide) (op_callL Try.func7 (by kernel_rfl) rfl rfl (ar_cons (ev_c _ _) (ar_cons (H67.ev rfl) ar_nil))) (Merge_is 2 (some ⟨g64, 0, none⟩) 2 ([[(entE 1)], [(entE 0), (entE 1)]]) _ (al_ok rfl) (view_C (O73.get 0 rfl)) (view_le (O73.get 0 rfl)) (al_few (by decide) (.inl rfl)) (by decide) (al_wf (.inl rfl))) ?_
 rintro e77 w78 ⟨A74, c75, S76, rfl, hb79⟩
 refine ⟨_, rfl, fun _ H81 => ?_⟩
 have O82 := O73.fresh hb79
 have hbel83 := O73.below
 clear H67 O73 hb79
 have O84 := O82.lowrow 0 rfl (base' := w.heap.size) (Below.size hbel83)
 refine V H81 (op_move rfl (H81.ev rfl)) ?_
 intro _ H86; clear H81
 refine V H86 (op_extract rfl (H86.ev rfl) rfl) ?_
 intro _ H88; clear H86
 refine V H88 (op_extract rfl (H88.ev rfl) rfl) ?_
 intro _ H90; clear H88
 refine V H90 (op_assign rfl (H90.ev rfl)) ?_
 intro _ H92; clear H90
 have O93 := O84.row_view 0 rfl
 clear O84
 have O94 : Own w w78 [Chunk.view k35 S76 A74 (([entE 0, entE 1] : List EE).length) c75 ([entE 0, entE 1] : List EE), Chunk.view (Kd.slice 35 k35) (fun k_ => k_ = g64 ∨ (Chunk.all [Chunk.view k35 (fun k_ => k_ = g18 ∨ S9 k_) (some ⟨g18, 0, none⟩) 1 1 ([(entE 1)]), Chunk.view k35 (fun k_ => k_ = g54 ∨ (Chunk.all [Chunk.elv S32 (entE 0) [J 0, .slice A28 1 c29, .slice A30 1 c31], Chunk.elv S45 (entE 1) [J 1, .slice A41 1 c42, .slice A43 1 c44]]).S k_) (some ⟨g54, 0, none⟩) 2 2 ([(entE 0), (entE 1)])]).S k_) (some ⟨g64, 0, none⟩) 2 2 ([[(entE 1)], [(entE 0), (entE 1)]])] := O93
 clear O93
 refine V H92 (op_assign rfl (H92.ev rfl)) ?_
 intro _ H96; clear H92
 refine gE hK4 ?_
 refine gR fun K97 hK97 => ?_
 refine gw_call H96 (want_none rfl) rfl (by decide) (op_callL Try.func11 (by kernel_rfl) rfl rfl (ar_cons (ev_c _ _) ar_nil)) (entry_elv 1 _) ?_
 rintro e104 w105 ⟨A98, c99, A100, c101, S102, rfl, hb106⟩
 refine ⟨_, rfl, fun _ H108 => ?_⟩
 have O109 := O94.fresh hb106
 clear H96 O94 hb106
 refine gw_news (O := .cells #[J 1, .slice A98 1 c99, .slice A100 1 c101] 35 (0, 0)) (n := 1) H108 O109 (want_none rfl) rfl (by decide) (op_bslice (by kernel_rfl) rfl (pt_cons (H108.ev rfl) pt_nil)) ?_
 intro g111 _ w113 H114 O115; clear H108 O109
 have O116 : Own w w113 [Bk g111 [J 1, .slice A98 1 c99, .slice A100 1 c101] 35, Chunk.elv S102 (entE 1) [J 1, .slice A98 1 c99, .slice A100 1 c101], Chunk.view k35 S76 A74 (([entE 0, entE 1] : List EE).length) c75 ([entE 0, entE 1] : List EE), Chunk.view (Kd.slice 35 k35) (fun k_ => k_ = g64 ∨ (Chunk.all [Chunk.view k35 (fun k_ => k_ = g18 ∨ S9 k_) (some ⟨g18, 0, none⟩) 1 1 ([(entE 1)]), Chunk.view k35 (fun k_ => k_ = g54 ∨ (Chunk.all [Chunk.elv S32 (entE 0) [J 0, .slice A28 1 c29, .slice A30 1 c31], Chunk.elv S45 (entE 1) [J 1, .slice A41 1 c42, .slice A43 1 c44]]).S k_) (some ⟨g54, 0, none⟩) 2 2 ([(entE 0), (entE 1)])]).S k_) (some ⟨g64, 0, none⟩) 2 2 ([[(entE 1)], [(entE 0), (entE 1)]])] := O115
 clear O115
 have O118 := lit_e1 (by exact O116.sel [0, 1, 2, 3] (by decide))
 clear O116
 have O120 : Own w w113 [Chunk.view k35 (fun k_ => k_ = g111 ∨ S102 k_) (some ⟨g111, 0, none⟩) 1 1 ([(entE 1)]), Chunk.view k35 S76 A74 (([entE 0, entE 1] : List EE).length) c75 ([entE 0, entE 1] : List EE), Chunk.view (Kd.slice 35 k35) (fun k_ => k_ = g64 ∨ (Chunk.all [Chunk.view k35 (fun k_ => k_ = g18 ∨ S9 k_) (some ⟨g18, 0, none⟩) 1 1 ([(entE 1)]), Chunk.view k35 (fun k_ => k_ = g54 ∨ (Chunk.all [Chunk.elv S32 (entE 0) [J 0, .slice A28 1 c29, .slice A30 1 c31], Chunk.elv S45 (entE 1) [J 1, .slice A41 1 c42, .slice A43 1 c44]]).S k_) (some ⟨g54, 0, none⟩) 2 2 ([(entE 0), (entE 1)])]).S k_) (some ⟨g64, 0, none⟩) 2 2 ([[(entE 1)], [(entE 0), (entE 1)]])] := O118
 clear O118
 refine gw_call H114 (want_none rfl) rfl (by decide) (op_callL Try.func11 (by kernel_rfl) rfl rfl (ar_cons (ev_c _ _) ar_nil)) (entry_elv 0 _) ?_
 rintro e127 w128 ⟨A121, c122, A123, c124, S125, rfl, hb129⟩
 refine ⟨_, rfl, fun _ H131 => ?_⟩
 have O132 := O120.fresh hb129
 clear H114 O120 hb129
 refine gw_news (O := .cells #[J 0, .slice A121 1 c122, .slice A123 1 c124] 35 (0, 0)) (n := 1) H131 O132 (want_none rfl) rfl (by decide) (op_bslice (by kernel_rfl) rfl (pt_cons (H131.ev rfl) pt_nil)) ?_
 intro g134 _ w136 H137 O138; clear H131 O132
 have O139 : Own w w136 [Bk g134 [J 0, .slice A121 1 c122, .slice A123 1 c124] 35, Chunk.elv S125 (entE 0) [J 0, .slice A121 1 c122, .slice A123 1 c124], Chunk.view k35 (fun k_ => k_ = g111 ∨ S102 k_) (some ⟨g111, 0, none⟩) 1 1 ([(entE 1)]), Chunk.view k35 S76 A74 (([entE 0, entE 1] : List EE).length) c75 ([entE 0, entE 1] : List EE), Chunk.view (Kd.slice 35 k35) (fun k_ => k_ = g64 ∨ (Chunk.all [Chunk.view k35 (fun k_ => k_ = g18 ∨ S9 k_) (some ⟨g18, 0, none⟩) 1 1 ([(entE 1)]), Chunk.view k35 (fun k_ => k_ = g54 ∨ (Chunk.all [Chunk.elv S32 (entE 0) [J 0, .slice A28 1 c29, .slice A30 1 c31], Chunk.elv S45 (entE 1) [J 1, .slice A41 1 c42, .slice A43 1 c44]]).S k_) (some ⟨g54, 0, none⟩) 2 2 ([(entE 0), (entE 1)])]).S k_) (some ⟨g64, 0, none⟩) 2 2 ([[(entE 1)], [(entE 0), (entE 1)]])] := O138
 clear O138
 have O141 := lit_e1 (by exact O139.sel [0, 1, 2, 3, 4] (by decide))
 clear O139
 have O143 : Own w w136 [Chunk.view k35 (fun k_ => k_ = g134 ∨ S125 k_) (some ⟨g134, 0, none⟩) 1 1 ([(entE 0)]), Chunk.view k35 (fun k_ => k_ = g111 ∨ S102 k_) (some ⟨g111, 0, none⟩) 1 1 ([(entE 1)]), Chunk.view k35 S76 A74 (([entE 0, entE 1] : List EE).length) c75 ([entE 0, entE 1] : List EE), Chunk.view (Kd.slice 35 k35) (fun k_ => k_ = g64 ∨ (Chunk.all [Chunk.view k35 (fun k_ => k_ = g18 ∨ S9 k_) (some ⟨g18, 0, none⟩) 1 1 ([(entE 1)]), Chunk.view k35 (fun k_ => k_ = g54 ∨ (Chunk.all [Chunk.elv S32 (entE 0) [J 0, .slice A28 1 c29, .slice A30 1 c31], Chunk.elv S45 (entE 1) [J 1, .slice A41 1 c42, .slice A43 1 c44]]).S k_) (some ⟨g54, 0, none⟩) 2 2 ([(entE 0), (entE 1)])]).S k_) (some ⟨g64, 0, none⟩) 2 2 ([[(entE 1)], [(entE 0), (entE 1)]])] := O141
 clear O141
 refine gw_news (O := .cells #[.slice (some ⟨g111, 0, none⟩) 1 1, .slice (some ⟨g134, 0, none⟩) 1 1] 25 (0, 0)) (n := 2) H137 O143 (want_none rfl) rfl (by decide) (op_bslice (by kernel_rfl) rfl (pt_cons (H137.ev rfl) (pt_cons (H137.ev rfl) pt_nil))) ?_
 intro g144 _ w146 H147 O148; clear H137 O143
 have O149 : Own w w146 [Bk g144 [.slice (some ⟨g111, 0, none⟩) 1 1, .slice (some ⟨g134, 0, none⟩) 1 1] 25, Chunk.view k35 (fun k_ => k_ = g134 ∨ S125 k_) (some ⟨g134, 0, none⟩) 1 1 ([(entE 0)]), Chunk.view k35 (fun k_ => k_ = g111 ∨ S102 k_) (some ⟨g111, 0, none⟩) 1 1 ([(entE 1)]), Chunk.view k35 S76 A74 (([entE 0, entE 1] : List EE).length) c75 ([entE 0, entE 1] : List EE), Chunk.view (Kd.slice 35 k35) (fun k_ => k_ = g64 ∨ (Chunk.all [Chunk.view k35 (fun k_ => k_ = g18 ∨ S9 k_) (some ⟨g18, 0, none⟩) 1 1 ([(entE 1)]), Chunk.view k35 (fun k_ => k_ = g54 ∨ (Chunk.all [Chunk.elv S32 (entE 0) [J 0, .slice A28 1 c29, .slice A30 1 c31], Chunk.elv S45 (entE 1) [J 1, .slice A41 1 c42, .slice A43 1 c44]]).S k_) (some ⟨g54, 0, none⟩) 2 2 ([(entE 0), (entE 1)])]).S k_) (some ⟨g64, 0, none⟩) 2 2 ([[(entE 1)], [(entE 0), (entE 1)]])] := O148
 clear O148
 have O150 : Own w w146 [Chunk.all [Chunk.view k35 (fun k_ => k_ = g111 ∨ S102 k_) (some ⟨g111, 0, none⟩) 1 1 ([(entE 1)]), Chunk.view k35 (fun k_ => k_ = g134 ∨ S125 k_) (some ⟨g134, 0, none⟩) 1 1 ([(entE 0)])], Bk g144 [.slice (some ⟨g111, 0, none⟩) 1 1, .slice (some ⟨g134, 0, none⟩) 1 1] 25, Chunk.view k35 S76 A74 (([entE 0, entE 1] : List EE).length) c75 ([entE 0, entE 1] : List EE), Chunk.view (Kd.slice 35 k35) (fun k_ => k_ = g64 ∨ (Chunk.all [Chunk.view k35 (fun k_ => k_ = g18 ∨ S9 k_) (some ⟨g18, 0, none⟩) 1 1 ([(entE 1)]), Chunk.view k35 (fun k_ => k_ = g54 ∨ (Chunk.all [Chunk.elv S32 (entE 0) [J 0, .slice A28 1 c29, .slice A30 1 c31], Chunk.elv S45 (entE 1) [J 1, .slice A41 1 c42, .slice A43 1 c44]]).S k_) (some ⟨g54, 0, none⟩) 2 2 ([(entE 0), (entE 1)])]).S k_) (some ⟨g64, 0, none⟩) 2 2 ([[(entE 1)], [(entE 0), (entE 1)]])] := two_all (by exact O149.sel [2, 1, 0, 3, 4] (by decide))
 have O151 := lit_s2 (by exact O150.sel [1, 0, 2, 3] (by decide)) (by rfl) (by rfl)
 clear O150
 clear O149
 have O153 : Own w w146 [Chunk.view (Kd.slice 35 k35) (fun k_ => k_ = g144 ∨ (Chunk.all [Chunk.view k35 (fun k_ => k_ = g111 ∨ S102 k_) (some ⟨g111, 0, none⟩) 1 1 ([(entE 1)]), Chunk.view k35 (fun k_ => k_ = g134 ∨ S125 k_) (some ⟨g134, 0, none⟩) 1 1 ([(entE 0)])]).S k_) (some ⟨g144, 0, none⟩) 2 2 ([[(entE 1)], [(entE 0)]]), Chunk.view k35 S76 A74 (([entE 0, entE 1] : List EE).length) c75 ([entE 0, entE 1] : List EE), Chunk.view (Kd.slice 35 k35) (fun k_ => k_ = g64 ∨ (Chunk.all [Chunk.view k35 (fun k_ => k_ = g18 ∨ S9 k_) (some ⟨g18, 0, none⟩) 1 1 ([(entE 1)]), Chunk.view k35 (fun k_ => k_ = g54 ∨ (Chunk.all [Chunk.elv S32 (entE 0) [J 0, .slice A28 1 c29, .slice A30 1 c31], Chunk.elv S45 (entE 1) [J 1, .slice A41 1 c42, .slice A43 1 c44]]).S k_) (some ⟨g54, 0, none⟩) 2 2 ([(entE 0), (entE 1)])]).S k_) (some ⟨g64, 0, none⟩) 2 2 ([[(entE 1)], [(entE 0), (entE 1)]])] := O151
 clear O151
 refine gw_call H147 (want_none rfl) rfl (by decide) (op_callL Try.func7 (by kernel_rfl) rfl rfl (ar_cons (ev_c _ _) (ar_cons (H147.ev rfl) ar_nil))) (Merge_is 3 (some ⟨g144, 0, none⟩) 2 ([[(entE 1)], [(entE 0)]]) _ (al_gap rfl) (view_C (O153.get 0 rfl)) (view_le (O153.get 0 rfl)) (al_few (by decide) (.inr rfl)) (by decide) (al_wf (.inr rfl))) ?_
 rintro e157 w158 ⟨A154, c155, S156, rfl, hb159⟩
 refine ⟨_, rfl, fun _ H161 => ?_⟩
 have O162 := O153.fresh hb159
 have hbel163 := O153.below
 clear H147 O153 hb159
 have O164 := O162.lowrow 0 rfl (base' := w.heap.size) (Below.size hbel163)
 refine V H161 (op_move rfl (H161.ev rfl)) ?_
 intro _ H166; clear H161
 refine V H166 (op_extract rfl (H166.ev rfl) rfl) ?_
 intro _ H168; clear H166
 refine V H168 (op_extract rfl (H168.ev rfl) rfl) ?_
 intro _ H170; clear H168
 refine V H170 (op_assign rfl (H170.ev rfl)) ?_
 intro _ H172; clear H170
 refine V H172 (op_assign rfl (H172.ev rfl)) ?_
 intro _ H174; clear H172
 refine gE hK97 ?_
 refine gw_seq fun K175 hK175 => ?_
 have O176 := O164.pin 1 rfl
 clear O164
 have O177 : Own w w158 [Chunk.row k35 35 w.heap.size S156 (.slice A154 (([] : List EE).length) c155) ([] : List EE), Chunk.viewAt w158 (Kd.slice 35 k35) (fun k_ => k_ = g144 ∨ (Chunk.all [Chunk.view k35 (fun k_ => k_ = g111 ∨ S102 k_) (some ⟨g111, 0, none⟩) 1 1 ([(entE 1)]), Chunk.view k35 (fun k_ => k_ = g134 ∨ S125 k_) (some ⟨g134, 0, none⟩) 1 1 ([(entE 0)])]).S k_) (some ⟨g144, 0, none⟩) 2 2 ([[(entE 1)], [(entE 0)]]), Chunk.view k35 S76 A74 (([entE 0, entE 1] : List EE).length) c75 ([entE 0, entE 1] : List EE), Chunk.view (Kd.slice 35 k35) (fun k_ => k_ = g64 ∨ (Chunk.all [Chunk.view k35 (fun k_ => k_ = g18 ∨ S9 k_) (some ⟨g18, 0, none⟩) 1 1 ([(entE 1)]), Chunk.view k35 (fun k_ => k_ = g54 ∨ (Chunk.all [Chunk.elv S32 (entE 0) [J 0, .slice A28 1 c29, .slice A30 1 c31], Chunk.elv S45 (entE 1) [J 1, .slice A41 1 c42, .slice A43 1 c44]]).S k_) (some ⟨g54, 0, none⟩) 2 2 ([(entE 0), (entE 1)])]).S k_) (some ⟨g64, 0, none⟩) 2 2 ([[(entE 1)], [(entE 0), (entE 1)]])] := O176
 clear O176
 have O178 := O177.pin 2 rfl
 clear O177
 have O179 : Own w w158 [Chunk.row k35 35 w.heap.size S156 (.slice A154 (([] : List EE).length) c155) ([] : List EE), Chunk.viewAt w158 (Kd.slice 35 k35) (fun k_ => k_ = g144 ∨ (Chunk.all [Chunk.view k35 (fun k_ => k_ = g111 ∨ S102 k_) (some ⟨g111, 0, none⟩) 1 1 ([(entE 1)]), Chunk.view k35 (fun k_ => k_ = g134 ∨ S125 k_) (some ⟨g134, 0, none⟩) 1 1 ([(entE 0)])]).S k_) (some ⟨g144, 0, none⟩) 2 2 ([[(entE 1)], [(entE 0)]]), Chunk.viewAt w158 k35 S76 A74 (([entE 0, entE 1] : List EE).length) c75 ([entE 0, entE 1] : List EE), Chunk.view (Kd.slice 35 k35) (fun k_ => k_ = g64 ∨ (Chunk.all [Chunk.view k35 (fun k_ => k_ = g18 ∨ S9 k_) (some ⟨g18, 0, none⟩) 1 1 ([(entE 1)]), Chunk.view k35 (fun k_ => k_ = g54 ∨ (Chunk.all [Chunk.elv S32 (entE 0) [J 0, .slice A28 1 c29, .slice A30 1 c31], Chunk.elv S45 (entE 1) [J 1, .slice A41 1 c42, .slice A43 1 c44]]).S k_) (some ⟨g54, 0, none⟩) 2 2 ([(entE 0), (entE 1)])]).S k_) (some ⟨g64, 0, none⟩) 2 2 ([[(entE 1)], [(entE 0), (entE 1)]])] := O178
 clear O178
 have O180 := O179.pin 3 rfl
 clear O179
 have O181 : Own w w158 [Chunk.row k35 35 w.heap.size S156 (.slice A154 (([] : List EE).length) c155) ([] : List EE), Chunk.viewAt w158 (Kd.slice 35 k35) (fun k_ => k_ = g144 ∨ (Chunk.all [Chunk.view k35 (fun k_ => k_ = g111 ∨ S102 k_) (some ⟨g111, 0, none⟩) 1 1 ([(entE 1)]), Chunk.view k35 (fun k_ => k_ = g134 ∨ S125 k_) (some ⟨g134, 0, none⟩) 1 1 ([(entE 0)])]).S k_) (some ⟨g144, 0, none⟩) 2 2 ([[(entE 1)], [(entE 0)]]), Chunk.viewAt w158 k35 S76 A74 (([entE 0, entE 1] : List EE).length) c75 ([entE 0, entE 1] : List EE), Chunk.viewAt w158 (Kd.slice 35 k35) (fun k_ => k_ = g64 ∨ (Chunk.all [Chunk.view k35 (fun k_ => k_ = g18 ∨ S9 k_) (some ⟨g18, 0, none⟩) 1 1 ([(entE 1)]), Chunk.view k35 (fun k_ => k_ = g54 ∨ (Chunk.all [Chunk.elv S32 (entE 0) [J 0, .slice A28 1 c29, .slice A30 1 c31], Chunk.elv S45 (entE 1) [J 1, .slice A41 1 c42, .slice A43 1 c44]]).S k_) (some ⟨g54, 0, none⟩) 2 2 ([(entE 0), (entE 1)])]).S k_) (some ⟨g64, 0, none⟩) 2 2 ([[(entE 1)], [(entE 0), (entE 1)]])] := O180
 clear O180
 refine gx_draw (M := [Chunk.row k35 35 w.heap.size S156 (.slice A154 (([] : List EE).length) c155) ([] : List EE), Chunk.viewAt w158 (Kd.slice 35 k35) (fun k_ => k_ = g144 ∨ (Chunk.all [Chunk.view k35 (fun k_ => k_ = g111 ∨ S102 k_) (some ⟨g111, 0, none⟩) 1 1 ([(entE 1)]), Chunk.view k35 (fun k_ => k_ = g134 ∨ S125 k_) (some ⟨g134, 0, none⟩) 1 1 ([(entE 0)])]).S k_) (some ⟨g144, 0, none⟩) 2 2 ([[(entE 1)], [(entE 0)]]), Chunk.viewAt w158 k35 S76 A74 (([entE 0, entE 1] : List EE).length) c75 ([entE 0, entE 1] : List EE), Chunk.viewAt w158 (Kd.slice 35 k35) (fun k_ => k_ = g64 ∨ (Chunk.all [Chunk.view k35 (fun k_ => k_ = g18 ∨ S9 k_) (some ⟨g18, 0, none⟩) 1 1 ([(entE 1)]), Chunk.view k35 (fun k_ => k_ = g54 ∨ (Chunk.all [Chunk.elv S32 (entE 0) [J 0, .slice A28 1 c29, .slice A30 1 c31], Chunk.elv S45 (entE 1) [J 1, .slice A41 1 c42, .slice A43 1 c44]]).S k_) (some ⟨g54, 0, none⟩) 2 2 ([(entE 0), (entE 1)])]).S k_) (some ⟨g64, 0, none⟩) 2 2 ([[(entE 1)], [(entE 0), (entE 1)]])]) (fun j_ => false) O181 (by kernel_rfl) fun w182 O183 => ?_
 clear O181
 refine gx_take 0 rfl (by kernel_rfl) H174 (by exact O183.sel [0, 1, 2, 3] (by decide)) (want_none rfl) rfl (by decide) (fun wq HO => (op_move rfl (H174.ev rfl))) ?_
 intro _ H185; clear H174
 refine gx_take 1 rfl (by kernel_rfl) H185 (by exact O183.sel [0, 1, 2, 3] (by decide)) (want_none rfl) rfl (by decide) (fun wq HO => (op_eqi rfl (H185.ev rfl) (ev_c _ _))) ?_
 intro _ H187; clear H185
 have H188 := H187.lit (b := true) (by decide)
 clear H187
 refine gx_take 2 rfl (by kernel_rfl) H188 (by exact O183.sel [0, 1, 2, 3] (by decide)) (want_none rfl) rfl (by decide) (fun wq HO => (op_move rfl (H188.ev rfl))) ?_
 intro _ H190; clear H188
 refine gx_take 3 rfl (by kernel_rfl) H190 (by exact O183.sel [0, 1, 2, 3] (by decide)) (want_yes H190 rfl rfl rfl rfl) rfl (by decide) (fun wq HO => (op_move rfl (H190.ev rfl))) ?_
 intro _ H192; clear H190
 refine gx_take 4 rfl (by kernel_rfl) H192 (by exact O183.sel [0, 1, 2, 3] (by decide)) (want_yes H192 rfl rfl rfl rfl) rfl (by decide) (fun wq HO => (op_len Try.underlying25 rfl (H192.ev rfl))) ?_
 intro _ H194; clear H192
 refine gx_take 5 rfl (by kernel_rfl) H194 (by exact O183.sel [0, 1, 2, 3] (by decide)) (want_yes H194 rfl rfl rfl rfl) rfl (by decide) (fun wq HO => (op_eqi rfl (H194.ev rfl) (ev_c _ _))) ?_
 intro _ H196; clear H194
 have H197 := H196.lit (b := true) (by decide)
 clear H196
 refine gx_take 6 rfl (by kernel_rfl) H197 (by exact O183.sel [0, 1, 2, 3] (by decide)) (want_none rfl) rfl (by decide) (fun wq HO => (op_pick_t rfl (H197.ev rfl) (H197.ev rfl))) ?_
 intro _ H199; clear H197
 refine gx_take 7 rfl (by kernel_rfl) H199 (by exact O183.sel [0, 1, 2, 3] (by decide)) (want_none rfl) rfl (by decide) (fun wq HO => (op_move rfl (H199.ev rfl))) ?_
 intro _ H201; clear H199
 refine gx_take 8 rfl (by kernel_rfl) H201 (by exact O183.sel [0, 1, 2, 3] (by decide)) (want_yes H201 rfl rfl rfl rfl) rfl (by decide) (fun wq HO => (op_move rfl (H201.ev rfl))) ?_
 intro _ H203; clear H201
 obtain ⟨ad204, cs207, hA205, hl208, hK209, hc206, _⟩ := Kd.F_get (viewAt_F (O183.get 2 rfl)) z35 0 (by decide) (by decide)
 obtain ⟨A210, c211, A214, c215, rfl, hl212, hC213, hl216, hC217⟩ := k35_openF hK209
 clear hl208
 refine gx_take 9 rfl (by kernel_rfl) H203 (by exact O183.sel [0, 1, 2, 3] (by decide)) (want_yes H203 rfl rfl rfl rfl) rfl (by decide) (fun wq HO => (op_index Try.underlying25 gwsiz35 rfl (H203.ev rfl) (ev_c _ _) hA205 (⟨by decide, by decide⟩))) ?_
 intro _ H219; clear H203
 refine gx_take 10 rfl (by kernel_rfl) H219 (by exact O183.sel [0, 1, 2, 3] (by decide)) (want_yes H219 rfl rfl rfl rfl) rfl (by decide) (fun wq HO => (op_field (gwflda35_0 _) rfl (H219.ev rfl))) ?_
 intro _ H221; clear H219
 refine gx_take 11 rfl (by kernel_rfl) H221 (by exact O183.sel [0, 1, 2, 3] (by decide)) (want_yes H221 rfl rfl rfl rfl) rfl (by decide) (fun wq HO => (op_load1 gwagg3 rfl (H221.ev rfl) (((pin_cells (HO.get 2 rfl) hA205 hc206) 0 _ rfl)))) ?_
 intro _ H223; clear H221
 refine gx_take 12 rfl (by kernel_rfl) H223 (by exact O183.sel [0, 1, 2, 3] (by decide)) (want_yes H223 rfl rfl rfl rfl) rfl (by decide) (fun wq HO => (op_eqi rfl (H223.ev rfl) (ev_c _ _))) ?_
 intro _ H225; clear H223
 have H226 := H225.lit (b := true) (by decide)
 clear H225
 refine gx_take 13 rfl (by kernel_rfl) H226 (by exact O183.sel [0, 1, 2, 3] (by decide)) (want_none rfl) rfl (by decide) (fun wq HO => (op_pick_t rfl (H226.ev rfl) (H226.ev rfl))) ?_
 intro _ H228; clear H226
 refine gx_take 14 rfl (by kernel_rfl) H228 (by exact O183.sel [0, 1, 2, 3] (by decide)) (want_none rfl) rfl (by decide) (fun wq HO => (op_move rfl (H228.ev rfl))) ?_
 intro _ H230; clear H228
 refine gx_take 15 rfl (by kernel_rfl) H230 (by exact O183.sel [0, 1, 2, 3] (by decide)) (want_yes H230 rfl rfl rfl rfl) rfl (by decide) (fun wq HO => (op_move rfl (H230.ev rfl))) ?_
 intro _ H232; clear H230
 obtain ⟨ad233, cs236, hA234, hl237, hK238, hc235, _⟩ := Kd.F_get (viewAt_F (O183.get 2 rfl)) z35 1 (by decide) (by decide)
 obtain ⟨A239, c240, A243, c244, rfl, hl241, hC242, hl245, hC246⟩ := k35_openF hK238
 clear hl237
 refine gx_take 16 rfl (by kernel_rfl) H232 (by exact O183.sel [0, 1, 2, 3] (by decide)) (want_yes H232 rfl rfl rfl rfl) rfl (by decide) (fun wq HO => (op_index Try.underlying25 gwsiz35 rfl (H232.ev rfl) (ev_c _ _) hA234 (⟨by decide, by decide⟩))) ?_
 intro _ H248; clear H232
 refine gx_take 17 rfl (by kernel_rfl) H248 (by exact O183.sel [0, 1, 2, 3] (by decide)) (want_yes H248 rfl rfl rfl rfl) rfl (by decide) (fun wq HO => (op_field (gwflda35_0 _) rfl (H248.ev rfl))) ?_
 intro _ H250; clear H248
 refine gx_take 18 rfl (by kernel_rfl) H250 (by exact O183.sel [0, 1, 2, 3] (by decide)) (want_yes H250 rfl rfl rfl rfl) rfl (by decide) (fun wq HO => (op_load1 gwagg3 rfl (H250.ev rfl) (((pin_cells (HO.get 2 rfl) hA234 hc235) 0 _ rfl)))) ?_
 intro _ H252; clear H250
 refine gx_take 19 rfl (by kernel_rfl) H252 (by exact O183.sel [0, 1, 2, 3] (by decide)) (want_yes H252 rfl rfl rfl rfl) rfl (by decide) (fun wq HO => (op_eqi rfl (H252.ev rfl) (ev_c _ _))) ?_
 intro _ H254; clear H252
 have H255 := H254.lit (b := true) (by decide)
 clear H254
 refine gx_take 20 rfl (by kernel_rfl) H255 (by exact O183.sel [0, 1, 2, 3] (by decide)) (want_none rfl) rfl (by decide) (fun wq HO => (op_pick_t rfl (H255.ev rfl) (H255.ev rfl))) ?_
 intro _ H257; clear H255
 refine gx_take 21 rfl (by kernel_rfl) H257 (by exact O183.sel [0, 1, 2, 3] (by decide)) (want_none rfl) rfl (by decide) (fun wq HO => (op_move rfl (H257.ev rfl))) ?_
 intro _ H259; clear H257
 refine gx_take 22 rfl (by kernel_rfl) H259 (by exact O183.sel [0, 1, 2, 3] (by decide)) (want_yes H259 rfl rfl rfl rfl) rfl (by decide) (fun wq HO => (op_move rfl (H259.ev rfl))) ?_
 intro _ H261; clear H259
 refine gx_take 23 rfl (by kernel_rfl) H261 (by exact O183.sel [0, 1, 2, 3] (by decide)) (want_yes H261 rfl rfl rfl rfl) rfl (by decide) (fun wq HO => (op_eqi rfl (H261.ev rfl) (ev_c _ _))) ?_
 intro _ H263; clear H261
 have H264 := H263.lit (b := true) (by decide)
 clear H263
 refine gx_take 24 rfl (by kernel_rfl) H264 (by exact O183.sel [0, 1, 2, 3] (by decide)) (want_none rfl) rfl (by decide) (fun wq HO => (op_pick_t rfl (H264.ev rfl) (H264.ev rfl))) ?_
 intro _ H266; clear H264
 refine gx_take 25 rfl (by kernel_rfl) H266 (by exact O183.sel [0, 1, 2, 3] (by decide)) (want_none rfl) rfl (by decide) (fun wq HO => (op_move rfl (H266.ev rfl))) ?_
 intro _ H268; clear H266
 refine gx_take 26 rfl (by kernel_rfl) H268 (by exact O183.sel [0, 1, 2, 3] (by decide)) (want_yes H268 rfl rfl rfl rfl) rfl (by decide) (fun wq HO => (op_move rfl (H268.ev rfl))) ?_
 intro _ H270; clear H268
 obtain ⟨ad271, cs274, hA272, hl275, hK276, hc273, _⟩ := Kd.F_get (viewAt_F (O183.get 2 rfl)) z35 0 (by decide) (by decide)
 obtain ⟨A277, c278, A281, c282, rfl, hl279, hC280, hl283, hC284⟩ := k35_openF hK276
 clear hl275
 refine gx_take 27 rfl (by kernel_rfl) H270 (by exact O183.sel [0, 1, 2, 3] (by decide)) (want_yes H270 rfl rfl rfl rfl) rfl (by decide) (fun wq HO => (op_index Try.underlying25 gwsiz35 rfl (H270.ev rfl) (ev_c _ _) hA272 (⟨by decide, by decide⟩))) ?_
 intro _ H286; clear H270
 refine gx_take 28 rfl (by kernel_rfl) H286 (by exact O183.sel [0, 1, 2, 3] (by decide)) (want_yes H286 rfl rfl rfl rfl) rfl (by decide) (fun wq HO => (op_loadc gwagg35 gwsiz35 rfl (H286.ev rfl) rfl ((pin_cells (HO.get 2 rfl) hA272 hc273)))) ?_
 intro _ H288; clear H286
 refine gx_step 29 rfl (by kernel_rfl) ?_
 refine gw_call H288 (want_yes H288 rfl rfl rfl rfl) rfl (by decide) (op_callL Try.func11 (by kernel_rfl) rfl rfl (ar_cons (ev_c _ _) ar_nil)) (entry_elv 0 _) ?_
 rintro e295 w296 ⟨A289, c290, A291, c292, S293, rfl, hb297⟩
 refine ⟨_, rfl, fun _ H299 => ?_⟩
 have O300 := O183.fresh hb297
 clear H288 O183 hb297
 refine gx_on (i := 29) (B := (fun j_ => false)) (fun _ => (by exact O300.sel [1, 2, 3, 4] (by decide))) ?_
 refine gx_step 30 rfl (by kernel_rfl) ?_
 refine gw_call H299 (want_yes H299 rfl rfl rfl rfl) rfl (by decide) (op_callL Try.func10 (by kernel_rfl) rfl rfl (ar_cons (H299.ev rfl) (ar_cons (H299.ev rfl) ar_nil))) (Same_walk (([entE 0, entE 1] : List EE).getD (0 : Int).toNat z35) A277 c278 A281 c282 (entE 0) A289 c290 A291 c292 _ (pinC (O300.get 3 rfl) hC280) hl279 (pinC (O300.get 3 rfl) hC284) hl283 (elv_1 (O300.get 0 rfl)).1 (elv_1 (O300.get 0 rfl)).2.1 (elv_1 (O300.get 0 rfl)).2.2.1 (elv_1 (O300.get 0 rfl)).2.2.2) ?_
 rintro e302 w303 ⟨rfl, hb304⟩
 refine ⟨_, rfl, fun _ H306 => ?_⟩
 have O307 := O300.after hb304
 clear H299 O300 hb304
 have H309 := H306.lit (b := true) (eqA_iff.2 rfl)
 clear H306
 refine gx_on (i := 30) (B := (fun j_ => false)) (fun _ => (by exact O307.sel [1, 2, 3, 4] (by decide))) ?_
 refine gx_take 31 rfl (by kernel_rfl) H309 (by exact O307.sel [1, 2, 3, 4] (by decide)) (want_none rfl) rfl (by decide) (fun wq HO => (op_pick_t rfl (H309.ev rfl) (H309.ev rfl))) ?_
 intro _ H311; clear H309
 refine gx_take 32 rfl (by kernel_rfl) H311 (by exact O307.sel [1, 2, 3, 4] (by decide)) (want_none rfl) rfl (by decide) (fun wq HO => (op_move rfl (H311.ev rfl))) ?_
 intro _ H313; clear H311
 refine gx_take 33 rfl (by kernel_rfl) H313 (by exact O307.sel [1, 2, 3, 4] (by decide)) (want_yes H313 rfl rfl rfl rfl) rfl (by decide) (fun wq HO => (op_move rfl (H313.ev rfl))) ?_
 intro _ H315; clear H313
 obtain ⟨ad316, cs319, hA317, hl320, hK321, hc318, _⟩ := Kd.F_get (viewAt_F (O307.get 3 rfl)) z35 0 (by decide) (by decide)
 obtain ⟨A322, c323, A326, c327, rfl, hl324, hC325, hl328, hC329⟩ := k35_openF hK321
 clear hl320
 refine gx_take 34 rfl (by kernel_rfl) H315 (by exact O307.sel [1, 2, 3, 4] (by decide)) (want_yes H315 rfl rfl rfl rfl) rfl (by decide) (fun wq HO => (op_index Try.underlying25 gwsiz35 rfl (H315.ev rfl) (ev_c _ _) hA317 (⟨by decide, by decide⟩))) ?_
 intro _ H331; clear H315
 refine gx_take 35 rfl (by kernel_rfl) H331 (by exact O307.sel [1, 2, 3, 4] (by decide)) (want_yes H331 rfl rfl rfl rfl) rfl (by decide) (fun wq HO => (op_loadc gwagg35 gwsiz35 rfl (H331.ev rfl) rfl ((pin_cells (HO.get 2 rfl) hA317 hc318)))) ?_
 intro _ H333; clear H331
 refine gx_take 36 rfl (by kernel_rfl) H333 (by exact O307.sel [1, 2, 3, 4] (by decide)) (want_yes H333 rfl rfl rfl rfl) rfl (by decide) (fun wq HO => (op_move rfl (H333.ev rfl))) ?_
 intro _ H335; clear H333
 obtain ⟨ad336, cs339, hA337, hl340, hK341, hc338, _⟩ := Kd.F_get (viewAt_F (O307.get 3 rfl)) z35 1 (by decide) (by decide)
 obtain ⟨A342, c343, A346, c347, rfl, hl344, hC345, hl348, hC349⟩ := k35_openF hK341
 clear hl340
 refine gx_take 37 rfl (by kernel_rfl) H335 (by exact O307.sel [1, 2, 3, 4] (by decide)) (want_yes H335 rfl rfl rfl rfl) rfl (by decide) (fun wq HO => (op_index Try.underlying25 gwsiz35 rfl (H335.ev rfl) (ev_c _ _) hA337 (⟨by decide, by decide⟩))) ?_
 intro _ H351; clear H335
 refine gx_take 38 rfl (by kernel_rfl) H351 (by exact O307.sel [1, 2, 3, 4] (by decide)) (want_yes H351 rfl rfl rfl rfl) rfl (by decide) (fun wq HO => (op_loadc gwagg35 gwsiz35 rfl (H351.ev rfl) rfl ((pin_cells (HO.get 2 rfl) hA337 hc338)))) ?_
 intro _ H353; clear H351
 refine gx_step 39 rfl (by kernel_rfl) ?_
 refine gw_call H353 (want_yes H353 rfl rfl rfl rfl) rfl (by decide) (op_callL Try.func10 (by kernel_rfl) rfl rfl (ar_cons (H353.ev rfl) (ar_cons (H353.ev rfl) ar_nil))) (Same_walk (([entE 0, entE 1] : List EE).getD (0 : Int).toNat z35) A322 c323 A326 c327 (([entE 0, entE 1] : List EE).getD (1 : Int).toNat z35) A342 c343 A346 c347 _ (pinC (O307.get 3 rfl) hC325) hl324 (pinC (O307.get 3 rfl) hC329) hl328 (pinC (O307.get 3 rfl) hC345) hl344 (pinC (O307.get 3 rfl) hC349) hl348) ?_
 rintro e354 w355 ⟨rfl, hb356⟩
 refine ⟨_, rfl, fun _ H358 => ?_⟩
 have O359 := O307.after hb356
 clear H353 O307 hb356
 have H361 := H358.lit (b := false) (al_ne)
 clear H358
 refine gx_on (i := 39) (B := (fun j_ => false)) (fun _ => (by exact O359.sel [1, 2, 3, 4] (by decide))) ?_
 refine gx_take 40 rfl (by kernel_rfl) H361 (by exact O359.sel [1, 2, 3, 4] (by decide)) (want_yes H361 rfl rfl rfl rfl) rfl (by decide) (fun wq HO => (op_not rfl (H361.ev rfl))) ?_
 intro _ H363; clear H361
 refine gx_take 41 rfl (by kernel_rfl) H363 (by exact O359.sel [1, 2, 3, 4] (by decide)) (want_none rfl) rfl (by decide) (fun wq HO => (op_pick_t rfl (H363.ev rfl) (H363.ev rfl))) ?_
 intro _ H365; clear H363
 refine gx_take 42 rfl (by kernel_rfl) H365 (by exact O359.sel [1, 2, 3, 4] (by decide)) (want_none rfl) rfl (by decide) (fun wq HO => (op_assign rfl (H365.ev rfl))) ?_
 intro _ H367; clear H365
 refine gx_done (by kernel_rfl) ?_
 refine gw_nx (hK175 _ _ ?_)
 refine wp_ret ?_
 have O368 := O359.unpin 2 rfl
 clear O359
 have O369 : Own w w355 [Chunk.elv S293 (entE 0) [J 0, .slice A289 1 c290, .slice A291 1 c292], Chunk.row k35 35 w.heap.size S156 (.slice A154 (([] : List EE).length) c155) ([] : List EE), Chunk.view (Kd.slice 35 k35) (fun k_ => k_ = g144 ∨ (Chunk.all [Chunk.view k35 (fun k_ => k_ = g111 ∨ S102 k_) (some ⟨g111, 0, none⟩) 1 1 ([(entE 1)]), Chunk.view k35 (fun k_ => k_ = g134 ∨ S125 k_) (some ⟨g134, 0, none⟩) 1 1 ([(entE 0)])]).S k_) (some ⟨g144, 0, none⟩) 2 2 ([[(entE 1)], [(entE 0)]]), Chunk.viewAt w158 k35 S76 A74 (([entE 0, entE 1] : List EE).length) c75 ([entE 0, entE 1] : List EE), Chunk.viewAt w158 (Kd.slice 35 k35) (fun k_ => k_ = g64 ∨ (Chunk.all [Chunk.view k35 (fun k_ => k_ = g18 ∨ S9 k_) (some ⟨g18, 0, none⟩) 1 1 ([(entE 1)]), Chunk.view k35 (fun k_ => k_ = g54 ∨ (Chunk.all [Chunk.elv S32 (entE 0) [J 0, .slice A28 1 c29, .slice A30 1 c31], Chunk.elv S45 (entE 1) [J 1, .slice A41 1 c42, .slice A43 1 c44]]).S k_) (some ⟨g54, 0, none⟩) 2 2 ([(entE 0), (entE 1)])]).S k_) (some ⟨g64, 0, none⟩) 2 2 ([[(entE 1)], [(entE 0), (entE 1)]])] := O368
 clear O368
 have O370 := O369.unpin 3 rfl
 clear O369
 have O371 : Own w w355 [Chunk.elv S293 (entE 0) [J 0, .slice A289 1 c290, .slice A291 1 c292], Chunk.row k35 35 w.heap.size S156 (.slice A154 (([] : List EE).length) c155) ([] : List EE), Chunk.view (Kd.slice 35 k35) (fun k_ => k_ = g144 ∨ (Chunk.all [Chunk.view k35 (fun k_ => k_ = g111 ∨ S102 k_) (some ⟨g111, 0, none⟩) 1 1 ([(entE 1)]), Chunk.view k35 (fun k_ => k_ = g134 ∨ S125 k_) (some ⟨g134, 0, none⟩) 1 1 ([(entE 0)])]).S k_) (some ⟨g144, 0, none⟩) 2 2 ([[(entE 1)], [(entE 0)]]), Chunk.view k35 S76 A74 (([entE 0, entE 1] : List EE).length) c75 ([entE 0, entE 1] : List EE), Chunk.viewAt w158 (Kd.slice 35 k35) (fun k_ => k_ = g64 ∨ (Chunk.all [Chunk.view k35 (fun k_ => k_ = g18 ∨ S9 k_) (some ⟨g18, 0, none⟩) 1 1 ([(entE 1)]), Chunk.view k35 (fun k_ => k_ = g54 ∨ (Chunk.all [Chunk.elv S32 (entE 0) [J 0, .slice A28 1 c29, .slice A30 1 c31], Chunk.elv S45 (entE 1) [J 1, .slice A41 1 c42, .slice A43 1 c44]]).S k_) (some ⟨g54, 0, none⟩) 2 2 ([(entE 0), (entE 1)])]).S k_) (some ⟨g64, 0, none⟩) 2 2 ([[(entE 1)], [(entE 0), (entE 1)]])] := O370
 clear O370
 have O372 := O371.unpin 4 rfl
 clear O371
 have O373 : Own w w355 [Chunk.elv S293 (entE 0) [J 0, .slice A289 1 c290, .slice A291 1 c292], Chunk.row k35 35 w.heap.size S156 (.slice A154 (([] : List EE).length) c155) ([] : List EE), Chunk.view (Kd.slice 35 k35) (fun k_ => k_ = g144 ∨ (Chunk.all [Chunk.view k35 (fun k_ => k_ = g111 ∨ S102 k_) (some ⟨g111, 0, none⟩) 1 1 ([(entE 1)]), Chunk.view k35 (fun k_ => k_ = g134 ∨ S125 k_) (some ⟨g134, 0, none⟩) 1 1 ([(entE 0)])]).S k_) (some ⟨g144, 0, none⟩) 2 2 ([[(entE 1)], [(entE 0)]]), Chunk.view k35 S76 A74 (([entE 0, entE 1] : List EE).length) c75 ([entE 0, entE 1] : List EE), Chunk.view (Kd.slice 35 k35) (fun k_ => k_ = g64 ∨ (Chunk.all [Chunk.view k35 (fun k_ => k_ = g18 ∨ S9 k_) (some ⟨g18, 0, none⟩) 1 1 ([(entE 1)]), Chunk.view k35 (fun k_ => k_ = g54 ∨ (Chunk.all [Chunk.elv S32 (entE 0) [J 0, .slice A28 1 c29, .slice A30 1 c31], Chunk.elv S45 (entE 1) [J 1, .slice A41 1 c42, .slice A43 1 c44]]).S k_) (some ⟨g54, 0, none⟩) 2 2 ([(entE 0), (entE 1)])]).S k_) (some ⟨g64, 0, none⟩) 2 2 ([[(entE 1)], [(entE 0), (entE 1)]])] := O372
 clear O372
 refine gw_ret1 H367 rfl rfl ?_
 exact ⟨rfl, O373.below⟩
end GAliveM_
export GAliveM_ (alive_walk)
end Go.Proofs.Ytmhgblhmkhoopaa.PA
end
section
namespace Go.Proofs.Ytmhgblhmkhoopaa.PA
open Go.RowKit Go.Proofs.YtmhgblhmkhoopaaW.PrintWords Go.Proofs.YtmhgblhmkhoopaaW.PrintLast Go.Proofs.YtmhgblhmkhoopaaW.PrintMore
set_option linter.unusedVariables false
set_option linter.unusedSimpArgs false
namespace GMergeL_
theorem gwagg32 : ∀ w, (isAgg 32).run Try.prog w = .ok false w := fun _ => by kernel_rfl
theorem gwagg35 : ∀ w, (isAgg 35).run Try.prog w = .ok true w := fun _ => by kernel_rfl
theorem gwflda35_1 (ad : Addr) : ∀ w, (Instr.fieldAt 35 (.pointer (some ad)) 1).run Try.prog w = .ok (.pointer (some (ad.add 1))) w := fun _ => by kernel_rfl
theorem gwflda37_1 (ad : Addr) : ∀ w, (Instr.fieldAt 37 (.pointer (some ad)) 1).run Try.prog w = .ok (.pointer (some (ad.add 1))) w := fun _ => by kernel_rfl
theorem gwsiz3 : ∀ w, (sizeOf 3).run Try.prog w = .ok 1 w := fun _ => by kernel_rfl
theorem gwsiz35 : ∀ w, (sizeOf 35).run Try.prog w = .ok 3 w := fun _ => by kernel_rfl
theorem gwsiz37 : ∀ w, (sizeOf 37).run Try.prog w = .ok 2 w := fun _ => by kernel_rfl
set_option maxHeartbeats 4000000 in
set_option maxRecDepth 100000 in
theorem MergeMerges_walk (n : Int) (A1 : Option Addr) (c1 : Nat) (ps : List (List EE)) (w : World) (hr : Kd.C (Kd.slice 35 k35) w A1 ps.length ps) (hc : ps.length ≤ c1) (hH : lawH ps) :
    Calls Try.prog 3 #[.int .i64 n, .slice A1 ps.length c1] w fun e w' => e = .returned (.bool true) ∧ Below w.heap.size w w' := by
 obtain ⟨RS, hRS⟩ : ∃ R_, R_ = mergeG n ps.flatten := ⟨_, rfl⟩
 refine gw_start (N := 123) (vs := [J n, .slice A1 ps.length c1]) Try.func3 rfl rfl (by simp) fun a HF HO => ?_
 replace HO : Own w w [] := HO
 refine gR fun K1 hK1 => ?_
 refine V HF (op_assign rfl (ev_c _ _)) ?_
 intro _ H3; clear HF
 refine gE hK1 ?_
 refine gw_seq fun K4 hK4 => ?_
 refine gR fun K5 hK5 => ?_
 refine gw_call H3 (want_none rfl) rfl (by decide) (op_callL Try.func5 (by kernel_rfl) rfl rfl ar_nil) (alive_walk _) ?_
 rintro e6 w7 ⟨rfl, hb8⟩
 refine ⟨_, rfl, fun _ H10 => ?_⟩
 have O11 := HO.after hb8
 clear H3 HO hb8
 refine V H10 (op_not rfl (H10.ev rfl)) ?_
 intro _ H14; clear H10
 refine gE hK5 ?_
 refine gw_cond H14 rfl (fun hb15 => ?_) (fun hb15 => ?_)
 skip
 ·
  cases hb15
 refine wp_skip ?_
 refine gw_nx (hK4 _ _ ?_)
 refine gw_seq fun K16 hK16 => ?_
 refine gR fun K17 hK17 => ?_
 refine V H14 (op_move rfl (H14.ev rfl)) ?_
 intro _ H19; clear H14
 refine gw_call H19 (want_none rfl) rfl (by decide) (op_callL Try.func6 (by kernel_rfl) rfl rfl (ar_cons (H19.ev rfl) ar_nil)) (few_calls A1 c1 ps _ hH.1 (Kd.C_below hr O11.below) hc) ?_
 rintro e22 w23 ⟨b20, rfl, hb24, hfew21⟩
 refine ⟨_, rfl, fun _ H26 => ?_⟩
 have O27 := O11.after hb24
 clear H19 O11 hb24
 refine V H26 (op_not rfl (H26.ev rfl)) ?_
 intro _ H30; clear H26
 refine V H30 (op_move rfl (H30.ev rfl)) ?_
 intro _ H32; clear H30
 refine gw_evG H32 rfl rfl rfl rfl (on_f _) rfl (by decide) (fun h_ => (op_move rfl (H32.ev rfl))) ?_
 intro _ H34; clear H32
 refine gw_evG H34 rfl rfl rfl rfl (on_f _) rfl (by decide) (fun h_ => (op_gtr rfl (ev_gv (H34.ev rfl) h_) (ev_c _ _))) ?_
 intro _ H36; clear H34
 refine V H36 (op_pick_or rfl (H36.ev rfl) (ev_c _ _) (fun hp_ => (ev_gv (H36.ev rfl) (not_t hp_)))) ?_
 intro _ H38; clear H36
 refine gE hK17 ?_
 refine gw_cond H38 rfl (fun hb39 => ?_) (fun hb39 => ?_)
 ·
  have H40 := H38.subst_ (d := 23) (b := true) rfl hb39
  clear H38
  (try simp only [Bool.and_eq_true, Bool.and_eq_false_iff, Bool.not_and, Bool.or_eq_true, Bool.or_eq_false_iff, Bool.not_or, Bool.not_not, Bool.not_eq_true', Bool.not_eq_false', Bool.not_eq_true, Bool.not_eq_false, decide_eq_true_eq, decide_eq_false_iff_not, Int.not_lt] at hb39)
  refine gR fun K41 hK41 => ?_
  refine V H40 (op_assign rfl (ev_c _ _)) ?_
  intro _ H43; clear H40
  refine gE hK41 ?_
  refine wp_ret ?_
  refine gw_thr ?_
  refine gw_ret1 H43 rfl rfl ?_
  exact ⟨rfl, O27.below⟩
 ·
  have H44 := H38.subst_ (d := 23) (b := false) rfl hb39
  clear H38
  (try simp only [Bool.and_eq_true, Bool.and_eq_false_iff, Bool.not_and, Bool.or_eq_true, Bool.or_eq_false_iff, Bool.not_or, Bool.not_not, Bool.not_eq_true', Bool.not_eq_false', Bool.not_eq_true, Bool.not_eq_false, decide_eq_true_eq, decide_eq_false_iff_not, Int.not_lt] at hb39)
  have hfw : fewP ps := hfew21 (by have h_ := (hb39).1; simpa using h_)
  have hn2 : n ≤ 2000 := by have h_ := (hb39).2; omega
  have hokR : ∀ x ∈ RS.1, okB x := fun x hx => by rw [hRS] at hx; exact okB_of (hfw.2.2 _ (mergeG_mem x hx))
  have hRl : RS.1.length ≤ 9223372036854775806 := by rw [hRS]; exact mergeG_len hn2
  refine wp_skip ?_
  refine gw_nx (hK16 _ _ ?_)
  refine gR fun K45 hK45 => ?_
  refine V H44 (op_move rfl (H44.ev rfl)) ?_
  intro _ H47; clear H44
  refine V H47 (op_move rfl (H47.ev rfl)) ?_
  intro _ H49; clear H47
  refine gw_call H49 (want_none rfl) rfl (by decide) (op_callL Try.func7 (by kernel_rfl) rfl rfl (ar_cons (H49.ev rfl) (ar_cons (H49.ev rfl) ar_nil))) (Merge_is n A1 c1 ps _ hRS (Kd.C_below hr O27.below) hc hfw hn2 hH.2) ?_
  rintro e53 w54 ⟨A50, c51, S52, rfl, hb55⟩
  refine ⟨_, rfl, fun _ H57 => ?_⟩
  have O58 := O27.fresh hb55
  have hbel59 := O27.below
  clear H49 O27 hb55
  have O60 := O58.lowrow 0 rfl (base' := w.heap.size) (Below.size hbel59)
  obtain ⟨O61, hFz62, hlz63, hbz64, hRz65⟩ := frz_row O60 0 rfl
  clear O60
  have O66 : Own w w54 [Chunk.frz w54 S52] := O61
  clear O61
  refine V H57 (op_move rfl (H57.ev rfl)) ?_
  intro _ H68; clear H57
  refine V H68 (op_extract rfl (H68.ev rfl) rfl) ?_
  intro _ H70; clear H68
  refine V H70 (op_extract rfl (H70.ev rfl) rfl) ?_
  intro _ H72; clear H70
  refine V H72 (op_assign rfl (H72.ev rfl)) ?_
  intro _ H74; clear H72
  refine V H74 (op_assign rfl (H74.ev rfl)) ?_
  intro _ H76; clear H74
  refine gE hK45 ?_
  refine gR fun K77 hK77 => ?_
  refine V H76 (op_move rfl (H76.ev rfl)) ?_
  intro _ H79; clear H76
  refine V H79 (op_move rfl (H79.ev rfl)) ?_
  intro _ H81; clear H79
  have O96 : Own w _ [(Chunk.all [Chunk.frz w54 S52])] := Own.bundle (O66.sel [0] (by decide))
  refine gw_call H81 (want_none rfl) rfl (by decide) (op_callL Try.func8 (by kernel_rfl) rfl rfl (ar_cons (H81.ev rfl) (ar_cons (H81.ev rfl) ar_nil))) (refMerge_is w _ (Chunk.all [Chunk.frz w54 S52]) A1 c1 n ps RS hRS hr hc hfw (by omega) O96) ?_
  rintro e90 w91 ⟨wz82, A83, c84, S85, rfl, hb92, hbz86, hFz87, hlz88⟩
  refine ⟨_, rfl, fun _ H94 => ?_⟩
  have O95 : Own w w91 [Chunk.frz w54 S52, Chunk.frz wz82 S85] := Own.unbundle (hb92.sel [1, 0] (by decide))
  clear O96
  clear H81 O66 hb92
  refine V H94 (op_move rfl (H94.ev rfl)) ?_
  intro _ H99; clear H94
  refine V H99 (op_extract rfl (H99.ev rfl) rfl) ?_
  intro _ H101; clear H99
  refine V H101 (op_extract rfl (H101.ev rfl) rfl) ?_
  intro _ H103; clear H101
  refine V H103 (op_assign rfl (H103.ev rfl)) ?_
  intro _ H105; clear H103
  refine V H105 (op_assign rfl (H105.ev rfl)) ?_
  intro _ H107; clear H105
  refine gE hK77 ?_
  refine gw_seq fun K108 hK108 => ?_
  refine gR fun K109 hK109 => ?_
  refine V H107 (op_move rfl (H107.ev rfl)) ?_
  intro _ H111; clear H107
  refine V H111 (op_move rfl (H111.ev rfl)) ?_
  intro _ H113; clear H111
  refine V H113 (op_nei rfl (H113.ev rfl) (H113.ev rfl)) ?_
  intro _ H115; clear H113
  have H116 := H115.lit (b := false) (by simp)
  clear H115
  refine V H116 (op_move rfl (H116.ev rfl)) ?_
  intro _ H118; clear H116
  refine V2 H118 (want_yes H118 rfl rfl rfl rfl) (op_move rfl (H118.ev rfl)) ?_
  intro _ H120; clear H118
  refine V2 H120 (want_yes H120 rfl rfl rfl rfl) (op_len Try.underlying25 rfl (H120.ev rfl)) ?_
  intro _ H122; clear H120
  refine V2 H122 (want_yes H122 rfl rfl rfl rfl) (op_move rfl (H122.ev rfl)) ?_
  intro _ H124; clear H122
  refine V2 H124 (want_yes H124 rfl rfl rfl rfl) (op_len Try.underlying25 rfl (H124.ev rfl)) ?_
  intro _ H126; clear H124
  refine V2 H126 (want_yes H126 rfl rfl rfl rfl) (op_nei rfl (H126.ev rfl) (H126.ev rfl)) ?_
  intro _ H128; clear H126
  have H129 := H128.lit (b := false) (by simp)
  clear H128
  refine V H129 (op_pick_f rfl (H129.ev rfl) (H129.ev rfl)) ?_
  intro _ H131; clear H129
  refine gE hK109 ?_
  refine gw_cond H131 rfl (fun hb132 => ?_) (fun hb132 => ?_)
  skip
  ·
   cases hb132
  refine wp_skip ?_
  refine gw_nx (hK108 _ _ ?_)
  refine gw_seq fun K133 hK133 => ?_
  refine gR fun K134 hK134 => ?_
  refine V H131 (op_move rfl (H131.ev rfl)) ?_
  intro _ H136; clear H131
  refine V H136 (op_len Try.underlying25 rfl (H136.ev rfl)) ?_
  intro _ H138; clear H136
  refine V H138 (op_move rfl (ev_c _ _)) ?_
  intro _ H140; clear H138
  refine gE hK134 ?_
  refine wp_block ?_
  refine gw_loop (fun m_ a_ w_ => ∃ (i : Int), Fr 123 a_ [(48, J i), (0, J n), (1, .slice A1 ps.length c1), (5, .slice A50 RS.1.length c51), (6, J RS.2), (7, .slice A83 RS.1.length c84), (47, J (RS.1.length : Int))] ∧ Own w w_ [Chunk.frz w54 S52, Chunk.frz wz82 S85] ∧ (0 ≤ i ∧ i ≤ RS.1.length) ∧ m_ = (RS.1.length - i.toNat)) ((RS.1.length - (0 : Int).toNat)) ?_ ?_
  ·
   refine ⟨0, (H140.pick (t := 48) rfl (H140.pick (t := 0) rfl (H140.pick (t := 1) rfl (H140.pick (t := 5) rfl (H140.pick (t := 6) rfl (H140.pick (t := 7) rfl (H140.pick (t := 47) rfl H140.nil))))))), O95.sel [0, 1] (by decide), ?_, rfl⟩
   ·
    omega
  ·
   rintro m142 _ w144 ⟨i, H145, O146, hii, hm147⟩
   refine gR fun K148 hK148 => ?_
   refine V H145 (op_lss rfl (H145.ev rfl) (H145.ev rfl)) ?_
   intro _ H150; clear H145
   refine gE hK148 ?_
   refine gw_seq fun K151 hK151 => ?_
   refine gw_cond H150 rfl (fun hb152 => ?_) (fun hb152 => ?_)
   ·
    have H153 := H150.subst_ (d := 49) (b := true) rfl hb152
    clear H150
    (try simp only [decide_eq_true_eq] at hb152)
    refine wp_skip ?_
    refine gw_nx (hK151 _ _ ?_)
    refine gw_seq fun K154 hK154 => ?_
    refine wp_block ?_
    refine gR fun K155 hK155 => ?_
    refine V H153 (op_move rfl (H153.ev rfl)) ?_
    intro _ H157; clear H153
    refine V H157 (op_assign rfl (H157.ev rfl)) ?_
    intro _ H159; clear H157
    refine gE hK155 ?_
    refine gw_seq fun K160 hK160 => ?_
    refine gw_drawB O146 (by kernel_rfl) (by kernel_rfl) fun w161 O162 => ?_
    clear O146
    refine gq_ev H159 (want_none rfl) rfl (by decide) (fun wq hq => have HO := O162.after hq; (op_move rfl (H159.ev rfl))) ?_
    intro _ H164; clear H159
    refine gq_ev H164 (want_none rfl) rfl (by decide) (fun wq hq => have HO := O162.after hq; (op_move rfl (H164.ev rfl))) ?_
    intro _ H166; clear H164
    obtain ⟨ad167, cs170, hA168, hl171, hK172, hc169, hin173⟩ := Kd.F_get hFz62 z35 i (by omega) (by omega)
    obtain ⟨A174, c175, A178, c179, rfl, hl176, hC177, hl180, hC181⟩ := k35_openF hK172
    clear hl171
    refine gq_ev H166 (want_none rfl) rfl (by decide) (fun wq hq => have HO := O162.after hq; (op_index Try.underlying25 gwsiz35 rfl (H166.ev rfl) (H166.ev rfl) hA168 (⟨by omega, by omega⟩))) ?_
    intro _ H183; clear H166
    refine gq_ev H183 (want_none rfl) rfl (by decide) (fun wq hq => have HO := O162.after hq; (op_loadc gwagg35 gwsiz35 rfl (H183.ev rfl) rfl ((frz_cells (i := 0) HO rfl hbz64 (hin173 (by decide)) hc169)))) ?_
    intro _ H185; clear H183
    refine gq_ev H185 (want_none rfl) rfl (by decide) (fun wq hq => have HO := O162.after hq; (op_move rfl (H185.ev rfl))) ?_
    intro _ H187; clear H185
    refine gq_ev H187 (want_none rfl) rfl (by decide) (fun wq hq => have HO := O162.after hq; (op_move rfl (H187.ev rfl))) ?_
    intro _ H189; clear H187
    obtain ⟨ad190, cs193, hA191, hl194, hK195, hc192, hin196⟩ := Kd.F_get hFz87 z35 i (by omega) (by omega)
    obtain ⟨A197, c198, A201, c202, rfl, hl199, hC200, hl203, hC204⟩ := k35_openF hK195
    clear hl194
    refine gq_ev H189 (want_none rfl) rfl (by decide) (fun wq hq => have HO := O162.after hq; (op_index Try.underlying25 gwsiz35 rfl (H189.ev rfl) (H189.ev rfl) hA191 (⟨by omega, by omega⟩))) ?_
    intro _ H206; clear H189
    refine gq_ev H206 (want_none rfl) rfl (by decide) (fun wq hq => have HO := O162.after hq; (op_loadc gwagg35 gwsiz35 rfl (H206.ev rfl) rfl ((frz_cells (i := 1) HO rfl hbz86 (hin196 (by decide)) hc192)))) ?_
    intro _ H208; clear H206
    refine gq_call H208 (want_none rfl) rfl (by decide) (fun wq hq => have HO := O162.after hq; (op_callL Try.func9 (by kernel_rfl) rfl rfl (ar_cons (H208.ev rfl) (ar_cons (H208.ev rfl) ar_nil)))) (fun wq hq => have HO := O162.after hq; (SameEntry_calls (RS.1.getD i.toNat z35) (RS.1.getD i.toNat z35) A174 c175 A178 c179 A197 c198 A201 c202 _ (hokR _ (getD_mem (z := z35) RS.1 i.toNat (by omega))) (frz_C (i := 0) HO rfl hbz64 hC177) hl176 (frz_C (i := 0) HO rfl hbz64 hC181) hl180 (frz_C (i := 1) HO rfl hbz86 hC200) hl199 (frz_C (i := 1) HO rfl hbz86 hC204) hl203).mono fun e w' h => ⟨h.1, below_then hq h.2⟩) ?_
    intro _ H210; clear H208
    refine gq_ev H210 (want_none rfl) rfl (by decide) (fun wq hq => have HO := O162.after hq; (op_not rfl (H210.ev rfl))) ?_
    intro _ H212; clear H210
    have H213 := H212.lit (b := false) (by rw [eqA_self]; rfl)
    clear H212
    refine gq_ev H213 (want_none rfl) rfl (by decide) (fun wq hq => have HO := O162.after hq; (op_move rfl (H213.ev rfl))) ?_
    intro _ H215; clear H213
    refine gq_ev H215 (want_yes H215 rfl rfl rfl rfl) rfl (by decide) (fun wq hq => have HO := O162.after hq; (op_move rfl (H215.ev rfl))) ?_
    intro _ H217; clear H215
    refine gq_ev H217 (want_yes H217 rfl rfl rfl rfl) rfl (by decide) (fun wq hq => have HO := O162.after hq; (op_move rfl (H217.ev rfl))) ?_
    intro _ H219; clear H217
    obtain ⟨ad220, cs223, hA221, hl224, hK225, hc222, hin226⟩ := Kd.F_get hFz62 z35 i (by omega) (by omega)
    obtain ⟨A227, c228, A231, c232, rfl, hl229, hC230, hl233, hC234⟩ := k35_openF hK225
    clear hl224
    refine gq_ev H219 (want_yes H219 rfl rfl rfl rfl) rfl (by decide) (fun wq hq => have HO := O162.after hq; (op_index Try.underlying25 gwsiz35 rfl (H219.ev rfl) (H219.ev rfl) hA221 (⟨by omega, by omega⟩))) ?_
    intro _ H236; clear H219
    refine gq_ev H236 (want_yes H236 rfl rfl rfl rfl) rfl (by decide) (fun wq hq => have HO := O162.after hq; (op_loadc gwagg35 gwsiz35 rfl (H236.ev rfl) rfl ((frz_cells (i := 0) HO rfl hbz64 (hin226 (by decide)) hc222)))) ?_
    intro _ H238; clear H236
    refine gq_ev H238 (want_yes H238 rfl rfl rfl rfl) rfl (by decide) (fun wq hq => have HO := O162.after hq; (op_move rfl (H238.ev rfl))) ?_
    intro _ H240; clear H238
    refine gq_ev H240 (want_yes H240 rfl rfl rfl rfl) rfl (by decide) (fun wq hq => have HO := O162.after hq; (op_move rfl (H240.ev rfl))) ?_
    intro _ H242; clear H240
    obtain ⟨ad243, cs246, hA244, hl247, hK248, hc245, hin249⟩ := Kd.F_get hFz87 z35 i (by omega) (by omega)
    obtain ⟨A250, c251, A254, c255, rfl, hl252, hC253, hl256, hC257⟩ := k35_openF hK248
    clear hl247
    refine gq_ev H242 (want_yes H242 rfl rfl rfl rfl) rfl (by decide) (fun wq hq => have HO := O162.after hq; (op_index Try.underlying25 gwsiz35 rfl (H242.ev rfl) (H242.ev rfl) hA244 (⟨by omega, by omega⟩))) ?_
    intro _ H259; clear H242
    refine gq_ev H259 (want_yes H259 rfl rfl rfl rfl) rfl (by decide) (fun wq hq => have HO := O162.after hq; (op_loadc gwagg35 gwsiz35 rfl (H259.ev rfl) rfl ((frz_cells (i := 1) HO rfl hbz86 (hin249 (by decide)) hc245)))) ?_
    intro _ H261; clear H259
    refine gq_call H261 (want_yes H261 rfl rfl rfl rfl) rfl (by decide) (fun wq hq => have HO := O162.after hq; (op_callL Try.func10 (by kernel_rfl) rfl rfl (ar_cons (H261.ev rfl) (ar_cons (H261.ev rfl) ar_nil)))) (fun wq hq => have HO := O162.after hq; (Same_walk (RS.1.getD i.toNat z35) A227 c228 A231 c232 (RS.1.getD i.toNat z35) A250 c251 A254 c255 _ (frz_C (i := 0) HO rfl hbz64 hC230) hl229 (frz_C (i := 0) HO rfl hbz64 hC234) hl233 (frz_C (i := 1) HO rfl hbz86 hC253) hl252 (frz_C (i := 1) HO rfl hbz86 hC257) hl256).mono fun e w' h => ⟨h.1, below_then hq h.2⟩) ?_
    intro _ H263; clear H261
    refine gq_ev H263 (want_yes H263 rfl rfl rfl rfl) rfl (by decide) (fun wq hq => have HO := O162.after hq; (op_not rfl (H263.ev rfl))) ?_
    intro _ H265; clear H263
    have H266 := H265.lit (b := false) (by rw [eqA_self]; rfl)
    clear H265
    refine gq_ev H266 (want_none rfl) rfl (by decide) (fun wq hq => have HO := O162.after hq; (op_pick_f rfl (H266.ev rfl) (H266.ev rfl))) ?_
    intro _ H268; clear H266
    refine wpQuiet_nil ?_
    intro w269 hq
    have O270 := O162.after hq
    clear O162 hq
    refine gw_nx (hK160 _ _ ?_)
    refine gw_cond H268 rfl (fun hb271 => ?_) (fun hb271 => ?_)
    skip
    ·
     cases hb271
    refine wp_skip ?_
    refine gw_blk ?_
    refine gw_nx (hK154 _ _ ?_)
    refine wp_region_lit ?_
    refine V H268 (op_add rfl (H268.ev rfl) (ev_c _ _) (by omega)) ?_
    intro _ H273; clear H268
    refine V H273 (op_move rfl (H273.ev rfl)) ?_
    intro _ H275; clear H273
    refine wpList_nil ?_
    refine gw_nx ⟨_, ?_, i + 1, (H275.pick (t := 48) rfl (H275.pick (t := 0) rfl (H275.pick (t := 1) rfl (H275.pick (t := 5) rfl (H275.pick (t := 6) rfl (H275.pick (t := 7) rfl (H275.pick (t := 47) rfl H275.nil))))))), O270.sel [0, 1] (by decide), ?_, rfl⟩
    ·
     rw [hm147]; omega
    ·
     omega
   ·
    have H276 := H150.subst_ (d := 49) (b := false) rfl hb152
    clear H150
    (try simp only [decide_eq_false_iff_not, Int.not_lt] at hb152)
    refine wp_exit ?_
    refine gw_thx ?_
    refine gw_thx ?_
    refine gw_in ?_
    refine gw_nx (hK133 _ _ ?_)
    refine gw_seq fun K277 hK277 => ?_
    refine gR fun K278 hK278 => ?_
    refine V H276 (op_move rfl (H276.ev rfl)) ?_
    intro _ H280; clear H276
    refine V H280 (op_len Try.underlying25 rfl (H280.ev rfl)) ?_
    intro _ H282; clear H280
    refine V H282 (op_move rfl (ev_c _ _)) ?_
    intro _ H284; clear H282
    refine gE hK278 ?_
    refine wp_block ?_
    obtain ⟨ad285, B286, C287, hAd288, O289⟩ := frz_mut O146 0 rfl hRz65
    clear O146
    have O290 : Own w w144 [Chunk.mut S52 ad285 B286 C287 RS.1, Chunk.frz wz82 S85] := O289
    clear O289
    refine gw_loop (fun m_ a_ w_ => ∃ (p : Int), Fr 123 a_ [(76, J p), (0, J n), (1, .slice A1 ps.length c1), (5, .slice A50 RS.1.length c51), (6, J RS.2), (7, .slice A83 RS.1.length c84), (75, J (RS.1.length : Int))] ∧ Own w w_ [Chunk.mut S52 ad285 B286 C287 RS.1, Chunk.frz wz82 S85] ∧ (0 ≤ p ∧ p ≤ RS.1.length) ∧ m_ = (RS.1.length - p.toNat)) ((RS.1.length - (0 : Int).toNat)) ?_ ?_
    ·
     refine ⟨0, (H284.pick (t := 76) rfl (H284.pick (t := 0) rfl (H284.pick (t := 1) rfl (H284.pick (t := 5) rfl (H284.pick (t := 6) rfl (H284.pick (t := 7) rfl (H284.pick (t := 75) rfl H284.nil))))))), O290.sel [0, 1] (by decide), ?_, rfl⟩
     ·
      omega
    ·
     rintro m292 _ w294 ⟨p, H295, O296, hip, hm297⟩
     refine gR fun K298 hK298 => ?_
     refine V H295 (op_lss rfl (H295.ev rfl) (H295.ev rfl)) ?_
     intro _ H300; clear H295
     refine gE hK298 ?_
     refine gw_seq fun K301 hK301 => ?_
     refine gw_cond H300 rfl (fun hb302 => ?_) (fun hb302 => ?_)
     ·
      have H303 := H300.subst_ (d := 77) (b := true) rfl hb302
      clear H300
      (try simp only [decide_eq_true_eq] at hb302)
      refine wp_skip ?_
      refine gw_nx (hK301 _ _ ?_)
      refine gw_seq fun K304 hK304 => ?_
      refine wp_block ?_
      refine gR fun K305 hK305 => ?_
      refine V H303 (op_move rfl (H303.ev rfl)) ?_
      intro _ H307; clear H303
      refine V H307 (op_assign rfl (H307.ev rfl)) ?_
      intro _ H309; clear H307
      refine gE hK305 ?_
      refine gR fun K310 hK310 => ?_
      refine V H309 (op_move rfl (H309.ev rfl)) ?_
      intro _ H312; clear H309
      refine V H312 (op_move rfl (H312.ev rfl)) ?_
      intro _ H314; clear H312
      refine V H314 (op_index Try.underlying25 gwsiz35 rfl (H314.ev rfl) (H314.ev rfl) (hAd288 (by omega)) (⟨by omega, by omega⟩)) ?_
      intro _ H319; clear H314
      refine V H319 (op_field (gwflda35_1 _) rfl (H319.ev rfl)) ?_
      intro _ H321; clear H319
      refine V H321 (op_load1 gwagg32 rfl (H321.ev rfl) ((mut_row (O296.get 0 rfl) p (by omega) (by omega)))) ?_
      intro _ H323; clear H321
      refine V H323 (op_len Try.underlying32 rfl (H323.ev rfl)) ?_
      intro _ H325; clear H323
      refine V H325 (op_move rfl (ev_c _ _)) ?_
      intro _ H327; clear H325
      refine gE hK310 ?_
      refine wp_block ?_
      refine gw_loop (fun m_ a_ w_ => ∃ (q : Int), Fr 123 a_ [(85, J q), (76, J p), (0, J n), (1, .slice A1 ps.length c1), (5, .slice A50 RS.1.length c51), (6, J RS.2), (7, .slice A83 RS.1.length c84), (75, J (RS.1.length : Int)), (77, .bool true), (78, J p), (10, J p), (79, .slice A50 RS.1.length c51), (80, J p), (81, .pointer (some (ad285.add (p.toNat * 3)))), (82, .pointer (some ((ad285.add (p.toNat * 3)).add 1))), (83, .slice (B286 p.toNat) ((RS.1.getD p.toNat z35).f1.length) (C287 p.toNat)), (84, J (((RS.1.getD p.toNat z35).f1.length) : Int))] ∧ Own w w_ [Chunk.mut S52 ad285 B286 C287 RS.1, Chunk.frz wz82 S85] ∧ (0 ≤ q ∧ q ≤ (RS.1.getD p.toNat z35).f1.length) ∧ m_ = ((RS.1.getD p.toNat z35).f1.length - q.toNat)) (((RS.1.getD p.toNat z35).f1.length - (0 : Int).toNat)) ?_ ?_
      ·
       refine ⟨0, (H327.pick (t := 85) rfl (H327.pick (t := 76) rfl (H327.pick (t := 0) rfl (H327.pick (t := 1) rfl (H327.pick (t := 5) rfl (H327.pick (t := 6) rfl (H327.pick (t := 7) rfl (H327.pick (t := 75) rfl (H327.pick (t := 77) rfl (H327.pick (t := 78) rfl (H327.pick (t := 10) rfl (H327.pick (t := 79) rfl (H327.pick (t := 80) rfl (H327.pick (t := 81) rfl (H327.pick (t := 82) rfl (H327.pick (t := 83) rfl (H327.pick (t := 84) rfl H327.nil))))))))))))))))), O296.sel [0, 1] (by decide), ?_, rfl⟩
       ·
        omega
      ·
       rintro m329 _ w331 ⟨q, H332, O333, hiq, hm334⟩
       have hql_ := (hokR _ (getD_mem (z := z35) RS.1 p.toNat (by omega))).1
       refine gR fun K335 hK335 => ?_
       refine V H332 (op_lss rfl (H332.ev rfl) (H332.ev rfl)) ?_
       intro _ H337; clear H332
       refine gE hK335 ?_
       refine gw_seq fun K338 hK338 => ?_
       refine gw_cond H337 rfl (fun hb339 => ?_) (fun hb339 => ?_)
       ·
        have H340 := H337.subst_ (d := 86) (b := true) rfl hb339
        clear H337
        (try simp only [decide_eq_true_eq] at hb339)
        refine wp_skip ?_
        refine gw_nx (hK338 _ _ ?_)
        refine gw_seq fun K341 hK341 => ?_
        refine wp_block ?_
        refine gR fun K342 hK342 => ?_
        refine V H340 (op_move rfl (H340.ev rfl)) ?_
        intro _ H344; clear H340
        refine V H344 (op_assign rfl (H344.ev rfl)) ?_
        intro _ H346; clear H344
        refine gE hK342 ?_
        refine wp_region_lit ?_
        refine V H346 (op_move rfl (H346.ev rfl)) ?_
        intro _ H348; clear H346
        refine V H348 (op_move rfl (H348.ev rfl)) ?_
        intro _ H350; clear H348
        refine V H350 (op_index Try.underlying25 gwsiz35 rfl (H350.ev rfl) (H350.ev rfl) (hAd288 (by omega)) (⟨by omega, by omega⟩)) ?_
        intro _ H355; clear H350
        refine V H355 (op_field (gwflda35_1 _) rfl (H355.ev rfl)) ?_
        intro _ H357; clear H355
        refine V H357 (op_load1 gwagg32 rfl (H357.ev rfl) ((mut_row (O333.get 0 rfl) p (by omega) (by omega)))) ?_
        intro _ H359; clear H357
        refine V H359 (op_move rfl (H359.ev rfl)) ?_
        intro _ H361; clear H359
        obtain ⟨g365, hB366⟩ := mut_in (O333.get 0 rfl) p q (by omega) (by omega) (by omega) (by omega)
        refine V H361 (op_index Try.underlying32 gwsiz37 rfl (H361.ev rfl) (H361.ev rfl) hB366 (⟨by omega, by omega⟩)) ?_
        intro _ H368; clear H361
        refine V H368 (op_field (gwflda37_1 _) rfl (H368.ev rfl)) ?_
        intro _ H370; clear H368
        refine gw_mut (it := p) (kt := q) (g := g365) 0 H370 O333 rfl (want_none rfl) rfl gwsiz3 (by omega) (by omega) (by omega) (by omega) hB366 rfl (H370.ev rfl) (ev_c _ _) ?_
        intro _ w373 H372 O374; clear H370 O333
        have O375 : Own w w373 [Chunk.mut S52 ad285 B286 C287 RS.1, Chunk.frz wz82 S85] := O374
        clear O374
        refine wpList_nil ?_
        refine gw_blk ?_
        refine gw_nx (hK341 _ _ ?_)
        refine wp_region_lit ?_
        refine V H372 (op_add rfl (H372.ev rfl) (ev_c _ _) (by omega)) ?_
        intro _ H377; clear H372
        refine V H377 (op_move rfl (H377.ev rfl)) ?_
        intro _ H379; clear H377
        refine wpList_nil ?_
        refine gw_nx ⟨_, ?_, q + 1, (H379.pick (t := 85) rfl (H379.pick (t := 76) rfl (H379.pick (t := 0) rfl (H379.pick (t := 1) rfl (H379.pick (t := 5) rfl (H379.pick (t := 6) rfl (H379.pick (t := 7) rfl (H379.pick (t := 75) rfl (H379.pick (t := 77) rfl (H379.pick (t := 78) rfl (H379.pick (t := 10) rfl (H379.pick (t := 79) rfl (H379.pick (t := 80) rfl (H379.pick (t := 81) rfl (H379.pick (t := 82) rfl (H379.pick (t := 83) rfl (H379.pick (t := 84) rfl H379.nil))))))))))))))))), O375.sel [0, 1] (by decide), ?_, rfl⟩
        ·
         rw [hm334]; omega
        ·
         omega
       ·
        have H380 := H337.subst_ (d := 86) (b := false) rfl hb339
        clear H337
        (try simp only [decide_eq_false_iff_not, Int.not_lt] at hb339)
        refine wp_exit ?_
        refine gw_thx ?_
        refine gw_thx ?_
        refine gw_in ?_
        refine gw_blk ?_
        refine gw_nx (hK304 _ _ ?_)
        refine wp_region_lit ?_
        refine V H380 (op_add rfl (H380.ev rfl) (ev_c _ _) (by omega)) ?_
        intro _ H382; clear H380
        refine V H382 (op_move rfl (H382.ev rfl)) ?_
        intro _ H384; clear H382
        refine wpList_nil ?_
        refine gw_nx ⟨_, ?_, p + 1, (H384.pick (t := 76) rfl (H384.pick (t := 0) rfl (H384.pick (t := 1) rfl (H384.pick (t := 5) rfl (H384.pick (t := 6) rfl (H384.pick (t := 7) rfl (H384.pick (t := 75) rfl H384.nil))))))), O333.sel [0, 1] (by decide), ?_, rfl⟩
        ·
         rw [hm297]; omega
        ·
         omega
     ·
      have H385 := H300.subst_ (d := 77) (b := false) rfl hb302
      clear H300
      (try simp only [decide_eq_false_iff_not, Int.not_lt] at hb302)
      refine wp_exit ?_
      refine gw_thx ?_
      refine gw_thx ?_
      refine gw_in ?_
      refine gw_nx (hK277 _ _ ?_)
      refine gR fun K386 hK386 => ?_
      refine V H385 (op_move rfl (H385.ev rfl)) ?_
      intro _ H388; clear H385
      refine V H388 (op_move rfl (H388.ev rfl)) ?_
      intro _ H390; clear H388
      refine gw_call H390 (want_none rfl) rfl (by decide) (op_callL Try.func7 (by kernel_rfl) rfl rfl (ar_cons (H390.ev rfl) (ar_cons (H390.ev rfl) ar_nil))) (Merge_is n A1 c1 ps _ hRS (Kd.C_below hr O296.below) hc hfw hn2 hH.2) ?_
      rintro e394 w395 ⟨A391, c392, S393, rfl, hb396⟩
      refine ⟨_, rfl, fun _ H398 => ?_⟩
      have O399 := O296.fresh hb396
      have hbel400 := O296.below
      clear H390 O296 hb396
      have O401 := O399.lowrow 0 rfl (base' := w.heap.size) (Below.size hbel400)
      obtain ⟨O402, hFz403, hlz404, hbz405, hRz406⟩ := frz_row O401 0 rfl
      clear O401
      have O407 : Own w w395 [Chunk.frz w395 S393, Chunk.mut S52 ad285 B286 C287 RS.1, Chunk.frz wz82 S85] := O402
      clear O402
      refine V H398 (op_move rfl (H398.ev rfl)) ?_
      intro _ H409; clear H398
      refine V H409 (op_extract rfl (H409.ev rfl) rfl) ?_
      intro _ H411; clear H409
      refine V H411 (op_extract rfl (H411.ev rfl) rfl) ?_
      intro _ H413; clear H411
      refine V H413 (op_assign rfl (H413.ev rfl)) ?_
      intro _ H415; clear H413
      refine V H415 (op_assign rfl (H415.ev rfl)) ?_
      intro _ H417; clear H415
      refine gE hK386 ?_
      refine gw_seq fun K418 hK418 => ?_
      refine gR fun K419 hK419 => ?_
      refine V H417 (op_move rfl (H417.ev rfl)) ?_
      intro _ H421; clear H417
      refine V H421 (op_len Try.underlying25 rfl (H421.ev rfl)) ?_
      intro _ H423; clear H421
      refine V H423 (op_move rfl (ev_c _ _)) ?_
      intro _ H425; clear H423
      refine gE hK419 ?_
      refine wp_block ?_
      refine gw_loop (fun m_ a_ w_ => ∃ (m : Int), Fr 123 a_ [(106, J m), (6, J RS.2), (7, .slice A83 RS.1.length c84), (12, .slice A391 RS.1.length c392), (13, J RS.2), (105, J (RS.1.length : Int))] ∧ Own w w_ [Chunk.frz w395 S393, Chunk.mut S52 ad285 B286 C287 RS.1, Chunk.frz wz82 S85] ∧ (0 ≤ m ∧ m ≤ RS.1.length) ∧ m_ = (RS.1.length - m.toNat)) ((RS.1.length - (0 : Int).toNat)) ?_ ?_
      ·
       refine ⟨0, (H425.pick (t := 106) rfl (H425.pick (t := 6) rfl (H425.pick (t := 7) rfl (H425.pick (t := 12) rfl (H425.pick (t := 13) rfl (H425.pick (t := 105) rfl H425.nil)))))), O407.sel [0, 1, 2] (by decide), ?_, rfl⟩
       ·
        omega
      ·
       rintro m427 _ w429 ⟨m, H430, O431, him, hm432⟩
       refine gR fun K433 hK433 => ?_
       refine V H430 (op_lss rfl (H430.ev rfl) (H430.ev rfl)) ?_
       intro _ H435; clear H430
       refine gE hK433 ?_
       refine gw_seq fun K436 hK436 => ?_
       refine gw_cond H435 rfl (fun hb437 => ?_) (fun hb437 => ?_)
       ·
        have H438 := H435.subst_ (d := 107) (b := true) rfl hb437
        clear H435
        (try simp only [decide_eq_true_eq] at hb437)
        refine wp_skip ?_
        refine gw_nx (hK436 _ _ ?_)
        refine gw_seq fun K439 hK439 => ?_
        refine wp_block ?_
        refine gR fun K440 hK440 => ?_
        refine V H438 (op_move rfl (H438.ev rfl)) ?_
        intro _ H442; clear H438
        refine V H442 (op_assign rfl (H442.ev rfl)) ?_
        intro _ H444; clear H442
        refine gE hK440 ?_
        refine gw_seq fun K445 hK445 => ?_
        refine gw_drawB O431 (by kernel_rfl) (by kernel_rfl) fun w446 O447 => ?_
        clear O431
        refine gq_ev H444 (want_none rfl) rfl (by decide) (fun wq hq => have HO := O447.after hq; (op_move rfl (H444.ev rfl))) ?_
        intro _ H449; clear H444
        refine gq_ev H449 (want_none rfl) rfl (by decide) (fun wq hq => have HO := O447.after hq; (op_move rfl (H449.ev rfl))) ?_
        intro _ H451; clear H449
        obtain ⟨ad452, cs455, hA453, hl456, hK457, hc454, hin458⟩ := Kd.F_get hFz403 z35 m (by omega) (by omega)
        obtain ⟨A459, c460, A463, c464, rfl, hl461, hC462, hl465, hC466⟩ := k35_openF hK457
        clear hl456
        refine gq_ev H451 (want_none rfl) rfl (by decide) (fun wq hq => have HO := O447.after hq; (op_index Try.underlying25 gwsiz35 rfl (H451.ev rfl) (H451.ev rfl) hA453 (⟨by omega, by omega⟩))) ?_
        intro _ H468; clear H451
        refine gq_ev H468 (want_none rfl) rfl (by decide) (fun wq hq => have HO := O447.after hq; (op_loadc gwagg35 gwsiz35 rfl (H468.ev rfl) rfl ((frz_cells (i := 0) HO rfl hbz405 (hin458 (by decide)) hc454)))) ?_
        intro _ H470; clear H468
        refine gq_ev H470 (want_none rfl) rfl (by decide) (fun wq hq => have HO := O447.after hq; (op_move rfl (H470.ev rfl))) ?_
        intro _ H472; clear H470
        refine gq_ev H472 (want_none rfl) rfl (by decide) (fun wq hq => have HO := O447.after hq; (op_move rfl (H472.ev rfl))) ?_
        intro _ H474; clear H472
        obtain ⟨ad475, cs478, hA476, hl479, hK480, hc477, hin481⟩ := Kd.F_get hFz87 z35 m (by omega) (by omega)
        obtain ⟨A482, c483, A486, c487, rfl, hl484, hC485, hl488, hC489⟩ := k35_openF hK480
        clear hl479
        refine gq_ev H474 (want_none rfl) rfl (by decide) (fun wq hq => have HO := O447.after hq; (op_index Try.underlying25 gwsiz35 rfl (H474.ev rfl) (H474.ev rfl) hA476 (⟨by omega, by omega⟩))) ?_
        intro _ H491; clear H474
        refine gq_ev H491 (want_none rfl) rfl (by decide) (fun wq hq => have HO := O447.after hq; (op_loadc gwagg35 gwsiz35 rfl (H491.ev rfl) rfl ((frz_cells (i := 2) HO rfl hbz86 (hin481 (by decide)) hc477)))) ?_
        intro _ H493; clear H491
        refine gq_call H493 (want_none rfl) rfl (by decide) (fun wq hq => have HO := O447.after hq; (op_callL Try.func9 (by kernel_rfl) rfl rfl (ar_cons (H493.ev rfl) (ar_cons (H493.ev rfl) ar_nil)))) (fun wq hq => have HO := O447.after hq; (SameEntry_calls (RS.1.getD m.toNat z35) (RS.1.getD m.toNat z35) A459 c460 A463 c464 A482 c483 A486 c487 _ (hokR _ (getD_mem (z := z35) RS.1 m.toNat (by omega))) (frz_C (i := 0) HO rfl hbz405 hC462) hl461 (frz_C (i := 0) HO rfl hbz405 hC466) hl465 (frz_C (i := 2) HO rfl hbz86 hC485) hl484 (frz_C (i := 2) HO rfl hbz86 hC489) hl488).mono fun e w' h => ⟨h.1, below_then hq h.2⟩) ?_
        intro _ H495; clear H493
        refine gq_ev H495 (want_none rfl) rfl (by decide) (fun wq hq => have HO := O447.after hq; (op_not rfl (H495.ev rfl))) ?_
        intro _ H497; clear H495
        have H498 := H497.lit (b := false) (by rw [eqA_self]; rfl)
        clear H497
        refine wpQuiet_nil ?_
        intro w499 hq
        have O500 := O447.after hq
        clear O447 hq
        refine gw_nx (hK445 _ _ ?_)
        refine gw_cond H498 rfl (fun hb501 => ?_) (fun hb501 => ?_)
        skip
        ·
         cases hb501
        refine wp_skip ?_
        refine gw_blk ?_
        refine gw_nx (hK439 _ _ ?_)
        refine wp_region_lit ?_
        refine V H498 (op_add rfl (H498.ev rfl) (ev_c _ _) (by omega)) ?_
        intro _ H503; clear H498
        refine V H503 (op_move rfl (H503.ev rfl)) ?_
        intro _ H505; clear H503
        refine wpList_nil ?_
        refine gw_nx ⟨_, ?_, m + 1, (H505.pick (t := 106) rfl (H505.pick (t := 6) rfl (H505.pick (t := 7) rfl (H505.pick (t := 12) rfl (H505.pick (t := 13) rfl (H505.pick (t := 105) rfl H505.nil)))))), O500.sel [0, 1, 2] (by decide), ?_, rfl⟩
        ·
         rw [hm432]; omega
        ·
         omega
       ·
        have H506 := H435.subst_ (d := 107) (b := false) rfl hb437
        clear H435
        (try simp only [decide_eq_false_iff_not, Int.not_lt] at hb437)
        refine wp_exit ?_
        refine gw_thx ?_
        refine gw_thx ?_
        refine gw_in ?_
        refine gw_nx (hK418 _ _ ?_)
        refine gR fun K507 hK507 => ?_
        refine V H506 (op_move rfl (H506.ev rfl)) ?_
        intro _ H509; clear H506
        refine V H509 (op_move rfl (H509.ev rfl)) ?_
        intro _ H511; clear H509
        refine V H511 (op_eqi rfl (H511.ev rfl) (H511.ev rfl)) ?_
        intro _ H513; clear H511
        have H514 := H513.lit (b := true) (by simp)
        clear H513
        refine V H514 (op_assign rfl (H514.ev rfl)) ?_
        intro _ H516; clear H514
        refine gE hK507 ?_
        refine wp_ret ?_
        refine gw_ret1 H516 rfl rfl ?_
        exact ⟨rfl, O431.below⟩
end GMergeL_
export GMergeL_ (MergeMerges_walk)
open Classical in
noncomputable def colloquylaw22_MergeMerges.f (a0 : Int) (l1 : List (List S35)) : Option Bool := if (lawH l1) then some true else none
theorem colloquylaw22_MergeMerges.calls (a0 : Int) (A1 : Option Addr) (c1 : Nat) (l1 : List (List S35)) (r : Bool) (w : World) (hr1 : Kd.C (Kd.slice 35 k35) w A1 l1.length l1) (hc1 : l1.length ≤ c1) (h : colloquylaw22_MergeMerges.f a0 l1 = some r) :
    Calls Try.prog 3 #[(.int .i64 a0), (.slice A1 l1.length c1)] w fun e w' => e = .returned (.bool r) ∧ Below w.heap.size w w' := by
  unfold colloquylaw22_MergeMerges.f at h
  split at h
  · cases h; rename_i hh; exact MergeMerges_walk a0 A1 c1 l1 w hr1 hc1 hh
  · cases h
end Go.Proofs.Ytmhgblhmkhoopaa.PA
end
section
namespace Go.Proofs.Ytmhgblhmkhoopaa.PA
open Go.RowKit Go.Proofs.YtmhgblhmkhoopaaW.PrintWords Go.Proofs.YtmhgblhmkhoopaaW.PrintLast Go.Proofs.YtmhgblhmkhoopaaW.PrintMore
structure Opens {α : Type} (P : Program) (t : TypeId) (d : Kd α) (good : α → Prop) (wt : α → Nat) (sz : α → Prop) : Prop where
  run : ∀ {H : Type} (enc : TypeId × Value → H) (w : World) (spare : Nat → Bool) (held : Bool) (fuel : Nat) (cs : List Value) (x : DataW H × List MemPlace),
    DataW.trod enc P w 0 spare held fuel t cs = some x → ∃ y : α, d.K w y cs ∧ good y ∧ wt y ≤ Rows.uptoBulk x.1 ∧ ((∀ n ∈ x.1.weights P t, n ≤ reachBytes) → sz y)
structure OpensF {α : Type} (P : Program) (fs : List Field) (off : Nat) (d : Kd α) (good : α → Prop) (wt : α → Nat) (sz : α → Prop) : Prop where
  run : ∀ {H : Type} (enc : TypeId × Value → H) (w : World) (spare : Nat → Bool) (held : Bool) (fuel : Nat) (cs : List Value) (xs : List (DataW H × List MemPlace)),
    (fs.mapM fun f => DataW.trod enc P w 0 spare held fuel f.type ((cs.drop f.offset).take (P.cellsOf f.type))) = some xs →
      ∃ y : α, d.K w y ((cs.drop off).take d.sz) ∧ good y ∧ wt y ≤ Rows.uptoBulkAll (xs.map (·.1)) ∧ ((∀ n ∈ DataW.weightsEach P (fs.map (·.type)) (xs.map (·.1)), n ≤ reachBytes) → sz y)
section
variable {P : Program} {t e : TypeId}
theorem bulk_pos {H : Type} (d : DataW H) : 1 ≤ Rows.uptoBulk d := by
  cases d with
  | lit l => cases l <;> simp [Rows.uptoBulk]
  | nil => simp [Rows.uptoBulk]
  | ptr d => simp [Rows.uptoBulk]
  | slice elems spare => simp [Rows.uptoBulk]
  | agg parts => simp [Rows.uptoBulk]
  | iface t d => simp [Rows.uptoBulk]
  | map entries => simp [Rows.uptoBulk]
  | held h => simp [Rows.uptoBulk]
theorem opens_int {k : IntKind} (ht : P.underlying t = some (.int k)) : Opens P t (Kd.int k) (fun y => (Lit.int k y).wf = true) (fun _ => 1) (fun _ => True) :=
  ⟨fun enc w spare held fuel cs x h => by
    obtain ⟨n, rfl, rfl, hw⟩ := DataW.trod_int ht h
    exact ⟨n, rfl, hw, bulk_pos _, fun _ => trivial⟩⟩
theorem opens_string (ht : P.underlying t = some .string) : Opens P t Kd.string (fun s => s.size ≤ maxLen) (fun s => s.size + 1) (fun s => s.size ≤ reachBytes) :=
  ⟨fun enc w spare held fuel cs x h => by
    obtain ⟨s, rfl, rfl, hs⟩ := DataW.trod_string ht h
    have e : s.data.toList.length = s.size := by rw [Array.length_toList]; rfl
    refine ⟨s, rfl, hs, ?_, fun hn => ?_⟩
    · simp only [Rows.uptoBulk]
      omega
    · rw [← e]
      exact hn _ (by simp [DataW.weights])⟩
theorem bulkAll_map {H : Type} {α : Type} (wt : α → Nat) : ∀ (ds : List (DataW H)) (xs : List α), xs.length = ds.length → (∀ (i : Nat) (x : α) (d : DataW H), xs[i]? = some x → ds[i]? = some d → wt x ≤ Rows.uptoBulk d) → (xs.map wt).sum ≤ Rows.uptoBulkAll ds
  | [], [], _, _ => by simp
  | [], _ :: _, hl, _ => by simp at hl
  | _ :: _, [], hl, _ => by simp at hl
  | d :: ds, x :: xs, hl, h => by
    have h0 := h 0 x d rfl rfl
    have ih := bulkAll_map wt ds xs (by simpa using hl) (fun i x' d' h1 h2 => h (i + 1) x' d' (by simpa using h1) (by simpa using h2))
    simp only [List.map_cons, List.sum_cons, Rows.uptoBulkAll]
    omega
theorem cells_list {w : World} {base : Nat} {a : Addr} {n : Nat} {cs : List Value} (h : w.cells? base a n = some cs) : cs.length = n ∧ ∀ i u, cs[i]? = some u → w.cell? (a.add i) = some u := by
  unfold World.cells? at h
  split at h
  · have hl := mapM_some_length h
    rw [List.length_range] at hl
    refine ⟨hl, fun i u hu => ?_⟩
    have hi : i < n := by
      have := (List.getElem?_eq_some_iff.1 hu).1
      omega
    have := mapM_some_get h i i (by rw [List.getElem?_range hi])
    rw [this]
    exact hu
  · cases h
theorem mem_weightsAll {H : Type} {n : Nat} {d : DataW H} : ∀ {ds : List (DataW H)}, d ∈ ds → n ∈ d.weights P e → n ∈ DataW.weightsAll P e ds
  | [], h, _ => by cases h
  | c :: ds, h, hn => by
    simp only [DataW.weightsAll, List.mem_append]
    rcases List.mem_cons.1 h with rfl | h
    · exact .inl hn
    · exact .inr (mem_weightsAll h hn)
theorem opens_slice {α : Type} [Inhabited α] {d : Kd α} {good : α → Prop} {wt : α → Nat} {sz : α → Prop} {b : Nat} (hby : P.bytesOf e = b) (ht : P.underlying t = some (.slice e)) (hsz : P.cellsOf e = d.sz) (ho : Opens P e d good wt sz) :
    Opens P t (Kd.slice e d) (fun xs => xs.length ≤ maxLen ∧ ∀ x ∈ xs, good x) (fun xs => (xs.map wt).sum + 1) (fun xs => xs.length * b ≤ reachBytes ∧ ∀ x ∈ xs, sz x) :=
  ⟨fun enc w spare held fuel cs x h => by
    rcases Deep.open_slice ht h with ⟨rfl, rfl⟩ | ⟨a, len, cap, m, n, D, Pl, rfl, hb, hl, hm, hmm, rfl, hx⟩
    · refine ⟨[], ⟨none, 0, rfl, Nat.le_refl _, rfl, Nat.zero_le _, fun h => absurd h (by simp)⟩, ⟨by simp [maxLen], fun x hx => by cases hx⟩, by simpa using bulk_pos _, fun _ => ⟨by simp, fun x hx => by cases hx⟩⟩
    · have hlm : len ≤ m := by rw [hmm]; split <;> omega
      have hel : ∀ i : Nat, ∃ y : α, i < len → ∃ cs', w.cells? 0 (a.add (i * P.cellsOf e)) (P.cellsOf e) = some cs' ∧ d.K w y cs' ∧ good y ∧ wt y ≤ Rows.uptoBulk (D i) ∧ ((∀ n ∈ (D i).weights P e, n ≤ reachBytes) → sz y) := by
        intro i
        by_cases hi : i < len
        · obtain ⟨cs', h1, h2⟩ := hx i (by omega)
          obtain ⟨y, hk, hg, hw, hz⟩ := ho.run enc w spare held n cs' _ h2
          exact ⟨y, fun _ => ⟨cs', h1, hk, hg, hw, hz⟩⟩
        · exact ⟨default, fun h => absurd h hi⟩
      obtain ⟨f, hf⟩ := Classical.axiomOfChoice hel
      have hget : ∀ (j : Nat) (p : α), ((List.range len).map f)[j]? = some p → j < len ∧ f j = p := by
        intro j p hj
        have hj' := (List.getElem?_eq_some_iff.1 hj).1
        rw [List.length_map, List.length_range] at hj'
        rw [List.getElem?_map, List.getElem?_range hj'] at hj
        exact ⟨hj', by simpa using hj⟩
      have hlen : ((List.range len).map f).length = len := by rw [List.length_map, List.length_range]
      have hmax : maxLen = 9223372036854775807 := rfl
      refine ⟨(List.range len).map f, ⟨some a, cap, by rw [hlen], by rw [hlen]; exact hl, rfl, by rw [hlen]; omega, fun _ => ⟨a, rfl, fun j p hj => ?_⟩⟩, ⟨by rw [hlen]; omega, fun x hx' => ?_⟩, ?_, fun hn => ⟨?_, fun x hx' => ?_⟩⟩
      · obtain ⟨hj', rfl⟩ := hget j p hj
        obtain ⟨cs', h1, hk, _⟩ := hf j hj'
        obtain ⟨hcl, hcc⟩ := cells_list h1
        refine ⟨cs', by rw [hcl, hsz], hk, fun i u hu => ?_⟩
        have := hcc i u hu
        rwa [Addr.add_add, hsz] at this
      · obtain ⟨i, hi, rfl⟩ := List.mem_map.1 hx'
        obtain ⟨_, _, _, hg, _⟩ := hf i (List.mem_range.1 hi)
        exact hg
      · simp only [Rows.uptoBulk]
        have := bulkAll_map wt ((List.range len).map D) ((List.range len).map f) (by simp) (fun i x' d' h1 h2 => by
          obtain ⟨hi, rfl⟩ := hget i x' h1
          have hd : D i = d' := by
            rw [List.getElem?_map, List.getElem?_range hi] at h2
            simpa using h2
          subst hd
          obtain ⟨_, _, _, _, hw, _⟩ := hf i hi
          exact hw)
        omega
      · simp only [DataW.weights, ht] at hn
        have h1 := hn _ (List.mem_cons_self ..)
        rw [List.length_map, List.length_range, hby] at h1
        rw [hlen]
        exact Nat.le_trans (Nat.mul_le_mul_right b (Nat.le_add_right _ _)) h1
      · simp only [DataW.weights, ht] at hn
        obtain ⟨i, hi, rfl⟩ := List.mem_map.1 hx'
        obtain ⟨_, _, _, _, _, hz⟩ := hf i (List.mem_range.1 hi)
        exact hz fun n hn' => hn n (List.mem_cons_of_mem _ (List.mem_append_left _ (mem_weightsAll (List.mem_map.2 ⟨i, hi, rfl⟩) hn')))⟩
theorem opensF_one {α : Type} {d : Kd α} {good : α → Prop} {wt : α → Nat} {sz : α → Prop} {f : Field} (hsz : P.cellsOf f.type = d.sz) (ho : Opens P f.type d good wt sz) : OpensF P [f] f.offset d good wt sz :=
  ⟨fun enc w spare held fuel cs xs h => by
    simp only [List.mapM_cons, List.mapM_nil] at h
    obtain ⟨x, hx, h2⟩ := Option.bind_eq_some_iff.1 h
    obtain ⟨ys, hys, h3⟩ := Option.bind_eq_some_iff.1 h2
    obtain rfl : [] = ys := by simpa using hys
    obtain rfl : [x] = xs := by simpa using h3
    obtain ⟨y, hk, hg, hw, hz⟩ := ho.run enc w spare held fuel _ x hx
    refine ⟨y, by rw [← hsz]; exact hk, hg, ?_, fun hn => hz fun n h' => hn n ?_⟩
    · simp only [List.map_cons, List.map_nil, Rows.uptoBulkAll]
      omega
    · simp only [List.map_cons, List.map_nil, DataW.weightsEach, List.append_nil]
      exact h'⟩
theorem opensF_cons {α β : Type} {d : Kd α} {d2 : Kd β} {good : α → Prop} {good2 : β → Prop} {wt : α → Nat} {wt2 : β → Nat} {sz : α → Prop} {sz2 : β → Prop} {f : Field} {fs : List Field} {off2 : Nat} (hsz : P.cellsOf f.type = d.sz) (hoff : f.offset + d.sz = off2)
    (ho : Opens P f.type d good wt sz) (h2 : OpensF P fs off2 d2 good2 wt2 sz2) : OpensF P (f :: fs) f.offset (Kd.pair d d2) (fun x => good x.1 ∧ good2 x.2) (fun x => wt x.1 + wt2 x.2) (fun x => sz x.1 ∧ sz2 x.2) :=
  ⟨fun enc w spare held fuel cs xs h => by
    simp only [List.mapM_cons] at h
    obtain ⟨x, hx, h3⟩ := Option.bind_eq_some_iff.1 h
    obtain ⟨ys, hys, h4⟩ := Option.bind_eq_some_iff.1 h3
    obtain rfl : x :: ys = xs := by simpa using h4
    obtain ⟨y, hk, hg, hw, hz⟩ := ho.run enc w spare held fuel _ x hx
    obtain ⟨z, hk2, hg2, hw2, hz2⟩ := h2.run enc w spare held fuel cs ys hys
    refine ⟨(y, z), ⟨(cs.drop f.offset).take d.sz, (cs.drop off2).take d2.sz, ?_, by rw [← hsz]; exact hk, hk2⟩, ⟨hg, hg2⟩, ?_, fun hn => ?_⟩
    · show (cs.drop f.offset).take (d.sz + d2.sz) = _
      rw [List.take_add, List.drop_drop, hoff]
    · simp only [List.map_cons, Rows.uptoBulkAll]
      omega
    · simp only [List.map_cons, DataW.weightsEach] at hn
      exact ⟨hz fun n h' => hn n (List.mem_append_left _ h'), hz2 fun n h' => hn n (List.mem_append_right _ h')⟩⟩
theorem opens_struct {α β : Type} {d : Kd α} {good : α → Prop} {wt : α → Nat} {sz : α → Prop} {fs : Array Field} (f : β → α) (g : α → β) (hfg : ∀ a, f (g a) = a) (ht : P.underlying t = some (.struct fs)) (hsz : P.cellsOf t = d.sz) (ho : OpensF P fs.toList 0 d good wt sz) :
    Opens P t (Kd.iso d f) (fun x => good (f x)) (fun x => wt (f x) + 1) (fun x => sz (f x)) :=
  ⟨fun enc w spare held fuel cs x h => by
    cases fuel with
    | zero => simp [DataW.trod] at h
    | succ n =>
      unfold DataW.trod at h
      rw [ht] at h
      have h' : (if cs.length = P.cellsOf t then (fs.toList.mapM fun f => DataW.trod enc P w 0 spare held n f.type ((cs.drop f.offset).take (P.cellsOf f.type))).map fun xs => (DataW.agg (xs.map (·.1)), xs.flatMap (·.2)) else none) = some x := by
        cases cs with
        | nil => exact h
        | cons c cs => cases cs <;> cases c <;> exact h
      clear h
      split at h'
      · rename_i hl
        obtain ⟨xs, hxs, rfl⟩ := Option.map_eq_some_iff.1 h'
        obtain ⟨y, hk, hg, hw, hz⟩ := ho.run enc w spare held n cs xs hxs
        refine ⟨g y, ?_, by show good (f (g y)); rw [hfg]; exact hg, ?_, fun hn => ?_⟩
        · show d.K w (f (g y)) cs
          rw [hfg]
          rw [List.drop_zero, List.take_of_length_le (by omega)] at hk
          exact hk
        · show wt (f (g y)) + 1 ≤ Rows.uptoBulk (DataW.agg (xs.map (·.1)))
          rw [hfg]
          simp only [Rows.uptoBulk]
          omega
        · show sz (f (g y))
          rw [hfg]
          simp only [DataW.weights, ht] at hn
          exact hz hn
      · cases h'⟩
end
end Go.Proofs.Ytmhgblhmkhoopaa.PA
end
section
namespace Go.Proofs.Ytmhgblhmkhoopaa.PA
open Go.RowKit Go.Proofs.YtmhgblhmkhoopaaW.PrintWords Go.Proofs.YtmhgblhmkhoopaaW.PrintLast Go.Proofs.YtmhgblhmkhoopaaW.PrintMore
set_option linter.unusedVariables false
instance : Inhabited S37 := ⟨z37⟩
def good37 (x : S37) : Prop := (x.f0).size ≤ maxLen ∧ (Lit.int .i64 (x.f1)).wf = true
def wt37 (x : S37) : Nat := (((x.f0).size + 1) + (1)) + 1
def sz37 (x : S37) : Prop := ((x.f0).size ≤ reachBytes) ∧ True
theorem opens37 : Opens Try.prog 37 k37 good37 wt37 sz37 :=
  opens_struct (fun x : S37 => (x.f0, x.f1)) (fun p => ⟨p.1, p.2⟩) (fun _ => rfl) Try.underlying37 (by kernel_rfl) (opensF_cons (by kernel_rfl) rfl (opens_string Try.underlying9) (opensF_one (by kernel_rfl) (opens_int Try.underlying3)))
end Go.Proofs.Ytmhgblhmkhoopaa.PA
end
section
namespace Go.Proofs.Ytmhgblhmkhoopaa.PA
open Go.RowKit Go.Proofs.YtmhgblhmkhoopaaW.PrintWords Go.Proofs.YtmhgblhmkhoopaaW.PrintLast Go.Proofs.YtmhgblhmkhoopaaW.PrintMore
set_option linter.unusedVariables false
instance : Inhabited S51 := ⟨z51⟩
def good51 (x : S51) : Prop := (Lit.int .i64 (x.f0)).wf = true ∧ (Lit.int .i64 (x.f1)).wf = true ∧ (x.f2).size ≤ maxLen ∧ (Lit.int .i64 (x.f3)).wf = true
def wt51 (x : S51) : Nat := (1 + (1 + (((x.f2).size + 1) + (1)))) + 1
def sz51 (x : S51) : Prop := True ∧ True ∧ ((x.f2).size ≤ reachBytes) ∧ True
theorem opens51 : Opens Try.prog 51 k51 good51 wt51 sz51 :=
  opens_struct (fun x : S51 => (x.f0, x.f1, x.f2, x.f3)) (fun p => ⟨p.1, p.2.1, p.2.2.1, p.2.2.2⟩) (fun _ => rfl) Try.underlying51 (by kernel_rfl) (opensF_cons (by kernel_rfl) rfl (opens_int Try.underlying3) (opensF_cons (by kernel_rfl) rfl (opens_int Try.underlying3) (opensF_cons (by kernel_rfl) rfl (opens_string Try.underlying9) (opensF_one (by kernel_rfl) (opens_int Try.underlying2)))))
end Go.Proofs.Ytmhgblhmkhoopaa.PA
end
section
namespace Go.Proofs.Ytmhgblhmkhoopaa.PA
open Go.RowKit Go.Proofs.YtmhgblhmkhoopaaW.PrintWords Go.Proofs.YtmhgblhmkhoopaaW.PrintLast Go.Proofs.YtmhgblhmkhoopaaW.PrintMore
set_option linter.unusedVariables false
instance : Inhabited S35 := ⟨z35⟩
def good35 (x : S35) : Prop := (Lit.int .i64 (x.f0)).wf = true ∧ ((x.f1).length ≤ maxLen ∧ ∀ y ∈ x.f1, good37 (y)) ∧ ((x.f2).length ≤ maxLen ∧ ∀ y ∈ x.f2, ((y).length ≤ maxLen ∧ ∀ z ∈ y, good51 (z)))
def wt35 (x : S35) : Nat := (1 + ((((x.f1).map (fun x => wt37 (x))).sum + 1) + ((((x.f2).map (fun x => (((x).map (fun x => wt51 (x))).sum + 1))).sum + 1)))) + 1
def sz35 (x : S35) : Prop := True ∧ ((x.f1).length * 24 ≤ reachBytes ∧ ∀ y ∈ x.f1, sz37 (y)) ∧ ((x.f2).length * 24 ≤ reachBytes ∧ ∀ y ∈ x.f2, ((y).length * 40 ≤ reachBytes ∧ ∀ z ∈ y, sz51 (z)))
theorem opens35 : Opens Try.prog 35 k35 good35 wt35 sz35 :=
  opens_struct (fun x : S35 => (x.f0, x.f1, x.f2)) (fun p => ⟨p.1, p.2.1, p.2.2⟩) (fun _ => rfl) Try.underlying35 (by kernel_rfl) (opensF_cons (by kernel_rfl) rfl (opens_int Try.underlying3) (opensF_cons (by kernel_rfl) rfl (opens_slice (b := 24) (by kernel_rfl) Try.underlying32 (by kernel_rfl) opens37) (opensF_one (by kernel_rfl) (opens_slice (b := 24) (by kernel_rfl) Try.underlying33 (by kernel_rfl) (opens_slice (b := 40) (by kernel_rfl) Try.underlying42 (by kernel_rfl) opens51)))))
end Go.Proofs.Ytmhgblhmkhoopaa.PA
end
section
namespace Go.Proofs.Ytmhgblhmkhoopaa.PA
open Go.RowKit Go.Proofs.YtmhgblhmkhoopaaW.PrintWords Go.Proofs.YtmhgblhmkhoopaaW.PrintLast Go.Proofs.YtmhgblhmkhoopaaW.PrintMore
set_option linter.unusedVariables false
def colloquylaw22_MergeMerges.PureU : Prop := ∀ (x0 : Int) (x1 : List (List (S35))), (Lit.int .i64 (x0)).wf = true → ((x1).length ≤ maxLen ∧ ∀ y ∈ x1, ((y).length ≤ maxLen ∧ ∀ z ∈ y, good35 (z))) → ((x1).length * 24 ≤ reachBytes ∧ ∀ y ∈ x1, ((y).length * 56 ≤ reachBytes ∧ ∀ z ∈ y, sz35 (z))) → ∃ _ : Nat, colloquylaw22_MergeMerges.f (x0) (x1) = some true
end Go.Proofs.Ytmhgblhmkhoopaa.PA
end
section
namespace Go.Proofs.Ytmhgblhmkhoopaa.Pure
open Go.RowKit Go.Proofs.Ytmhgblhmkhoopaa.PA
set_option linter.unusedVariables false in
theorem MergeMerges : colloquylaw22_MergeMerges.PureU := by
  intro x0 x1 g0 g1 z1
  have hrb : reachBytes ≤ 1000000000000000 := by decide
  refine ⟨0, if_pos (show lawH x1 from ⟨fun e he => ?_, fun e he => ?_⟩)⟩ <;> obtain ⟨p, hp, hep⟩ := List.mem_flatten.1 he
  · have h := (z1.2 p hp).2 e hep
    exact ⟨by have := h.2.1.1; omega, fun t ht => by have := (h.2.2.2 t ht).1; omega⟩
  · have h := ((g1.2 p hp).2 e hep).1
    simp [Lit.wf, IntKind.signed, IntKind.min, IntKind.max, IntKind.bits] at h
    omega
end Go.Proofs.Ytmhgblhmkhoopaa.Pure
end
section
namespace Go.Proofs.Ytmhgblhmkhoopaa.mergeMerges
open Go.ChangeShapes Go.WideShapes Go.ChangeAt Go.RowKit
open Go.ChangeMaps (open_string shut_string)
open Go.RowKit Go.Proofs.YtmhgblhmkhoopaaW.PrintWords Go.Proofs.YtmhgblhmkhoopaaW.PrintLast Go.Proofs.YtmhgblhmkhoopaaW.PrintMore Go.Proofs.Ytmhgblhmkhoopaa.PA
set_option linter.unusedVariables false
set_option linter.unusedSimpArgs false
theorem own : ownKnob Try.prog.godebug = none := by kernel_rfl
theorem laidOut : laidOutB Try.prog = true := by kernel_rfl
set_option maxRecDepth 100000 in
theorem contract (H : Type) (enc : TypeId × Value → H) (W : World) (base : Nat) (args : Array Value) (ds gs : List (DataW H)) (before : List MemPlace)
    (hval0 : ∀ (j : Nat) t v, Try.f3.params[j]? = some t → args[j]? = some v → Value.okWide Try.prog W .any base t v)
    (hW : DataW.Whole enc Try.prog Try.f3.params.toList Rows.mergeMergesSpec.vars false W args.toList ds gs before)
    (hsz0 : (DataW.weightsEach Try.prog (Try.f3.params.toList ++ Rows.mergeMergesSpec.plain.varTypes Try.prog) (ds ++ gs)).all (· ≤ reachBytes) = true) :
    Calls Try.prog 3 args W fun e W' => ∃ v, e = .returned v ∧ Rows.mergeMergesSpec.post enc Try.prog Try.f3 false true false false W args v W' := by
  have hsz : (DataW.weightsEach Try.prog (Try.f3.params.toList ++ Rows.mergeMergesSpec.plain.varTypes Try.prog) (ds ++ gs)).all (· ≤ reachBytes) = true := hsz0
  have hval : ∀ (j : Nat) t v, Try.f3.params[j]? = some t → args[j]? = some v → Value.okWide Try.prog W .any base t v := hval0
  have hW' := hW
  obtain ⟨p, q, hA0, hV, rfl, hfz, hnd⟩ := hW
  have hA : DataW.TrodAll enc Try.prog W 0 (fun _ => true) true Try.f3.params.toList args.toList ds p := hA0
  rw [Try.params3] at hA hval hsz
  obtain ⟨v0, vs0, d0, ds0, p0, q0, hargs, rfl, rfl, h0, r0⟩ := trodAll_cons hA
  obtain ⟨v1, vs1, d1, ds1, p1, q1, rfl, rfl, rfl, h1, r1⟩ := trodAll_cons r0
  obtain ⟨rfl, rfl, rfl⟩ := trodAll_nil r1
  obtain rfl : args = #[v0, v1] := by cases args; simp_all
  obtain ⟨rfl, rfl⟩ := trodVars_none hV
  obtain ⟨x0, rfl, rfl, rfl, g0⟩ := open_int Try.underlying3 (hval 0 3 v0 rfl rfl) h0
  have k1 := h1
  have lt1 : ∀ x ∈ p1, x.block < W.heap.size := by obtain ⟨m, hm⟩ := k1; exact DataW.trod_lt m _ _ _ hm
  obtain ⟨fuel1, hf1⟩ := h1
  obtain ⟨x1, hK1, g1, z1, s10⟩ := (opens_slice (b := 24) (by kernel_rfl) Try.underlying22 (by kernel_rfl) (opens_slice (b := 56) (by kernel_rfl) Try.underlying25 (by kernel_rfl) opens35)).run enc W _ _ fuel1 _ _ hf1
  have s1 := s10 (fun n hn => by have := List.all_eq_true.1 hsz n (DataW.weights_mem_each (j := 1) (t := 22) rfl rfl n hn); simpa using this)
  obtain ⟨a1, len1, cap1, rfl⟩ := okWide_slice Try.underlying22 (hval 1 22 v1 rfl rfl)
  obtain ⟨A1, c1, hcs1, hc1, hr1⟩ := hK1
  obtain ⟨rfl, rfl, rfl⟩ : a1 = A1 ∧ len1 = x1.length ∧ cap1 = c1 := by
    have hcs' : [Value.slice a1 len1 cap1] = [Value.slice A1 x1.length c1] := hcs1
    injection hcs' with e1 _
    injection e1 with e1 e2 e3
    exact ⟨e1, e2, e3⟩
  obtain ⟨k, h⟩ := Pure.MergeMerges x0 x1 g0 g1 s1
  refine (PA.colloquylaw22_MergeMerges.calls (a0 := x0) (A1 := a1) (c1 := cap1) (l1 := x1) (r := true) (w := W) (hr1 := hr1) (hc1 := hc1) (h := h)).mono fun e W' ⟨he, hb⟩ => ?_
  have bel : Below W.heap.size W W' := by first | exact hb | exact Drawn0.below hb
  subst he
  exact ⟨_, rfl, _, _, _, [], _, [], hW', trodAll_mk1 (shut_bool Try.underlying4 _), (trodAll_cons_mk (shut_int Try.underlying3 g0) (trodAll_cons_mk (Below.trod laidOut (by kernel_rfl) (of_decide_eq_true (by kernel_rfl)) k1 bel lt1) trodAll_mk0)), rfl, bel.frame _, fun h => by cases h⟩
set_option maxRecDepth 100000 in
theorem lifted (os : Os) (started : os.Started) (H : Type) (enc : TypeId × Value → H) :
    ReturnsInHanded {} Try.checked os 3 .any (Rows.mergeMergesSpec.pre6 enc Try.prog Try.f3 Rows.mergeMergesRow.domain false) (Rows.mergeMergesSpec.post enc Try.prog Try.f3 false true false false) := by
  refine returnsInHanded_of_change_sized (C := Try.checked) own started (by kernel_rfl) Try.func3
    (ChangeSpec.witness6 (enc := enc) (C := Try.checked) false ⟨#[], #[.int .i64 0, .slice none 0 0], []⟩ 8 (by kernel_rfl) (by kernel_rfl) (by kernel_rfl) (by kernel_rfl)) ?_
  intro W base args ds gs before hval hW _ hsz _
  exact contract H enc W base args ds gs before hval hW hsz
theorem proved : Rows.MergeMergesSaid :=
  OpenClaim.holds_of_wide 3 Try.f3 rfl rfl rfl rfl rfl rfl rfl ⟨rfl, rfl, rfl, rfl, rfl⟩ rfl rfl rfl rfl rfl (by kernel_rfl) Try.func3 (by kernel_rfl)
    (of_decide_eq_true (by kernel_rfl)) (by unfold Func.isWrapper; first | (rw [if_pos (by decide +kernel)]; kernel_rfl) | (rw [if_neg (by decide +kernel)]; exact ⟨rfl, rfl⟩))
    (fun os started H enc _ => lifted os started H enc)
#print axioms proved
end Go.Proofs.Ytmhgblhmkhoopaa.mergeMerges
namespace Go.Proofs.Ytmhgblhmkhoopaa
theorem mergeMerges_holds : Rows.MergeMergesSaid := mergeMerges.proved
end Go.Proofs.Ytmhgblhmkhoopaa
end
