/- The document's example of the layer line. Printed by a program of this session; Lean checks it. -/
import Derived.Test.YtbnoedefkbnpjaaGLine
import Derived.Test.YtbnoedefkbnpjaaHSame
namespace Go.Proofs.Ytbnoedefkbnpjaa.PA
open Go.RowKit Go.Proofs.YtbnoedefkbnpjaaW.PrintWords Go.Proofs.YtbnoedefkbnpjaaW.PrintLast Go.Proofs.YtbnoedefkbnpjaaW.PrintMore
set_option linter.unusedVariables false
set_option linter.unusedSimpArgs false
namespace GLineAlive_

set_option maxHeartbeats 4000000 in
set_option maxRecDepth 100000 in
theorem alive_calls (w : World) :
    Calls Try.prog 23 #[] w fun e w' => e = .returned (.bool true) ∧ Below w.heap.size w w' := by
  refine gw_start (N := 107) (vs := []) Try.func23 rfl rfl (by simp) fun a HF HO => ?_
  replace HO : Own w w [] := HO
  refine gw_seq fun K1 hK1 => ?_
  refine wp_region_lit ?_
  refine gw_ev HF (want_none rfl) rfl (by decide) (op_assign rfl (ev_c _ _)) ?_
  intro a2 HF3; clear HF
  refine wpList_nil ?_
  refine gw_nx (hK1 _ _ ?_)
  refine gw_seq fun K4 hK4 => ?_
  refine wp_region_lit ?_
  refine gw_bytes (xs := [97]) Try.underlying26 Try.underlying5 HF3 HO (want_none rfl) rfl (by decide) (op_bslice (by kernel_rfl) rfl (pt_cons (ev_c _ _) pt_nil)) (fun a_ HF_ => (want_none rfl)) rfl (by decide) rfl ?_
  intro g5 a6 w7 HF8 HO9; clear HF3 HO
  have HO10 : Own w w7 [Chunk.blk g5 (.cells (nums .u8 [97]).toArray 5 (([97]).length, ([97]).length + 1))] := HO9
  clear HO9
  refine gw_ev HF8 (want_none rfl) rfl (by decide) (op_build (cells := #[.int .i64 2, .slice (some ⟨g5, 0, none⟩) (([97]).length) (([97]).length)]) rfl (pt_cons (ev_c _ _) (pt_cons (HF8.ev rfl) pt_nil)) (by kernel_rfl)) ?_
  intro a11 HF12; clear HF8
  refine gw_ev HF12 (want_none rfl) rfl (by decide) (op_build (cells := #[.int .i64 3, .slice none 0 0]) rfl (pt_cons (ev_c _ _) pt_nil) (by kernel_rfl)) ?_
  intro a13 HF14; clear HF12
  refine gw_news (O := .cells #[.int .i64 2, .slice (some ⟨g5, 0, none⟩) (([97]).length) (([97]).length), .int .i64 3, .slice none 0 0] 52 (0, 0)) (n := 2) HF14 HO10 (want_none rfl) rfl (by decide) (op_bslice (by kernel_rfl) rfl (pt_cons (HF14.ev rfl) (pt_cons (HF14.ev rfl) pt_nil))) ?_
  intro g15 a16 w17 HF18 HO19; clear HF14 HO10
  have HO20 : Own w w17 [Chunk.blk g15 (.cells #[.int .i64 2, .slice (some ⟨g5, 0, none⟩) (([97]).length) (([97]).length), .int .i64 3, .slice none 0 0] 52 (0, 0)), Chunk.blk g5 (.cells (nums .u8 [97]).toArray 5 (([97]).length, ([97]).length + 1))] := HO19
  clear HO19
  refine gw_ev HF18 (want_none rfl) rfl (by decide) (op_build (cells := #[.slice (some ⟨g15, 0, none⟩) (([(⟨2, [97]⟩ : S52), (⟨3, []⟩ : S52)]).length) (([(⟨2, [97]⟩ : S52), (⟨3, []⟩ : S52)]).length), .int .i64 1, .int .i64 0]) rfl (pt_cons (HF18.ev rfl) (pt_cons (ev_c _ _) pt_nil)) (by kernel_rfl)) ?_
  intro a21 HF22; clear HF18
  refine gw_call HF22 (want_none rfl) rfl (by decide) (op_callL Try.func22 (by kernel_rfl) rfl rfl (ar_cons (HF22.ev rfl) ar_nil)) (GLine_.open_calls w.heap.size (some ⟨g15, 0, none⟩) (([(⟨2, [97]⟩ : S52), (⟨3, []⟩ : S52)]).length) ([(⟨2, [97]⟩ : S52), (⟨3, []⟩ : S52)]) 1 0 _ (C_lit (cs := [.int .i64 2, .slice (some ⟨g5, 0, none⟩) (([97]).length) (([97]).length), .int .i64 3, .slice none 0 0]) (HO20.get 0 rfl) (reps_more (k52_mk _ (⟨2, [97]⟩ : S52) (Nat.le_refl _) (blkC (HO20.get 1 rfl) (by simp))) rfl (reps_more (k52_mk _ (⟨3, []⟩ : S52) (Nat.le_refl _) (Kd.C_nil _ _)) rfl reps_none)) (by decide)) (Nat.le_refl _) (by decide +kernel) (by decide +kernel)) ?_
  rintro e29 w30 ⟨l23, A24, c25, S26, rfl, hb31⟩
  refine ⟨_, rfl, fun a32 HF33 => ?_⟩
  have HO34 := HO20.fresh hb31
  clear HF22 HO20 hb31
  have HO36 : Own w w30 [Chunk.blk l23 (.cells #[.slice A24 (([(⟨2, [97]⟩ : S52), (⟨3, []⟩ : S52)]).length) c25, .int .i64 1, .int .i64 0, .int .i64 0, .int .i64 0, .int .i64 0, .slice none (([] : List Int).length) 0] 83 (0, 0)), Chunk.view k52 S26 A24 (([(⟨2, [97]⟩ : S52), (⟨3, []⟩ : S52)]).length) c25 ([(⟨2, [97]⟩ : S52), (⟨3, []⟩ : S52)]), Chunk.row (Kd.int .u8) 5 w.heap.size (fun _ => False) (.slice none (([] : List Int).length) 0) ([] : List Int), Chunk.blk g15 (.cells #[.int .i64 2, .slice (some ⟨g5, 0, none⟩) (([97]).length) (([97]).length), .int .i64 3, .slice none 0 0] 52 (0, 0)), Chunk.blk g5 (.cells (nums .u8 [97]).toArray 5 (([97]).length, ([97]).length + 1))] := HO34
  clear HO34
  refine gw_ev HF33 (want_none rfl) rfl (by decide) (op_assign rfl (HF33.ev rfl)) ?_
  intro a37 HF38; clear HF33
  refine wpList_nil ?_
  refine gw_nx (hK4 _ _ ?_)
  refine gw_seq fun K39 hK39 => ?_
  refine gw_seq fun K40 hK40 => ?_
  refine wp_region_lit ?_
  refine gw_ev HF38 (want_none rfl) rfl (by decide) (op_move rfl (HF38.ev rfl)) ?_
  intro a41 HF42; clear HF38
  refine gw_ev HF42 (want_none rfl) rfl (by decide) (op_eqp_nil Try.underlying49 rfl (HF42.ev rfl)) ?_
  intro a43 HF44; clear HF42
  refine wpList_nil ?_
  refine gw_nx (hK40 _ _ ?_)
  refine gw_cond HF44 rfl (fun hb45 => ?_) (fun hb45 => ?_)
  skip
  · cases hb45
  refine wp_skip ?_
  refine gw_nx (hK39 _ _ ?_)
  refine gw_seq fun K46 hK46 => ?_
  refine wp_region_lit ?_
  refine gw_ev HF44 (want_none rfl) rfl (by decide) (op_move rfl (HF44.ev rfl)) ?_
  intro a47 HF48; clear HF44
  have HO58 : Own w _ [(Chunk.all [Chunk.row (Kd.int .u8) 5 w.heap.size (fun _ => False) (.slice none (([] : List Int).length) 0) ([] : List Int), Chunk.blk g15 (.cells #[.int .i64 2, .slice (some ⟨g5, 0, none⟩) (([97]).length) (([97]).length), .int .i64 3, .slice none 0 0] 52 (0, 0)), Chunk.blk g5 (.cells (nums .u8 [97]).toArray 5 (([97]).length, ([97]).length + 1))]), Chunk.blk l23 (.cells #[.slice A24 (([(⟨2, [97]⟩ : S52), (⟨3, []⟩ : S52)]).length) c25, .int .i64 1, .int .i64 0, .int .i64 0, .int .i64 0, .int .i64 0, .slice none (([] : List Int).length) 0] 83 (0, 0)), Chunk.view k52 S26 A24 (([(⟨2, [97]⟩ : S52), (⟨3, []⟩ : S52)]).length) c25 ([(⟨2, [97]⟩ : S52), (⟨3, []⟩ : S52)])] := Own.bundle (A := [Chunk.row (Kd.int .u8) 5 w.heap.size (fun _ => False) (.slice none (([] : List Int).length) 0) ([] : List Int), Chunk.blk g15 (.cells #[.int .i64 2, .slice (some ⟨g5, 0, none⟩) (([97]).length) (([97]).length), .int .i64 3, .slice none 0 0] 52 (0, 0)), Chunk.blk g5 (.cells (nums .u8 [97]).toArray 5 (([97]).length, ([97]).length + 1))]) (L := [Chunk.blk l23 (.cells #[.slice A24 (([(⟨2, [97]⟩ : S52), (⟨3, []⟩ : S52)]).length) c25, .int .i64 1, .int .i64 0, .int .i64 0, .int .i64 0, .int .i64 0, .slice none (([] : List Int).length) 0] 83 (0, 0)), Chunk.view k52 S26 A24 (([(⟨2, [97]⟩ : S52), (⟨3, []⟩ : S52)]).length) c25 ([(⟨2, [97]⟩ : S52), (⟨3, []⟩ : S52)])]) (HO36.sel [2, 3, 4, 0, 1] (by decide))
  refine gw_call HF48 (want_none rfl) rfl (by decide) (op_callL Try.func24 (by kernel_rfl) rfl rfl (ar_cons (HF48.ev rfl) (ar_cons (ev_c _ _) ar_nil))) (GLine_.next_calls w _ (Chunk.all [Chunk.row (Kd.int .u8) 5 w.heap.size (fun _ => False) (.slice none (([] : List Int).length) 0) ([] : List Int), Chunk.blk g15 (.cells #[.int .i64 2, .slice (some ⟨g5, 0, none⟩) (([97]).length) (([97]).length), .int .i64 3, .slice none 0 0] 52 (0, 0)), Chunk.blk g5 (.cells (nums .u8 [97]).toArray 5 (([97]).length, ([97]).length + 1))]) l23 A24 c25 ([(⟨2, [97]⟩ : S52), (⟨3, []⟩ : S52)]) 1 0 0 0 0 none 0 ([] : List Int) S26 1 (by decide +kernel) (by decide +kernel) (by decide +kernel) (by decide +kernel) HO58) ?_
  rintro e52 w53 ⟨A49, c50, S51, rfl, hb54⟩
  refine ⟨_, rfl, fun a55 HF56 => ?_⟩
  have HO57 : Own w w53 [Chunk.row (Kd.int .u8) 5 w.heap.size (fun _ => False) (.slice none (([] : List Int).length) 0) ([] : List Int), Chunk.blk g15 (.cells #[.int .i64 2, .slice (some ⟨g5, 0, none⟩) (([97]).length) (([97]).length), .int .i64 3, .slice none 0 0] 52 (0, 0)), Chunk.blk g5 (.cells (nums .u8 [97]).toArray 5 (([97]).length, ([97]).length + 1)), Chunk.row (Kd.int .u8) 5 w.heap.size S51 (.slice A49 ((nextL ([(⟨2, [97]⟩ : S52), (⟨3, []⟩ : S52)]) 1 0 0 0 0 1).b.length) c50) ((nextL ([(⟨2, [97]⟩ : S52), (⟨3, []⟩ : S52)]) 1 0 0 0 0 1).b), Chunk.blk l23 (.cells #[.slice A24 (([(⟨2, [97]⟩ : S52), (⟨3, []⟩ : S52)]).length) c25, .int .i64 1, .int .i64 0, .int .i64 ((nextL ([(⟨2, [97]⟩ : S52), (⟨3, []⟩ : S52)]) 1 0 0 0 0 1).at_), .int .i64 ((nextL ([(⟨2, [97]⟩ : S52), (⟨3, []⟩ : S52)]) 1 0 0 0 0 1).now), .int .i64 ((nextL ([(⟨2, [97]⟩ : S52), (⟨3, []⟩ : S52)]) 1 0 0 0 0 1).last), .slice none (([] : List Int).length) 0] 83 (0, 0)), Chunk.view k52 S26 A24 (([(⟨2, [97]⟩ : S52), (⟨3, []⟩ : S52)]).length) c25 ([(⟨2, [97]⟩ : S52), (⟨3, []⟩ : S52)])] := Own.unbundle (A := [Chunk.row (Kd.int .u8) 5 w.heap.size (fun _ => False) (.slice none (([] : List Int).length) 0) ([] : List Int), Chunk.blk g15 (.cells #[.int .i64 2, .slice (some ⟨g5, 0, none⟩) (([97]).length) (([97]).length), .int .i64 3, .slice none 0 0] 52 (0, 0)), Chunk.blk g5 (.cells (nums .u8 [97]).toArray 5 (([97]).length, ([97]).length + 1))]) (L := [Chunk.row (Kd.int .u8) 5 w.heap.size S51 (.slice A49 ((nextL ([(⟨2, [97]⟩ : S52), (⟨3, []⟩ : S52)]) 1 0 0 0 0 1).b.length) c50) ((nextL ([(⟨2, [97]⟩ : S52), (⟨3, []⟩ : S52)]) 1 0 0 0 0 1).b), Chunk.blk l23 (.cells #[.slice A24 (([(⟨2, [97]⟩ : S52), (⟨3, []⟩ : S52)]).length) c25, .int .i64 1, .int .i64 0, .int .i64 ((nextL ([(⟨2, [97]⟩ : S52), (⟨3, []⟩ : S52)]) 1 0 0 0 0 1).at_), .int .i64 ((nextL ([(⟨2, [97]⟩ : S52), (⟨3, []⟩ : S52)]) 1 0 0 0 0 1).now), .int .i64 ((nextL ([(⟨2, [97]⟩ : S52), (⟨3, []⟩ : S52)]) 1 0 0 0 0 1).last), .slice none (([] : List Int).length) 0] 83 (0, 0)), Chunk.view k52 S26 A24 (([(⟨2, [97]⟩ : S52), (⟨3, []⟩ : S52)]).length) c25 ([(⟨2, [97]⟩ : S52), (⟨3, []⟩ : S52)])]) (hb54.sel [1, 0, 2, 3] (by decide))
  clear HO58
  clear HF48 HO36 hb54
  have HO60 : Own w w53 [Chunk.row (Kd.int .u8) 5 w.heap.size (fun _ => False) (.slice none (([] : List Int).length) 0) ([] : List Int), Chunk.blk g15 (.cells #[.int .i64 2, .slice (some ⟨g5, 0, none⟩) (([97]).length) (([97]).length), .int .i64 3, .slice none 0 0] 52 (0, 0)), Chunk.blk g5 (.cells (nums .u8 [97]).toArray 5 (([97]).length, ([97]).length + 1)), Chunk.row (Kd.int .u8) 5 w.heap.size S51 (.slice A49 ((nextL ([(⟨2, [97]⟩ : S52), (⟨3, []⟩ : S52)]) 1 0 0 0 0 1).b.length) c50) ((nextL ([(⟨2, [97]⟩ : S52), (⟨3, []⟩ : S52)]) 1 0 0 0 0 1).b), Chunk.blk l23 (.cells #[.slice A24 (([(⟨2, [97]⟩ : S52), (⟨3, []⟩ : S52)]).length) c25, .int .i64 1, .int .i64 0, .int .i64 ((nextL ([(⟨2, [97]⟩ : S52), (⟨3, []⟩ : S52)]) 1 0 0 0 0 1).at_), .int .i64 ((nextL ([(⟨2, [97]⟩ : S52), (⟨3, []⟩ : S52)]) 1 0 0 0 0 1).now), .int .i64 ((nextL ([(⟨2, [97]⟩ : S52), (⟨3, []⟩ : S52)]) 1 0 0 0 0 1).last), .slice none (([] : List Int).length) 0] 83 (0, 0)), Chunk.view k52 S26 A24 (([(⟨2, [97]⟩ : S52), (⟨3, []⟩ : S52)]).length) c25 ([(⟨2, [97]⟩ : S52), (⟨3, []⟩ : S52)])] := HO57
  clear HO57
  have e_ : (nextL ([(⟨2, [97]⟩ : S52), (⟨3, []⟩ : S52)]) 1 0 0 0 0 1) = ⟨4, 0, 1, 0, ([] : List Int)⟩ := by decide +kernel
  rw [e_] at HO60
  (try rw [e_] at HF56)
  clear e_
  refine gw_ev HF56 (want_none rfl) rfl (by decide) (op_move rfl (HF56.ev rfl)) ?_
  intro a61 HF62; clear HF56
  refine gw_ev HF62 (want_none rfl) rfl (by decide) (op_extract rfl (HF62.ev rfl) rfl) ?_
  intro a63 HF64; clear HF62
  refine gw_ev HF64 (want_none rfl) rfl (by decide) (op_extract rfl (HF64.ev rfl) rfl) ?_
  intro a65 HF66; clear HF64
  refine gw_ev HF66 (want_none rfl) rfl (by decide) (op_assign rfl (HF66.ev rfl)) ?_
  intro a67 HF68; clear HF66
  refine gw_ev HF68 (want_none rfl) rfl (by decide) (op_assign rfl (HF68.ev rfl)) ?_
  intro a69 HF70; clear HF68
  refine wpList_nil ?_
  refine gw_nx (hK46 _ _ ?_)
  refine gw_seq fun K71 hK71 => ?_
  refine wp_region_lit ?_
  refine gw_ev HF70 (want_none rfl) rfl (by decide) (op_move rfl (HF70.ev rfl)) ?_
  intro a72 HF73; clear HF70
  have HO83 : Own w _ [(Chunk.all [Chunk.row (Kd.int .u8) 5 w.heap.size (fun _ => False) (.slice none (([] : List Int).length) 0) ([] : List Int), Chunk.blk g15 (.cells #[.int .i64 2, .slice (some ⟨g5, 0, none⟩) (([97]).length) (([97]).length), .int .i64 3, .slice none 0 0] 52 (0, 0)), Chunk.blk g5 (.cells (nums .u8 [97]).toArray 5 (([97]).length, ([97]).length + 1)), Chunk.row (Kd.int .u8) 5 w.heap.size S51 (.slice A49 (([] : List Int).length) c50) (([] : List Int))]), Chunk.blk l23 (.cells #[.slice A24 (([(⟨2, [97]⟩ : S52), (⟨3, []⟩ : S52)]).length) c25, .int .i64 1, .int .i64 0, .int .i64 (0), .int .i64 (1), .int .i64 (0), .slice none (([] : List Int).length) 0] 83 (0, 0)), Chunk.view k52 S26 A24 (([(⟨2, [97]⟩ : S52), (⟨3, []⟩ : S52)]).length) c25 ([(⟨2, [97]⟩ : S52), (⟨3, []⟩ : S52)])] := Own.bundle (A := [Chunk.row (Kd.int .u8) 5 w.heap.size (fun _ => False) (.slice none (([] : List Int).length) 0) ([] : List Int), Chunk.blk g15 (.cells #[.int .i64 2, .slice (some ⟨g5, 0, none⟩) (([97]).length) (([97]).length), .int .i64 3, .slice none 0 0] 52 (0, 0)), Chunk.blk g5 (.cells (nums .u8 [97]).toArray 5 (([97]).length, ([97]).length + 1)), Chunk.row (Kd.int .u8) 5 w.heap.size S51 (.slice A49 (([] : List Int).length) c50) (([] : List Int))]) (L := [Chunk.blk l23 (.cells #[.slice A24 (([(⟨2, [97]⟩ : S52), (⟨3, []⟩ : S52)]).length) c25, .int .i64 1, .int .i64 0, .int .i64 (0), .int .i64 (1), .int .i64 (0), .slice none (([] : List Int).length) 0] 83 (0, 0)), Chunk.view k52 S26 A24 (([(⟨2, [97]⟩ : S52), (⟨3, []⟩ : S52)]).length) c25 ([(⟨2, [97]⟩ : S52), (⟨3, []⟩ : S52)])]) (HO60.sel [0, 1, 2, 3, 4, 5] (by decide))
  refine gw_call HF73 (want_none rfl) rfl (by decide) (op_callL Try.func24 (by kernel_rfl) rfl rfl (ar_cons (HF73.ev rfl) (ar_cons (ev_c _ _) ar_nil))) (GLine_.next_calls w _ (Chunk.all [Chunk.row (Kd.int .u8) 5 w.heap.size (fun _ => False) (.slice none (([] : List Int).length) 0) ([] : List Int), Chunk.blk g15 (.cells #[.int .i64 2, .slice (some ⟨g5, 0, none⟩) (([97]).length) (([97]).length), .int .i64 3, .slice none 0 0] 52 (0, 0)), Chunk.blk g5 (.cells (nums .u8 [97]).toArray 5 (([97]).length, ([97]).length + 1)), Chunk.row (Kd.int .u8) 5 w.heap.size S51 (.slice A49 (([] : List Int).length) c50) (([] : List Int))]) l23 A24 c25 ([(⟨2, [97]⟩ : S52), (⟨3, []⟩ : S52)]) 1 0 0 1 0 none 0 ([] : List Int) S26 9 (by decide +kernel) (by decide +kernel) (by decide +kernel) (by decide +kernel) HO83) ?_
  rintro e77 w78 ⟨A74, c75, S76, rfl, hb79⟩
  refine ⟨_, rfl, fun a80 HF81 => ?_⟩
  have HO82 : Own w w78 [Chunk.row (Kd.int .u8) 5 w.heap.size (fun _ => False) (.slice none (([] : List Int).length) 0) ([] : List Int), Chunk.blk g15 (.cells #[.int .i64 2, .slice (some ⟨g5, 0, none⟩) (([97]).length) (([97]).length), .int .i64 3, .slice none 0 0] 52 (0, 0)), Chunk.blk g5 (.cells (nums .u8 [97]).toArray 5 (([97]).length, ([97]).length + 1)), Chunk.row (Kd.int .u8) 5 w.heap.size S51 (.slice A49 (([] : List Int).length) c50) (([] : List Int)), Chunk.row (Kd.int .u8) 5 w.heap.size S76 (.slice A74 ((nextL ([(⟨2, [97]⟩ : S52), (⟨3, []⟩ : S52)]) 1 0 0 1 0 9).b.length) c75) ((nextL ([(⟨2, [97]⟩ : S52), (⟨3, []⟩ : S52)]) 1 0 0 1 0 9).b), Chunk.blk l23 (.cells #[.slice A24 (([(⟨2, [97]⟩ : S52), (⟨3, []⟩ : S52)]).length) c25, .int .i64 1, .int .i64 0, .int .i64 ((nextL ([(⟨2, [97]⟩ : S52), (⟨3, []⟩ : S52)]) 1 0 0 1 0 9).at_), .int .i64 ((nextL ([(⟨2, [97]⟩ : S52), (⟨3, []⟩ : S52)]) 1 0 0 1 0 9).now), .int .i64 ((nextL ([(⟨2, [97]⟩ : S52), (⟨3, []⟩ : S52)]) 1 0 0 1 0 9).last), .slice none (([] : List Int).length) 0] 83 (0, 0)), Chunk.view k52 S26 A24 (([(⟨2, [97]⟩ : S52), (⟨3, []⟩ : S52)]).length) c25 ([(⟨2, [97]⟩ : S52), (⟨3, []⟩ : S52)])] := Own.unbundle (A := [Chunk.row (Kd.int .u8) 5 w.heap.size (fun _ => False) (.slice none (([] : List Int).length) 0) ([] : List Int), Chunk.blk g15 (.cells #[.int .i64 2, .slice (some ⟨g5, 0, none⟩) (([97]).length) (([97]).length), .int .i64 3, .slice none 0 0] 52 (0, 0)), Chunk.blk g5 (.cells (nums .u8 [97]).toArray 5 (([97]).length, ([97]).length + 1)), Chunk.row (Kd.int .u8) 5 w.heap.size S51 (.slice A49 (([] : List Int).length) c50) (([] : List Int))]) (L := [Chunk.row (Kd.int .u8) 5 w.heap.size S76 (.slice A74 ((nextL ([(⟨2, [97]⟩ : S52), (⟨3, []⟩ : S52)]) 1 0 0 1 0 9).b.length) c75) ((nextL ([(⟨2, [97]⟩ : S52), (⟨3, []⟩ : S52)]) 1 0 0 1 0 9).b), Chunk.blk l23 (.cells #[.slice A24 (([(⟨2, [97]⟩ : S52), (⟨3, []⟩ : S52)]).length) c25, .int .i64 1, .int .i64 0, .int .i64 ((nextL ([(⟨2, [97]⟩ : S52), (⟨3, []⟩ : S52)]) 1 0 0 1 0 9).at_), .int .i64 ((nextL ([(⟨2, [97]⟩ : S52), (⟨3, []⟩ : S52)]) 1 0 0 1 0 9).now), .int .i64 ((nextL ([(⟨2, [97]⟩ : S52), (⟨3, []⟩ : S52)]) 1 0 0 1 0 9).last), .slice none (([] : List Int).length) 0] 83 (0, 0)), Chunk.view k52 S26 A24 (([(⟨2, [97]⟩ : S52), (⟨3, []⟩ : S52)]).length) c25 ([(⟨2, [97]⟩ : S52), (⟨3, []⟩ : S52)])]) (hb79.sel [1, 0, 2, 3] (by decide))
  clear HO83
  clear HF73 HO60 hb79
  have HO85 : Own w w78 [Chunk.row (Kd.int .u8) 5 w.heap.size (fun _ => False) (.slice none (([] : List Int).length) 0) ([] : List Int), Chunk.blk g15 (.cells #[.int .i64 2, .slice (some ⟨g5, 0, none⟩) (([97]).length) (([97]).length), .int .i64 3, .slice none 0 0] 52 (0, 0)), Chunk.blk g5 (.cells (nums .u8 [97]).toArray 5 (([97]).length, ([97]).length + 1)), Chunk.row (Kd.int .u8) 5 w.heap.size S51 (.slice A49 (([] : List Int).length) c50) (([] : List Int)), Chunk.row (Kd.int .u8) 5 w.heap.size S76 (.slice A74 ((nextL ([(⟨2, [97]⟩ : S52), (⟨3, []⟩ : S52)]) 1 0 0 1 0 9).b.length) c75) ((nextL ([(⟨2, [97]⟩ : S52), (⟨3, []⟩ : S52)]) 1 0 0 1 0 9).b), Chunk.blk l23 (.cells #[.slice A24 (([(⟨2, [97]⟩ : S52), (⟨3, []⟩ : S52)]).length) c25, .int .i64 1, .int .i64 0, .int .i64 ((nextL ([(⟨2, [97]⟩ : S52), (⟨3, []⟩ : S52)]) 1 0 0 1 0 9).at_), .int .i64 ((nextL ([(⟨2, [97]⟩ : S52), (⟨3, []⟩ : S52)]) 1 0 0 1 0 9).now), .int .i64 ((nextL ([(⟨2, [97]⟩ : S52), (⟨3, []⟩ : S52)]) 1 0 0 1 0 9).last), .slice none (([] : List Int).length) 0] 83 (0, 0)), Chunk.view k52 S26 A24 (([(⟨2, [97]⟩ : S52), (⟨3, []⟩ : S52)]).length) c25 ([(⟨2, [97]⟩ : S52), (⟨3, []⟩ : S52)])] := HO82
  clear HO82
  have e_ : (nextL ([(⟨2, [97]⟩ : S52), (⟨3, []⟩ : S52)]) 1 0 0 1 0 9) = ⟨1, 1, 2, 2, ([97] : List Int)⟩ := by decide +kernel
  rw [e_] at HO85
  (try rw [e_] at HF81)
  clear e_
  refine gw_ev HF81 (want_none rfl) rfl (by decide) (op_move rfl (HF81.ev rfl)) ?_
  intro a86 HF87; clear HF81
  refine gw_ev HF87 (want_none rfl) rfl (by decide) (op_extract rfl (HF87.ev rfl) rfl) ?_
  intro a88 HF89; clear HF87
  refine gw_ev HF89 (want_none rfl) rfl (by decide) (op_extract rfl (HF89.ev rfl) rfl) ?_
  intro a90 HF91; clear HF89
  refine gw_ev HF91 (want_none rfl) rfl (by decide) (op_assign rfl (HF91.ev rfl)) ?_
  intro a92 HF93; clear HF91
  refine gw_ev HF93 (want_none rfl) rfl (by decide) (op_assign rfl (HF93.ev rfl)) ?_
  intro a94 HF95; clear HF93
  refine wpList_nil ?_
  refine gw_nx (hK71 _ _ ?_)
  refine gw_seq fun K96 hK96 => ?_
  refine wp_region_lit ?_
  refine gw_ev HF95 (want_none rfl) rfl (by decide) (op_move rfl (HF95.ev rfl)) ?_
  intro a97 HF98; clear HF95
  refine gw_call HF98 (want_none rfl) rfl (by decide) (op_callL Try.func25 (by kernel_rfl) rfl rfl (ar_cons (HF98.ev rfl) ar_nil)) (GLine_.now_calls l23 A24 c25 ([(⟨2, [97]⟩ : S52), (⟨3, []⟩ : S52)]) 1 0 1 2 2 none 0 ([] : List Int) _ (HO85.get 5 rfl)) ?_
  rintro e99 w100 ⟨rfl, hb101⟩
  refine ⟨_, rfl, fun a102 HF103 => ?_⟩
  have HO104 := HO85.after hb101
  clear HF98 HO85 hb101
  refine gw_ev HF103 (want_none rfl) rfl (by decide) (op_assign rfl (HF103.ev rfl)) ?_
  intro a106 HF107; clear HF103
  refine wpList_nil ?_
  refine gw_nx (hK96 _ _ ?_)
  refine gw_seq fun K108 hK108 => ?_
  refine wp_region_lit ?_
  refine gw_ev HF107 (want_none rfl) rfl (by decide) (op_move rfl (HF107.ev rfl)) ?_
  intro a109 HF110; clear HF107
  have HO120 : Own w _ [(Chunk.all [Chunk.row (Kd.int .u8) 5 w.heap.size (fun _ => False) (.slice none (([] : List Int).length) 0) ([] : List Int), Chunk.blk g15 (.cells #[.int .i64 2, .slice (some ⟨g5, 0, none⟩) (([97]).length) (([97]).length), .int .i64 3, .slice none 0 0] 52 (0, 0)), Chunk.blk g5 (.cells (nums .u8 [97]).toArray 5 (([97]).length, ([97]).length + 1)), Chunk.row (Kd.int .u8) 5 w.heap.size S51 (.slice A49 (([] : List Int).length) c50) (([] : List Int)), Chunk.row (Kd.int .u8) 5 w.heap.size S76 (.slice A74 (([97] : List Int).length) c75) (([97] : List Int))]), Chunk.blk l23 (.cells #[.slice A24 (([(⟨2, [97]⟩ : S52), (⟨3, []⟩ : S52)]).length) c25, .int .i64 1, .int .i64 0, .int .i64 (1), .int .i64 (2), .int .i64 (2), .slice none (([] : List Int).length) 0] 83 (0, 0)), Chunk.view k52 S26 A24 (([(⟨2, [97]⟩ : S52), (⟨3, []⟩ : S52)]).length) c25 ([(⟨2, [97]⟩ : S52), (⟨3, []⟩ : S52)])] := Own.bundle (A := [Chunk.row (Kd.int .u8) 5 w.heap.size (fun _ => False) (.slice none (([] : List Int).length) 0) ([] : List Int), Chunk.blk g15 (.cells #[.int .i64 2, .slice (some ⟨g5, 0, none⟩) (([97]).length) (([97]).length), .int .i64 3, .slice none 0 0] 52 (0, 0)), Chunk.blk g5 (.cells (nums .u8 [97]).toArray 5 (([97]).length, ([97]).length + 1)), Chunk.row (Kd.int .u8) 5 w.heap.size S51 (.slice A49 (([] : List Int).length) c50) (([] : List Int)), Chunk.row (Kd.int .u8) 5 w.heap.size S76 (.slice A74 (([97] : List Int).length) c75) (([97] : List Int))]) (L := [Chunk.blk l23 (.cells #[.slice A24 (([(⟨2, [97]⟩ : S52), (⟨3, []⟩ : S52)]).length) c25, .int .i64 1, .int .i64 0, .int .i64 (1), .int .i64 (2), .int .i64 (2), .slice none (([] : List Int).length) 0] 83 (0, 0)), Chunk.view k52 S26 A24 (([(⟨2, [97]⟩ : S52), (⟨3, []⟩ : S52)]).length) c25 ([(⟨2, [97]⟩ : S52), (⟨3, []⟩ : S52)])]) (HO104.sel [0, 1, 2, 3, 4, 5, 6] (by decide))
  refine gw_call HF110 (want_none rfl) rfl (by decide) (op_callL Try.func24 (by kernel_rfl) rfl rfl (ar_cons (HF110.ev rfl) (ar_cons (ev_c _ _) ar_nil))) (GLine_.next_calls w _ (Chunk.all [Chunk.row (Kd.int .u8) 5 w.heap.size (fun _ => False) (.slice none (([] : List Int).length) 0) ([] : List Int), Chunk.blk g15 (.cells #[.int .i64 2, .slice (some ⟨g5, 0, none⟩) (([97]).length) (([97]).length), .int .i64 3, .slice none 0 0] 52 (0, 0)), Chunk.blk g5 (.cells (nums .u8 [97]).toArray 5 (([97]).length, ([97]).length + 1)), Chunk.row (Kd.int .u8) 5 w.heap.size S51 (.slice A49 (([] : List Int).length) c50) (([] : List Int)), Chunk.row (Kd.int .u8) 5 w.heap.size S76 (.slice A74 (([97] : List Int).length) c75) (([97] : List Int))]) l23 A24 c25 ([(⟨2, [97]⟩ : S52), (⟨3, []⟩ : S52)]) 1 0 1 2 2 none 0 ([] : List Int) S26 4 (by decide +kernel) (by decide +kernel) (by decide +kernel) (by decide +kernel) HO120) ?_
  rintro e114 w115 ⟨A111, c112, S113, rfl, hb116⟩
  refine ⟨_, rfl, fun a117 HF118 => ?_⟩
  have HO119 : Own w w115 [Chunk.row (Kd.int .u8) 5 w.heap.size (fun _ => False) (.slice none (([] : List Int).length) 0) ([] : List Int), Chunk.blk g15 (.cells #[.int .i64 2, .slice (some ⟨g5, 0, none⟩) (([97]).length) (([97]).length), .int .i64 3, .slice none 0 0] 52 (0, 0)), Chunk.blk g5 (.cells (nums .u8 [97]).toArray 5 (([97]).length, ([97]).length + 1)), Chunk.row (Kd.int .u8) 5 w.heap.size S51 (.slice A49 (([] : List Int).length) c50) (([] : List Int)), Chunk.row (Kd.int .u8) 5 w.heap.size S76 (.slice A74 (([97] : List Int).length) c75) (([97] : List Int)), Chunk.row (Kd.int .u8) 5 w.heap.size S113 (.slice A111 ((nextL ([(⟨2, [97]⟩ : S52), (⟨3, []⟩ : S52)]) 1 0 1 2 2 4).b.length) c112) ((nextL ([(⟨2, [97]⟩ : S52), (⟨3, []⟩ : S52)]) 1 0 1 2 2 4).b), Chunk.blk l23 (.cells #[.slice A24 (([(⟨2, [97]⟩ : S52), (⟨3, []⟩ : S52)]).length) c25, .int .i64 1, .int .i64 0, .int .i64 ((nextL ([(⟨2, [97]⟩ : S52), (⟨3, []⟩ : S52)]) 1 0 1 2 2 4).at_), .int .i64 ((nextL ([(⟨2, [97]⟩ : S52), (⟨3, []⟩ : S52)]) 1 0 1 2 2 4).now), .int .i64 ((nextL ([(⟨2, [97]⟩ : S52), (⟨3, []⟩ : S52)]) 1 0 1 2 2 4).last), .slice none (([] : List Int).length) 0] 83 (0, 0)), Chunk.view k52 S26 A24 (([(⟨2, [97]⟩ : S52), (⟨3, []⟩ : S52)]).length) c25 ([(⟨2, [97]⟩ : S52), (⟨3, []⟩ : S52)])] := Own.unbundle (A := [Chunk.row (Kd.int .u8) 5 w.heap.size (fun _ => False) (.slice none (([] : List Int).length) 0) ([] : List Int), Chunk.blk g15 (.cells #[.int .i64 2, .slice (some ⟨g5, 0, none⟩) (([97]).length) (([97]).length), .int .i64 3, .slice none 0 0] 52 (0, 0)), Chunk.blk g5 (.cells (nums .u8 [97]).toArray 5 (([97]).length, ([97]).length + 1)), Chunk.row (Kd.int .u8) 5 w.heap.size S51 (.slice A49 (([] : List Int).length) c50) (([] : List Int)), Chunk.row (Kd.int .u8) 5 w.heap.size S76 (.slice A74 (([97] : List Int).length) c75) (([97] : List Int))]) (L := [Chunk.row (Kd.int .u8) 5 w.heap.size S113 (.slice A111 ((nextL ([(⟨2, [97]⟩ : S52), (⟨3, []⟩ : S52)]) 1 0 1 2 2 4).b.length) c112) ((nextL ([(⟨2, [97]⟩ : S52), (⟨3, []⟩ : S52)]) 1 0 1 2 2 4).b), Chunk.blk l23 (.cells #[.slice A24 (([(⟨2, [97]⟩ : S52), (⟨3, []⟩ : S52)]).length) c25, .int .i64 1, .int .i64 0, .int .i64 ((nextL ([(⟨2, [97]⟩ : S52), (⟨3, []⟩ : S52)]) 1 0 1 2 2 4).at_), .int .i64 ((nextL ([(⟨2, [97]⟩ : S52), (⟨3, []⟩ : S52)]) 1 0 1 2 2 4).now), .int .i64 ((nextL ([(⟨2, [97]⟩ : S52), (⟨3, []⟩ : S52)]) 1 0 1 2 2 4).last), .slice none (([] : List Int).length) 0] 83 (0, 0)), Chunk.view k52 S26 A24 (([(⟨2, [97]⟩ : S52), (⟨3, []⟩ : S52)]).length) c25 ([(⟨2, [97]⟩ : S52), (⟨3, []⟩ : S52)])]) (hb116.sel [1, 0, 2, 3] (by decide))
  clear HO120
  clear HF110 HO104 hb116
  have HO122 : Own w w115 [Chunk.row (Kd.int .u8) 5 w.heap.size (fun _ => False) (.slice none (([] : List Int).length) 0) ([] : List Int), Chunk.blk g15 (.cells #[.int .i64 2, .slice (some ⟨g5, 0, none⟩) (([97]).length) (([97]).length), .int .i64 3, .slice none 0 0] 52 (0, 0)), Chunk.blk g5 (.cells (nums .u8 [97]).toArray 5 (([97]).length, ([97]).length + 1)), Chunk.row (Kd.int .u8) 5 w.heap.size S51 (.slice A49 (([] : List Int).length) c50) (([] : List Int)), Chunk.row (Kd.int .u8) 5 w.heap.size S76 (.slice A74 (([97] : List Int).length) c75) (([97] : List Int)), Chunk.row (Kd.int .u8) 5 w.heap.size S113 (.slice A111 ((nextL ([(⟨2, [97]⟩ : S52), (⟨3, []⟩ : S52)]) 1 0 1 2 2 4).b.length) c112) ((nextL ([(⟨2, [97]⟩ : S52), (⟨3, []⟩ : S52)]) 1 0 1 2 2 4).b), Chunk.blk l23 (.cells #[.slice A24 (([(⟨2, [97]⟩ : S52), (⟨3, []⟩ : S52)]).length) c25, .int .i64 1, .int .i64 0, .int .i64 ((nextL ([(⟨2, [97]⟩ : S52), (⟨3, []⟩ : S52)]) 1 0 1 2 2 4).at_), .int .i64 ((nextL ([(⟨2, [97]⟩ : S52), (⟨3, []⟩ : S52)]) 1 0 1 2 2 4).now), .int .i64 ((nextL ([(⟨2, [97]⟩ : S52), (⟨3, []⟩ : S52)]) 1 0 1 2 2 4).last), .slice none (([] : List Int).length) 0] 83 (0, 0)), Chunk.view k52 S26 A24 (([(⟨2, [97]⟩ : S52), (⟨3, []⟩ : S52)]).length) c25 ([(⟨2, [97]⟩ : S52), (⟨3, []⟩ : S52)])] := HO119
  clear HO119
  have e_ : (nextL ([(⟨2, [97]⟩ : S52), (⟨3, []⟩ : S52)]) 1 0 1 2 2 4) = ⟨4, 1, 4, 2, ([] : List Int)⟩ := by decide +kernel
  rw [e_] at HO122
  (try rw [e_] at HF118)
  clear e_
  refine gw_ev HF118 (want_none rfl) rfl (by decide) (op_move rfl (HF118.ev rfl)) ?_
  intro a123 HF124; clear HF118
  refine gw_ev HF124 (want_none rfl) rfl (by decide) (op_extract rfl (HF124.ev rfl) rfl) ?_
  intro a125 HF126; clear HF124
  refine gw_ev HF126 (want_none rfl) rfl (by decide) (op_extract rfl (HF126.ev rfl) rfl) ?_
  intro a127 HF128; clear HF126
  refine gw_ev HF128 (want_none rfl) rfl (by decide) (op_assign rfl (HF128.ev rfl)) ?_
  intro a129 HF130; clear HF128
  refine gw_ev HF130 (want_none rfl) rfl (by decide) (op_assign rfl (HF130.ev rfl)) ?_
  intro a131 HF132; clear HF130
  refine wpList_nil ?_
  refine gw_nx (hK108 _ _ ?_)
  refine gw_seq fun K133 hK133 => ?_
  refine wp_region_lit ?_
  refine gw_ev HF132 (want_none rfl) rfl (by decide) (op_move rfl (HF132.ev rfl)) ?_
  intro a134 HF135; clear HF132
  have HO145 : Own w _ [(Chunk.all [Chunk.row (Kd.int .u8) 5 w.heap.size (fun _ => False) (.slice none (([] : List Int).length) 0) ([] : List Int), Chunk.blk g15 (.cells #[.int .i64 2, .slice (some ⟨g5, 0, none⟩) (([97]).length) (([97]).length), .int .i64 3, .slice none 0 0] 52 (0, 0)), Chunk.blk g5 (.cells (nums .u8 [97]).toArray 5 (([97]).length, ([97]).length + 1)), Chunk.row (Kd.int .u8) 5 w.heap.size S51 (.slice A49 (([] : List Int).length) c50) (([] : List Int)), Chunk.row (Kd.int .u8) 5 w.heap.size S76 (.slice A74 (([97] : List Int).length) c75) (([97] : List Int)), Chunk.row (Kd.int .u8) 5 w.heap.size S113 (.slice A111 (([] : List Int).length) c112) (([] : List Int))]), Chunk.blk l23 (.cells #[.slice A24 (([(⟨2, [97]⟩ : S52), (⟨3, []⟩ : S52)]).length) c25, .int .i64 1, .int .i64 0, .int .i64 (1), .int .i64 (4), .int .i64 (2), .slice none (([] : List Int).length) 0] 83 (0, 0)), Chunk.view k52 S26 A24 (([(⟨2, [97]⟩ : S52), (⟨3, []⟩ : S52)]).length) c25 ([(⟨2, [97]⟩ : S52), (⟨3, []⟩ : S52)])] := Own.bundle (A := [Chunk.row (Kd.int .u8) 5 w.heap.size (fun _ => False) (.slice none (([] : List Int).length) 0) ([] : List Int), Chunk.blk g15 (.cells #[.int .i64 2, .slice (some ⟨g5, 0, none⟩) (([97]).length) (([97]).length), .int .i64 3, .slice none 0 0] 52 (0, 0)), Chunk.blk g5 (.cells (nums .u8 [97]).toArray 5 (([97]).length, ([97]).length + 1)), Chunk.row (Kd.int .u8) 5 w.heap.size S51 (.slice A49 (([] : List Int).length) c50) (([] : List Int)), Chunk.row (Kd.int .u8) 5 w.heap.size S76 (.slice A74 (([97] : List Int).length) c75) (([97] : List Int)), Chunk.row (Kd.int .u8) 5 w.heap.size S113 (.slice A111 (([] : List Int).length) c112) (([] : List Int))]) (L := [Chunk.blk l23 (.cells #[.slice A24 (([(⟨2, [97]⟩ : S52), (⟨3, []⟩ : S52)]).length) c25, .int .i64 1, .int .i64 0, .int .i64 (1), .int .i64 (4), .int .i64 (2), .slice none (([] : List Int).length) 0] 83 (0, 0)), Chunk.view k52 S26 A24 (([(⟨2, [97]⟩ : S52), (⟨3, []⟩ : S52)]).length) c25 ([(⟨2, [97]⟩ : S52), (⟨3, []⟩ : S52)])]) (HO122.sel [0, 1, 2, 3, 4, 5, 6, 7] (by decide))
  refine gw_call HF135 (want_none rfl) rfl (by decide) (op_callL Try.func24 (by kernel_rfl) rfl rfl (ar_cons (HF135.ev rfl) (ar_cons (ev_c _ _) ar_nil))) (GLine_.next_calls w _ (Chunk.all [Chunk.row (Kd.int .u8) 5 w.heap.size (fun _ => False) (.slice none (([] : List Int).length) 0) ([] : List Int), Chunk.blk g15 (.cells #[.int .i64 2, .slice (some ⟨g5, 0, none⟩) (([97]).length) (([97]).length), .int .i64 3, .slice none 0 0] 52 (0, 0)), Chunk.blk g5 (.cells (nums .u8 [97]).toArray 5 (([97]).length, ([97]).length + 1)), Chunk.row (Kd.int .u8) 5 w.heap.size S51 (.slice A49 (([] : List Int).length) c50) (([] : List Int)), Chunk.row (Kd.int .u8) 5 w.heap.size S76 (.slice A74 (([97] : List Int).length) c75) (([97] : List Int)), Chunk.row (Kd.int .u8) 5 w.heap.size S113 (.slice A111 (([] : List Int).length) c112) (([] : List Int))]) l23 A24 c25 ([(⟨2, [97]⟩ : S52), (⟨3, []⟩ : S52)]) 1 0 1 4 2 none 0 ([] : List Int) S26 9 (by decide +kernel) (by decide +kernel) (by decide +kernel) (by decide +kernel) HO145) ?_
  rintro e139 w140 ⟨A136, c137, S138, rfl, hb141⟩
  refine ⟨_, rfl, fun a142 HF143 => ?_⟩
  have HO144 : Own w w140 [Chunk.row (Kd.int .u8) 5 w.heap.size (fun _ => False) (.slice none (([] : List Int).length) 0) ([] : List Int), Chunk.blk g15 (.cells #[.int .i64 2, .slice (some ⟨g5, 0, none⟩) (([97]).length) (([97]).length), .int .i64 3, .slice none 0 0] 52 (0, 0)), Chunk.blk g5 (.cells (nums .u8 [97]).toArray 5 (([97]).length, ([97]).length + 1)), Chunk.row (Kd.int .u8) 5 w.heap.size S51 (.slice A49 (([] : List Int).length) c50) (([] : List Int)), Chunk.row (Kd.int .u8) 5 w.heap.size S76 (.slice A74 (([97] : List Int).length) c75) (([97] : List Int)), Chunk.row (Kd.int .u8) 5 w.heap.size S113 (.slice A111 (([] : List Int).length) c112) (([] : List Int)), Chunk.row (Kd.int .u8) 5 w.heap.size S138 (.slice A136 ((nextL ([(⟨2, [97]⟩ : S52), (⟨3, []⟩ : S52)]) 1 0 1 4 2 9).b.length) c137) ((nextL ([(⟨2, [97]⟩ : S52), (⟨3, []⟩ : S52)]) 1 0 1 4 2 9).b), Chunk.blk l23 (.cells #[.slice A24 (([(⟨2, [97]⟩ : S52), (⟨3, []⟩ : S52)]).length) c25, .int .i64 1, .int .i64 0, .int .i64 ((nextL ([(⟨2, [97]⟩ : S52), (⟨3, []⟩ : S52)]) 1 0 1 4 2 9).at_), .int .i64 ((nextL ([(⟨2, [97]⟩ : S52), (⟨3, []⟩ : S52)]) 1 0 1 4 2 9).now), .int .i64 ((nextL ([(⟨2, [97]⟩ : S52), (⟨3, []⟩ : S52)]) 1 0 1 4 2 9).last), .slice none (([] : List Int).length) 0] 83 (0, 0)), Chunk.view k52 S26 A24 (([(⟨2, [97]⟩ : S52), (⟨3, []⟩ : S52)]).length) c25 ([(⟨2, [97]⟩ : S52), (⟨3, []⟩ : S52)])] := Own.unbundle (A := [Chunk.row (Kd.int .u8) 5 w.heap.size (fun _ => False) (.slice none (([] : List Int).length) 0) ([] : List Int), Chunk.blk g15 (.cells #[.int .i64 2, .slice (some ⟨g5, 0, none⟩) (([97]).length) (([97]).length), .int .i64 3, .slice none 0 0] 52 (0, 0)), Chunk.blk g5 (.cells (nums .u8 [97]).toArray 5 (([97]).length, ([97]).length + 1)), Chunk.row (Kd.int .u8) 5 w.heap.size S51 (.slice A49 (([] : List Int).length) c50) (([] : List Int)), Chunk.row (Kd.int .u8) 5 w.heap.size S76 (.slice A74 (([97] : List Int).length) c75) (([97] : List Int)), Chunk.row (Kd.int .u8) 5 w.heap.size S113 (.slice A111 (([] : List Int).length) c112) (([] : List Int))]) (L := [Chunk.row (Kd.int .u8) 5 w.heap.size S138 (.slice A136 ((nextL ([(⟨2, [97]⟩ : S52), (⟨3, []⟩ : S52)]) 1 0 1 4 2 9).b.length) c137) ((nextL ([(⟨2, [97]⟩ : S52), (⟨3, []⟩ : S52)]) 1 0 1 4 2 9).b), Chunk.blk l23 (.cells #[.slice A24 (([(⟨2, [97]⟩ : S52), (⟨3, []⟩ : S52)]).length) c25, .int .i64 1, .int .i64 0, .int .i64 ((nextL ([(⟨2, [97]⟩ : S52), (⟨3, []⟩ : S52)]) 1 0 1 4 2 9).at_), .int .i64 ((nextL ([(⟨2, [97]⟩ : S52), (⟨3, []⟩ : S52)]) 1 0 1 4 2 9).now), .int .i64 ((nextL ([(⟨2, [97]⟩ : S52), (⟨3, []⟩ : S52)]) 1 0 1 4 2 9).last), .slice none (([] : List Int).length) 0] 83 (0, 0)), Chunk.view k52 S26 A24 (([(⟨2, [97]⟩ : S52), (⟨3, []⟩ : S52)]).length) c25 ([(⟨2, [97]⟩ : S52), (⟨3, []⟩ : S52)])]) (hb141.sel [1, 0, 2, 3] (by decide))
  clear HO145
  clear HF135 HO122 hb141
  have HO147 : Own w w140 [Chunk.row (Kd.int .u8) 5 w.heap.size (fun _ => False) (.slice none (([] : List Int).length) 0) ([] : List Int), Chunk.blk g15 (.cells #[.int .i64 2, .slice (some ⟨g5, 0, none⟩) (([97]).length) (([97]).length), .int .i64 3, .slice none 0 0] 52 (0, 0)), Chunk.blk g5 (.cells (nums .u8 [97]).toArray 5 (([97]).length, ([97]).length + 1)), Chunk.row (Kd.int .u8) 5 w.heap.size S51 (.slice A49 (([] : List Int).length) c50) (([] : List Int)), Chunk.row (Kd.int .u8) 5 w.heap.size S76 (.slice A74 (([97] : List Int).length) c75) (([97] : List Int)), Chunk.row (Kd.int .u8) 5 w.heap.size S113 (.slice A111 (([] : List Int).length) c112) (([] : List Int)), Chunk.row (Kd.int .u8) 5 w.heap.size S138 (.slice A136 ((nextL ([(⟨2, [97]⟩ : S52), (⟨3, []⟩ : S52)]) 1 0 1 4 2 9).b.length) c137) ((nextL ([(⟨2, [97]⟩ : S52), (⟨3, []⟩ : S52)]) 1 0 1 4 2 9).b), Chunk.blk l23 (.cells #[.slice A24 (([(⟨2, [97]⟩ : S52), (⟨3, []⟩ : S52)]).length) c25, .int .i64 1, .int .i64 0, .int .i64 ((nextL ([(⟨2, [97]⟩ : S52), (⟨3, []⟩ : S52)]) 1 0 1 4 2 9).at_), .int .i64 ((nextL ([(⟨2, [97]⟩ : S52), (⟨3, []⟩ : S52)]) 1 0 1 4 2 9).now), .int .i64 ((nextL ([(⟨2, [97]⟩ : S52), (⟨3, []⟩ : S52)]) 1 0 1 4 2 9).last), .slice none (([] : List Int).length) 0] 83 (0, 0)), Chunk.view k52 S26 A24 (([(⟨2, [97]⟩ : S52), (⟨3, []⟩ : S52)]).length) c25 ([(⟨2, [97]⟩ : S52), (⟨3, []⟩ : S52)])] := HO144
  clear HO144
  have e_ : (nextL ([(⟨2, [97]⟩ : S52), (⟨3, []⟩ : S52)]) 1 0 1 4 2 9) = ⟨1, 2, 5, 5, ([] : List Int)⟩ := by decide +kernel
  rw [e_] at HO147
  (try rw [e_] at HF143)
  clear e_
  refine gw_ev HF143 (want_none rfl) rfl (by decide) (op_move rfl (HF143.ev rfl)) ?_
  intro a148 HF149; clear HF143
  refine gw_ev HF149 (want_none rfl) rfl (by decide) (op_extract rfl (HF149.ev rfl) rfl) ?_
  intro a150 HF151; clear HF149
  refine gw_ev HF151 (want_none rfl) rfl (by decide) (op_extract rfl (HF151.ev rfl) rfl) ?_
  intro a152 HF153; clear HF151
  refine gw_ev HF153 (want_none rfl) rfl (by decide) (op_assign rfl (HF153.ev rfl)) ?_
  intro a154 HF155; clear HF153
  refine gw_ev HF155 (want_none rfl) rfl (by decide) (op_assign rfl (HF155.ev rfl)) ?_
  intro a156 HF157; clear HF155
  refine wpList_nil ?_
  refine gw_nx (hK133 _ _ ?_)
  refine gw_seq fun K158 hK158 => ?_
  refine wp_region_lit ?_
  refine gw_ev HF157 (want_none rfl) rfl (by decide) (op_move rfl (HF157.ev rfl)) ?_
  intro a159 HF160; clear HF157
  have HO170 : Own w _ [(Chunk.all [Chunk.row (Kd.int .u8) 5 w.heap.size (fun _ => False) (.slice none (([] : List Int).length) 0) ([] : List Int), Chunk.blk g15 (.cells #[.int .i64 2, .slice (some ⟨g5, 0, none⟩) (([97]).length) (([97]).length), .int .i64 3, .slice none 0 0] 52 (0, 0)), Chunk.blk g5 (.cells (nums .u8 [97]).toArray 5 (([97]).length, ([97]).length + 1)), Chunk.row (Kd.int .u8) 5 w.heap.size S51 (.slice A49 (([] : List Int).length) c50) (([] : List Int)), Chunk.row (Kd.int .u8) 5 w.heap.size S76 (.slice A74 (([97] : List Int).length) c75) (([97] : List Int)), Chunk.row (Kd.int .u8) 5 w.heap.size S113 (.slice A111 (([] : List Int).length) c112) (([] : List Int)), Chunk.row (Kd.int .u8) 5 w.heap.size S138 (.slice A136 (([] : List Int).length) c137) (([] : List Int))]), Chunk.blk l23 (.cells #[.slice A24 (([(⟨2, [97]⟩ : S52), (⟨3, []⟩ : S52)]).length) c25, .int .i64 1, .int .i64 0, .int .i64 (2), .int .i64 (5), .int .i64 (5), .slice none (([] : List Int).length) 0] 83 (0, 0)), Chunk.view k52 S26 A24 (([(⟨2, [97]⟩ : S52), (⟨3, []⟩ : S52)]).length) c25 ([(⟨2, [97]⟩ : S52), (⟨3, []⟩ : S52)])] := Own.bundle (A := [Chunk.row (Kd.int .u8) 5 w.heap.size (fun _ => False) (.slice none (([] : List Int).length) 0) ([] : List Int), Chunk.blk g15 (.cells #[.int .i64 2, .slice (some ⟨g5, 0, none⟩) (([97]).length) (([97]).length), .int .i64 3, .slice none 0 0] 52 (0, 0)), Chunk.blk g5 (.cells (nums .u8 [97]).toArray 5 (([97]).length, ([97]).length + 1)), Chunk.row (Kd.int .u8) 5 w.heap.size S51 (.slice A49 (([] : List Int).length) c50) (([] : List Int)), Chunk.row (Kd.int .u8) 5 w.heap.size S76 (.slice A74 (([97] : List Int).length) c75) (([97] : List Int)), Chunk.row (Kd.int .u8) 5 w.heap.size S113 (.slice A111 (([] : List Int).length) c112) (([] : List Int)), Chunk.row (Kd.int .u8) 5 w.heap.size S138 (.slice A136 (([] : List Int).length) c137) (([] : List Int))]) (L := [Chunk.blk l23 (.cells #[.slice A24 (([(⟨2, [97]⟩ : S52), (⟨3, []⟩ : S52)]).length) c25, .int .i64 1, .int .i64 0, .int .i64 (2), .int .i64 (5), .int .i64 (5), .slice none (([] : List Int).length) 0] 83 (0, 0)), Chunk.view k52 S26 A24 (([(⟨2, [97]⟩ : S52), (⟨3, []⟩ : S52)]).length) c25 ([(⟨2, [97]⟩ : S52), (⟨3, []⟩ : S52)])]) (HO147.sel [0, 1, 2, 3, 4, 5, 6, 7, 8] (by decide))
  refine gw_call HF160 (want_none rfl) rfl (by decide) (op_callL Try.func24 (by kernel_rfl) rfl rfl (ar_cons (HF160.ev rfl) (ar_cons (ev_c _ _) ar_nil))) (GLine_.next_calls w _ (Chunk.all [Chunk.row (Kd.int .u8) 5 w.heap.size (fun _ => False) (.slice none (([] : List Int).length) 0) ([] : List Int), Chunk.blk g15 (.cells #[.int .i64 2, .slice (some ⟨g5, 0, none⟩) (([97]).length) (([97]).length), .int .i64 3, .slice none 0 0] 52 (0, 0)), Chunk.blk g5 (.cells (nums .u8 [97]).toArray 5 (([97]).length, ([97]).length + 1)), Chunk.row (Kd.int .u8) 5 w.heap.size S51 (.slice A49 (([] : List Int).length) c50) (([] : List Int)), Chunk.row (Kd.int .u8) 5 w.heap.size S76 (.slice A74 (([97] : List Int).length) c75) (([97] : List Int)), Chunk.row (Kd.int .u8) 5 w.heap.size S113 (.slice A111 (([] : List Int).length) c112) (([] : List Int)), Chunk.row (Kd.int .u8) 5 w.heap.size S138 (.slice A136 (([] : List Int).length) c137) (([] : List Int))]) l23 A24 c25 ([(⟨2, [97]⟩ : S52), (⟨3, []⟩ : S52)]) 1 0 2 5 5 none 0 ([] : List Int) S26 9 (by decide +kernel) (by decide +kernel) (by decide +kernel) (by decide +kernel) HO170) ?_
  rintro e164 w165 ⟨A161, c162, S163, rfl, hb166⟩
  refine ⟨_, rfl, fun a167 HF168 => ?_⟩
  have HO169 : Own w w165 [Chunk.row (Kd.int .u8) 5 w.heap.size (fun _ => False) (.slice none (([] : List Int).length) 0) ([] : List Int), Chunk.blk g15 (.cells #[.int .i64 2, .slice (some ⟨g5, 0, none⟩) (([97]).length) (([97]).length), .int .i64 3, .slice none 0 0] 52 (0, 0)), Chunk.blk g5 (.cells (nums .u8 [97]).toArray 5 (([97]).length, ([97]).length + 1)), Chunk.row (Kd.int .u8) 5 w.heap.size S51 (.slice A49 (([] : List Int).length) c50) (([] : List Int)), Chunk.row (Kd.int .u8) 5 w.heap.size S76 (.slice A74 (([97] : List Int).length) c75) (([97] : List Int)), Chunk.row (Kd.int .u8) 5 w.heap.size S113 (.slice A111 (([] : List Int).length) c112) (([] : List Int)), Chunk.row (Kd.int .u8) 5 w.heap.size S138 (.slice A136 (([] : List Int).length) c137) (([] : List Int)), Chunk.row (Kd.int .u8) 5 w.heap.size S163 (.slice A161 ((nextL ([(⟨2, [97]⟩ : S52), (⟨3, []⟩ : S52)]) 1 0 2 5 5 9).b.length) c162) ((nextL ([(⟨2, [97]⟩ : S52), (⟨3, []⟩ : S52)]) 1 0 2 5 5 9).b), Chunk.blk l23 (.cells #[.slice A24 (([(⟨2, [97]⟩ : S52), (⟨3, []⟩ : S52)]).length) c25, .int .i64 1, .int .i64 0, .int .i64 ((nextL ([(⟨2, [97]⟩ : S52), (⟨3, []⟩ : S52)]) 1 0 2 5 5 9).at_), .int .i64 ((nextL ([(⟨2, [97]⟩ : S52), (⟨3, []⟩ : S52)]) 1 0 2 5 5 9).now), .int .i64 ((nextL ([(⟨2, [97]⟩ : S52), (⟨3, []⟩ : S52)]) 1 0 2 5 5 9).last), .slice none (([] : List Int).length) 0] 83 (0, 0)), Chunk.view k52 S26 A24 (([(⟨2, [97]⟩ : S52), (⟨3, []⟩ : S52)]).length) c25 ([(⟨2, [97]⟩ : S52), (⟨3, []⟩ : S52)])] := Own.unbundle (A := [Chunk.row (Kd.int .u8) 5 w.heap.size (fun _ => False) (.slice none (([] : List Int).length) 0) ([] : List Int), Chunk.blk g15 (.cells #[.int .i64 2, .slice (some ⟨g5, 0, none⟩) (([97]).length) (([97]).length), .int .i64 3, .slice none 0 0] 52 (0, 0)), Chunk.blk g5 (.cells (nums .u8 [97]).toArray 5 (([97]).length, ([97]).length + 1)), Chunk.row (Kd.int .u8) 5 w.heap.size S51 (.slice A49 (([] : List Int).length) c50) (([] : List Int)), Chunk.row (Kd.int .u8) 5 w.heap.size S76 (.slice A74 (([97] : List Int).length) c75) (([97] : List Int)), Chunk.row (Kd.int .u8) 5 w.heap.size S113 (.slice A111 (([] : List Int).length) c112) (([] : List Int)), Chunk.row (Kd.int .u8) 5 w.heap.size S138 (.slice A136 (([] : List Int).length) c137) (([] : List Int))]) (L := [Chunk.row (Kd.int .u8) 5 w.heap.size S163 (.slice A161 ((nextL ([(⟨2, [97]⟩ : S52), (⟨3, []⟩ : S52)]) 1 0 2 5 5 9).b.length) c162) ((nextL ([(⟨2, [97]⟩ : S52), (⟨3, []⟩ : S52)]) 1 0 2 5 5 9).b), Chunk.blk l23 (.cells #[.slice A24 (([(⟨2, [97]⟩ : S52), (⟨3, []⟩ : S52)]).length) c25, .int .i64 1, .int .i64 0, .int .i64 ((nextL ([(⟨2, [97]⟩ : S52), (⟨3, []⟩ : S52)]) 1 0 2 5 5 9).at_), .int .i64 ((nextL ([(⟨2, [97]⟩ : S52), (⟨3, []⟩ : S52)]) 1 0 2 5 5 9).now), .int .i64 ((nextL ([(⟨2, [97]⟩ : S52), (⟨3, []⟩ : S52)]) 1 0 2 5 5 9).last), .slice none (([] : List Int).length) 0] 83 (0, 0)), Chunk.view k52 S26 A24 (([(⟨2, [97]⟩ : S52), (⟨3, []⟩ : S52)]).length) c25 ([(⟨2, [97]⟩ : S52), (⟨3, []⟩ : S52)])]) (hb166.sel [1, 0, 2, 3] (by decide))
  clear HO170
  clear HF160 HO147 hb166
  have HO172 : Own w w165 [Chunk.row (Kd.int .u8) 5 w.heap.size (fun _ => False) (.slice none (([] : List Int).length) 0) ([] : List Int), Chunk.blk g15 (.cells #[.int .i64 2, .slice (some ⟨g5, 0, none⟩) (([97]).length) (([97]).length), .int .i64 3, .slice none 0 0] 52 (0, 0)), Chunk.blk g5 (.cells (nums .u8 [97]).toArray 5 (([97]).length, ([97]).length + 1)), Chunk.row (Kd.int .u8) 5 w.heap.size S51 (.slice A49 (([] : List Int).length) c50) (([] : List Int)), Chunk.row (Kd.int .u8) 5 w.heap.size S76 (.slice A74 (([97] : List Int).length) c75) (([97] : List Int)), Chunk.row (Kd.int .u8) 5 w.heap.size S113 (.slice A111 (([] : List Int).length) c112) (([] : List Int)), Chunk.row (Kd.int .u8) 5 w.heap.size S138 (.slice A136 (([] : List Int).length) c137) (([] : List Int)), Chunk.row (Kd.int .u8) 5 w.heap.size S163 (.slice A161 ((nextL ([(⟨2, [97]⟩ : S52), (⟨3, []⟩ : S52)]) 1 0 2 5 5 9).b.length) c162) ((nextL ([(⟨2, [97]⟩ : S52), (⟨3, []⟩ : S52)]) 1 0 2 5 5 9).b), Chunk.blk l23 (.cells #[.slice A24 (([(⟨2, [97]⟩ : S52), (⟨3, []⟩ : S52)]).length) c25, .int .i64 1, .int .i64 0, .int .i64 ((nextL ([(⟨2, [97]⟩ : S52), (⟨3, []⟩ : S52)]) 1 0 2 5 5 9).at_), .int .i64 ((nextL ([(⟨2, [97]⟩ : S52), (⟨3, []⟩ : S52)]) 1 0 2 5 5 9).now), .int .i64 ((nextL ([(⟨2, [97]⟩ : S52), (⟨3, []⟩ : S52)]) 1 0 2 5 5 9).last), .slice none (([] : List Int).length) 0] 83 (0, 0)), Chunk.view k52 S26 A24 (([(⟨2, [97]⟩ : S52), (⟨3, []⟩ : S52)]).length) c25 ([(⟨2, [97]⟩ : S52), (⟨3, []⟩ : S52)])] := HO169
  clear HO169
  have e_ : (nextL ([(⟨2, [97]⟩ : S52), (⟨3, []⟩ : S52)]) 1 0 2 5 5 9) = ⟨2, 2, 5, 5, ([] : List Int)⟩ := by decide +kernel
  rw [e_] at HO172
  (try rw [e_] at HF168)
  clear e_
  refine gw_ev HF168 (want_none rfl) rfl (by decide) (op_move rfl (HF168.ev rfl)) ?_
  intro a173 HF174; clear HF168
  refine gw_ev HF174 (want_none rfl) rfl (by decide) (op_extract rfl (HF174.ev rfl) rfl) ?_
  intro a175 HF176; clear HF174
  refine gw_ev HF176 (want_none rfl) rfl (by decide) (op_extract rfl (HF176.ev rfl) rfl) ?_
  intro a177 HF178; clear HF176
  refine gw_ev HF178 (want_none rfl) rfl (by decide) (op_assign rfl (HF178.ev rfl)) ?_
  intro a179 HF180; clear HF178
  refine gw_ev HF180 (want_none rfl) rfl (by decide) (op_assign rfl (HF180.ev rfl)) ?_
  intro a181 HF182; clear HF180
  refine wpList_nil ?_
  refine gw_nx (hK158 _ _ ?_)
  refine gw_seq fun K183 hK183 => ?_
  refine wp_region_lit ?_
  refine gw_ev HF182 (want_none rfl) rfl (by decide) (op_move rfl (HF182.ev rfl)) ?_
  intro a184 HF185; clear HF182
  have HO195 : Own w _ [(Chunk.all [Chunk.row (Kd.int .u8) 5 w.heap.size (fun _ => False) (.slice none (([] : List Int).length) 0) ([] : List Int), Chunk.blk g15 (.cells #[.int .i64 2, .slice (some ⟨g5, 0, none⟩) (([97]).length) (([97]).length), .int .i64 3, .slice none 0 0] 52 (0, 0)), Chunk.blk g5 (.cells (nums .u8 [97]).toArray 5 (([97]).length, ([97]).length + 1)), Chunk.row (Kd.int .u8) 5 w.heap.size S51 (.slice A49 (([] : List Int).length) c50) (([] : List Int)), Chunk.row (Kd.int .u8) 5 w.heap.size S76 (.slice A74 (([97] : List Int).length) c75) (([97] : List Int)), Chunk.row (Kd.int .u8) 5 w.heap.size S113 (.slice A111 (([] : List Int).length) c112) (([] : List Int)), Chunk.row (Kd.int .u8) 5 w.heap.size S138 (.slice A136 (([] : List Int).length) c137) (([] : List Int)), Chunk.row (Kd.int .u8) 5 w.heap.size S163 (.slice A161 (([] : List Int).length) c162) (([] : List Int))]), Chunk.blk l23 (.cells #[.slice A24 (([(⟨2, [97]⟩ : S52), (⟨3, []⟩ : S52)]).length) c25, .int .i64 1, .int .i64 0, .int .i64 (2), .int .i64 (5), .int .i64 (5), .slice none (([] : List Int).length) 0] 83 (0, 0)), Chunk.view k52 S26 A24 (([(⟨2, [97]⟩ : S52), (⟨3, []⟩ : S52)]).length) c25 ([(⟨2, [97]⟩ : S52), (⟨3, []⟩ : S52)])] := Own.bundle (A := [Chunk.row (Kd.int .u8) 5 w.heap.size (fun _ => False) (.slice none (([] : List Int).length) 0) ([] : List Int), Chunk.blk g15 (.cells #[.int .i64 2, .slice (some ⟨g5, 0, none⟩) (([97]).length) (([97]).length), .int .i64 3, .slice none 0 0] 52 (0, 0)), Chunk.blk g5 (.cells (nums .u8 [97]).toArray 5 (([97]).length, ([97]).length + 1)), Chunk.row (Kd.int .u8) 5 w.heap.size S51 (.slice A49 (([] : List Int).length) c50) (([] : List Int)), Chunk.row (Kd.int .u8) 5 w.heap.size S76 (.slice A74 (([97] : List Int).length) c75) (([97] : List Int)), Chunk.row (Kd.int .u8) 5 w.heap.size S113 (.slice A111 (([] : List Int).length) c112) (([] : List Int)), Chunk.row (Kd.int .u8) 5 w.heap.size S138 (.slice A136 (([] : List Int).length) c137) (([] : List Int)), Chunk.row (Kd.int .u8) 5 w.heap.size S163 (.slice A161 (([] : List Int).length) c162) (([] : List Int))]) (L := [Chunk.blk l23 (.cells #[.slice A24 (([(⟨2, [97]⟩ : S52), (⟨3, []⟩ : S52)]).length) c25, .int .i64 1, .int .i64 0, .int .i64 (2), .int .i64 (5), .int .i64 (5), .slice none (([] : List Int).length) 0] 83 (0, 0)), Chunk.view k52 S26 A24 (([(⟨2, [97]⟩ : S52), (⟨3, []⟩ : S52)]).length) c25 ([(⟨2, [97]⟩ : S52), (⟨3, []⟩ : S52)])]) (HO172.sel [0, 1, 2, 3, 4, 5, 6, 7, 8, 9] (by decide))
  refine gw_call HF185 (want_none rfl) rfl (by decide) (op_callL Try.func24 (by kernel_rfl) rfl rfl (ar_cons (HF185.ev rfl) (ar_cons (ev_c _ _) ar_nil))) (GLine_.next_calls w _ (Chunk.all [Chunk.row (Kd.int .u8) 5 w.heap.size (fun _ => False) (.slice none (([] : List Int).length) 0) ([] : List Int), Chunk.blk g15 (.cells #[.int .i64 2, .slice (some ⟨g5, 0, none⟩) (([97]).length) (([97]).length), .int .i64 3, .slice none 0 0] 52 (0, 0)), Chunk.blk g5 (.cells (nums .u8 [97]).toArray 5 (([97]).length, ([97]).length + 1)), Chunk.row (Kd.int .u8) 5 w.heap.size S51 (.slice A49 (([] : List Int).length) c50) (([] : List Int)), Chunk.row (Kd.int .u8) 5 w.heap.size S76 (.slice A74 (([97] : List Int).length) c75) (([97] : List Int)), Chunk.row (Kd.int .u8) 5 w.heap.size S113 (.slice A111 (([] : List Int).length) c112) (([] : List Int)), Chunk.row (Kd.int .u8) 5 w.heap.size S138 (.slice A136 (([] : List Int).length) c137) (([] : List Int)), Chunk.row (Kd.int .u8) 5 w.heap.size S163 (.slice A161 (([] : List Int).length) c162) (([] : List Int))]) l23 A24 c25 ([(⟨2, [97]⟩ : S52), (⟨3, []⟩ : S52)]) 1 0 2 5 5 none 0 ([] : List Int) S26 9 (by decide +kernel) (by decide +kernel) (by decide +kernel) (by decide +kernel) HO195) ?_
  rintro e189 w190 ⟨A186, c187, S188, rfl, hb191⟩
  refine ⟨_, rfl, fun a192 HF193 => ?_⟩
  have HO194 : Own w w190 [Chunk.row (Kd.int .u8) 5 w.heap.size (fun _ => False) (.slice none (([] : List Int).length) 0) ([] : List Int), Chunk.blk g15 (.cells #[.int .i64 2, .slice (some ⟨g5, 0, none⟩) (([97]).length) (([97]).length), .int .i64 3, .slice none 0 0] 52 (0, 0)), Chunk.blk g5 (.cells (nums .u8 [97]).toArray 5 (([97]).length, ([97]).length + 1)), Chunk.row (Kd.int .u8) 5 w.heap.size S51 (.slice A49 (([] : List Int).length) c50) (([] : List Int)), Chunk.row (Kd.int .u8) 5 w.heap.size S76 (.slice A74 (([97] : List Int).length) c75) (([97] : List Int)), Chunk.row (Kd.int .u8) 5 w.heap.size S113 (.slice A111 (([] : List Int).length) c112) (([] : List Int)), Chunk.row (Kd.int .u8) 5 w.heap.size S138 (.slice A136 (([] : List Int).length) c137) (([] : List Int)), Chunk.row (Kd.int .u8) 5 w.heap.size S163 (.slice A161 (([] : List Int).length) c162) (([] : List Int)), Chunk.row (Kd.int .u8) 5 w.heap.size S188 (.slice A186 ((nextL ([(⟨2, [97]⟩ : S52), (⟨3, []⟩ : S52)]) 1 0 2 5 5 9).b.length) c187) ((nextL ([(⟨2, [97]⟩ : S52), (⟨3, []⟩ : S52)]) 1 0 2 5 5 9).b), Chunk.blk l23 (.cells #[.slice A24 (([(⟨2, [97]⟩ : S52), (⟨3, []⟩ : S52)]).length) c25, .int .i64 1, .int .i64 0, .int .i64 ((nextL ([(⟨2, [97]⟩ : S52), (⟨3, []⟩ : S52)]) 1 0 2 5 5 9).at_), .int .i64 ((nextL ([(⟨2, [97]⟩ : S52), (⟨3, []⟩ : S52)]) 1 0 2 5 5 9).now), .int .i64 ((nextL ([(⟨2, [97]⟩ : S52), (⟨3, []⟩ : S52)]) 1 0 2 5 5 9).last), .slice none (([] : List Int).length) 0] 83 (0, 0)), Chunk.view k52 S26 A24 (([(⟨2, [97]⟩ : S52), (⟨3, []⟩ : S52)]).length) c25 ([(⟨2, [97]⟩ : S52), (⟨3, []⟩ : S52)])] := Own.unbundle (A := [Chunk.row (Kd.int .u8) 5 w.heap.size (fun _ => False) (.slice none (([] : List Int).length) 0) ([] : List Int), Chunk.blk g15 (.cells #[.int .i64 2, .slice (some ⟨g5, 0, none⟩) (([97]).length) (([97]).length), .int .i64 3, .slice none 0 0] 52 (0, 0)), Chunk.blk g5 (.cells (nums .u8 [97]).toArray 5 (([97]).length, ([97]).length + 1)), Chunk.row (Kd.int .u8) 5 w.heap.size S51 (.slice A49 (([] : List Int).length) c50) (([] : List Int)), Chunk.row (Kd.int .u8) 5 w.heap.size S76 (.slice A74 (([97] : List Int).length) c75) (([97] : List Int)), Chunk.row (Kd.int .u8) 5 w.heap.size S113 (.slice A111 (([] : List Int).length) c112) (([] : List Int)), Chunk.row (Kd.int .u8) 5 w.heap.size S138 (.slice A136 (([] : List Int).length) c137) (([] : List Int)), Chunk.row (Kd.int .u8) 5 w.heap.size S163 (.slice A161 (([] : List Int).length) c162) (([] : List Int))]) (L := [Chunk.row (Kd.int .u8) 5 w.heap.size S188 (.slice A186 ((nextL ([(⟨2, [97]⟩ : S52), (⟨3, []⟩ : S52)]) 1 0 2 5 5 9).b.length) c187) ((nextL ([(⟨2, [97]⟩ : S52), (⟨3, []⟩ : S52)]) 1 0 2 5 5 9).b), Chunk.blk l23 (.cells #[.slice A24 (([(⟨2, [97]⟩ : S52), (⟨3, []⟩ : S52)]).length) c25, .int .i64 1, .int .i64 0, .int .i64 ((nextL ([(⟨2, [97]⟩ : S52), (⟨3, []⟩ : S52)]) 1 0 2 5 5 9).at_), .int .i64 ((nextL ([(⟨2, [97]⟩ : S52), (⟨3, []⟩ : S52)]) 1 0 2 5 5 9).now), .int .i64 ((nextL ([(⟨2, [97]⟩ : S52), (⟨3, []⟩ : S52)]) 1 0 2 5 5 9).last), .slice none (([] : List Int).length) 0] 83 (0, 0)), Chunk.view k52 S26 A24 (([(⟨2, [97]⟩ : S52), (⟨3, []⟩ : S52)]).length) c25 ([(⟨2, [97]⟩ : S52), (⟨3, []⟩ : S52)])]) (hb191.sel [1, 0, 2, 3] (by decide))
  clear HO195
  clear HF185 HO172 hb191
  have HO197 : Own w w190 [Chunk.row (Kd.int .u8) 5 w.heap.size (fun _ => False) (.slice none (([] : List Int).length) 0) ([] : List Int), Chunk.blk g15 (.cells #[.int .i64 2, .slice (some ⟨g5, 0, none⟩) (([97]).length) (([97]).length), .int .i64 3, .slice none 0 0] 52 (0, 0)), Chunk.blk g5 (.cells (nums .u8 [97]).toArray 5 (([97]).length, ([97]).length + 1)), Chunk.row (Kd.int .u8) 5 w.heap.size S51 (.slice A49 (([] : List Int).length) c50) (([] : List Int)), Chunk.row (Kd.int .u8) 5 w.heap.size S76 (.slice A74 (([97] : List Int).length) c75) (([97] : List Int)), Chunk.row (Kd.int .u8) 5 w.heap.size S113 (.slice A111 (([] : List Int).length) c112) (([] : List Int)), Chunk.row (Kd.int .u8) 5 w.heap.size S138 (.slice A136 (([] : List Int).length) c137) (([] : List Int)), Chunk.row (Kd.int .u8) 5 w.heap.size S163 (.slice A161 (([] : List Int).length) c162) (([] : List Int)), Chunk.row (Kd.int .u8) 5 w.heap.size S188 (.slice A186 ((nextL ([(⟨2, [97]⟩ : S52), (⟨3, []⟩ : S52)]) 1 0 2 5 5 9).b.length) c187) ((nextL ([(⟨2, [97]⟩ : S52), (⟨3, []⟩ : S52)]) 1 0 2 5 5 9).b), Chunk.blk l23 (.cells #[.slice A24 (([(⟨2, [97]⟩ : S52), (⟨3, []⟩ : S52)]).length) c25, .int .i64 1, .int .i64 0, .int .i64 ((nextL ([(⟨2, [97]⟩ : S52), (⟨3, []⟩ : S52)]) 1 0 2 5 5 9).at_), .int .i64 ((nextL ([(⟨2, [97]⟩ : S52), (⟨3, []⟩ : S52)]) 1 0 2 5 5 9).now), .int .i64 ((nextL ([(⟨2, [97]⟩ : S52), (⟨3, []⟩ : S52)]) 1 0 2 5 5 9).last), .slice none (([] : List Int).length) 0] 83 (0, 0)), Chunk.view k52 S26 A24 (([(⟨2, [97]⟩ : S52), (⟨3, []⟩ : S52)]).length) c25 ([(⟨2, [97]⟩ : S52), (⟨3, []⟩ : S52)])] := HO194
  clear HO194
  have e_ : (nextL ([(⟨2, [97]⟩ : S52), (⟨3, []⟩ : S52)]) 1 0 2 5 5 9) = ⟨2, 2, 5, 5, ([] : List Int)⟩ := by decide +kernel
  rw [e_] at HO197
  (try rw [e_] at HF193)
  clear e_
  refine gw_ev HF193 (want_none rfl) rfl (by decide) (op_move rfl (HF193.ev rfl)) ?_
  intro a198 HF199; clear HF193
  refine gw_ev HF199 (want_none rfl) rfl (by decide) (op_extract rfl (HF199.ev rfl) rfl) ?_
  intro a200 HF201; clear HF199
  refine gw_ev HF201 (want_none rfl) rfl (by decide) (op_extract rfl (HF201.ev rfl) rfl) ?_
  intro a202 HF203; clear HF201
  refine gw_ev HF203 (want_none rfl) rfl (by decide) (op_assign rfl (HF203.ev rfl)) ?_
  intro a204 HF205; clear HF203
  refine gw_ev HF205 (want_none rfl) rfl (by decide) (op_assign rfl (HF205.ev rfl)) ?_
  intro a206 HF207; clear HF205
  refine wpList_nil ?_
  refine gw_nx (hK183 _ _ ?_)
  refine gw_seq fun K208 hK208 => ?_
  refine wp_region_lit ?_
  refine gw_ev HF207 (want_none rfl) rfl (by decide) (op_move rfl (HF207.ev rfl)) ?_
  intro a209 HF210; clear HF207
  refine gw_bytes (xs := [104, 105]) Try.underlying26 Try.underlying5 HF210 HO197 (want_none rfl) rfl (by decide) (op_bslice (by kernel_rfl) rfl (pt_cons (ev_c _ _) (pt_cons (ev_c _ _) pt_nil))) (fun a_ HF_ => (want_none rfl)) rfl (by decide) rfl ?_
  intro g211 a212 w213 HF214 HO215; clear HF210 HO197
  have HO216 : Own w w213 [Chunk.blk g211 (.cells (nums .u8 [104, 105]).toArray 5 (([104, 105]).length, ([104, 105]).length + 1)), Chunk.row (Kd.int .u8) 5 w.heap.size (fun _ => False) (.slice none (([] : List Int).length) 0) ([] : List Int), Chunk.blk g15 (.cells #[.int .i64 2, .slice (some ⟨g5, 0, none⟩) (([97]).length) (([97]).length), .int .i64 3, .slice none 0 0] 52 (0, 0)), Chunk.blk g5 (.cells (nums .u8 [97]).toArray 5 (([97]).length, ([97]).length + 1)), Chunk.row (Kd.int .u8) 5 w.heap.size S51 (.slice A49 (([] : List Int).length) c50) (([] : List Int)), Chunk.row (Kd.int .u8) 5 w.heap.size S76 (.slice A74 (([97] : List Int).length) c75) (([97] : List Int)), Chunk.row (Kd.int .u8) 5 w.heap.size S113 (.slice A111 (([] : List Int).length) c112) (([] : List Int)), Chunk.row (Kd.int .u8) 5 w.heap.size S138 (.slice A136 (([] : List Int).length) c137) (([] : List Int)), Chunk.row (Kd.int .u8) 5 w.heap.size S163 (.slice A161 (([] : List Int).length) c162) (([] : List Int)), Chunk.row (Kd.int .u8) 5 w.heap.size S188 (.slice A186 (([] : List Int).length) c187) (([] : List Int)), Chunk.blk l23 (.cells #[.slice A24 (([(⟨2, [97]⟩ : S52), (⟨3, []⟩ : S52)]).length) c25, .int .i64 1, .int .i64 0, .int .i64 (2), .int .i64 (5), .int .i64 (5), .slice none (([] : List Int).length) 0] 83 (0, 0)), Chunk.view k52 S26 A24 (([(⟨2, [97]⟩ : S52), (⟨3, []⟩ : S52)]).length) c25 ([(⟨2, [97]⟩ : S52), (⟨3, []⟩ : S52)])] := HO215
  clear HO215
  have HO226 : Own w _ [(Chunk.all [Chunk.blk g211 (.cells (nums .u8 [104, 105]).toArray 5 (([104, 105]).length, ([104, 105]).length + 1)), Chunk.blk g15 (.cells #[.int .i64 2, .slice (some ⟨g5, 0, none⟩) (([97]).length) (([97]).length), .int .i64 3, .slice none 0 0] 52 (0, 0)), Chunk.blk g5 (.cells (nums .u8 [97]).toArray 5 (([97]).length, ([97]).length + 1)), Chunk.row (Kd.int .u8) 5 w.heap.size S51 (.slice A49 (([] : List Int).length) c50) (([] : List Int)), Chunk.row (Kd.int .u8) 5 w.heap.size S76 (.slice A74 (([97] : List Int).length) c75) (([97] : List Int)), Chunk.row (Kd.int .u8) 5 w.heap.size S113 (.slice A111 (([] : List Int).length) c112) (([] : List Int)), Chunk.row (Kd.int .u8) 5 w.heap.size S138 (.slice A136 (([] : List Int).length) c137) (([] : List Int)), Chunk.row (Kd.int .u8) 5 w.heap.size S163 (.slice A161 (([] : List Int).length) c162) (([] : List Int)), Chunk.row (Kd.int .u8) 5 w.heap.size S188 (.slice A186 (([] : List Int).length) c187) (([] : List Int)), Chunk.view k52 S26 A24 (([(⟨2, [97]⟩ : S52), (⟨3, []⟩ : S52)]).length) c25 ([(⟨2, [97]⟩ : S52), (⟨3, []⟩ : S52)])]), Chunk.blk l23 (.cells #[.slice A24 (([(⟨2, [97]⟩ : S52), (⟨3, []⟩ : S52)]).length) c25, .int .i64 1, .int .i64 0, .int .i64 (2), .int .i64 (5), .int .i64 (5), .slice none (([] : List Int).length) 0] 83 (0, 0)), Chunk.row (Kd.int .u8) 5 w.heap.size (fun _ => False) (.slice none (([] : List Int).length) 0) ([] : List Int)] := Own.bundle (A := [Chunk.blk g211 (.cells (nums .u8 [104, 105]).toArray 5 (([104, 105]).length, ([104, 105]).length + 1)), Chunk.blk g15 (.cells #[.int .i64 2, .slice (some ⟨g5, 0, none⟩) (([97]).length) (([97]).length), .int .i64 3, .slice none 0 0] 52 (0, 0)), Chunk.blk g5 (.cells (nums .u8 [97]).toArray 5 (([97]).length, ([97]).length + 1)), Chunk.row (Kd.int .u8) 5 w.heap.size S51 (.slice A49 (([] : List Int).length) c50) (([] : List Int)), Chunk.row (Kd.int .u8) 5 w.heap.size S76 (.slice A74 (([97] : List Int).length) c75) (([97] : List Int)), Chunk.row (Kd.int .u8) 5 w.heap.size S113 (.slice A111 (([] : List Int).length) c112) (([] : List Int)), Chunk.row (Kd.int .u8) 5 w.heap.size S138 (.slice A136 (([] : List Int).length) c137) (([] : List Int)), Chunk.row (Kd.int .u8) 5 w.heap.size S163 (.slice A161 (([] : List Int).length) c162) (([] : List Int)), Chunk.row (Kd.int .u8) 5 w.heap.size S188 (.slice A186 (([] : List Int).length) c187) (([] : List Int)), Chunk.view k52 S26 A24 (([(⟨2, [97]⟩ : S52), (⟨3, []⟩ : S52)]).length) c25 ([(⟨2, [97]⟩ : S52), (⟨3, []⟩ : S52)])]) (L := [Chunk.blk l23 (.cells #[.slice A24 (([(⟨2, [97]⟩ : S52), (⟨3, []⟩ : S52)]).length) c25, .int .i64 1, .int .i64 0, .int .i64 (2), .int .i64 (5), .int .i64 (5), .slice none (([] : List Int).length) 0] 83 (0, 0)), Chunk.row (Kd.int .u8) 5 w.heap.size (fun _ => False) (.slice none (([] : List Int).length) 0) ([] : List Int)]) (HO216.sel [0, 2, 3, 4, 5, 6, 7, 8, 9, 11, 10, 1] (by decide))
  refine gw_call HF214 (want_none rfl) rfl (by decide) (op_callL Try.func27 (by kernel_rfl) rfl rfl (ar_cons (HF214.ev rfl) (ar_cons (HF214.ev rfl) ar_nil))) (GLine_.send_calls w _ (Chunk.all [Chunk.blk g211 (.cells (nums .u8 [104, 105]).toArray 5 (([104, 105]).length, ([104, 105]).length + 1)), Chunk.blk g15 (.cells #[.int .i64 2, .slice (some ⟨g5, 0, none⟩) (([97]).length) (([97]).length), .int .i64 3, .slice none 0 0] 52 (0, 0)), Chunk.blk g5 (.cells (nums .u8 [97]).toArray 5 (([97]).length, ([97]).length + 1)), Chunk.row (Kd.int .u8) 5 w.heap.size S51 (.slice A49 (([] : List Int).length) c50) (([] : List Int)), Chunk.row (Kd.int .u8) 5 w.heap.size S76 (.slice A74 (([97] : List Int).length) c75) (([97] : List Int)), Chunk.row (Kd.int .u8) 5 w.heap.size S113 (.slice A111 (([] : List Int).length) c112) (([] : List Int)), Chunk.row (Kd.int .u8) 5 w.heap.size S138 (.slice A136 (([] : List Int).length) c137) (([] : List Int)), Chunk.row (Kd.int .u8) 5 w.heap.size S163 (.slice A161 (([] : List Int).length) c162) (([] : List Int)), Chunk.row (Kd.int .u8) 5 w.heap.size S188 (.slice A186 (([] : List Int).length) c187) (([] : List Int)), Chunk.view k52 S26 A24 (([(⟨2, [97]⟩ : S52), (⟨3, []⟩ : S52)]).length) c25 ([(⟨2, [97]⟩ : S52), (⟨3, []⟩ : S52)])]) l23 A24 c25 ([(⟨2, [97]⟩ : S52), (⟨3, []⟩ : S52)]) 1 0 2 5 5 none 0 ([] : List Int) (fun _ => False) (some ⟨g211, 0, none⟩) (([104, 105]).length) ([104, 105]) (fun w_ h_ => (blkC ((Own.unbundle (A := [Chunk.blk g211 (.cells (nums .u8 [104, 105]).toArray 5 (([104, 105]).length, ([104, 105]).length + 1)), Chunk.blk g15 (.cells #[.int .i64 2, .slice (some ⟨g5, 0, none⟩) (([97]).length) (([97]).length), .int .i64 3, .slice none 0 0] 52 (0, 0)), Chunk.blk g5 (.cells (nums .u8 [97]).toArray 5 (([97]).length, ([97]).length + 1)), Chunk.row (Kd.int .u8) 5 w.heap.size S51 (.slice A49 (([] : List Int).length) c50) (([] : List Int)), Chunk.row (Kd.int .u8) 5 w.heap.size S76 (.slice A74 (([97] : List Int).length) c75) (([97] : List Int)), Chunk.row (Kd.int .u8) 5 w.heap.size S113 (.slice A111 (([] : List Int).length) c112) (([] : List Int)), Chunk.row (Kd.int .u8) 5 w.heap.size S138 (.slice A136 (([] : List Int).length) c137) (([] : List Int)), Chunk.row (Kd.int .u8) 5 w.heap.size S163 (.slice A161 (([] : List Int).length) c162) (([] : List Int)), Chunk.row (Kd.int .u8) 5 w.heap.size S188 (.slice A186 (([] : List Int).length) c187) (([] : List Int)), Chunk.view k52 S26 A24 (([(⟨2, [97]⟩ : S52), (⟨3, []⟩ : S52)]).length) c25 ([(⟨2, [97]⟩ : S52), (⟨3, []⟩ : S52)])]) (L := []) h_).get 0 rfl) (by simp))) (Nat.le_refl _) (by decide +kernel) HO226) ?_
  rintro e220 w221 ⟨A217, c218, S219, rfl, hb222⟩
  refine ⟨_, rfl, fun a223 HF224 => ?_⟩
  have HO225 : Own w w221 [Chunk.blk g211 (.cells (nums .u8 [104, 105]).toArray 5 (([104, 105]).length, ([104, 105]).length + 1)), Chunk.blk g15 (.cells #[.int .i64 2, .slice (some ⟨g5, 0, none⟩) (([97]).length) (([97]).length), .int .i64 3, .slice none 0 0] 52 (0, 0)), Chunk.blk g5 (.cells (nums .u8 [97]).toArray 5 (([97]).length, ([97]).length + 1)), Chunk.row (Kd.int .u8) 5 w.heap.size S51 (.slice A49 (([] : List Int).length) c50) (([] : List Int)), Chunk.row (Kd.int .u8) 5 w.heap.size S76 (.slice A74 (([97] : List Int).length) c75) (([97] : List Int)), Chunk.row (Kd.int .u8) 5 w.heap.size S113 (.slice A111 (([] : List Int).length) c112) (([] : List Int)), Chunk.row (Kd.int .u8) 5 w.heap.size S138 (.slice A136 (([] : List Int).length) c137) (([] : List Int)), Chunk.row (Kd.int .u8) 5 w.heap.size S163 (.slice A161 (([] : List Int).length) c162) (([] : List Int)), Chunk.row (Kd.int .u8) 5 w.heap.size S188 (.slice A186 (([] : List Int).length) c187) (([] : List Int)), Chunk.view k52 S26 A24 (([(⟨2, [97]⟩ : S52), (⟨3, []⟩ : S52)]).length) c25 ([(⟨2, [97]⟩ : S52), (⟨3, []⟩ : S52)]), Chunk.blk l23 (.cells #[.slice A24 (([(⟨2, [97]⟩ : S52), (⟨3, []⟩ : S52)]).length) c25, .int .i64 1, .int .i64 0, .int .i64 2, .int .i64 5, .int .i64 5, .slice A217 ((([] : List Int) ++ [104, 105]).length) c218] 83 (0, 0)), Chunk.row (Kd.int .u8) 5 w.heap.size S219 (.slice A217 ((([] : List Int) ++ [104, 105]).length) c218) (([] : List Int) ++ [104, 105])] := Own.unbundle (A := [Chunk.blk g211 (.cells (nums .u8 [104, 105]).toArray 5 (([104, 105]).length, ([104, 105]).length + 1)), Chunk.blk g15 (.cells #[.int .i64 2, .slice (some ⟨g5, 0, none⟩) (([97]).length) (([97]).length), .int .i64 3, .slice none 0 0] 52 (0, 0)), Chunk.blk g5 (.cells (nums .u8 [97]).toArray 5 (([97]).length, ([97]).length + 1)), Chunk.row (Kd.int .u8) 5 w.heap.size S51 (.slice A49 (([] : List Int).length) c50) (([] : List Int)), Chunk.row (Kd.int .u8) 5 w.heap.size S76 (.slice A74 (([97] : List Int).length) c75) (([97] : List Int)), Chunk.row (Kd.int .u8) 5 w.heap.size S113 (.slice A111 (([] : List Int).length) c112) (([] : List Int)), Chunk.row (Kd.int .u8) 5 w.heap.size S138 (.slice A136 (([] : List Int).length) c137) (([] : List Int)), Chunk.row (Kd.int .u8) 5 w.heap.size S163 (.slice A161 (([] : List Int).length) c162) (([] : List Int)), Chunk.row (Kd.int .u8) 5 w.heap.size S188 (.slice A186 (([] : List Int).length) c187) (([] : List Int)), Chunk.view k52 S26 A24 (([(⟨2, [97]⟩ : S52), (⟨3, []⟩ : S52)]).length) c25 ([(⟨2, [97]⟩ : S52), (⟨3, []⟩ : S52)])]) (L := [Chunk.blk l23 (.cells #[.slice A24 (([(⟨2, [97]⟩ : S52), (⟨3, []⟩ : S52)]).length) c25, .int .i64 1, .int .i64 0, .int .i64 2, .int .i64 5, .int .i64 5, .slice A217 ((([] : List Int) ++ [104, 105]).length) c218] 83 (0, 0)), Chunk.row (Kd.int .u8) 5 w.heap.size S219 (.slice A217 ((([] : List Int) ++ [104, 105]).length) c218) (([] : List Int) ++ [104, 105])]) (hb222.sel [0, 1, 2] (by decide))
  clear HO226
  clear HF214 HO216 hb222
  have HO228 : Own w w221 [Chunk.blk g211 (.cells (nums .u8 [104, 105]).toArray 5 (([104, 105]).length, ([104, 105]).length + 1)), Chunk.blk g15 (.cells #[.int .i64 2, .slice (some ⟨g5, 0, none⟩) (([97]).length) (([97]).length), .int .i64 3, .slice none 0 0] 52 (0, 0)), Chunk.blk g5 (.cells (nums .u8 [97]).toArray 5 (([97]).length, ([97]).length + 1)), Chunk.row (Kd.int .u8) 5 w.heap.size S51 (.slice A49 (([] : List Int).length) c50) (([] : List Int)), Chunk.row (Kd.int .u8) 5 w.heap.size S76 (.slice A74 (([97] : List Int).length) c75) (([97] : List Int)), Chunk.row (Kd.int .u8) 5 w.heap.size S113 (.slice A111 (([] : List Int).length) c112) (([] : List Int)), Chunk.row (Kd.int .u8) 5 w.heap.size S138 (.slice A136 (([] : List Int).length) c137) (([] : List Int)), Chunk.row (Kd.int .u8) 5 w.heap.size S163 (.slice A161 (([] : List Int).length) c162) (([] : List Int)), Chunk.row (Kd.int .u8) 5 w.heap.size S188 (.slice A186 (([] : List Int).length) c187) (([] : List Int)), Chunk.view k52 S26 A24 (([(⟨2, [97]⟩ : S52), (⟨3, []⟩ : S52)]).length) c25 ([(⟨2, [97]⟩ : S52), (⟨3, []⟩ : S52)]), Chunk.blk l23 (.cells #[.slice A24 (([(⟨2, [97]⟩ : S52), (⟨3, []⟩ : S52)]).length) c25, .int .i64 1, .int .i64 0, .int .i64 2, .int .i64 5, .int .i64 5, .slice A217 ((([] : List Int) ++ [104, 105]).length) c218] 83 (0, 0)), Chunk.row (Kd.int .u8) 5 w.heap.size S219 (.slice A217 ((([] : List Int) ++ [104, 105]).length) c218) (([] : List Int) ++ [104, 105])] := HO225
  clear HO225
  refine wpList_nil ?_
  refine gw_nx (hK208 _ _ ?_)
  refine gw_seq fun K229 hK229 => ?_
  refine wp_region_lit ?_
  refine gw_ev HF224 (want_none rfl) rfl (by decide) (op_move rfl (HF224.ev rfl)) ?_
  intro a230 HF231; clear HF224
  refine gw_ev HF231 (want_none rfl) rfl (by decide) (op_eqi rfl (HF231.ev rfl) (ev_c _ _)) ?_
  intro a232 HF233; clear HF231
  have HF234 := HF233.lit (b := true) (by decide +kernel)
  clear HF233
  refine gw_ev HF234 (want_none rfl) rfl (by decide) (op_move rfl (HF234.ev rfl)) ?_
  intro a235 HF236; clear HF234
  refine gw_ev HF236 (want_yes HF236 rfl rfl rfl rfl) rfl (by decide) (op_move rfl (HF236.ev rfl)) ?_
  intro a237 HF238; clear HF236
  refine gw_ev HF238 (want_yes HF238 rfl rfl rfl rfl) rfl (by decide) (op_eqi rfl (HF238.ev rfl) (ev_c _ _)) ?_
  intro a239 HF240; clear HF238
  have HF241 := HF240.lit (b := true) (by decide +kernel)
  clear HF240
  refine gw_ev HF241 (want_none rfl) rfl (by decide) (op_pick_t rfl (HF241.ev rfl) (HF241.ev rfl)) ?_
  intro a242 HF243; clear HF241
  refine gw_ev HF243 (want_none rfl) rfl (by decide) (op_move rfl (HF243.ev rfl)) ?_
  intro a244 HF245; clear HF243
  refine gw_ev HF245 (want_yes HF245 rfl rfl rfl rfl) rfl (by decide) (op_move rfl (HF245.ev rfl)) ?_
  intro a246 HF247; clear HF245
  refine gw_ev HF247 (want_yes HF247 rfl rfl rfl rfl) rfl (by decide) (op_conv_str Try.underlying26 Try.underlying5 Try.underlying9 (Kd.R_reads' (HO228.get 4 rfl)).2.2 rfl (HF247.ev rfl)) ?_
  intro a248 HF249; clear HF247
  refine gw_ev HF249 (want_yes HF249 rfl rfl rfl rfl) rfl (by decide) (op_eqs rfl (HF249.ev rfl) (ev_c _ _)) ?_
  intro a250 HF251; clear HF249
  have HF252 := HF251.lit (b := true) (by decide +kernel)
  clear HF251
  refine gw_ev HF252 (want_none rfl) rfl (by decide) (op_pick_t rfl (HF252.ev rfl) (HF252.ev rfl)) ?_
  intro a253 HF254; clear HF252
  refine gw_ev HF254 (want_none rfl) rfl (by decide) (op_move rfl (HF254.ev rfl)) ?_
  intro a255 HF256; clear HF254
  refine gw_ev HF256 (want_yes HF256 rfl rfl rfl rfl) rfl (by decide) (op_move rfl (HF256.ev rfl)) ?_
  intro a257 HF258; clear HF256
  refine gw_ev HF258 (want_yes HF258 rfl rfl rfl rfl) rfl (by decide) (op_eqi rfl (HF258.ev rfl) (ev_c _ _)) ?_
  intro a259 HF260; clear HF258
  have HF261 := HF260.lit (b := true) (by decide +kernel)
  clear HF260
  refine gw_ev HF261 (want_none rfl) rfl (by decide) (op_pick_t rfl (HF261.ev rfl) (HF261.ev rfl)) ?_
  intro a262 HF263; clear HF261
  refine gw_ev HF263 (want_none rfl) rfl (by decide) (op_move rfl (HF263.ev rfl)) ?_
  intro a264 HF265; clear HF263
  refine gw_ev HF265 (want_yes HF265 rfl rfl rfl rfl) rfl (by decide) (op_move rfl (HF265.ev rfl)) ?_
  intro a266 HF267; clear HF265
  refine gw_ev HF267 (want_yes HF267 rfl rfl rfl rfl) rfl (by decide) (op_eqi rfl (HF267.ev rfl) (ev_c _ _)) ?_
  intro a268 HF269; clear HF267
  have HF270 := HF269.lit (b := true) (by decide +kernel)
  clear HF269
  refine gw_ev HF270 (want_none rfl) rfl (by decide) (op_pick_t rfl (HF270.ev rfl) (HF270.ev rfl)) ?_
  intro a271 HF272; clear HF270
  refine gw_ev HF272 (want_none rfl) rfl (by decide) (op_move rfl (HF272.ev rfl)) ?_
  intro a273 HF274; clear HF272
  refine gw_ev HF274 (want_yes HF274 rfl rfl rfl rfl) rfl (by decide) (op_move rfl (HF274.ev rfl)) ?_
  intro a275 HF276; clear HF274
  refine gw_ev HF276 (want_yes HF276 rfl rfl rfl rfl) rfl (by decide) (op_eqi rfl (HF276.ev rfl) (ev_c _ _)) ?_
  intro a277 HF278; clear HF276
  have HF279 := HF278.lit (b := true) (by decide +kernel)
  clear HF278
  refine gw_ev HF279 (want_none rfl) rfl (by decide) (op_pick_t rfl (HF279.ev rfl) (HF279.ev rfl)) ?_
  intro a280 HF281; clear HF279
  refine gw_ev HF281 (want_none rfl) rfl (by decide) (op_move rfl (HF281.ev rfl)) ?_
  intro a282 HF283; clear HF281
  refine gw_ev HF283 (want_yes HF283 rfl rfl rfl rfl) rfl (by decide) (op_move rfl (HF283.ev rfl)) ?_
  intro a284 HF285; clear HF283
  refine gw_ev HF285 (want_yes HF285 rfl rfl rfl rfl) rfl (by decide) (op_eqi rfl (HF285.ev rfl) (ev_c _ _)) ?_
  intro a286 HF287; clear HF285
  have HF288 := HF287.lit (b := true) (by decide +kernel)
  clear HF287
  refine gw_ev HF288 (want_none rfl) rfl (by decide) (op_pick_t rfl (HF288.ev rfl) (HF288.ev rfl)) ?_
  intro a289 HF290; clear HF288
  refine gw_ev HF290 (want_none rfl) rfl (by decide) (op_move rfl (HF290.ev rfl)) ?_
  intro a291 HF292; clear HF290
  refine gw_ev HF292 (want_yes HF292 rfl rfl rfl rfl) rfl (by decide) (op_move rfl (HF292.ev rfl)) ?_
  intro a293 HF294; clear HF292
  refine gw_ev HF294 (want_yes HF294 rfl rfl rfl rfl) rfl (by decide) (op_eqi rfl (HF294.ev rfl) (ev_c _ _)) ?_
  intro a295 HF296; clear HF294
  have HF297 := HF296.lit (b := true) (by decide +kernel)
  clear HF296
  refine gw_ev HF297 (want_none rfl) rfl (by decide) (op_pick_t rfl (HF297.ev rfl) (HF297.ev rfl)) ?_
  intro a298 HF299; clear HF297
  refine gw_ev HF299 (want_none rfl) rfl (by decide) (op_move rfl (HF299.ev rfl)) ?_
  intro a300 HF301; clear HF299
  refine gw_ev HF301 (want_yes HF301 rfl rfl rfl rfl) rfl (by decide) (op_move rfl (HF301.ev rfl)) ?_
  intro a302 HF303; clear HF301
  refine gw_call HF303 (want_yes HF303 rfl rfl rfl rfl) rfl (by decide) (op_callL Try.func25 (by kernel_rfl) rfl rfl (ar_cons (HF303.ev rfl) ar_nil)) (GLine_.now_calls l23 A24 c25 ([(⟨2, [97]⟩ : S52), (⟨3, []⟩ : S52)]) 1 0 2 5 5 A217 c218 (([] : List Int) ++ [104, 105]) _ (HO228.get 10 rfl)) ?_
  rintro e304 w305 ⟨rfl, hb306⟩
  refine ⟨_, rfl, fun a307 HF308 => ?_⟩
  have HO309 := HO228.after hb306
  clear HF303 HO228 hb306
  refine gw_ev HF308 (want_yes HF308 rfl rfl rfl rfl) rfl (by decide) (op_eqi rfl (HF308.ev rfl) (ev_c _ _)) ?_
  intro a311 HF312; clear HF308
  have HF313 := HF312.lit (b := true) (by decide +kernel)
  clear HF312
  refine gw_ev HF313 (want_none rfl) rfl (by decide) (op_pick_t rfl (HF313.ev rfl) (HF313.ev rfl)) ?_
  intro a314 HF315; clear HF313
  refine gw_ev HF315 (want_none rfl) rfl (by decide) (op_move rfl (HF315.ev rfl)) ?_
  intro a316 HF317; clear HF315
  refine gw_ev HF317 (want_yes HF317 rfl rfl rfl rfl) rfl (by decide) (op_move rfl (HF317.ev rfl)) ?_
  intro a318 HF319; clear HF317
  refine gw_call HF319 (want_yes HF319 rfl rfl rfl rfl) rfl (by decide) (op_callL Try.func28 (by kernel_rfl) rfl rfl (ar_cons (HF319.ev rfl) ar_nil)) (GLine_.sent_calls l23 A24 c25 ([(⟨2, [97]⟩ : S52), (⟨3, []⟩ : S52)]) 1 0 2 5 5 A217 c218 (([] : List Int) ++ [104, 105]) _ (HO309.get 10 rfl) (Kd.R_reads' (HO309.get 11 rfl)).2.2 (row_cap (HO309.get 11 rfl)) (by decide +kernel)) ?_
  rintro e323 w324 ⟨A320, c321, S322, rfl, hb325⟩
  refine ⟨_, rfl, fun a326 HF327 => ?_⟩
  have HO328 := HO309.fresh hb325
  have hbel329 := HO309.below
  clear HF319 HO309 hb325
  have HO330 := HO328.lowrow 0 rfl (base' := w.heap.size) (Below.size hbel329)
  have HO331 : Own w w324 [Chunk.row (Kd.int .u8) 5 w.heap.size S322 (.slice A320 ((([] : List Int) ++ [104, 105]).length) c321) (([] : List Int) ++ [104, 105]), Chunk.blk g211 (.cells (nums .u8 [104, 105]).toArray 5 (([104, 105]).length, ([104, 105]).length + 1)), Chunk.blk g15 (.cells #[.int .i64 2, .slice (some ⟨g5, 0, none⟩) (([97]).length) (([97]).length), .int .i64 3, .slice none 0 0] 52 (0, 0)), Chunk.blk g5 (.cells (nums .u8 [97]).toArray 5 (([97]).length, ([97]).length + 1)), Chunk.row (Kd.int .u8) 5 w.heap.size S51 (.slice A49 (([] : List Int).length) c50) (([] : List Int)), Chunk.row (Kd.int .u8) 5 w.heap.size S76 (.slice A74 (([97] : List Int).length) c75) (([97] : List Int)), Chunk.row (Kd.int .u8) 5 w.heap.size S113 (.slice A111 (([] : List Int).length) c112) (([] : List Int)), Chunk.row (Kd.int .u8) 5 w.heap.size S138 (.slice A136 (([] : List Int).length) c137) (([] : List Int)), Chunk.row (Kd.int .u8) 5 w.heap.size S163 (.slice A161 (([] : List Int).length) c162) (([] : List Int)), Chunk.row (Kd.int .u8) 5 w.heap.size S188 (.slice A186 (([] : List Int).length) c187) (([] : List Int)), Chunk.view k52 S26 A24 (([(⟨2, [97]⟩ : S52), (⟨3, []⟩ : S52)]).length) c25 ([(⟨2, [97]⟩ : S52), (⟨3, []⟩ : S52)]), Chunk.blk l23 (.cells #[.slice A24 (([(⟨2, [97]⟩ : S52), (⟨3, []⟩ : S52)]).length) c25, .int .i64 1, .int .i64 0, .int .i64 2, .int .i64 5, .int .i64 5, .slice A217 ((([] : List Int) ++ [104, 105]).length) c218] 83 (0, 0)), Chunk.row (Kd.int .u8) 5 w.heap.size S219 (.slice A217 ((([] : List Int) ++ [104, 105]).length) c218) (([] : List Int) ++ [104, 105])] := HO330
  clear HO330
  refine gw_ev HF327 (want_yes HF327 rfl rfl rfl rfl) rfl (by decide) (op_conv_str Try.underlying26 Try.underlying5 Try.underlying9 (Kd.R_reads' (HO331.get 0 rfl)).2.2 rfl (HF327.ev rfl)) ?_
  intro a332 HF333; clear HF327
  refine gw_ev HF333 (want_yes HF333 rfl rfl rfl rfl) rfl (by decide) (op_eqs rfl (HF333.ev rfl) (ev_c _ _)) ?_
  intro a334 HF335; clear HF333
  have HF336 := HF335.lit (b := true) (by decide +kernel)
  clear HF335
  refine gw_ev HF336 (want_none rfl) rfl (by decide) (op_pick_t rfl (HF336.ev rfl) (HF336.ev rfl)) ?_
  intro a337 HF338; clear HF336
  refine gw_ev HF338 (want_none rfl) rfl (by decide) (op_move rfl (HF338.ev rfl)) ?_
  intro a339 HF340; clear HF338
  refine gw_ev HF340 (want_yes HF340 rfl rfl rfl rfl) rfl (by decide) (op_move rfl (HF340.ev rfl)) ?_
  intro a341 HF342; clear HF340
  refine gw_call HF342 (want_yes HF342 rfl rfl rfl rfl) rfl (by decide) (op_callL Try.func26 (by kernel_rfl) rfl rfl (ar_cons (HF342.ev rfl) ar_nil)) (GLine_.rest_calls l23 A24 c25 ([(⟨2, [97]⟩ : S52), (⟨3, []⟩ : S52)]) 1 0 2 5 5 A217 c218 (([] : List Int) ++ [104, 105]) _ (HO331.get 11 rfl) (by decide +kernel) (by decide +kernel) (by decide +kernel)) ?_
  rintro e343 w344 ⟨rfl, hb345⟩
  refine ⟨_, rfl, fun a346 HF347 => ?_⟩
  have HO348 := HO331.after hb345
  clear HF342 HO331 hb345
  refine gw_ev HF347 (want_yes HF347 rfl rfl rfl rfl) rfl (by decide) (op_eqi rfl (HF347.ev rfl) (ev_c _ _)) ?_
  intro a350 HF351; clear HF347
  have HF352 := HF351.lit (b := true) (by decide +kernel)
  clear HF351
  refine gw_ev HF352 (want_none rfl) rfl (by decide) (op_pick_t rfl (HF352.ev rfl) (HF352.ev rfl)) ?_
  intro a353 HF354; clear HF352
  refine gw_ev HF354 (want_none rfl) rfl (by decide) (op_assign rfl (HF354.ev rfl)) ?_
  intro a355 HF356; clear HF354
  refine wpList_nil ?_
  refine gw_nx (hK229 _ _ ?_)
  refine wp_ret ?_
  refine gw_ret1 HF356 rfl rfl ?_
  exact ⟨rfl, HO348.below⟩
end GLineAlive_
end Go.Proofs.Ytbnoedefkbnpjaa.PA
