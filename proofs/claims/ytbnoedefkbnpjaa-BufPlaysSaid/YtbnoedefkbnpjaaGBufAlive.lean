/- The document's example of the layer buf. Printed by a program of this session; Lean checks it. -/
import Derived.Test.YtbnoedefkbnpjaaHBufG
namespace Go.Proofs.Ytbnoedefkbnpjaa.PA
open Go.RowKit Go.Proofs.YtbnoedefkbnpjaaW.PrintWords Go.Proofs.YtbnoedefkbnpjaaW.PrintLast Go.Proofs.YtbnoedefkbnpjaaW.PrintMore
set_option linter.unusedVariables false
set_option linter.unusedSimpArgs false
namespace GBufAlive_

set_option maxHeartbeats 4000000 in
set_option maxRecDepth 100000 in
theorem alive_calls (w : World) :
    Calls Try.prog 12 #[] w fun e w' => e = .returned (.bool true) ∧ Below w.heap.size w w' := by
  refine gw_start (N := 56) (vs := []) Try.func12 rfl rfl (by simp) fun a HF HO => ?_
  replace HO : Own w w [] := HO
  refine gw_seq fun K1 hK1 => ?_
  refine wp_region_lit ?_
  refine gw_ev HF (want_none rfl) rfl (by decide) (op_assign rfl (ev_c _ _)) ?_
  intro a2 HF3; clear HF
  refine wpList_nil ?_
  refine gw_nx (hK1 _ _ ?_)
  refine gw_seq fun K4 hK4 => ?_
  refine wp_region_lit ?_
  refine gw_call HF3 (want_none rfl) rfl (by decide) (op_callL Try.func11 (by kernel_rfl) rfl rfl (ar_cons (ev_c _ _) ar_nil)) (buf_new0 w.heap.size 3 _ HO.below.size) ?_
  rintro e7 w8 ⟨g5, S6, rfl, hb9⟩
  refine ⟨_, rfl, fun a10 HF11 => ?_⟩
  have HO12 := HO.fresh hb9
  clear HF3 HO hb9
  have HO14 : Own w w8 [Chunk.buf w.heap.size g5 S6 (mn (mx 3 1) 2000) ([] : List Int) 0] := HO12
  clear HO12
  refine gw_ev HF11 (want_none rfl) rfl (by decide) (op_assign rfl (HF11.ev rfl)) ?_
  intro a15 HF16; clear HF11
  refine wpList_nil ?_
  refine gw_nx (hK4 _ _ ?_)
  refine gw_seq fun K17 hK17 => ?_
  refine gw_seq fun K18 hK18 => ?_
  refine wp_region_lit ?_
  refine gw_ev HF16 (want_none rfl) rfl (by decide) (op_move rfl (HF16.ev rfl)) ?_
  intro a19 HF20; clear HF16
  refine gw_ev HF20 (want_none rfl) rfl (by decide) (op_eqp_nil Try.underlying23 rfl (HF20.ev rfl)) ?_
  intro a21 HF22; clear HF20
  refine gw_ev HF22 (want_none rfl) rfl (by decide) (op_move rfl (HF22.ev rfl)) ?_
  intro a23 HF24; clear HF22
  refine gw_ev HF24 (want_yes HF24 rfl rfl rfl rfl) rfl (by decide) (op_move rfl (HF24.ev rfl)) ?_
  intro a25 HF26; clear HF24
  refine gw_bytes (xs := [97, 98]) Try.underlying26 Try.underlying5 HF26 HO14 (want_yes HF26 rfl rfl rfl rfl) rfl (by decide) (op_bslice (by kernel_rfl) rfl (pt_cons (ev_c _ _) (pt_cons (ev_c _ _) pt_nil))) (fun a_ HF_ => (want_yes HF_ rfl rfl rfl rfl)) rfl (by decide) rfl ?_
  intro g27 a28 w29 HF30 HO31; clear HF26 HO14
  have HO32 : Own w w29 [Chunk.blk g27 (.cells (nums .u8 [97, 98]).toArray 5 (([97, 98]).length, ([97, 98]).length + 1)), Chunk.buf w.heap.size g5 S6 (mn (mx 3 1) 2000) ([] : List Int) 0] := HO31
  clear HO31
  refine gw_call HF30 (want_yes HF30 rfl rfl rfl rfl) rfl (by decide) (op_callL Try.func14 (by kernel_rfl) rfl rfl (ar_cons (HF30.ev rfl) (ar_cons (HF30.ev rfl) ar_nil))) (buf_put w.heap.size g5 S6 (mn (mx 3 1) 2000) ([] : List Int) 0 (some ⟨g27, 0, none⟩) (([97, 98]).length) ([97, 98]) _ (HO32.get 1 rfl) (fun k hk => (HO32.lt 1 rfl hk).2) HO32.below.size (blkC (HO32.get 0 rfl) (by simp)) (Nat.le_refl _) (fun _ ad e hk => HO32.apart_at 0 1 (by decide) rfl rfl _ (by cases e; rfl) hk) (by simp [mn, mx, putL, ovN]) (by simp [mn, mx, putL, ovN]) (by simp [mn, mx, putL, ovN]) (by simp [mn, mx, putL, ovN])) ?_
  rintro e34 w35 ⟨S33, rfl, hb36⟩
  refine ⟨_, rfl, fun a37 HF38 => ?_⟩
  have HO39 := HO32.calls 1 rfl hb36
  clear HF30 HO32 hb36
  have HO41 : Own w w35 [Chunk.blk g27 (.cells (nums .u8 [97, 98]).toArray 5 (([97, 98]).length, ([97, 98]).length + 1)), Chunk.buf w.heap.size g5 S33 (mn (mx 3 1) 2000) (putL (mn (mx 3 1) 2000) ([] : List Int) ([97, 98])) (0 + (ovN (mn (mx 3 1) 2000) ([] : List Int).length ([97, 98]).length : Int))] := HO39
  clear HO39
  refine gw_ev HF38 (want_yes HF38 rfl rfl rfl rfl) rfl (by decide) (op_nei rfl (HF38.ev rfl) (ev_c _ _)) ?_
  intro a42 HF43; clear HF38
  have HF44 := HF43.lit (b := false) (by decide +kernel)
  clear HF43
  refine gw_ev HF44 (want_none rfl) rfl (by decide) (op_pick_f rfl (HF44.ev rfl) (HF44.ev rfl)) ?_
  intro a45 HF46; clear HF44
  refine gw_ev HF46 (want_none rfl) rfl (by decide) (op_move rfl (HF46.ev rfl)) ?_
  intro a47 HF48; clear HF46
  refine gw_ev HF48 (want_yes HF48 rfl rfl rfl rfl) rfl (by decide) (op_move rfl (HF48.ev rfl)) ?_
  intro a49 HF50; clear HF48
  refine gw_bytes (xs := [99, 100]) Try.underlying26 Try.underlying5 HF50 HO41 (want_yes HF50 rfl rfl rfl rfl) rfl (by decide) (op_bslice (by kernel_rfl) rfl (pt_cons (ev_c _ _) (pt_cons (ev_c _ _) pt_nil))) (fun a_ HF_ => (want_yes HF_ rfl rfl rfl rfl)) rfl (by decide) rfl ?_
  intro g51 a52 w53 HF54 HO55; clear HF50 HO41
  have HO56 : Own w w53 [Chunk.blk g51 (.cells (nums .u8 [99, 100]).toArray 5 (([99, 100]).length, ([99, 100]).length + 1)), Chunk.blk g27 (.cells (nums .u8 [97, 98]).toArray 5 (([97, 98]).length, ([97, 98]).length + 1)), Chunk.buf w.heap.size g5 S33 (mn (mx 3 1) 2000) (putL (mn (mx 3 1) 2000) ([] : List Int) ([97, 98])) (0 + (ovN (mn (mx 3 1) 2000) ([] : List Int).length ([97, 98]).length : Int))] := HO55
  clear HO55
  refine gw_call HF54 (want_yes HF54 rfl rfl rfl rfl) rfl (by decide) (op_callL Try.func14 (by kernel_rfl) rfl rfl (ar_cons (HF54.ev rfl) (ar_cons (HF54.ev rfl) ar_nil))) (buf_put w.heap.size g5 S33 (mn (mx 3 1) 2000) (putL (mn (mx 3 1) 2000) ([] : List Int) ([97, 98])) (0 + (ovN (mn (mx 3 1) 2000) ([] : List Int).length ([97, 98]).length : Int)) (some ⟨g51, 0, none⟩) (([99, 100]).length) ([99, 100]) _ (HO56.get 2 rfl) (fun k hk => (HO56.lt 2 rfl hk).2) HO56.below.size (blkC (HO56.get 0 rfl) (by simp)) (Nat.le_refl _) (fun _ ad e hk => HO56.apart_at 0 2 (by decide) rfl rfl _ (by cases e; rfl) hk) (by simp [mn, mx, putL, ovN]) (by simp [mn, mx, putL, ovN]) (by simp [mn, mx, putL, ovN]) (by simp [mn, mx, putL, ovN])) ?_
  rintro e58 w59 ⟨S57, rfl, hb60⟩
  refine ⟨_, rfl, fun a61 HF62 => ?_⟩
  have HO63 := HO56.calls 2 rfl hb60
  clear HF54 HO56 hb60
  have HO65 : Own w w59 [Chunk.blk g51 (.cells (nums .u8 [99, 100]).toArray 5 (([99, 100]).length, ([99, 100]).length + 1)), Chunk.blk g27 (.cells (nums .u8 [97, 98]).toArray 5 (([97, 98]).length, ([97, 98]).length + 1)), Chunk.buf w.heap.size g5 S57 (mn (mx 3 1) 2000) (putL (mn (mx 3 1) 2000) (putL (mn (mx 3 1) 2000) ([] : List Int) ([97, 98])) ([99, 100])) (0 + (ovN (mn (mx 3 1) 2000) ([] : List Int).length ([97, 98]).length : Int) + (ovN (mn (mx 3 1) 2000) (putL (mn (mx 3 1) 2000) ([] : List Int) ([97, 98])).length ([99, 100]).length : Int))] := HO63
  clear HO63
  refine gw_ev HF62 (want_yes HF62 rfl rfl rfl rfl) rfl (by decide) (op_nei rfl (HF62.ev rfl) (ev_c _ _)) ?_
  intro a66 HF67; clear HF62
  have HF68 := HF67.lit (b := false) (by decide +kernel)
  clear HF67
  refine gw_ev HF68 (want_none rfl) rfl (by decide) (op_pick_f rfl (HF68.ev rfl) (HF68.ev rfl)) ?_
  intro a69 HF70; clear HF68
  refine gw_ev HF70 (want_none rfl) rfl (by decide) (op_move rfl (HF70.ev rfl)) ?_
  intro a71 HF72; clear HF70
  refine gw_ev HF72 (want_yes HF72 rfl rfl rfl rfl) rfl (by decide) (op_move rfl (HF72.ev rfl)) ?_
  intro a73 HF74; clear HF72
  refine gw_call HF74 (want_yes HF74 rfl rfl rfl rfl) rfl (by decide) (op_callL Try.func20 (by kernel_rfl) rfl rfl (ar_cons (HF74.ev rfl) ar_nil)) (buf_full0 w.heap.size g5 S57 (mn (mx 3 1) 2000) (putL (mn (mx 3 1) 2000) (putL (mn (mx 3 1) 2000) ([] : List Int) ([97, 98])) ([99, 100])) (0 + (ovN (mn (mx 3 1) 2000) ([] : List Int).length ([97, 98]).length : Int) + (ovN (mn (mx 3 1) 2000) (putL (mn (mx 3 1) 2000) ([] : List Int) ([97, 98])).length ([99, 100]).length : Int)) _ (HO65.get 2 rfl)) ?_
  rintro e75 w76 ⟨rfl, hb77⟩
  refine ⟨_, rfl, fun a78 HF79 => ?_⟩
  have HO80 := HO65.after hb77
  clear HF74 HO65 hb77
  refine gw_ev HF79 (want_yes HF79 rfl rfl rfl rfl) rfl (by decide) (op_not rfl (HF79.ev rfl)) ?_
  intro a82 HF83; clear HF79
  have HF84 := HF83.lit (b := false) (by decide +kernel)
  clear HF83
  refine gw_ev HF84 (want_none rfl) rfl (by decide) (op_pick_f rfl (HF84.ev rfl) (HF84.ev rfl)) ?_
  intro a85 HF86; clear HF84
  refine gw_ev HF86 (want_none rfl) rfl (by decide) (op_move rfl (HF86.ev rfl)) ?_
  intro a87 HF88; clear HF86
  refine gw_ev HF88 (want_yes HF88 rfl rfl rfl rfl) rfl (by decide) (op_move rfl (HF88.ev rfl)) ?_
  intro a89 HF90; clear HF88
  refine gw_call HF90 (want_yes HF90 rfl rfl rfl rfl) rfl (by decide) (op_callL Try.func19 (by kernel_rfl) rfl rfl (ar_cons (HF90.ev rfl) ar_nil)) (buf_bytes0 w.heap.size g5 S57 (mn (mx 3 1) 2000) (putL (mn (mx 3 1) 2000) (putL (mn (mx 3 1) 2000) ([] : List Int) ([97, 98])) ([99, 100])) (0 + (ovN (mn (mx 3 1) 2000) ([] : List Int).length ([97, 98]).length : Int) + (ovN (mn (mx 3 1) 2000) (putL (mn (mx 3 1) 2000) ([] : List Int) ([97, 98])).length ([99, 100]).length : Int)) _ (HO80.get 2 rfl) (by simp [mn, mx, putL, ovN])) ?_
  rintro e94 w95 ⟨A91, c92, S93, rfl, hb96⟩
  refine ⟨_, rfl, fun a97 HF98 => ?_⟩
  have HO99 := HO80.fresh hb96
  have hbel100 := HO80.below
  clear HF90 HO80 hb96
  have HO101 := HO99.lowrow 0 rfl (base' := w.heap.size) (Below.size hbel100)
  have HO102 : Own w w95 [Chunk.row (Kd.int .u8) 5 w.heap.size S93 (.slice A91 ((putL (mn (mx 3 1) 2000) (putL (mn (mx 3 1) 2000) ([] : List Int) ([97, 98])) ([99, 100])).length) c92) (putL (mn (mx 3 1) 2000) (putL (mn (mx 3 1) 2000) ([] : List Int) ([97, 98])) ([99, 100])), Chunk.blk g51 (.cells (nums .u8 [99, 100]).toArray 5 (([99, 100]).length, ([99, 100]).length + 1)), Chunk.blk g27 (.cells (nums .u8 [97, 98]).toArray 5 (([97, 98]).length, ([97, 98]).length + 1)), Chunk.buf w.heap.size g5 S57 (mn (mx 3 1) 2000) (putL (mn (mx 3 1) 2000) (putL (mn (mx 3 1) 2000) ([] : List Int) ([97, 98])) ([99, 100])) (0 + (ovN (mn (mx 3 1) 2000) ([] : List Int).length ([97, 98]).length : Int) + (ovN (mn (mx 3 1) 2000) (putL (mn (mx 3 1) 2000) ([] : List Int) ([97, 98])).length ([99, 100]).length : Int))] := HO101
  clear HO101
  refine gw_ev HF98 (want_yes HF98 rfl rfl rfl rfl) rfl (by decide) (op_conv_str Try.underlying26 Try.underlying5 Try.underlying9 (Kd.R_reads' (HO102.get 0 rfl)).2.2 rfl (HF98.ev rfl)) ?_
  intro a103 HF104; clear HF98
  refine gw_ev HF104 (want_yes HF104 rfl rfl rfl rfl) rfl (by decide) (op_nes rfl (HF104.ev rfl) (ev_c _ _)) ?_
  intro a105 HF106; clear HF104
  have HF107 := HF106.lit (b := false) (by decide +kernel)
  clear HF106
  refine gw_ev HF107 (want_none rfl) rfl (by decide) (op_pick_f rfl (HF107.ev rfl) (HF107.ev rfl)) ?_
  intro a108 HF109; clear HF107
  refine gw_ev HF109 (want_none rfl) rfl (by decide) (op_move rfl (HF109.ev rfl)) ?_
  intro a110 HF111; clear HF109
  refine gw_ev HF111 (want_yes HF111 rfl rfl rfl rfl) rfl (by decide) (op_move rfl (HF111.ev rfl)) ?_
  intro a112 HF113; clear HF111
  refine gw_call HF113 (want_yes HF113 rfl rfl rfl rfl) rfl (by decide) (op_callL Try.func16 (by kernel_rfl) rfl rfl (ar_cons (HF113.ev rfl) (ar_cons (ev_c _ _) ar_nil))) (buf_take0 w.heap.size g5 S57 (mn (mx 3 1) 2000) (putL (mn (mx 3 1) 2000) (putL (mn (mx 3 1) 2000) ([] : List Int) ([97, 98])) ([99, 100])) (0 + (ovN (mn (mx 3 1) 2000) ([] : List Int).length ([97, 98]).length : Int) + (ovN (mn (mx 3 1) 2000) (putL (mn (mx 3 1) 2000) ([] : List Int) ([97, 98])).length ([99, 100]).length : Int)) 2 _ (HO102.get 3 rfl) (by simp [mn, mx, putL, ovN]) (fun k hk => (HO102.lt 3 rfl hk).2)) ?_
  rintro e118 w119 ⟨A114, c115, S117, rfl, hb120⟩
  refine ⟨_, rfl, fun a121 HF122 => ?_⟩
  have HO123 := HO102.calls 3 rfl hb120
  have hbel124 := HO102.below
  clear HF113 HO102 hb120
  have HO125 := HO123.lowrow 0 rfl (base' := w.heap.size) (Below.size hbel124)
  have HO126 : Own w w119 [Chunk.row (Kd.int .u8) 5 w.heap.size S117 (.slice A114 (((putL (mn (mx 3 1) 2000) (putL (mn (mx 3 1) 2000) ([] : List Int) ([97, 98])) ([99, 100])).take (mn (mx 2 0) (putL (mn (mx 3 1) 2000) (putL (mn (mx 3 1) 2000) ([] : List Int) ([97, 98])) ([99, 100])).length).toNat).length) c115) ((putL (mn (mx 3 1) 2000) (putL (mn (mx 3 1) 2000) ([] : List Int) ([97, 98])) ([99, 100])).take (mn (mx 2 0) (putL (mn (mx 3 1) 2000) (putL (mn (mx 3 1) 2000) ([] : List Int) ([97, 98])) ([99, 100])).length).toNat), Chunk.row (Kd.int .u8) 5 w.heap.size S93 (.slice A91 ((putL (mn (mx 3 1) 2000) (putL (mn (mx 3 1) 2000) ([] : List Int) ([97, 98])) ([99, 100])).length) c92) (putL (mn (mx 3 1) 2000) (putL (mn (mx 3 1) 2000) ([] : List Int) ([97, 98])) ([99, 100])), Chunk.blk g51 (.cells (nums .u8 [99, 100]).toArray 5 (([99, 100]).length, ([99, 100]).length + 1)), Chunk.blk g27 (.cells (nums .u8 [97, 98]).toArray 5 (([97, 98]).length, ([97, 98]).length + 1)), Chunk.buf w.heap.size g5 S57 (mn (mx 3 1) 2000) ((putL (mn (mx 3 1) 2000) (putL (mn (mx 3 1) 2000) ([] : List Int) ([97, 98])) ([99, 100])).drop (mn (mx 2 0) (putL (mn (mx 3 1) 2000) (putL (mn (mx 3 1) 2000) ([] : List Int) ([97, 98])) ([99, 100])).length).toNat) (0 + (ovN (mn (mx 3 1) 2000) ([] : List Int).length ([97, 98]).length : Int) + (ovN (mn (mx 3 1) 2000) (putL (mn (mx 3 1) 2000) ([] : List Int) ([97, 98])).length ([99, 100]).length : Int))] := HO125
  clear HO125
  refine gw_ev HF122 (want_yes HF122 rfl rfl rfl rfl) rfl (by decide) (op_conv_str Try.underlying26 Try.underlying5 Try.underlying9 (Kd.R_reads' (HO126.get 0 rfl)).2.2 rfl (HF122.ev rfl)) ?_
  intro a127 HF128; clear HF122
  refine gw_ev HF128 (want_yes HF128 rfl rfl rfl rfl) rfl (by decide) (op_nes rfl (HF128.ev rfl) (ev_c _ _)) ?_
  intro a129 HF130; clear HF128
  have HF131 := HF130.lit (b := false) (by decide +kernel)
  clear HF130
  refine gw_ev HF131 (want_none rfl) rfl (by decide) (op_pick_f rfl (HF131.ev rfl) (HF131.ev rfl)) ?_
  intro a132 HF133; clear HF131
  refine gw_ev HF133 (want_none rfl) rfl (by decide) (op_move rfl (HF133.ev rfl)) ?_
  intro a134 HF135; clear HF133
  refine gw_ev HF135 (want_yes HF135 rfl rfl rfl rfl) rfl (by decide) (op_move rfl (HF135.ev rfl)) ?_
  intro a136 HF137; clear HF135
  refine gw_call HF137 (want_yes HF137 rfl rfl rfl rfl) rfl (by decide) (op_callL Try.func20 (by kernel_rfl) rfl rfl (ar_cons (HF137.ev rfl) ar_nil)) (buf_full0 w.heap.size g5 S57 (mn (mx 3 1) 2000) ((putL (mn (mx 3 1) 2000) (putL (mn (mx 3 1) 2000) ([] : List Int) ([97, 98])) ([99, 100])).drop (mn (mx 2 0) (putL (mn (mx 3 1) 2000) (putL (mn (mx 3 1) 2000) ([] : List Int) ([97, 98])) ([99, 100])).length).toNat) (0 + (ovN (mn (mx 3 1) 2000) ([] : List Int).length ([97, 98]).length : Int) + (ovN (mn (mx 3 1) 2000) (putL (mn (mx 3 1) 2000) ([] : List Int) ([97, 98])).length ([99, 100]).length : Int)) _ (HO126.get 4 rfl)) ?_
  rintro e138 w139 ⟨rfl, hb140⟩
  refine ⟨_, rfl, fun a141 HF142 => ?_⟩
  have HO143 := HO126.after hb140
  clear HF137 HO126 hb140
  have HF145 := HF142.lit (b := false) (by decide +kernel)
  clear HF142
  refine gw_ev HF145 (want_none rfl) rfl (by decide) (op_pick_f rfl (HF145.ev rfl) (HF145.ev rfl)) ?_
  intro a146 HF147; clear HF145
  refine wpList_nil ?_
  refine gw_nx (hK18 _ _ ?_)
  refine gw_cond HF147 rfl (fun hb148 => ?_) (fun hb148 => ?_)
  skip
  · cases hb148
  refine wp_skip ?_
  refine gw_nx (hK17 _ _ ?_)
  refine gw_seq fun K149 hK149 => ?_
  refine wp_region_lit ?_
  refine gw_ev HF147 (want_none rfl) rfl (by decide) (op_move rfl (HF147.ev rfl)) ?_
  intro a150 HF151; clear HF147
  refine gw_bytes (xs := [119, 120, 121, 122]) Try.underlying26 Try.underlying5 HF151 HO143 (want_none rfl) rfl (by decide) (op_bslice (by kernel_rfl) rfl (pt_cons (ev_c _ _) (pt_cons (ev_c _ _) (pt_cons (ev_c _ _) (pt_cons (ev_c _ _) pt_nil))))) (fun a_ HF_ => (want_none rfl)) rfl (by decide) rfl ?_
  intro g152 a153 w154 HF155 HO156; clear HF151 HO143
  have HO157 : Own w w154 [Chunk.blk g152 (.cells (nums .u8 [119, 120, 121, 122]).toArray 5 (([119, 120, 121, 122]).length, ([119, 120, 121, 122]).length + 1)), Chunk.row (Kd.int .u8) 5 w.heap.size S117 (.slice A114 (((putL (mn (mx 3 1) 2000) (putL (mn (mx 3 1) 2000) ([] : List Int) ([97, 98])) ([99, 100])).take (mn (mx 2 0) (putL (mn (mx 3 1) 2000) (putL (mn (mx 3 1) 2000) ([] : List Int) ([97, 98])) ([99, 100])).length).toNat).length) c115) ((putL (mn (mx 3 1) 2000) (putL (mn (mx 3 1) 2000) ([] : List Int) ([97, 98])) ([99, 100])).take (mn (mx 2 0) (putL (mn (mx 3 1) 2000) (putL (mn (mx 3 1) 2000) ([] : List Int) ([97, 98])) ([99, 100])).length).toNat), Chunk.row (Kd.int .u8) 5 w.heap.size S93 (.slice A91 ((putL (mn (mx 3 1) 2000) (putL (mn (mx 3 1) 2000) ([] : List Int) ([97, 98])) ([99, 100])).length) c92) (putL (mn (mx 3 1) 2000) (putL (mn (mx 3 1) 2000) ([] : List Int) ([97, 98])) ([99, 100])), Chunk.blk g51 (.cells (nums .u8 [99, 100]).toArray 5 (([99, 100]).length, ([99, 100]).length + 1)), Chunk.blk g27 (.cells (nums .u8 [97, 98]).toArray 5 (([97, 98]).length, ([97, 98]).length + 1)), Chunk.buf w.heap.size g5 S57 (mn (mx 3 1) 2000) ((putL (mn (mx 3 1) 2000) (putL (mn (mx 3 1) 2000) ([] : List Int) ([97, 98])) ([99, 100])).drop (mn (mx 2 0) (putL (mn (mx 3 1) 2000) (putL (mn (mx 3 1) 2000) ([] : List Int) ([97, 98])) ([99, 100])).length).toNat) (0 + (ovN (mn (mx 3 1) 2000) ([] : List Int).length ([97, 98]).length : Int) + (ovN (mn (mx 3 1) 2000) (putL (mn (mx 3 1) 2000) ([] : List Int) ([97, 98])).length ([99, 100]).length : Int))] := HO156
  clear HO156
  refine gw_call HF155 (want_none rfl) rfl (by decide) (op_callL Try.func14 (by kernel_rfl) rfl rfl (ar_cons (HF155.ev rfl) (ar_cons (HF155.ev rfl) ar_nil))) (buf_put w.heap.size g5 S57 (mn (mx 3 1) 2000) ((putL (mn (mx 3 1) 2000) (putL (mn (mx 3 1) 2000) ([] : List Int) ([97, 98])) ([99, 100])).drop (mn (mx 2 0) (putL (mn (mx 3 1) 2000) (putL (mn (mx 3 1) 2000) ([] : List Int) ([97, 98])) ([99, 100])).length).toNat) (0 + (ovN (mn (mx 3 1) 2000) ([] : List Int).length ([97, 98]).length : Int) + (ovN (mn (mx 3 1) 2000) (putL (mn (mx 3 1) 2000) ([] : List Int) ([97, 98])).length ([99, 100]).length : Int)) (some ⟨g152, 0, none⟩) (([119, 120, 121, 122]).length) ([119, 120, 121, 122]) _ (HO157.get 5 rfl) (fun k hk => (HO157.lt 5 rfl hk).2) HO157.below.size (blkC (HO157.get 0 rfl) (by simp)) (Nat.le_refl _) (fun _ ad e hk => HO157.apart_at 0 5 (by decide) rfl rfl _ (by cases e; rfl) hk) (by simp [mn, mx, putL, ovN]) (by simp [mn, mx, putL, ovN]) (by simp [mn, mx, putL, ovN]) (by simp [mn, mx, putL, ovN])) ?_
  rintro e159 w160 ⟨S158, rfl, hb161⟩
  refine ⟨_, rfl, fun a162 HF163 => ?_⟩
  have HO164 := HO157.calls 5 rfl hb161
  clear HF155 HO157 hb161
  have HO166 : Own w w160 [Chunk.blk g152 (.cells (nums .u8 [119, 120, 121, 122]).toArray 5 (([119, 120, 121, 122]).length, ([119, 120, 121, 122]).length + 1)), Chunk.row (Kd.int .u8) 5 w.heap.size S117 (.slice A114 (((putL (mn (mx 3 1) 2000) (putL (mn (mx 3 1) 2000) ([] : List Int) ([97, 98])) ([99, 100])).take (mn (mx 2 0) (putL (mn (mx 3 1) 2000) (putL (mn (mx 3 1) 2000) ([] : List Int) ([97, 98])) ([99, 100])).length).toNat).length) c115) ((putL (mn (mx 3 1) 2000) (putL (mn (mx 3 1) 2000) ([] : List Int) ([97, 98])) ([99, 100])).take (mn (mx 2 0) (putL (mn (mx 3 1) 2000) (putL (mn (mx 3 1) 2000) ([] : List Int) ([97, 98])) ([99, 100])).length).toNat), Chunk.row (Kd.int .u8) 5 w.heap.size S93 (.slice A91 ((putL (mn (mx 3 1) 2000) (putL (mn (mx 3 1) 2000) ([] : List Int) ([97, 98])) ([99, 100])).length) c92) (putL (mn (mx 3 1) 2000) (putL (mn (mx 3 1) 2000) ([] : List Int) ([97, 98])) ([99, 100])), Chunk.blk g51 (.cells (nums .u8 [99, 100]).toArray 5 (([99, 100]).length, ([99, 100]).length + 1)), Chunk.blk g27 (.cells (nums .u8 [97, 98]).toArray 5 (([97, 98]).length, ([97, 98]).length + 1)), Chunk.buf w.heap.size g5 S158 (mn (mx 3 1) 2000) (putL (mn (mx 3 1) 2000) ((putL (mn (mx 3 1) 2000) (putL (mn (mx 3 1) 2000) ([] : List Int) ([97, 98])) ([99, 100])).drop (mn (mx 2 0) (putL (mn (mx 3 1) 2000) (putL (mn (mx 3 1) 2000) ([] : List Int) ([97, 98])) ([99, 100])).length).toNat) ([119, 120, 121, 122])) (0 + (ovN (mn (mx 3 1) 2000) ([] : List Int).length ([97, 98]).length : Int) + (ovN (mn (mx 3 1) 2000) (putL (mn (mx 3 1) 2000) ([] : List Int) ([97, 98])).length ([99, 100]).length : Int) + (ovN (mn (mx 3 1) 2000) ((putL (mn (mx 3 1) 2000) (putL (mn (mx 3 1) 2000) ([] : List Int) ([97, 98])) ([99, 100])).drop (mn (mx 2 0) (putL (mn (mx 3 1) 2000) (putL (mn (mx 3 1) 2000) ([] : List Int) ([97, 98])) ([99, 100])).length).toNat).length ([119, 120, 121, 122]).length : Int))] := HO164
  clear HO164
  refine gw_ev HF163 (want_none rfl) rfl (by decide) (op_eqi rfl (HF163.ev rfl) (ev_c _ _)) ?_
  intro a167 HF168; clear HF163
  have HF169 := HF168.lit (b := true) (by decide +kernel)
  clear HF168
  refine gw_ev HF169 (want_none rfl) rfl (by decide) (op_move rfl (HF169.ev rfl)) ?_
  intro a170 HF171; clear HF169
  refine gw_ev HF171 (want_yes HF171 rfl rfl rfl rfl) rfl (by decide) (op_move rfl (HF171.ev rfl)) ?_
  intro a172 HF173; clear HF171
  refine gw_call HF173 (want_yes HF173 rfl rfl rfl rfl) rfl (by decide) (op_callL Try.func19 (by kernel_rfl) rfl rfl (ar_cons (HF173.ev rfl) ar_nil)) (buf_bytes0 w.heap.size g5 S158 (mn (mx 3 1) 2000) (putL (mn (mx 3 1) 2000) ((putL (mn (mx 3 1) 2000) (putL (mn (mx 3 1) 2000) ([] : List Int) ([97, 98])) ([99, 100])).drop (mn (mx 2 0) (putL (mn (mx 3 1) 2000) (putL (mn (mx 3 1) 2000) ([] : List Int) ([97, 98])) ([99, 100])).length).toNat) ([119, 120, 121, 122])) (0 + (ovN (mn (mx 3 1) 2000) ([] : List Int).length ([97, 98]).length : Int) + (ovN (mn (mx 3 1) 2000) (putL (mn (mx 3 1) 2000) ([] : List Int) ([97, 98])).length ([99, 100]).length : Int) + (ovN (mn (mx 3 1) 2000) ((putL (mn (mx 3 1) 2000) (putL (mn (mx 3 1) 2000) ([] : List Int) ([97, 98])) ([99, 100])).drop (mn (mx 2 0) (putL (mn (mx 3 1) 2000) (putL (mn (mx 3 1) 2000) ([] : List Int) ([97, 98])) ([99, 100])).length).toNat).length ([119, 120, 121, 122]).length : Int)) _ (HO166.get 5 rfl) (by simp [mn, mx, putL, ovN])) ?_
  rintro e177 w178 ⟨A174, c175, S176, rfl, hb179⟩
  refine ⟨_, rfl, fun a180 HF181 => ?_⟩
  have HO182 := HO166.fresh hb179
  have hbel183 := HO166.below
  clear HF173 HO166 hb179
  have HO184 := HO182.lowrow 0 rfl (base' := w.heap.size) (Below.size hbel183)
  have HO185 : Own w w178 [Chunk.row (Kd.int .u8) 5 w.heap.size S176 (.slice A174 ((putL (mn (mx 3 1) 2000) ((putL (mn (mx 3 1) 2000) (putL (mn (mx 3 1) 2000) ([] : List Int) ([97, 98])) ([99, 100])).drop (mn (mx 2 0) (putL (mn (mx 3 1) 2000) (putL (mn (mx 3 1) 2000) ([] : List Int) ([97, 98])) ([99, 100])).length).toNat) ([119, 120, 121, 122])).length) c175) (putL (mn (mx 3 1) 2000) ((putL (mn (mx 3 1) 2000) (putL (mn (mx 3 1) 2000) ([] : List Int) ([97, 98])) ([99, 100])).drop (mn (mx 2 0) (putL (mn (mx 3 1) 2000) (putL (mn (mx 3 1) 2000) ([] : List Int) ([97, 98])) ([99, 100])).length).toNat) ([119, 120, 121, 122])), Chunk.blk g152 (.cells (nums .u8 [119, 120, 121, 122]).toArray 5 (([119, 120, 121, 122]).length, ([119, 120, 121, 122]).length + 1)), Chunk.row (Kd.int .u8) 5 w.heap.size S117 (.slice A114 (((putL (mn (mx 3 1) 2000) (putL (mn (mx 3 1) 2000) ([] : List Int) ([97, 98])) ([99, 100])).take (mn (mx 2 0) (putL (mn (mx 3 1) 2000) (putL (mn (mx 3 1) 2000) ([] : List Int) ([97, 98])) ([99, 100])).length).toNat).length) c115) ((putL (mn (mx 3 1) 2000) (putL (mn (mx 3 1) 2000) ([] : List Int) ([97, 98])) ([99, 100])).take (mn (mx 2 0) (putL (mn (mx 3 1) 2000) (putL (mn (mx 3 1) 2000) ([] : List Int) ([97, 98])) ([99, 100])).length).toNat), Chunk.row (Kd.int .u8) 5 w.heap.size S93 (.slice A91 ((putL (mn (mx 3 1) 2000) (putL (mn (mx 3 1) 2000) ([] : List Int) ([97, 98])) ([99, 100])).length) c92) (putL (mn (mx 3 1) 2000) (putL (mn (mx 3 1) 2000) ([] : List Int) ([97, 98])) ([99, 100])), Chunk.blk g51 (.cells (nums .u8 [99, 100]).toArray 5 (([99, 100]).length, ([99, 100]).length + 1)), Chunk.blk g27 (.cells (nums .u8 [97, 98]).toArray 5 (([97, 98]).length, ([97, 98]).length + 1)), Chunk.buf w.heap.size g5 S158 (mn (mx 3 1) 2000) (putL (mn (mx 3 1) 2000) ((putL (mn (mx 3 1) 2000) (putL (mn (mx 3 1) 2000) ([] : List Int) ([97, 98])) ([99, 100])).drop (mn (mx 2 0) (putL (mn (mx 3 1) 2000) (putL (mn (mx 3 1) 2000) ([] : List Int) ([97, 98])) ([99, 100])).length).toNat) ([119, 120, 121, 122])) (0 + (ovN (mn (mx 3 1) 2000) ([] : List Int).length ([97, 98]).length : Int) + (ovN (mn (mx 3 1) 2000) (putL (mn (mx 3 1) 2000) ([] : List Int) ([97, 98])).length ([99, 100]).length : Int) + (ovN (mn (mx 3 1) 2000) ((putL (mn (mx 3 1) 2000) (putL (mn (mx 3 1) 2000) ([] : List Int) ([97, 98])) ([99, 100])).drop (mn (mx 2 0) (putL (mn (mx 3 1) 2000) (putL (mn (mx 3 1) 2000) ([] : List Int) ([97, 98])) ([99, 100])).length).toNat).length ([119, 120, 121, 122]).length : Int))] := HO184
  clear HO184
  refine gw_ev HF181 (want_yes HF181 rfl rfl rfl rfl) rfl (by decide) (op_conv_str Try.underlying26 Try.underlying5 Try.underlying9 (Kd.R_reads' (HO185.get 0 rfl)).2.2 rfl (HF181.ev rfl)) ?_
  intro a186 HF187; clear HF181
  refine gw_ev HF187 (want_yes HF187 rfl rfl rfl rfl) rfl (by decide) (op_eqs rfl (HF187.ev rfl) (ev_c _ _)) ?_
  intro a188 HF189; clear HF187
  have HF190 := HF189.lit (b := true) (by decide +kernel)
  clear HF189
  refine gw_ev HF190 (want_none rfl) rfl (by decide) (op_pick_t rfl (HF190.ev rfl) (HF190.ev rfl)) ?_
  intro a191 HF192; clear HF190
  refine gw_ev HF192 (want_none rfl) rfl (by decide) (op_move rfl (HF192.ev rfl)) ?_
  intro a193 HF194; clear HF192
  refine gw_ev HF194 (want_yes HF194 rfl rfl rfl rfl) rfl (by decide) (op_move rfl (HF194.ev rfl)) ?_
  intro a195 HF196; clear HF194
  refine gw_call HF196 (want_yes HF196 rfl rfl rfl rfl) rfl (by decide) (op_callL Try.func21 (by kernel_rfl) rfl rfl (ar_cons (HF196.ev rfl) ar_nil)) (buf_gone w.heap.size g5 S158 (mn (mx 3 1) 2000) (putL (mn (mx 3 1) 2000) ((putL (mn (mx 3 1) 2000) (putL (mn (mx 3 1) 2000) ([] : List Int) ([97, 98])) ([99, 100])).drop (mn (mx 2 0) (putL (mn (mx 3 1) 2000) (putL (mn (mx 3 1) 2000) ([] : List Int) ([97, 98])) ([99, 100])).length).toNat) ([119, 120, 121, 122])) (0 + (ovN (mn (mx 3 1) 2000) ([] : List Int).length ([97, 98]).length : Int) + (ovN (mn (mx 3 1) 2000) (putL (mn (mx 3 1) 2000) ([] : List Int) ([97, 98])).length ([99, 100]).length : Int) + (ovN (mn (mx 3 1) 2000) ((putL (mn (mx 3 1) 2000) (putL (mn (mx 3 1) 2000) ([] : List Int) ([97, 98])) ([99, 100])).drop (mn (mx 2 0) (putL (mn (mx 3 1) 2000) (putL (mn (mx 3 1) 2000) ([] : List Int) ([97, 98])) ([99, 100])).length).toNat).length ([119, 120, 121, 122]).length : Int)) _ (HO185.get 6 rfl)) ?_
  rintro e197 w198 ⟨rfl, hb199⟩
  refine ⟨_, rfl, fun a200 HF201 => ?_⟩
  have HO202 := HO185.after hb199
  clear HF196 HO185 hb199
  refine gw_ev HF201 (want_yes HF201 rfl rfl rfl rfl) rfl (by decide) (op_eqi rfl (HF201.ev rfl) (ev_c _ _)) ?_
  intro a204 HF205; clear HF201
  have HF206 := HF205.lit (b := true) (by decide +kernel)
  clear HF205
  refine gw_ev HF206 (want_none rfl) rfl (by decide) (op_pick_t rfl (HF206.ev rfl) (HF206.ev rfl)) ?_
  intro a207 HF208; clear HF206
  refine gw_ev HF208 (want_none rfl) rfl (by decide) (op_assign rfl (HF208.ev rfl)) ?_
  intro a209 HF210; clear HF208
  refine wpList_nil ?_
  refine gw_nx (hK149 _ _ ?_)
  refine wp_ret ?_
  refine gw_ret1 HF210 rfl rfl ?_
  exact ⟨rfl, HO202.below⟩
end GBufAlive_
end Go.Proofs.Ytbnoedefkbnpjaa.PA
