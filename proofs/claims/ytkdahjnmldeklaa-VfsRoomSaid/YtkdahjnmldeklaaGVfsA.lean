/- The laws of disks: alive. Printed by a program of this session; Lean checks it. -/
import Derived.Test.YtkdahjnmldeklaaGVfs5
import Derived.Test.YtkdahjnmldeklaaHVfs4
namespace Go.Proofs.Ytkdahjnmldeklaa.PA
open Go.RowKit Go.Proofs.YtkdahjnmldeklaaW.PrintWords Go.Proofs.YtkdahjnmldeklaaW.PrintLast Go.Proofs.YtkdahjnmldeklaaW.PrintMore
set_option linter.unusedVariables false
set_option linter.unusedSimpArgs false
namespace GVfsA_

set_option maxHeartbeats 4000000 in
set_option maxRecDepth 100000 in
theorem alive_calls (w : World) :
    Calls Try.prog 12 #[] w fun e w' => e = .returned (.bool true) ∧ Below w.heap.size w w' := by
  refine gw_start (N := 58) (vs := []) Try.func12 rfl rfl (by simp) fun a HF HO => ?_
  replace HO : Own w w [] := HO
  refine gw_seq fun K1 hK1 => ?_
  refine wp_region_lit ?_
  refine gw_ev HF (want_none rfl) rfl (by decide) (op_assign rfl (ev_c _ _)) ?_
  intro a2 HF3; clear HF
  refine wpList_nil ?_
  refine gw_nx (hK1 _ _ ?_)
  refine gw_seq fun K4 hK4 => ?_
  refine wp_region_lit ?_
  have HO14 : Own w _ [(Chunk.all [])] := Own.bundle (A := []) (L := []) (HO.sel [] (by decide))
  refine gw_call HF3 (want_none rfl) rfl (by decide) (op_callL Try.func11 (by kernel_rfl) rfl rfl (ar_cons (ev_c _ _) ar_nil)) (new_own w _ (Chunk.all []) 5 (by exact HO14)) ?_
  rintro e8 w9 ⟨gd5, S6, rfl, hb10⟩
  refine ⟨_, rfl, fun a11 HF12 => ?_⟩
  have HO13 : Own w w9 [Chunk.disk w.heap.size gd5 S6 (newD 5)] := Own.unbundle (A := []) (L := [Chunk.disk w.heap.size gd5 S6 (newD 5)]) (hb10.sel [0, 1] (by decide))
  clear HO14
  clear HF3 HO hb10
  have HO16 : Own w w9 [Chunk.disk w.heap.size gd5 S6 (newD 5)] := HO13
  clear HO13
  have hwf7 : wfD (newD 5) := wf_new (by decide)
  refine gw_ev HF12 (want_none rfl) rfl (by decide) (op_assign rfl (HF12.ev rfl)) ?_
  intro a17 HF18; clear HF12
  refine wpList_nil ?_
  refine gw_nx (hK4 _ _ ?_)
  refine gw_seq fun K19 hK19 => ?_
  refine gw_seq fun K20 hK20 => ?_
  refine wp_region_lit ?_
  refine gw_ev HF18 (want_none rfl) rfl (by decide) (op_move rfl (HF18.ev rfl)) ?_
  intro a21 HF22; clear HF18
  refine gw_ev HF22 (want_none rfl) rfl (by decide) (op_eqp_nil Try.underlying23 rfl (HF22.ev rfl)) ?_
  intro a23 HF24; clear HF22
  refine gw_ev HF24 (want_none rfl) rfl (by decide) (op_move rfl (HF24.ev rfl)) ?_
  intro a25 HF26; clear HF24
  refine gw_ev HF26 (want_yes HF26 rfl rfl rfl rfl) rfl (by decide) (op_move rfl (HF26.ev rfl)) ?_
  intro a27 HF28; clear HF26
  have HO37 : Own w _ [(Chunk.all []), Chunk.disk w.heap.size gd5 S6 (newD 5)] := Own.bundle (A := []) (L := [Chunk.disk w.heap.size gd5 S6 (newD 5)]) (HO16.sel [0] (by decide))
  refine gw_call HF28 (want_yes HF28 rfl rfl rfl rfl) rfl (by decide) (op_callL Try.func13 (by kernel_rfl) rfl rfl (ar_cons (HF28.ev rfl) (ar_cons (ev_c _ _) ar_nil))) ((by have h_ := create_calls w _ (Chunk.all []) gd5 S6 (newD 5) (⟨#[97]⟩ : ByteArray) hwf7 (by decide) (by decide) (by exact HO37); rw [show (createD (⟨#[97]⟩ : ByteArray) (newD 5)) = ((⟨[⟨(⟨#[97]⟩ : ByteArray), [], 0⟩], 5, 0, 0, false⟩ : PD), 0) from (by kernel_rfl)] at h_; (try dsimp only at h_); exact h_)) ?_
  rintro e31 w32 ⟨rfl, S29, hb33⟩
  refine ⟨_, rfl, fun a34 HF35 => ?_⟩
  have HO36 : Own w w32 [Chunk.disk w.heap.size gd5 S29 (⟨[⟨(⟨#[97]⟩ : ByteArray), [], 0⟩], 5, 0, 0, false⟩ : PD)] := Own.unbundle (A := []) (L := [Chunk.disk w.heap.size gd5 S29 (⟨[⟨(⟨#[97]⟩ : ByteArray), [], 0⟩], 5, 0, 0, false⟩ : PD)]) (hb33.sel [0, 1] (by decide))
  clear HO37
  clear HF28 HO16 hb33
  have HO39 : Own w w32 [Chunk.disk w.heap.size gd5 S29 (⟨[⟨(⟨#[97]⟩ : ByteArray), [], 0⟩], 5, 0, 0, false⟩ : PD)] := HO36
  clear HO36
  have hwf30 : wfD (⟨[⟨(⟨#[97]⟩ : ByteArray), [], 0⟩], 5, 0, 0, false⟩ : PD) := by have h_ : wfD (createD (⟨#[97]⟩ : ByteArray) (newD 5)).1 := wf_create hwf7; rw [show (createD (⟨#[97]⟩ : ByteArray) (newD 5)) = ((⟨[⟨(⟨#[97]⟩ : ByteArray), [], 0⟩], 5, 0, 0, false⟩ : PD), 0) from (by kernel_rfl)] at h_; exact h_
  refine gw_ev HF35 (want_yes HF35 rfl rfl rfl rfl) rfl (by decide) (op_nei rfl (HF35.ev rfl) (ev_c _ _)) ?_
  intro a40 HF41; clear HF35
  have HF42 := HF41.lit (b := false) (by decide)
  clear HF41
  refine gw_ev HF42 (want_none rfl) rfl (by decide) (op_pick_f rfl (HF42.ev rfl) (HF42.ev rfl)) ?_
  intro a43 HF44; clear HF42
  refine gw_ev HF44 (want_none rfl) rfl (by decide) (op_move rfl (HF44.ev rfl)) ?_
  intro a45 HF46; clear HF44
  refine gw_ev HF46 (want_yes HF46 rfl rfl rfl rfl) rfl (by decide) (op_move rfl (HF46.ev rfl)) ?_
  intro a47 HF48; clear HF46
  refine gw_bytes (xs := [97, 98, 99]) Try.underlying28 Try.underlying5 HF48 HO39 (want_yes HF48 rfl rfl rfl rfl) rfl (by decide) (op_bslice (by kernel_rfl) rfl (pt_cons (ev_c _ _) (pt_cons (ev_c _ _) (pt_cons (ev_c _ _) pt_nil)))) (fun a_ HF_ => (want_yes HF_ rfl rfl rfl rfl)) rfl (by decide) rfl ?_
  intro g49 a50 w51 HF52 HO53; clear HF48 HO39
  have HO54 : Own w w51 [Chunk.blk g49 (.cells (nums .u8 [97, 98, 99]).toArray 5 (([97, 98, 99]).length, ([97, 98, 99]).length + 1)), Chunk.disk w.heap.size gd5 S29 (⟨[⟨(⟨#[97]⟩ : ByteArray), [], 0⟩], 5, 0, 0, false⟩ : PD)] := HO53
  clear HO53
  have HO63 : Own w _ [(Chunk.all [Chunk.blk g49 (.cells (nums .u8 [97, 98, 99]).toArray 5 (([97, 98, 99]).length, ([97, 98, 99]).length + 1))]), Chunk.disk w.heap.size gd5 S29 (⟨[⟨(⟨#[97]⟩ : ByteArray), [], 0⟩], 5, 0, 0, false⟩ : PD)] := Own.bundle (A := [Chunk.blk g49 (.cells (nums .u8 [97, 98, 99]).toArray 5 (([97, 98, 99]).length, ([97, 98, 99]).length + 1))]) (L := [Chunk.disk w.heap.size gd5 S29 (⟨[⟨(⟨#[97]⟩ : ByteArray), [], 0⟩], 5, 0, 0, false⟩ : PD)]) (HO54.sel [0, 1] (by decide))
  refine gw_call HF52 (want_yes HF52 rfl rfl rfl rfl) rfl (by decide) (op_callL Try.func15 (by kernel_rfl) rfl rfl (ar_cons (HF52.ev rfl) (ar_cons (ev_c _ _) (ar_cons (HF52.ev rfl) ar_nil)))) ((by have h_ := append_calls w _ (Chunk.all [Chunk.blk g49 (.cells (nums .u8 [97, 98, 99]).toArray 5 (([97, 98, 99]).length, ([97, 98, 99]).length + 1))]) gd5 S29 (⟨[⟨(⟨#[97]⟩ : ByteArray), [], 0⟩], 5, 0, 0, false⟩ : PD) (⟨#[97]⟩ : ByteArray) (some ⟨g49, 0, none⟩) (([97, 98, 99]).length) ([97, 98, 99]) (fun w_ h_ => (blkC ((Own.unbundle (A := [Chunk.blk g49 (.cells (nums .u8 [97, 98, 99]).toArray 5 (([97, 98, 99]).length, ([97, 98, 99]).length + 1))]) (L := []) h_).get 0 rfl) (by simp))) (Nat.le_refl _) hwf30 (by decide) (by decide) (by exact HO63); rw [show (appendD (⟨#[97]⟩ : ByteArray) ([97, 98, 99]) (⟨[⟨(⟨#[97]⟩ : ByteArray), [], 0⟩], 5, 0, 0, false⟩ : PD)) = ((⟨[⟨(⟨#[97]⟩ : ByteArray), [97, 98, 99], 0⟩], 5, 3, 0, false⟩ : PD), 0) from (by kernel_rfl)] at h_; (try dsimp only at h_); exact h_)) ?_
  rintro e57 w58 ⟨rfl, S55, hb59⟩
  refine ⟨_, rfl, fun a60 HF61 => ?_⟩
  have HO62 : Own w w58 [Chunk.blk g49 (.cells (nums .u8 [97, 98, 99]).toArray 5 (([97, 98, 99]).length, ([97, 98, 99]).length + 1)), Chunk.disk w.heap.size gd5 S55 (⟨[⟨(⟨#[97]⟩ : ByteArray), [97, 98, 99], 0⟩], 5, 3, 0, false⟩ : PD)] := Own.unbundle (A := [Chunk.blk g49 (.cells (nums .u8 [97, 98, 99]).toArray 5 (([97, 98, 99]).length, ([97, 98, 99]).length + 1))]) (L := [Chunk.disk w.heap.size gd5 S55 (⟨[⟨(⟨#[97]⟩ : ByteArray), [97, 98, 99], 0⟩], 5, 3, 0, false⟩ : PD)]) (hb59.sel [0, 1] (by decide))
  clear HO63
  clear HF52 HO54 hb59
  have HO65 : Own w w58 [Chunk.blk g49 (.cells (nums .u8 [97, 98, 99]).toArray 5 (([97, 98, 99]).length, ([97, 98, 99]).length + 1)), Chunk.disk w.heap.size gd5 S55 (⟨[⟨(⟨#[97]⟩ : ByteArray), [97, 98, 99], 0⟩], 5, 3, 0, false⟩ : PD)] := HO62
  clear HO62
  have hwf56 : wfD (⟨[⟨(⟨#[97]⟩ : ByteArray), [97, 98, 99], 0⟩], 5, 3, 0, false⟩ : PD) := by have h_ : wfD (appendD (⟨#[97]⟩ : ByteArray) ([97, 98, 99]) (⟨[⟨(⟨#[97]⟩ : ByteArray), [], 0⟩], 5, 0, 0, false⟩ : PD)).1 := wf_append hwf30; rw [show (appendD (⟨#[97]⟩ : ByteArray) ([97, 98, 99]) (⟨[⟨(⟨#[97]⟩ : ByteArray), [], 0⟩], 5, 0, 0, false⟩ : PD)) = ((⟨[⟨(⟨#[97]⟩ : ByteArray), [97, 98, 99], 0⟩], 5, 3, 0, false⟩ : PD), 0) from (by kernel_rfl)] at h_; exact h_
  refine gw_ev HF61 (want_yes HF61 rfl rfl rfl rfl) rfl (by decide) (op_nei rfl (HF61.ev rfl) (ev_c _ _)) ?_
  intro a66 HF67; clear HF61
  have HF68 := HF67.lit (b := false) (by decide)
  clear HF67
  refine gw_ev HF68 (want_none rfl) rfl (by decide) (op_pick_f rfl (HF68.ev rfl) (HF68.ev rfl)) ?_
  intro a69 HF70; clear HF68
  refine gw_ev HF70 (want_none rfl) rfl (by decide) (op_move rfl (HF70.ev rfl)) ?_
  intro a71 HF72; clear HF70
  refine gw_ev HF72 (want_yes HF72 rfl rfl rfl rfl) rfl (by decide) (op_move rfl (HF72.ev rfl)) ?_
  intro a73 HF74; clear HF72
  have HO83 : Own w _ [(Chunk.all [Chunk.blk g49 (.cells (nums .u8 [97, 98, 99]).toArray 5 (([97, 98, 99]).length, ([97, 98, 99]).length + 1))]), Chunk.disk w.heap.size gd5 S55 (⟨[⟨(⟨#[97]⟩ : ByteArray), [97, 98, 99], 0⟩], 5, 3, 0, false⟩ : PD)] := Own.bundle (A := [Chunk.blk g49 (.cells (nums .u8 [97, 98, 99]).toArray 5 (([97, 98, 99]).length, ([97, 98, 99]).length + 1))]) (L := [Chunk.disk w.heap.size gd5 S55 (⟨[⟨(⟨#[97]⟩ : ByteArray), [97, 98, 99], 0⟩], 5, 3, 0, false⟩ : PD)]) (HO65.sel [0, 1] (by decide))
  refine gw_call HF74 (want_yes HF74 rfl rfl rfl rfl) rfl (by decide) (op_callL Try.func16 (by kernel_rfl) rfl rfl (ar_cons (HF74.ev rfl) (ar_cons (ev_c _ _) ar_nil))) ((by have h_ := sync_calls w _ (Chunk.all [Chunk.blk g49 (.cells (nums .u8 [97, 98, 99]).toArray 5 (([97, 98, 99]).length, ([97, 98, 99]).length + 1))]) gd5 S55 (⟨[⟨(⟨#[97]⟩ : ByteArray), [97, 98, 99], 0⟩], 5, 3, 0, false⟩ : PD) (⟨#[97]⟩ : ByteArray) hwf56 (by decide) (by exact HO83); rw [show (syncD (⟨#[97]⟩ : ByteArray) (⟨[⟨(⟨#[97]⟩ : ByteArray), [97, 98, 99], 0⟩], 5, 3, 0, false⟩ : PD)) = ((⟨[⟨(⟨#[97]⟩ : ByteArray), [97, 98, 99], 3⟩], 5, 3, 0, false⟩ : PD), 0) from (by kernel_rfl)] at h_; (try dsimp only at h_); exact h_)) ?_
  rintro e77 w78 ⟨rfl, S75, hb79⟩
  refine ⟨_, rfl, fun a80 HF81 => ?_⟩
  have HO82 : Own w w78 [Chunk.blk g49 (.cells (nums .u8 [97, 98, 99]).toArray 5 (([97, 98, 99]).length, ([97, 98, 99]).length + 1)), Chunk.disk w.heap.size gd5 S75 (⟨[⟨(⟨#[97]⟩ : ByteArray), [97, 98, 99], 3⟩], 5, 3, 0, false⟩ : PD)] := Own.unbundle (A := [Chunk.blk g49 (.cells (nums .u8 [97, 98, 99]).toArray 5 (([97, 98, 99]).length, ([97, 98, 99]).length + 1))]) (L := [Chunk.disk w.heap.size gd5 S75 (⟨[⟨(⟨#[97]⟩ : ByteArray), [97, 98, 99], 3⟩], 5, 3, 0, false⟩ : PD)]) (hb79.sel [0, 1] (by decide))
  clear HO83
  clear HF74 HO65 hb79
  have HO85 : Own w w78 [Chunk.blk g49 (.cells (nums .u8 [97, 98, 99]).toArray 5 (([97, 98, 99]).length, ([97, 98, 99]).length + 1)), Chunk.disk w.heap.size gd5 S75 (⟨[⟨(⟨#[97]⟩ : ByteArray), [97, 98, 99], 3⟩], 5, 3, 0, false⟩ : PD)] := HO82
  clear HO82
  have hwf76 : wfD (⟨[⟨(⟨#[97]⟩ : ByteArray), [97, 98, 99], 3⟩], 5, 3, 0, false⟩ : PD) := by have h_ : wfD (syncD (⟨#[97]⟩ : ByteArray) (⟨[⟨(⟨#[97]⟩ : ByteArray), [97, 98, 99], 0⟩], 5, 3, 0, false⟩ : PD)).1 := wf_sync hwf56; rw [show (syncD (⟨#[97]⟩ : ByteArray) (⟨[⟨(⟨#[97]⟩ : ByteArray), [97, 98, 99], 0⟩], 5, 3, 0, false⟩ : PD)) = ((⟨[⟨(⟨#[97]⟩ : ByteArray), [97, 98, 99], 3⟩], 5, 3, 0, false⟩ : PD), 0) from (by kernel_rfl)] at h_; exact h_
  refine gw_ev HF81 (want_yes HF81 rfl rfl rfl rfl) rfl (by decide) (op_nei rfl (HF81.ev rfl) (ev_c _ _)) ?_
  intro a86 HF87; clear HF81
  have HF88 := HF87.lit (b := false) (by decide)
  clear HF87
  refine gw_ev HF88 (want_none rfl) rfl (by decide) (op_pick_f rfl (HF88.ev rfl) (HF88.ev rfl)) ?_
  intro a89 HF90; clear HF88
  refine gw_ev HF90 (want_none rfl) rfl (by decide) (op_move rfl (HF90.ev rfl)) ?_
  intro a91 HF92; clear HF90
  refine gw_ev HF92 (want_yes HF92 rfl rfl rfl rfl) rfl (by decide) (op_move rfl (HF92.ev rfl)) ?_
  intro a93 HF94; clear HF92
  refine gw_bytes (xs := [100, 101, 102]) Try.underlying28 Try.underlying5 HF94 HO85 (want_yes HF94 rfl rfl rfl rfl) rfl (by decide) (op_bslice (by kernel_rfl) rfl (pt_cons (ev_c _ _) (pt_cons (ev_c _ _) (pt_cons (ev_c _ _) pt_nil)))) (fun a_ HF_ => (want_yes HF_ rfl rfl rfl rfl)) rfl (by decide) rfl ?_
  intro g95 a96 w97 HF98 HO99; clear HF94 HO85
  have HO100 : Own w w97 [Chunk.blk g95 (.cells (nums .u8 [100, 101, 102]).toArray 5 (([100, 101, 102]).length, ([100, 101, 102]).length + 1)), Chunk.blk g49 (.cells (nums .u8 [97, 98, 99]).toArray 5 (([97, 98, 99]).length, ([97, 98, 99]).length + 1)), Chunk.disk w.heap.size gd5 S75 (⟨[⟨(⟨#[97]⟩ : ByteArray), [97, 98, 99], 3⟩], 5, 3, 0, false⟩ : PD)] := HO99
  clear HO99
  have HO109 : Own w _ [(Chunk.all [Chunk.blk g95 (.cells (nums .u8 [100, 101, 102]).toArray 5 (([100, 101, 102]).length, ([100, 101, 102]).length + 1)), Chunk.blk g49 (.cells (nums .u8 [97, 98, 99]).toArray 5 (([97, 98, 99]).length, ([97, 98, 99]).length + 1))]), Chunk.disk w.heap.size gd5 S75 (⟨[⟨(⟨#[97]⟩ : ByteArray), [97, 98, 99], 3⟩], 5, 3, 0, false⟩ : PD)] := Own.bundle (A := [Chunk.blk g95 (.cells (nums .u8 [100, 101, 102]).toArray 5 (([100, 101, 102]).length, ([100, 101, 102]).length + 1)), Chunk.blk g49 (.cells (nums .u8 [97, 98, 99]).toArray 5 (([97, 98, 99]).length, ([97, 98, 99]).length + 1))]) (L := [Chunk.disk w.heap.size gd5 S75 (⟨[⟨(⟨#[97]⟩ : ByteArray), [97, 98, 99], 3⟩], 5, 3, 0, false⟩ : PD)]) (HO100.sel [0, 1, 2] (by decide))
  refine gw_call HF98 (want_yes HF98 rfl rfl rfl rfl) rfl (by decide) (op_callL Try.func15 (by kernel_rfl) rfl rfl (ar_cons (HF98.ev rfl) (ar_cons (ev_c _ _) (ar_cons (HF98.ev rfl) ar_nil)))) ((by have h_ := append_calls w _ (Chunk.all [Chunk.blk g95 (.cells (nums .u8 [100, 101, 102]).toArray 5 (([100, 101, 102]).length, ([100, 101, 102]).length + 1)), Chunk.blk g49 (.cells (nums .u8 [97, 98, 99]).toArray 5 (([97, 98, 99]).length, ([97, 98, 99]).length + 1))]) gd5 S75 (⟨[⟨(⟨#[97]⟩ : ByteArray), [97, 98, 99], 3⟩], 5, 3, 0, false⟩ : PD) (⟨#[97]⟩ : ByteArray) (some ⟨g95, 0, none⟩) (([100, 101, 102]).length) ([100, 101, 102]) (fun w_ h_ => (blkC ((Own.unbundle (A := [Chunk.blk g95 (.cells (nums .u8 [100, 101, 102]).toArray 5 (([100, 101, 102]).length, ([100, 101, 102]).length + 1)), Chunk.blk g49 (.cells (nums .u8 [97, 98, 99]).toArray 5 (([97, 98, 99]).length, ([97, 98, 99]).length + 1))]) (L := []) h_).get 0 rfl) (by simp))) (Nat.le_refl _) hwf76 (by decide) (by decide) (by exact HO109); rw [show (appendD (⟨#[97]⟩ : ByteArray) ([100, 101, 102]) (⟨[⟨(⟨#[97]⟩ : ByteArray), [97, 98, 99], 3⟩], 5, 3, 0, false⟩ : PD)) = ((⟨[⟨(⟨#[97]⟩ : ByteArray), [97, 98, 99], 3⟩], 5, 3, 0, false⟩ : PD), 71) from (by kernel_rfl)] at h_; (try dsimp only at h_); exact h_)) ?_
  rintro e103 w104 ⟨rfl, S101, hb105⟩
  refine ⟨_, rfl, fun a106 HF107 => ?_⟩
  have HO108 : Own w w104 [Chunk.blk g95 (.cells (nums .u8 [100, 101, 102]).toArray 5 (([100, 101, 102]).length, ([100, 101, 102]).length + 1)), Chunk.blk g49 (.cells (nums .u8 [97, 98, 99]).toArray 5 (([97, 98, 99]).length, ([97, 98, 99]).length + 1)), Chunk.disk w.heap.size gd5 S101 (⟨[⟨(⟨#[97]⟩ : ByteArray), [97, 98, 99], 3⟩], 5, 3, 0, false⟩ : PD)] := Own.unbundle (A := [Chunk.blk g95 (.cells (nums .u8 [100, 101, 102]).toArray 5 (([100, 101, 102]).length, ([100, 101, 102]).length + 1)), Chunk.blk g49 (.cells (nums .u8 [97, 98, 99]).toArray 5 (([97, 98, 99]).length, ([97, 98, 99]).length + 1))]) (L := [Chunk.disk w.heap.size gd5 S101 (⟨[⟨(⟨#[97]⟩ : ByteArray), [97, 98, 99], 3⟩], 5, 3, 0, false⟩ : PD)]) (hb105.sel [0, 1] (by decide))
  clear HO109
  clear HF98 HO100 hb105
  have HO111 : Own w w104 [Chunk.blk g95 (.cells (nums .u8 [100, 101, 102]).toArray 5 (([100, 101, 102]).length, ([100, 101, 102]).length + 1)), Chunk.blk g49 (.cells (nums .u8 [97, 98, 99]).toArray 5 (([97, 98, 99]).length, ([97, 98, 99]).length + 1)), Chunk.disk w.heap.size gd5 S101 (⟨[⟨(⟨#[97]⟩ : ByteArray), [97, 98, 99], 3⟩], 5, 3, 0, false⟩ : PD)] := HO108
  clear HO108
  have hwf102 : wfD (⟨[⟨(⟨#[97]⟩ : ByteArray), [97, 98, 99], 3⟩], 5, 3, 0, false⟩ : PD) := by have h_ : wfD (appendD (⟨#[97]⟩ : ByteArray) ([100, 101, 102]) (⟨[⟨(⟨#[97]⟩ : ByteArray), [97, 98, 99], 3⟩], 5, 3, 0, false⟩ : PD)).1 := wf_append hwf76; rw [show (appendD (⟨#[97]⟩ : ByteArray) ([100, 101, 102]) (⟨[⟨(⟨#[97]⟩ : ByteArray), [97, 98, 99], 3⟩], 5, 3, 0, false⟩ : PD)) = ((⟨[⟨(⟨#[97]⟩ : ByteArray), [97, 98, 99], 3⟩], 5, 3, 0, false⟩ : PD), 71) from (by kernel_rfl)] at h_; exact h_
  refine gw_ev HF107 (want_yes HF107 rfl rfl rfl rfl) rfl (by decide) (op_nei rfl (HF107.ev rfl) (ev_c _ _)) ?_
  intro a112 HF113; clear HF107
  have HF114 := HF113.lit (b := false) (by decide)
  clear HF113
  refine gw_ev HF114 (want_none rfl) rfl (by decide) (op_pick_f rfl (HF114.ev rfl) (HF114.ev rfl)) ?_
  intro a115 HF116; clear HF114
  refine gw_ev HF116 (want_none rfl) rfl (by decide) (op_move rfl (HF116.ev rfl)) ?_
  intro a117 HF118; clear HF116
  refine gw_ev HF118 (want_yes HF118 rfl rfl rfl rfl) rfl (by decide) (op_move rfl (HF118.ev rfl)) ?_
  intro a119 HF120; clear HF118
  refine gw_bytes (xs := [100, 101]) Try.underlying28 Try.underlying5 HF120 HO111 (want_yes HF120 rfl rfl rfl rfl) rfl (by decide) (op_bslice (by kernel_rfl) rfl (pt_cons (ev_c _ _) (pt_cons (ev_c _ _) pt_nil))) (fun a_ HF_ => (want_yes HF_ rfl rfl rfl rfl)) rfl (by decide) rfl ?_
  intro g121 a122 w123 HF124 HO125; clear HF120 HO111
  have HO126 : Own w w123 [Chunk.blk g121 (.cells (nums .u8 [100, 101]).toArray 5 (([100, 101]).length, ([100, 101]).length + 1)), Chunk.blk g95 (.cells (nums .u8 [100, 101, 102]).toArray 5 (([100, 101, 102]).length, ([100, 101, 102]).length + 1)), Chunk.blk g49 (.cells (nums .u8 [97, 98, 99]).toArray 5 (([97, 98, 99]).length, ([97, 98, 99]).length + 1)), Chunk.disk w.heap.size gd5 S101 (⟨[⟨(⟨#[97]⟩ : ByteArray), [97, 98, 99], 3⟩], 5, 3, 0, false⟩ : PD)] := HO125
  clear HO125
  have HO135 : Own w _ [(Chunk.all [Chunk.blk g121 (.cells (nums .u8 [100, 101]).toArray 5 (([100, 101]).length, ([100, 101]).length + 1)), Chunk.blk g95 (.cells (nums .u8 [100, 101, 102]).toArray 5 (([100, 101, 102]).length, ([100, 101, 102]).length + 1)), Chunk.blk g49 (.cells (nums .u8 [97, 98, 99]).toArray 5 (([97, 98, 99]).length, ([97, 98, 99]).length + 1))]), Chunk.disk w.heap.size gd5 S101 (⟨[⟨(⟨#[97]⟩ : ByteArray), [97, 98, 99], 3⟩], 5, 3, 0, false⟩ : PD)] := Own.bundle (A := [Chunk.blk g121 (.cells (nums .u8 [100, 101]).toArray 5 (([100, 101]).length, ([100, 101]).length + 1)), Chunk.blk g95 (.cells (nums .u8 [100, 101, 102]).toArray 5 (([100, 101, 102]).length, ([100, 101, 102]).length + 1)), Chunk.blk g49 (.cells (nums .u8 [97, 98, 99]).toArray 5 (([97, 98, 99]).length, ([97, 98, 99]).length + 1))]) (L := [Chunk.disk w.heap.size gd5 S101 (⟨[⟨(⟨#[97]⟩ : ByteArray), [97, 98, 99], 3⟩], 5, 3, 0, false⟩ : PD)]) (HO126.sel [0, 1, 2, 3] (by decide))
  refine gw_call HF124 (want_yes HF124 rfl rfl rfl rfl) rfl (by decide) (op_callL Try.func15 (by kernel_rfl) rfl rfl (ar_cons (HF124.ev rfl) (ar_cons (ev_c _ _) (ar_cons (HF124.ev rfl) ar_nil)))) ((by have h_ := append_calls w _ (Chunk.all [Chunk.blk g121 (.cells (nums .u8 [100, 101]).toArray 5 (([100, 101]).length, ([100, 101]).length + 1)), Chunk.blk g95 (.cells (nums .u8 [100, 101, 102]).toArray 5 (([100, 101, 102]).length, ([100, 101, 102]).length + 1)), Chunk.blk g49 (.cells (nums .u8 [97, 98, 99]).toArray 5 (([97, 98, 99]).length, ([97, 98, 99]).length + 1))]) gd5 S101 (⟨[⟨(⟨#[97]⟩ : ByteArray), [97, 98, 99], 3⟩], 5, 3, 0, false⟩ : PD) (⟨#[97]⟩ : ByteArray) (some ⟨g121, 0, none⟩) (([100, 101]).length) ([100, 101]) (fun w_ h_ => (blkC ((Own.unbundle (A := [Chunk.blk g121 (.cells (nums .u8 [100, 101]).toArray 5 (([100, 101]).length, ([100, 101]).length + 1)), Chunk.blk g95 (.cells (nums .u8 [100, 101, 102]).toArray 5 (([100, 101, 102]).length, ([100, 101, 102]).length + 1)), Chunk.blk g49 (.cells (nums .u8 [97, 98, 99]).toArray 5 (([97, 98, 99]).length, ([97, 98, 99]).length + 1))]) (L := []) h_).get 0 rfl) (by simp))) (Nat.le_refl _) hwf102 (by decide) (by decide) (by exact HO135); rw [show (appendD (⟨#[97]⟩ : ByteArray) ([100, 101]) (⟨[⟨(⟨#[97]⟩ : ByteArray), [97, 98, 99], 3⟩], 5, 3, 0, false⟩ : PD)) = ((⟨[⟨(⟨#[97]⟩ : ByteArray), [97, 98, 99, 100, 101], 3⟩], 5, 5, 0, false⟩ : PD), 0) from (by kernel_rfl)] at h_; (try dsimp only at h_); exact h_)) ?_
  rintro e129 w130 ⟨rfl, S127, hb131⟩
  refine ⟨_, rfl, fun a132 HF133 => ?_⟩
  have HO134 : Own w w130 [Chunk.blk g121 (.cells (nums .u8 [100, 101]).toArray 5 (([100, 101]).length, ([100, 101]).length + 1)), Chunk.blk g95 (.cells (nums .u8 [100, 101, 102]).toArray 5 (([100, 101, 102]).length, ([100, 101, 102]).length + 1)), Chunk.blk g49 (.cells (nums .u8 [97, 98, 99]).toArray 5 (([97, 98, 99]).length, ([97, 98, 99]).length + 1)), Chunk.disk w.heap.size gd5 S127 (⟨[⟨(⟨#[97]⟩ : ByteArray), [97, 98, 99, 100, 101], 3⟩], 5, 5, 0, false⟩ : PD)] := Own.unbundle (A := [Chunk.blk g121 (.cells (nums .u8 [100, 101]).toArray 5 (([100, 101]).length, ([100, 101]).length + 1)), Chunk.blk g95 (.cells (nums .u8 [100, 101, 102]).toArray 5 (([100, 101, 102]).length, ([100, 101, 102]).length + 1)), Chunk.blk g49 (.cells (nums .u8 [97, 98, 99]).toArray 5 (([97, 98, 99]).length, ([97, 98, 99]).length + 1))]) (L := [Chunk.disk w.heap.size gd5 S127 (⟨[⟨(⟨#[97]⟩ : ByteArray), [97, 98, 99, 100, 101], 3⟩], 5, 5, 0, false⟩ : PD)]) (hb131.sel [0, 1] (by decide))
  clear HO135
  clear HF124 HO126 hb131
  have HO137 : Own w w130 [Chunk.blk g121 (.cells (nums .u8 [100, 101]).toArray 5 (([100, 101]).length, ([100, 101]).length + 1)), Chunk.blk g95 (.cells (nums .u8 [100, 101, 102]).toArray 5 (([100, 101, 102]).length, ([100, 101, 102]).length + 1)), Chunk.blk g49 (.cells (nums .u8 [97, 98, 99]).toArray 5 (([97, 98, 99]).length, ([97, 98, 99]).length + 1)), Chunk.disk w.heap.size gd5 S127 (⟨[⟨(⟨#[97]⟩ : ByteArray), [97, 98, 99, 100, 101], 3⟩], 5, 5, 0, false⟩ : PD)] := HO134
  clear HO134
  have hwf128 : wfD (⟨[⟨(⟨#[97]⟩ : ByteArray), [97, 98, 99, 100, 101], 3⟩], 5, 5, 0, false⟩ : PD) := by have h_ : wfD (appendD (⟨#[97]⟩ : ByteArray) ([100, 101]) (⟨[⟨(⟨#[97]⟩ : ByteArray), [97, 98, 99], 3⟩], 5, 3, 0, false⟩ : PD)).1 := wf_append hwf102; rw [show (appendD (⟨#[97]⟩ : ByteArray) ([100, 101]) (⟨[⟨(⟨#[97]⟩ : ByteArray), [97, 98, 99], 3⟩], 5, 3, 0, false⟩ : PD)) = ((⟨[⟨(⟨#[97]⟩ : ByteArray), [97, 98, 99, 100, 101], 3⟩], 5, 5, 0, false⟩ : PD), 0) from (by kernel_rfl)] at h_; exact h_
  refine gw_ev HF133 (want_yes HF133 rfl rfl rfl rfl) rfl (by decide) (op_nei rfl (HF133.ev rfl) (ev_c _ _)) ?_
  intro a138 HF139; clear HF133
  have HF140 := HF139.lit (b := false) (by decide)
  clear HF139
  refine gw_ev HF140 (want_none rfl) rfl (by decide) (op_pick_f rfl (HF140.ev rfl) (HF140.ev rfl)) ?_
  intro a141 HF142; clear HF140
  refine wpList_nil ?_
  refine gw_nx (hK20 _ _ ?_)
  refine gw_cond HF142 rfl (fun hb143 => ?_) (fun hb143 => ?_)
  skip
  · cases hb143
  refine wp_skip ?_
  refine gw_nx (hK19 _ _ ?_)
  refine gw_seq fun K144 hK144 => ?_
  refine wp_region_lit ?_
  refine gw_ev HF142 (want_none rfl) rfl (by decide) (op_move rfl (HF142.ev rfl)) ?_
  intro a145 HF146; clear HF142
  refine gw_lit (enc := Value.int .i64) (fun _ => rfl) (xs := [1]) (e := 3) HF146 HO137 (want_none rfl) rfl (by decide) (op_bslice (by kernel_rfl) rfl (pt_cons (ev_c _ _) pt_nil)) (by simp) ?_
  intro A147 S148 a149 w150 HF151 HO152; clear HF146 HO137
  have HO153 : Own w w150 [Chunk.row (Kd.int .i64) 3 w.heap.size S148 (.slice A147 (([1]).length) (([1]).length)) ([1]), Chunk.blk g121 (.cells (nums .u8 [100, 101]).toArray 5 (([100, 101]).length, ([100, 101]).length + 1)), Chunk.blk g95 (.cells (nums .u8 [100, 101, 102]).toArray 5 (([100, 101, 102]).length, ([100, 101, 102]).length + 1)), Chunk.blk g49 (.cells (nums .u8 [97, 98, 99]).toArray 5 (([97, 98, 99]).length, ([97, 98, 99]).length + 1)), Chunk.disk w.heap.size gd5 S127 (⟨[⟨(⟨#[97]⟩ : ByteArray), [97, 98, 99, 100, 101], 3⟩], 5, 5, 0, false⟩ : PD)] := HO152
  clear HO152
  have HO162 : Own w _ [(Chunk.all [Chunk.row (Kd.int .i64) 3 w.heap.size S148 (.slice A147 (([1]).length) (([1]).length)) ([1]), Chunk.blk g121 (.cells (nums .u8 [100, 101]).toArray 5 (([100, 101]).length, ([100, 101]).length + 1)), Chunk.blk g95 (.cells (nums .u8 [100, 101, 102]).toArray 5 (([100, 101, 102]).length, ([100, 101, 102]).length + 1)), Chunk.blk g49 (.cells (nums .u8 [97, 98, 99]).toArray 5 (([97, 98, 99]).length, ([97, 98, 99]).length + 1))]), Chunk.disk w.heap.size gd5 S127 (⟨[⟨(⟨#[97]⟩ : ByteArray), [97, 98, 99, 100, 101], 3⟩], 5, 5, 0, false⟩ : PD)] := Own.bundle (A := [Chunk.row (Kd.int .i64) 3 w.heap.size S148 (.slice A147 (([1]).length) (([1]).length)) ([1]), Chunk.blk g121 (.cells (nums .u8 [100, 101]).toArray 5 (([100, 101]).length, ([100, 101]).length + 1)), Chunk.blk g95 (.cells (nums .u8 [100, 101, 102]).toArray 5 (([100, 101, 102]).length, ([100, 101, 102]).length + 1)), Chunk.blk g49 (.cells (nums .u8 [97, 98, 99]).toArray 5 (([97, 98, 99]).length, ([97, 98, 99]).length + 1))]) (L := [Chunk.disk w.heap.size gd5 S127 (⟨[⟨(⟨#[97]⟩ : ByteArray), [97, 98, 99, 100, 101], 3⟩], 5, 5, 0, false⟩ : PD)]) (HO153.sel [0, 1, 2, 3, 4] (by decide))
  refine gw_call HF151 (want_none rfl) rfl (by decide) (op_callL Try.func17 (by kernel_rfl) rfl rfl (ar_cons (HF151.ev rfl) (ar_cons (HF151.ev rfl) ar_nil))) ((by have h_ := crash_calls w _ (Chunk.all [Chunk.row (Kd.int .i64) 3 w.heap.size S148 (.slice A147 (([1]).length) (([1]).length)) ([1]), Chunk.blk g121 (.cells (nums .u8 [100, 101]).toArray 5 (([100, 101]).length, ([100, 101]).length + 1)), Chunk.blk g95 (.cells (nums .u8 [100, 101, 102]).toArray 5 (([100, 101, 102]).length, ([100, 101, 102]).length + 1)), Chunk.blk g49 (.cells (nums .u8 [97, 98, 99]).toArray 5 (([97, 98, 99]).length, ([97, 98, 99]).length + 1))]) gd5 S127 (⟨[⟨(⟨#[97]⟩ : ByteArray), [97, 98, 99, 100, 101], 3⟩], 5, 5, 0, false⟩ : PD) A147 (([1]).length) ([1]) (fun w_ h_ => (Kd.R_reads' ((Own.unbundle (A := [Chunk.row (Kd.int .i64) 3 w.heap.size S148 (.slice A147 (([1]).length) (([1]).length)) ([1]), Chunk.blk g121 (.cells (nums .u8 [100, 101]).toArray 5 (([100, 101]).length, ([100, 101]).length + 1)), Chunk.blk g95 (.cells (nums .u8 [100, 101, 102]).toArray 5 (([100, 101, 102]).length, ([100, 101, 102]).length + 1)), Chunk.blk g49 (.cells (nums .u8 [97, 98, 99]).toArray 5 (([97, 98, 99]).length, ([97, 98, 99]).length + 1))]) (L := []) h_).get 0 rfl)).2.2) (row_cap (HO153.get 0 rfl)) hwf128 (by decide) (by exact HO162); rw [show (crashD ([1]) (⟨[⟨(⟨#[97]⟩ : ByteArray), [97, 98, 99, 100, 101], 3⟩], 5, 5, 0, false⟩ : PD)) = (⟨[⟨(⟨#[97]⟩ : ByteArray), [97, 98, 99, 100], 4⟩], 5, 4, 0, false⟩ : PD) from (by kernel_rfl)] at h_; (try dsimp only at h_); exact h_)) ?_
  rintro e156 w157 ⟨rfl, S154, hb158⟩
  refine ⟨_, rfl, fun a159 HF160 => ?_⟩
  have HO161 : Own w w157 [Chunk.row (Kd.int .i64) 3 w.heap.size S148 (.slice A147 (([1]).length) (([1]).length)) ([1]), Chunk.blk g121 (.cells (nums .u8 [100, 101]).toArray 5 (([100, 101]).length, ([100, 101]).length + 1)), Chunk.blk g95 (.cells (nums .u8 [100, 101, 102]).toArray 5 (([100, 101, 102]).length, ([100, 101, 102]).length + 1)), Chunk.blk g49 (.cells (nums .u8 [97, 98, 99]).toArray 5 (([97, 98, 99]).length, ([97, 98, 99]).length + 1)), Chunk.disk w.heap.size gd5 S154 (⟨[⟨(⟨#[97]⟩ : ByteArray), [97, 98, 99, 100], 4⟩], 5, 4, 0, false⟩ : PD)] := Own.unbundle (A := [Chunk.row (Kd.int .i64) 3 w.heap.size S148 (.slice A147 (([1]).length) (([1]).length)) ([1]), Chunk.blk g121 (.cells (nums .u8 [100, 101]).toArray 5 (([100, 101]).length, ([100, 101]).length + 1)), Chunk.blk g95 (.cells (nums .u8 [100, 101, 102]).toArray 5 (([100, 101, 102]).length, ([100, 101, 102]).length + 1)), Chunk.blk g49 (.cells (nums .u8 [97, 98, 99]).toArray 5 (([97, 98, 99]).length, ([97, 98, 99]).length + 1))]) (L := [Chunk.disk w.heap.size gd5 S154 (⟨[⟨(⟨#[97]⟩ : ByteArray), [97, 98, 99, 100], 4⟩], 5, 4, 0, false⟩ : PD)]) (hb158.sel [0, 1] (by decide))
  clear HO162
  clear HF151 HO153 hb158
  have HO164 : Own w w157 [Chunk.row (Kd.int .i64) 3 w.heap.size S148 (.slice A147 (([1]).length) (([1]).length)) ([1]), Chunk.blk g121 (.cells (nums .u8 [100, 101]).toArray 5 (([100, 101]).length, ([100, 101]).length + 1)), Chunk.blk g95 (.cells (nums .u8 [100, 101, 102]).toArray 5 (([100, 101, 102]).length, ([100, 101, 102]).length + 1)), Chunk.blk g49 (.cells (nums .u8 [97, 98, 99]).toArray 5 (([97, 98, 99]).length, ([97, 98, 99]).length + 1)), Chunk.disk w.heap.size gd5 S154 (⟨[⟨(⟨#[97]⟩ : ByteArray), [97, 98, 99, 100], 4⟩], 5, 4, 0, false⟩ : PD)] := HO161
  clear HO161
  have hwf155 : wfD (⟨[⟨(⟨#[97]⟩ : ByteArray), [97, 98, 99, 100], 4⟩], 5, 4, 0, false⟩ : PD) := by have h_ := wf_crash (keep := ([1])) hwf128; rw [show (crashD ([1]) (⟨[⟨(⟨#[97]⟩ : ByteArray), [97, 98, 99, 100, 101], 3⟩], 5, 5, 0, false⟩ : PD)) = (⟨[⟨(⟨#[97]⟩ : ByteArray), [97, 98, 99, 100], 4⟩], 5, 4, 0, false⟩ : PD) from (by kernel_rfl)] at h_; exact h_
  refine wpList_nil ?_
  refine gw_nx (hK144 _ _ ?_)
  refine gw_seq fun K165 hK165 => ?_
  refine wp_region_lit ?_
  refine gw_ev HF160 (want_none rfl) rfl (by decide) (op_move rfl (HF160.ev rfl)) ?_
  intro a166 HF167; clear HF160
  refine gw_call HF167 (want_none rfl) rfl (by decide) (op_callL Try.func18 (by kernel_rfl) rfl rfl (ar_cons (HF167.ev rfl) (ar_cons (ev_c _ _) ar_nil))) ((by have h_ := read_calls w.heap.size gd5 S154 (⟨[⟨(⟨#[97]⟩ : ByteArray), [97, 98, 99, 100], 4⟩], 5, 4, 0, false⟩ : PD) (⟨#[97]⟩ : ByteArray) _ (by exact HO164.get 4 rfl) (by decide) hwf155 (by decide); rw [show (readD (⟨#[97]⟩ : ByteArray) (⟨[⟨(⟨#[97]⟩ : ByteArray), [97, 98, 99, 100], 4⟩], 5, 4, 0, false⟩ : PD)) = (([97, 98, 99, 100] : List Int), 0) from (by kernel_rfl)] at h_; (try dsimp only at h_); exact h_)) ?_
  rintro e171 w172 ⟨A168, c169, S170, rfl, hb173⟩
  refine ⟨_, rfl, fun a174 HF175 => ?_⟩
  have HO176 := HO164.fresh hb173
  have hbel177 := HO164.below
  clear HF167 HO164 hb173
  have HO178 := HO176.lowrow 0 rfl (base' := w.heap.size) (Below.size hbel177)
  have HO179 : Own w w172 [Chunk.row (Kd.int .u8) 5 w.heap.size S170 (.slice A168 (([97, 98, 99, 100] : List Int).length) c169) ([97, 98, 99, 100] : List Int), Chunk.row (Kd.int .i64) 3 w.heap.size S148 (.slice A147 (([1]).length) (([1]).length)) ([1]), Chunk.blk g121 (.cells (nums .u8 [100, 101]).toArray 5 (([100, 101]).length, ([100, 101]).length + 1)), Chunk.blk g95 (.cells (nums .u8 [100, 101, 102]).toArray 5 (([100, 101, 102]).length, ([100, 101, 102]).length + 1)), Chunk.blk g49 (.cells (nums .u8 [97, 98, 99]).toArray 5 (([97, 98, 99]).length, ([97, 98, 99]).length + 1)), Chunk.disk w.heap.size gd5 S154 (⟨[⟨(⟨#[97]⟩ : ByteArray), [97, 98, 99, 100], 4⟩], 5, 4, 0, false⟩ : PD)] := HO178
  clear HO178
  refine gw_ev HF175 (want_none rfl) rfl (by decide) (op_move rfl (HF175.ev rfl)) ?_
  intro a180 HF181; clear HF175
  refine gw_ev HF181 (want_none rfl) rfl (by decide) (op_extract rfl (HF181.ev rfl) rfl) ?_
  intro a182 HF183; clear HF181
  refine gw_ev HF183 (want_none rfl) rfl (by decide) (op_extract rfl (HF183.ev rfl) rfl) ?_
  intro a184 HF185; clear HF183
  refine gw_ev HF185 (want_none rfl) rfl (by decide) (op_assign rfl (HF185.ev rfl)) ?_
  intro a186 HF187; clear HF185
  refine gw_ev HF187 (want_none rfl) rfl (by decide) (op_assign rfl (HF187.ev rfl)) ?_
  intro a188 HF189; clear HF187
  refine wpList_nil ?_
  refine gw_nx (hK165 _ _ ?_)
  refine gw_seq fun K190 hK190 => ?_
  refine wp_region_lit ?_
  refine gw_ev HF189 (want_none rfl) rfl (by decide) (op_move rfl (HF189.ev rfl)) ?_
  intro a191 HF192; clear HF189
  refine gw_ev HF192 (want_none rfl) rfl (by decide) (op_eqi rfl (HF192.ev rfl) (ev_c _ _)) ?_
  intro a193 HF194; clear HF192
  have HF195 := HF194.lit (b := true) (by decide)
  clear HF194
  refine gw_ev HF195 (want_none rfl) rfl (by decide) (op_move rfl (HF195.ev rfl)) ?_
  intro a196 HF197; clear HF195
  refine gw_ev HF197 (want_yes HF197 rfl rfl rfl rfl) rfl (by decide) (op_move rfl (HF197.ev rfl)) ?_
  intro a198 HF199; clear HF197
  refine gw_ev HF199 (want_yes HF199 rfl rfl rfl rfl) rfl (by decide) (op_conv_str Try.underlying28 Try.underlying5 Try.underlying9 (Kd.R_reads' (HO179.get 0 rfl)).2.2 rfl (HF199.ev rfl)) ?_
  intro a200 HF201; clear HF199
  refine gw_ev HF201 (want_yes HF201 rfl rfl rfl rfl) rfl (by decide) (op_eqs rfl (HF201.ev rfl) (ev_c _ _)) ?_
  intro a202 HF203; clear HF201
  have HF204 := HF203.lit (b := true) (by decide +kernel)
  clear HF203
  refine gw_ev HF204 (want_none rfl) rfl (by decide) (op_pick_t rfl (HF204.ev rfl) (HF204.ev rfl)) ?_
  intro a205 HF206; clear HF204
  refine gw_ev HF206 (want_none rfl) rfl (by decide) (op_move rfl (HF206.ev rfl)) ?_
  intro a207 HF208; clear HF206
  refine gw_ev HF208 (want_yes HF208 rfl rfl rfl rfl) rfl (by decide) (op_move rfl (HF208.ev rfl)) ?_
  intro a209 HF210; clear HF208
  refine gw_call HF210 (want_yes HF210 rfl rfl rfl rfl) rfl (by decide) (op_callL Try.func24 (by kernel_rfl) rfl rfl (ar_cons (HF210.ev rfl) ar_nil)) (room_calls w.heap.size gd5 S154 (⟨[⟨(⟨#[97]⟩ : ByteArray), [97, 98, 99, 100], 4⟩], 5, 4, 0, false⟩ : PD) _ (HO179.get 5 rfl) hwf155) ?_
  rintro e211 w212 ⟨rfl, hb213⟩
  refine ⟨_, rfl, fun a214 HF215 => ?_⟩
  have HO216 := HO179.after hb213
  clear HF210 HO179 hb213
  refine gw_ev HF215 (want_yes HF215 rfl rfl rfl rfl) rfl (by decide) (op_eqi rfl (HF215.ev rfl) (ev_c _ _)) ?_
  intro a218 HF219; clear HF215
  have HF220 := HF219.lit (b := true) (by decide)
  clear HF219
  refine gw_ev HF220 (want_none rfl) rfl (by decide) (op_pick_t rfl (HF220.ev rfl) (HF220.ev rfl)) ?_
  intro a221 HF222; clear HF220
  refine gw_ev HF222 (want_none rfl) rfl (by decide) (op_assign rfl (HF222.ev rfl)) ?_
  intro a223 HF224; clear HF222
  refine wpList_nil ?_
  refine gw_nx (hK190 _ _ ?_)
  refine wp_ret ?_
  refine gw_ret1 HF224 rfl rfl ?_
  exact ⟨rfl, HO216.below⟩
end GVfsA_
export GVfsA_ (alive_calls)
end Go.Proofs.Ytkdahjnmldeklaa.PA
