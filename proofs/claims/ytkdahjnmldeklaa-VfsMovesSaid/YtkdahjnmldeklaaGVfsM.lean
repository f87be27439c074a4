/- VfsMoves. Printed by a program of this session; Lean checks it. -/
import Derived.Test.YtkdahjnmldeklaaGVfsA
namespace Go.Proofs.Ytkdahjnmldeklaa.PA
open Go.RowKit Go.Proofs.YtkdahjnmldeklaaW.PrintWords Go.Proofs.YtkdahjnmldeklaaW.PrintLast Go.Proofs.YtkdahjnmldeklaaW.PrintMore
set_option linter.unusedVariables false
set_option linter.unusedSimpArgs false
namespace GVfsM_
theorem gwinfo5 : (Try.prog.info? 5).map (fun i => (i.zero, i.size, i.bytes)) = some (some (.int .u8 0), 1, 1) := by kernel_rfl
theorem gwsiz5 : ∀ w, (sizeOf 5).run Try.prog w = .ok 1 w := fun _ => by kernel_rfl
set_option maxHeartbeats 4000000 in
set_option maxRecDepth 100000 in
theorem VfsMoves_walk (A0 : Option Addr) (c0 : Nat) (la : List Int) (A1 : Option Addr) (c1 : Nat) (lb : List Int) (A2 : Option Addr) (c2 : Nat) (more : List Int) (keep : Int) (w : World) (hr0 : Kd.C (Kd.int .u8) w A0 la.length la) (hc0 : la.length ≤ c0) (hr1 : Kd.C (Kd.int .u8) w A1 lb.length lb) (hc1 : lb.length ≤ c1) (hr2 : Kd.C (Kd.int .u8) w A2 more.length more) (hc2 : more.length ≤ c2) (hla : la.length ≤ 140737488355327) (hlb : lb.length ≤ 140737488355327) (hlm : more.length ≤ 140737488355327) :
    Calls Try.prog 5 #[.slice A0 la.length c0, .slice A1 lb.length c1, .slice A2 more.length c2, .int .i64 keep] w fun e w' => e = .returned (.bool true) ∧ Below w.heap.size w w' := by
  refine gw_start (N := 134) (vs := [.slice A0 la.length c0, .slice A1 lb.length c1, .slice A2 more.length c2, .int .i64 keep]) Try.func5 rfl rfl (by simp) fun a HF HO => ?_
  replace HO : Own w w [] := HO
  refine gw_seq fun K1 hK1 => ?_
  refine wp_region_lit ?_
  refine gw_ev HF (want_none rfl) rfl (by decide) (op_assign rfl (ev_c _ _)) ?_
  intro a2 HF3; clear HF
  refine wpList_nil ?_
  refine gw_nx (hK1 _ _ ?_)
  refine gw_seq fun K4 hK4 => ?_
  refine wp_region_lit ?_
  have HO14 : Own w _ [(Chunk.all [])] := Own.bundle (A := []) (L := []) (HO.sel [] (by decide))
  refine gw_call HF3 (want_none rfl) rfl (by decide) (op_callL Try.func11 (by kernel_rfl) rfl rfl (ar_cons (ev_c _ _) ar_nil)) (new_own w _ (Chunk.all []) 1048576 (by exact HO14)) ?_
  rintro e8 w9 ⟨gd5, S6, rfl, hb10⟩
  refine ⟨_, rfl, fun a11 HF12 => ?_⟩
  have HO13 : Own w w9 [Chunk.disk w.heap.size gd5 S6 (newD 1048576)] := Own.unbundle (A := []) (L := [Chunk.disk w.heap.size gd5 S6 (newD 1048576)]) (hb10.sel [0, 1] (by decide))
  clear HO14
  clear HF3 HO hb10
  have HO16 : Own w w9 [Chunk.disk w.heap.size gd5 S6 (newD 1048576)] := HO13
  clear HO13
  have hwf7 : wfD (newD 1048576) := wf_new (by decide)
  refine gw_ev HF12 (want_none rfl) rfl (by decide) (op_assign rfl (HF12.ev rfl)) ?_
  intro a17 HF18; clear HF12
  refine wpList_nil ?_
  refine gw_nx (hK4 _ _ ?_)
  refine gw_seq fun K19 hK19 => ?_
  refine gw_seq fun K20 hK20 => ?_
  refine wp_region_lit ?_
  refine gw_ev HF18 (want_none rfl) rfl (by decide) (op_move rfl (HF18.ev rfl)) ?_
  intro a21 HF22; clear HF18
  refine gw_ev HF22 (want_none rfl) rfl (by decide) (op_eqp_nil Try.underlying23 rfl (HF22.ev rfl)) ?_
  intro a23 HF24; clear HF22
  refine gw_ev HF24 (want_none rfl) rfl (by decide) (op_move rfl (HF24.ev rfl)) ?_
  intro a25 HF26; clear HF24
  refine gw_call HF26 (want_yes HF26 rfl rfl rfl rfl) rfl (by decide) (op_callL Try.func12 (by kernel_rfl) rfl rfl ar_nil) (alive_calls _) ?_
  rintro e27 w28 ⟨rfl, hb29⟩
  refine ⟨_, rfl, fun a30 HF31 => ?_⟩
  have HO32 := HO16.after hb29
  clear HF26 HO16 hb29
  refine gw_ev HF31 (want_yes HF31 rfl rfl rfl rfl) rfl (by decide) (op_not rfl (HF31.ev rfl)) ?_
  intro a34 HF35; clear HF31
  refine gw_ev HF35 (want_none rfl) rfl (by decide) (op_pick_f rfl (HF35.ev rfl) (HF35.ev rfl)) ?_
  intro a36 HF37; clear HF35
  refine wpList_nil ?_
  refine gw_nx (hK20 _ _ ?_)
  refine gw_cond HF37 rfl (fun hb38 => ?_) (fun hb38 => ?_)
  skip
  · cases hb38
  refine wp_skip ?_
  refine gw_nx (hK19 _ _ ?_)
  refine gw_seq fun K39 hK39 => ?_
  refine gw_seq fun K40 hK40 => ?_
  refine wp_region_lit ?_
  refine gw_ev HF37 (want_none rfl) rfl (by decide) (op_move rfl (HF37.ev rfl)) ?_
  intro a41 HF42; clear HF37
  refine gw_ev HF42 (want_none rfl) rfl (by decide) (op_len Try.underlying28 rfl (HF42.ev rfl)) ?_
  intro a43 HF44; clear HF42
  refine gw_ev HF44 (want_none rfl) rfl (by decide) (op_move rfl (HF44.ev rfl)) ?_
  intro a45 HF46; clear HF44
  refine gw_ev HF46 (want_none rfl) rfl (by decide) (op_len Try.underlying28 rfl (HF46.ev rfl)) ?_
  intro a47 HF48; clear HF46
  refine gw_ev HF48 (want_none rfl) rfl (by decide) (op_add rfl (HF48.ev rfl) (HF48.ev rfl) (by omega)) ?_
  intro a49 HF50; clear HF48
  refine gw_ev HF50 (want_none rfl) rfl (by decide) (op_move rfl (HF50.ev rfl)) ?_
  intro a51 HF52; clear HF50
  refine gw_ev HF52 (want_none rfl) rfl (by decide) (op_len Try.underlying28 rfl (HF52.ev rfl)) ?_
  intro a53 HF54; clear HF52
  refine gw_ev HF54 (want_none rfl) rfl (by decide) (op_add rfl (HF54.ev rfl) (HF54.ev rfl) (by omega)) ?_
  intro a55 HF56; clear HF54
  refine gw_ev HF56 (want_none rfl) rfl (by decide) (op_gtr rfl (HF56.ev rfl) (ev_c _ _)) ?_
  intro a57 HF58; clear HF56
  refine wpList_nil ?_
  refine gw_nx (hK40 _ _ ?_)
  refine gw_cond HF58 rfl (fun hb59 => ?_) (fun hb59 => ?_)
  · skip
    have HF60 := HF58.subst_ (d := 31) (b := true) rfl hb59
    clear HF58
    (try simp only [Bool.and_eq_true, Bool.or_eq_true, Bool.and_eq_false_iff, Bool.or_eq_false_iff, Bool.not_and, Bool.not_or, Bool.not_not, decide_eq_true_eq, decide_eq_false_iff_not, Bool.not_eq_true', Bool.not_eq_false', Bool.not_eq_true, Bool.not_eq_false, ne_eq, Decidable.not_not, Int.not_lt, Int.not_le, not_true_eq_false, not_false_eq_true, bne_iff_ne, beq_iff_eq, bne_eq_false_iff_eq, beq_eq_false_iff_ne] at hb59)
    refine gw_seq fun K61 hK61 => ?_
    refine wp_region_lit ?_
    refine gw_ev HF60 (want_none rfl) rfl (by decide) (op_assign rfl (ev_c _ _)) ?_
    intro a62 HF63; clear HF60
    refine wpList_nil ?_
    refine gw_nx (hK61 _ _ ?_)
    refine wp_ret ?_
    refine gw_thr ?_
    refine gw_ret1 HF63 rfl rfl ?_
    exact ⟨rfl, HO32.below⟩
  · skip
    have HF64 := HF58.subst_ (d := 31) (b := false) rfl hb59
    clear HF58
    (try simp only [Bool.and_eq_true, Bool.or_eq_true, Bool.and_eq_false_iff, Bool.or_eq_false_iff, Bool.not_and, Bool.not_or, Bool.not_not, decide_eq_true_eq, decide_eq_false_iff_not, Bool.not_eq_true', Bool.not_eq_false', Bool.not_eq_true, Bool.not_eq_false, ne_eq, Decidable.not_not, Int.not_lt, Int.not_le, not_true_eq_false, not_false_eq_true, bne_iff_ne, beq_iff_eq, bne_eq_false_iff_eq, beq_eq_false_iff_ne] at hb59)
    refine wp_skip ?_
    refine gw_nx (hK39 _ _ ?_)
    refine gw_seq fun K65 hK65 => ?_
    refine gw_seq fun K66 hK66 => ?_
    refine wp_region_lit ?_
    refine gw_ev HF64 (want_none rfl) rfl (by decide) (op_move rfl (HF64.ev rfl)) ?_
    intro a67 HF68; clear HF64
    have HO77 : Own w _ [(Chunk.all []), Chunk.disk w.heap.size gd5 S6 (newD 1048576)] := Own.bundle (A := []) (L := [Chunk.disk w.heap.size gd5 S6 (newD 1048576)]) (HO32.sel [0] (by decide))
    refine gw_call HF68 (want_none rfl) rfl (by decide) (op_callL Try.func13 (by kernel_rfl) rfl rfl (ar_cons (HF68.ev rfl) (ar_cons (ev_c _ _) ar_nil))) ((by have h_ := create_calls w _ (Chunk.all []) gd5 S6 (newD 1048576) (⟨#[97]⟩ : ByteArray) hwf7 (by decide) (by first | decide | (show 1 ≤ 1000000; decide) | (show 2 ≤ 1000000; decide)) (by exact HO77); rw [show (createD (⟨#[97]⟩ : ByteArray) (newD 1048576)) = ((⟨[⟨nA, [], 0⟩], M20, 0, 0, false⟩ : PD), 0) from mv1] at h_; (try dsimp only at h_); exact h_)) ?_
    rintro e71 w72 ⟨rfl, S69, hb73⟩
    refine ⟨_, rfl, fun a74 HF75 => ?_⟩
    have HO76 : Own w w72 [Chunk.disk w.heap.size gd5 S69 (⟨[⟨nA, [], 0⟩], M20, 0, 0, false⟩ : PD)] := Own.unbundle (A := []) (L := [Chunk.disk w.heap.size gd5 S69 (⟨[⟨nA, [], 0⟩], M20, 0, 0, false⟩ : PD)]) (hb73.sel [0, 1] (by decide))
    clear HO77
    clear HF68 HO32 hb73
    have HO79 : Own w w72 [Chunk.disk w.heap.size gd5 S69 (⟨[⟨nA, [], 0⟩], M20, 0, 0, false⟩ : PD)] := HO76
    clear HO76
    have hwf70 : wfD (⟨[⟨nA, [], 0⟩], M20, 0, 0, false⟩ : PD) := by have h_ : wfD (createD (⟨#[97]⟩ : ByteArray) (newD 1048576)).1 := wf_create hwf7; rw [show (createD (⟨#[97]⟩ : ByteArray) (newD 1048576)) = ((⟨[⟨nA, [], 0⟩], M20, 0, 0, false⟩ : PD), 0) from mv1] at h_; exact h_
    refine gw_ev HF75 (want_none rfl) rfl (by decide) (op_nei rfl (HF75.ev rfl) (ev_c _ _)) ?_
    intro a80 HF81; clear HF75
    have HF82 := HF81.lit (b := false) (by decide)
    clear HF81
    refine gw_ev HF82 (want_none rfl) rfl (by decide) (op_move rfl (HF82.ev rfl)) ?_
    intro a83 HF84; clear HF82
    refine gw_ev HF84 (want_yes HF84 rfl rfl rfl rfl) rfl (by decide) (op_move rfl (HF84.ev rfl)) ?_
    intro a85 HF86; clear HF84
    have HO95 : Own w _ [(Chunk.all []), Chunk.disk w.heap.size gd5 S69 (⟨[⟨nA, [], 0⟩], M20, 0, 0, false⟩ : PD)] := Own.bundle (A := []) (L := [Chunk.disk w.heap.size gd5 S69 (⟨[⟨nA, [], 0⟩], M20, 0, 0, false⟩ : PD)]) (HO79.sel [0] (by decide))
    refine gw_call HF86 (want_yes HF86 rfl rfl rfl rfl) rfl (by decide) (op_callL Try.func13 (by kernel_rfl) rfl rfl (ar_cons (HF86.ev rfl) (ar_cons (ev_c _ _) ar_nil))) ((by have h_ := create_calls w _ (Chunk.all []) gd5 S69 (⟨[⟨nA, [], 0⟩], M20, 0, 0, false⟩ : PD) (⟨#[98]⟩ : ByteArray) hwf70 (by decide) (by first | decide | (show 1 ≤ 1000000; decide) | (show 2 ≤ 1000000; decide)) (by exact HO95); rw [show (createD (⟨#[98]⟩ : ByteArray) (⟨[⟨nA, [], 0⟩], M20, 0, 0, false⟩ : PD)) = ((⟨[⟨nA, [], 0⟩, ⟨nB, [], 0⟩], M20, 0, 0, false⟩ : PD), 0) from mv2] at h_; (try dsimp only at h_); exact h_)) ?_
    rintro e89 w90 ⟨rfl, S87, hb91⟩
    refine ⟨_, rfl, fun a92 HF93 => ?_⟩
    have HO94 : Own w w90 [Chunk.disk w.heap.size gd5 S87 (⟨[⟨nA, [], 0⟩, ⟨nB, [], 0⟩], M20, 0, 0, false⟩ : PD)] := Own.unbundle (A := []) (L := [Chunk.disk w.heap.size gd5 S87 (⟨[⟨nA, [], 0⟩, ⟨nB, [], 0⟩], M20, 0, 0, false⟩ : PD)]) (hb91.sel [0, 1] (by decide))
    clear HO95
    clear HF86 HO79 hb91
    have HO97 : Own w w90 [Chunk.disk w.heap.size gd5 S87 (⟨[⟨nA, [], 0⟩, ⟨nB, [], 0⟩], M20, 0, 0, false⟩ : PD)] := HO94
    clear HO94
    have hwf88 : wfD (⟨[⟨nA, [], 0⟩, ⟨nB, [], 0⟩], M20, 0, 0, false⟩ : PD) := by have h_ : wfD (createD (⟨#[98]⟩ : ByteArray) (⟨[⟨nA, [], 0⟩], M20, 0, 0, false⟩ : PD)).1 := wf_create hwf70; rw [show (createD (⟨#[98]⟩ : ByteArray) (⟨[⟨nA, [], 0⟩], M20, 0, 0, false⟩ : PD)) = ((⟨[⟨nA, [], 0⟩, ⟨nB, [], 0⟩], M20, 0, 0, false⟩ : PD), 0) from mv2] at h_; exact h_
    refine gw_ev HF93 (want_yes HF93 rfl rfl rfl rfl) rfl (by decide) (op_nei rfl (HF93.ev rfl) (ev_c _ _)) ?_
    intro a98 HF99; clear HF93
    have HF100 := HF99.lit (b := false) (by decide)
    clear HF99
    refine gw_ev HF100 (want_none rfl) rfl (by decide) (op_pick_f rfl (HF100.ev rfl) (HF100.ev rfl)) ?_
    intro a101 HF102; clear HF100
    refine gw_ev HF102 (want_none rfl) rfl (by decide) (op_move rfl (HF102.ev rfl)) ?_
    intro a103 HF104; clear HF102
    refine gw_ev HF104 (want_yes HF104 rfl rfl rfl rfl) rfl (by decide) (op_move rfl (HF104.ev rfl)) ?_
    intro a105 HF106; clear HF104
    refine gw_ev HF106 (want_yes HF106 rfl rfl rfl rfl) rfl (by decide) (op_move rfl (HF106.ev rfl)) ?_
    intro a107 HF108; clear HF106
    have HO117 : Own w _ [(Chunk.all []), Chunk.disk w.heap.size gd5 S87 (⟨[⟨nA, [], 0⟩, ⟨nB, [], 0⟩], M20, 0, 0, false⟩ : PD)] := Own.bundle (A := []) (L := [Chunk.disk w.heap.size gd5 S87 (⟨[⟨nA, [], 0⟩, ⟨nB, [], 0⟩], M20, 0, 0, false⟩ : PD)]) (HO97.sel [0] (by decide))
    refine gw_call HF108 (want_yes HF108 rfl rfl rfl rfl) rfl (by decide) (op_callL Try.func15 (by kernel_rfl) rfl rfl (ar_cons (HF108.ev rfl) (ar_cons (ev_c _ _) (ar_cons (HF108.ev rfl) ar_nil)))) ((by have h_ := append_calls w _ (Chunk.all []) gd5 S87 (⟨[⟨nA, [], 0⟩, ⟨nB, [], 0⟩], M20, 0, 0, false⟩ : PD) (⟨#[97]⟩ : ByteArray) A0 c0 la (fun w_ h_ => Kd.C_below hr0 h_.below) hc0 hwf88 (by decide) (by first | (simp only [M20]; omega) | omega) (by exact HO117); rw [show (appendD (⟨#[97]⟩ : ByteArray) la (⟨[⟨nA, [], 0⟩, ⟨nB, [], 0⟩], M20, 0, 0, false⟩ : PD)) = ((⟨[⟨nA, la, 0⟩, ⟨nB, [], 0⟩], M20, (la.length : Int), 0, false⟩ : PD), 0) from (mv3 (by omega))] at h_; (try dsimp only at h_); exact h_)) ?_
    rintro e111 w112 ⟨rfl, S109, hb113⟩
    refine ⟨_, rfl, fun a114 HF115 => ?_⟩
    have HO116 : Own w w112 [Chunk.disk w.heap.size gd5 S109 (⟨[⟨nA, la, 0⟩, ⟨nB, [], 0⟩], M20, (la.length : Int), 0, false⟩ : PD)] := Own.unbundle (A := []) (L := [Chunk.disk w.heap.size gd5 S109 (⟨[⟨nA, la, 0⟩, ⟨nB, [], 0⟩], M20, (la.length : Int), 0, false⟩ : PD)]) (hb113.sel [0, 1] (by decide))
    clear HO117
    clear HF108 HO97 hb113
    have HO119 : Own w w112 [Chunk.disk w.heap.size gd5 S109 (⟨[⟨nA, la, 0⟩, ⟨nB, [], 0⟩], M20, (la.length : Int), 0, false⟩ : PD)] := HO116
    clear HO116
    have hwf110 : wfD (⟨[⟨nA, la, 0⟩, ⟨nB, [], 0⟩], M20, (la.length : Int), 0, false⟩ : PD) := by have h_ : wfD (appendD (⟨#[97]⟩ : ByteArray) la (⟨[⟨nA, [], 0⟩, ⟨nB, [], 0⟩], M20, 0, 0, false⟩ : PD)).1 := wf_append hwf88; rw [show (appendD (⟨#[97]⟩ : ByteArray) la (⟨[⟨nA, [], 0⟩, ⟨nB, [], 0⟩], M20, 0, 0, false⟩ : PD)) = ((⟨[⟨nA, la, 0⟩, ⟨nB, [], 0⟩], M20, (la.length : Int), 0, false⟩ : PD), 0) from (mv3 (by omega))] at h_; exact h_
    refine gw_ev HF115 (want_yes HF115 rfl rfl rfl rfl) rfl (by decide) (op_nei rfl (HF115.ev rfl) (ev_c _ _)) ?_
    intro a120 HF121; clear HF115
    have HF122 := HF121.lit (b := false) (by decide)
    clear HF121
    refine gw_ev HF122 (want_none rfl) rfl (by decide) (op_pick_f rfl (HF122.ev rfl) (HF122.ev rfl)) ?_
    intro a123 HF124; clear HF122
    refine gw_ev HF124 (want_none rfl) rfl (by decide) (op_move rfl (HF124.ev rfl)) ?_
    intro a125 HF126; clear HF124
    refine gw_ev HF126 (want_yes HF126 rfl rfl rfl rfl) rfl (by decide) (op_move rfl (HF126.ev rfl)) ?_
    intro a127 HF128; clear HF126
    refine gw_ev HF128 (want_yes HF128 rfl rfl rfl rfl) rfl (by decide) (op_move rfl (HF128.ev rfl)) ?_
    intro a129 HF130; clear HF128
    have HO139 : Own w _ [(Chunk.all []), Chunk.disk w.heap.size gd5 S109 (⟨[⟨nA, la, 0⟩, ⟨nB, [], 0⟩], M20, (la.length : Int), 0, false⟩ : PD)] := Own.bundle (A := []) (L := [Chunk.disk w.heap.size gd5 S109 (⟨[⟨nA, la, 0⟩, ⟨nB, [], 0⟩], M20, (la.length : Int), 0, false⟩ : PD)]) (HO119.sel [0] (by decide))
    refine gw_call HF130 (want_yes HF130 rfl rfl rfl rfl) rfl (by decide) (op_callL Try.func15 (by kernel_rfl) rfl rfl (ar_cons (HF130.ev rfl) (ar_cons (ev_c _ _) (ar_cons (HF130.ev rfl) ar_nil)))) ((by have h_ := append_calls w _ (Chunk.all []) gd5 S109 (⟨[⟨nA, la, 0⟩, ⟨nB, [], 0⟩], M20, (la.length : Int), 0, false⟩ : PD) (⟨#[98]⟩ : ByteArray) A1 c1 lb (fun w_ h_ => Kd.C_below hr1 h_.below) hc1 hwf110 (by decide) (by first | (simp only [M20]; omega) | omega) (by exact HO139); rw [show (appendD (⟨#[98]⟩ : ByteArray) lb (⟨[⟨nA, la, 0⟩, ⟨nB, [], 0⟩], M20, (la.length : Int), 0, false⟩ : PD)) = ((⟨[⟨nA, la, 0⟩, ⟨nB, lb, 0⟩], M20, ((la.length : Int) + lb.length), 0, false⟩ : PD), 0) from (mv4 (by omega))] at h_; (try dsimp only at h_); exact h_)) ?_
    rintro e133 w134 ⟨rfl, S131, hb135⟩
    refine ⟨_, rfl, fun a136 HF137 => ?_⟩
    have HO138 : Own w w134 [Chunk.disk w.heap.size gd5 S131 (⟨[⟨nA, la, 0⟩, ⟨nB, lb, 0⟩], M20, ((la.length : Int) + lb.length), 0, false⟩ : PD)] := Own.unbundle (A := []) (L := [Chunk.disk w.heap.size gd5 S131 (⟨[⟨nA, la, 0⟩, ⟨nB, lb, 0⟩], M20, ((la.length : Int) + lb.length), 0, false⟩ : PD)]) (hb135.sel [0, 1] (by decide))
    clear HO139
    clear HF130 HO119 hb135
    have HO141 : Own w w134 [Chunk.disk w.heap.size gd5 S131 (⟨[⟨nA, la, 0⟩, ⟨nB, lb, 0⟩], M20, ((la.length : Int) + lb.length), 0, false⟩ : PD)] := HO138
    clear HO138
    have hwf132 : wfD (⟨[⟨nA, la, 0⟩, ⟨nB, lb, 0⟩], M20, ((la.length : Int) + lb.length), 0, false⟩ : PD) := by have h_ : wfD (appendD (⟨#[98]⟩ : ByteArray) lb (⟨[⟨nA, la, 0⟩, ⟨nB, [], 0⟩], M20, (la.length : Int), 0, false⟩ : PD)).1 := wf_append hwf110; rw [show (appendD (⟨#[98]⟩ : ByteArray) lb (⟨[⟨nA, la, 0⟩, ⟨nB, [], 0⟩], M20, (la.length : Int), 0, false⟩ : PD)) = ((⟨[⟨nA, la, 0⟩, ⟨nB, lb, 0⟩], M20, ((la.length : Int) + lb.length), 0, false⟩ : PD), 0) from (mv4 (by omega))] at h_; exact h_
    refine gw_ev HF137 (want_yes HF137 rfl rfl rfl rfl) rfl (by decide) (op_nei rfl (HF137.ev rfl) (ev_c _ _)) ?_
    intro a142 HF143; clear HF137
    have HF144 := HF143.lit (b := false) (by decide)
    clear HF143
    refine gw_ev HF144 (want_none rfl) rfl (by decide) (op_pick_f rfl (HF144.ev rfl) (HF144.ev rfl)) ?_
    intro a145 HF146; clear HF144
    refine gw_ev HF146 (want_none rfl) rfl (by decide) (op_move rfl (HF146.ev rfl)) ?_
    intro a147 HF148; clear HF146
    refine gw_ev HF148 (want_yes HF148 rfl rfl rfl rfl) rfl (by decide) (op_move rfl (HF148.ev rfl)) ?_
    intro a149 HF150; clear HF148
    have HO159 : Own w _ [(Chunk.all []), Chunk.disk w.heap.size gd5 S131 (⟨[⟨nA, la, 0⟩, ⟨nB, lb, 0⟩], M20, ((la.length : Int) + lb.length), 0, false⟩ : PD)] := Own.bundle (A := []) (L := [Chunk.disk w.heap.size gd5 S131 (⟨[⟨nA, la, 0⟩, ⟨nB, lb, 0⟩], M20, ((la.length : Int) + lb.length), 0, false⟩ : PD)]) (HO141.sel [0] (by decide))
    refine gw_call HF150 (want_yes HF150 rfl rfl rfl rfl) rfl (by decide) (op_callL Try.func16 (by kernel_rfl) rfl rfl (ar_cons (HF150.ev rfl) (ar_cons (ev_c _ _) ar_nil))) ((by have h_ := sync_calls w _ (Chunk.all []) gd5 S131 (⟨[⟨nA, la, 0⟩, ⟨nB, lb, 0⟩], M20, ((la.length : Int) + lb.length), 0, false⟩ : PD) (⟨#[97]⟩ : ByteArray) hwf132 (by decide) (by exact HO159); rw [show (syncD (⟨#[97]⟩ : ByteArray) (⟨[⟨nA, la, 0⟩, ⟨nB, lb, 0⟩], M20, ((la.length : Int) + lb.length), 0, false⟩ : PD)) = ((⟨[⟨nA, la, (la.length : Int)⟩, ⟨nB, lb, 0⟩], M20, ((la.length : Int) + lb.length), 0, false⟩ : PD), 0) from mv5] at h_; (try dsimp only at h_); exact h_)) ?_
    rintro e153 w154 ⟨rfl, S151, hb155⟩
    refine ⟨_, rfl, fun a156 HF157 => ?_⟩
    have HO158 : Own w w154 [Chunk.disk w.heap.size gd5 S151 (⟨[⟨nA, la, (la.length : Int)⟩, ⟨nB, lb, 0⟩], M20, ((la.length : Int) + lb.length), 0, false⟩ : PD)] := Own.unbundle (A := []) (L := [Chunk.disk w.heap.size gd5 S151 (⟨[⟨nA, la, (la.length : Int)⟩, ⟨nB, lb, 0⟩], M20, ((la.length : Int) + lb.length), 0, false⟩ : PD)]) (hb155.sel [0, 1] (by decide))
    clear HO159
    clear HF150 HO141 hb155
    have HO161 : Own w w154 [Chunk.disk w.heap.size gd5 S151 (⟨[⟨nA, la, (la.length : Int)⟩, ⟨nB, lb, 0⟩], M20, ((la.length : Int) + lb.length), 0, false⟩ : PD)] := HO158
    clear HO158
    have hwf152 : wfD (⟨[⟨nA, la, (la.length : Int)⟩, ⟨nB, lb, 0⟩], M20, ((la.length : Int) + lb.length), 0, false⟩ : PD) := by have h_ : wfD (syncD (⟨#[97]⟩ : ByteArray) (⟨[⟨nA, la, 0⟩, ⟨nB, lb, 0⟩], M20, ((la.length : Int) + lb.length), 0, false⟩ : PD)).1 := wf_sync hwf132; rw [show (syncD (⟨#[97]⟩ : ByteArray) (⟨[⟨nA, la, 0⟩, ⟨nB, lb, 0⟩], M20, ((la.length : Int) + lb.length), 0, false⟩ : PD)) = ((⟨[⟨nA, la, (la.length : Int)⟩, ⟨nB, lb, 0⟩], M20, ((la.length : Int) + lb.length), 0, false⟩ : PD), 0) from mv5] at h_; exact h_
    refine gw_ev HF157 (want_yes HF157 rfl rfl rfl rfl) rfl (by decide) (op_nei rfl (HF157.ev rfl) (ev_c _ _)) ?_
    intro a162 HF163; clear HF157
    have HF164 := HF163.lit (b := false) (by decide)
    clear HF163
    refine gw_ev HF164 (want_none rfl) rfl (by decide) (op_pick_f rfl (HF164.ev rfl) (HF164.ev rfl)) ?_
    intro a165 HF166; clear HF164
    refine gw_ev HF166 (want_none rfl) rfl (by decide) (op_move rfl (HF166.ev rfl)) ?_
    intro a167 HF168; clear HF166
    refine gw_ev HF168 (want_yes HF168 rfl rfl rfl rfl) rfl (by decide) (op_move rfl (HF168.ev rfl)) ?_
    intro a169 HF170; clear HF168
    refine gw_ev HF170 (want_yes HF170 rfl rfl rfl rfl) rfl (by decide) (op_move rfl (HF170.ev rfl)) ?_
    intro a171 HF172; clear HF170
    have HO181 : Own w _ [(Chunk.all []), Chunk.disk w.heap.size gd5 S151 (⟨[⟨nA, la, (la.length : Int)⟩, ⟨nB, lb, 0⟩], M20, ((la.length : Int) + lb.length), 0, false⟩ : PD)] := Own.bundle (A := []) (L := [Chunk.disk w.heap.size gd5 S151 (⟨[⟨nA, la, (la.length : Int)⟩, ⟨nB, lb, 0⟩], M20, ((la.length : Int) + lb.length), 0, false⟩ : PD)]) (HO161.sel [0] (by decide))
    refine gw_call HF172 (want_yes HF172 rfl rfl rfl rfl) rfl (by decide) (op_callL Try.func15 (by kernel_rfl) rfl rfl (ar_cons (HF172.ev rfl) (ar_cons (ev_c _ _) (ar_cons (HF172.ev rfl) ar_nil)))) ((by have h_ := append_calls w _ (Chunk.all []) gd5 S151 (⟨[⟨nA, la, (la.length : Int)⟩, ⟨nB, lb, 0⟩], M20, ((la.length : Int) + lb.length), 0, false⟩ : PD) (⟨#[97]⟩ : ByteArray) A2 c2 more (fun w_ h_ => Kd.C_below hr2 h_.below) hc2 hwf152 (by decide) (by first | (simp only [M20]; omega) | omega) (by exact HO181); rw [show (appendD (⟨#[97]⟩ : ByteArray) more (⟨[⟨nA, la, (la.length : Int)⟩, ⟨nB, lb, 0⟩], M20, ((la.length : Int) + lb.length), 0, false⟩ : PD)) = ((⟨[⟨nA, la ++ more, (la.length : Int)⟩, ⟨nB, lb, 0⟩], M20, ((la.length : Int) + lb.length + more.length), 0, false⟩ : PD), 0) from (mv6 (by omega))] at h_; (try dsimp only at h_); exact h_)) ?_
    rintro e175 w176 ⟨rfl, S173, hb177⟩
    refine ⟨_, rfl, fun a178 HF179 => ?_⟩
    have HO180 : Own w w176 [Chunk.disk w.heap.size gd5 S173 (⟨[⟨nA, la ++ more, (la.length : Int)⟩, ⟨nB, lb, 0⟩], M20, ((la.length : Int) + lb.length + more.length), 0, false⟩ : PD)] := Own.unbundle (A := []) (L := [Chunk.disk w.heap.size gd5 S173 (⟨[⟨nA, la ++ more, (la.length : Int)⟩, ⟨nB, lb, 0⟩], M20, ((la.length : Int) + lb.length + more.length), 0, false⟩ : PD)]) (hb177.sel [0, 1] (by decide))
    clear HO181
    clear HF172 HO161 hb177
    have HO183 : Own w w176 [Chunk.disk w.heap.size gd5 S173 (⟨[⟨nA, la ++ more, (la.length : Int)⟩, ⟨nB, lb, 0⟩], M20, ((la.length : Int) + lb.length + more.length), 0, false⟩ : PD)] := HO180
    clear HO180
    have hwf174 : wfD (⟨[⟨nA, la ++ more, (la.length : Int)⟩, ⟨nB, lb, 0⟩], M20, ((la.length : Int) + lb.length + more.length), 0, false⟩ : PD) := by have h_ : wfD (appendD (⟨#[97]⟩ : ByteArray) more (⟨[⟨nA, la, (la.length : Int)⟩, ⟨nB, lb, 0⟩], M20, ((la.length : Int) + lb.length), 0, false⟩ : PD)).1 := wf_append hwf152; rw [show (appendD (⟨#[97]⟩ : ByteArray) more (⟨[⟨nA, la, (la.length : Int)⟩, ⟨nB, lb, 0⟩], M20, ((la.length : Int) + lb.length), 0, false⟩ : PD)) = ((⟨[⟨nA, la ++ more, (la.length : Int)⟩, ⟨nB, lb, 0⟩], M20, ((la.length : Int) + lb.length + more.length), 0, false⟩ : PD), 0) from (mv6 (by omega))] at h_; exact h_
    refine gw_ev HF179 (want_yes HF179 rfl rfl rfl rfl) rfl (by decide) (op_nei rfl (HF179.ev rfl) (ev_c _ _)) ?_
    intro a184 HF185; clear HF179
    have HF186 := HF185.lit (b := false) (by decide)
    clear HF185
    refine gw_ev HF186 (want_none rfl) rfl (by decide) (op_pick_f rfl (HF186.ev rfl) (HF186.ev rfl)) ?_
    intro a187 HF188; clear HF186
    refine wpList_nil ?_
    refine gw_nx (hK66 _ _ ?_)
    refine gw_cond HF188 rfl (fun hb189 => ?_) (fun hb189 => ?_)
    skip
    · cases hb189
    refine wp_skip ?_
    refine gw_nx (hK65 _ _ ?_)
    refine gw_seq fun K190 hK190 => ?_
    refine gw_seq fun K191 hK191 => ?_
    refine wp_region_lit ?_
    refine gw_ev HF188 (want_none rfl) rfl (by decide) (op_move rfl (HF188.ev rfl)) ?_
    intro a192 HF193; clear HF188
    have HO202 : Own w _ [(Chunk.all []), Chunk.disk w.heap.size gd5 S173 (⟨[⟨nA, la ++ more, (la.length : Int)⟩, ⟨nB, lb, 0⟩], M20, ((la.length : Int) + lb.length + more.length), 0, false⟩ : PD)] := Own.bundle (A := []) (L := [Chunk.disk w.heap.size gd5 S173 (⟨[⟨nA, la ++ more, (la.length : Int)⟩, ⟨nB, lb, 0⟩], M20, ((la.length : Int) + lb.length + more.length), 0, false⟩ : PD)]) (HO183.sel [0] (by decide))
    refine gw_call HF193 (want_none rfl) rfl (by decide) (op_callL Try.func23 (by kernel_rfl) rfl rfl (ar_cons (HF193.ev rfl) (ar_cons (ev_c _ _) (ar_cons (ev_c _ _) ar_nil)))) ((by have h_ := rename_calls w _ (Chunk.all []) gd5 S173 (⟨[⟨nA, la ++ more, (la.length : Int)⟩, ⟨nB, lb, 0⟩], M20, ((la.length : Int) + lb.length + more.length), 0, false⟩ : PD) (⟨#[97]⟩ : ByteArray) (⟨#[97]⟩ : ByteArray) hwf174 (by decide) (by decide) (by first | decide | (show 1 ≤ 1000000; decide) | (show 2 ≤ 1000000; decide)) (by exact HO202); rw [show (renameD (⟨#[97]⟩ : ByteArray) (⟨#[97]⟩ : ByteArray) (⟨[⟨nA, la ++ more, (la.length : Int)⟩, ⟨nB, lb, 0⟩], M20, ((la.length : Int) + lb.length + more.length), 0, false⟩ : PD)) = ((⟨[⟨nA, la ++ more, (la.length : Int)⟩, ⟨nB, lb, 0⟩], M20, ((la.length : Int) + lb.length + more.length), 0, false⟩ : PD), 0) from (mv7 (f := ⟨nA, la ++ more, (la.length : Int)⟩) (by unfold getF; simp))] at h_; (try dsimp only at h_); exact h_)) ?_
    rintro e196 w197 ⟨rfl, S194, hb198⟩
    refine ⟨_, rfl, fun a199 HF200 => ?_⟩
    have HO201 : Own w w197 [Chunk.disk w.heap.size gd5 S194 (⟨[⟨nA, la ++ more, (la.length : Int)⟩, ⟨nB, lb, 0⟩], M20, ((la.length : Int) + lb.length + more.length), 0, false⟩ : PD)] := Own.unbundle (A := []) (L := [Chunk.disk w.heap.size gd5 S194 (⟨[⟨nA, la ++ more, (la.length : Int)⟩, ⟨nB, lb, 0⟩], M20, ((la.length : Int) + lb.length + more.length), 0, false⟩ : PD)]) (hb198.sel [0, 1] (by decide))
    clear HO202
    clear HF193 HO183 hb198
    have HO204 : Own w w197 [Chunk.disk w.heap.size gd5 S194 (⟨[⟨nA, la ++ more, (la.length : Int)⟩, ⟨nB, lb, 0⟩], M20, ((la.length : Int) + lb.length + more.length), 0, false⟩ : PD)] := HO201
    clear HO201
    have hwf195 : wfD (⟨[⟨nA, la ++ more, (la.length : Int)⟩, ⟨nB, lb, 0⟩], M20, ((la.length : Int) + lb.length + more.length), 0, false⟩ : PD) := by have h_ : wfD (renameD (⟨#[97]⟩ : ByteArray) (⟨#[97]⟩ : ByteArray) (⟨[⟨nA, la ++ more, (la.length : Int)⟩, ⟨nB, lb, 0⟩], M20, ((la.length : Int) + lb.length + more.length), 0, false⟩ : PD)).1 := wf_rename hwf174; rw [show (renameD (⟨#[97]⟩ : ByteArray) (⟨#[97]⟩ : ByteArray) (⟨[⟨nA, la ++ more, (la.length : Int)⟩, ⟨nB, lb, 0⟩], M20, ((la.length : Int) + lb.length + more.length), 0, false⟩ : PD)) = ((⟨[⟨nA, la ++ more, (la.length : Int)⟩, ⟨nB, lb, 0⟩], M20, ((la.length : Int) + lb.length + more.length), 0, false⟩ : PD), 0) from (mv7 (f := ⟨nA, la ++ more, (la.length : Int)⟩) (by unfold getF; simp))] at h_; exact h_
    refine gw_ev HF200 (want_none rfl) rfl (by decide) (op_nei rfl (HF200.ev rfl) (ev_c _ _)) ?_
    intro a205 HF206; clear HF200
    have HF207 := HF206.lit (b := false) (by decide)
    clear HF206
    refine gw_ev HF207 (want_none rfl) rfl (by decide) (op_move rfl (HF207.ev rfl)) ?_
    intro a208 HF209; clear HF207
    refine gw_ev HF209 (want_yes HF209 rfl rfl rfl rfl) rfl (by decide) (op_move rfl (HF209.ev rfl)) ?_
    intro a210 HF211; clear HF209
    have HO220 : Own w _ [(Chunk.all []), Chunk.disk w.heap.size gd5 S194 (⟨[⟨nA, la ++ more, (la.length : Int)⟩, ⟨nB, lb, 0⟩], M20, ((la.length : Int) + lb.length + more.length), 0, false⟩ : PD)] := Own.bundle (A := []) (L := [Chunk.disk w.heap.size gd5 S194 (⟨[⟨nA, la ++ more, (la.length : Int)⟩, ⟨nB, lb, 0⟩], M20, ((la.length : Int) + lb.length + more.length), 0, false⟩ : PD)]) (HO204.sel [0] (by decide))
    refine gw_call HF211 (want_yes HF211 rfl rfl rfl rfl) rfl (by decide) (op_callL Try.func23 (by kernel_rfl) rfl rfl (ar_cons (HF211.ev rfl) (ar_cons (ev_c _ _) (ar_cons (ev_c _ _) ar_nil)))) ((by have h_ := rename_calls w _ (Chunk.all []) gd5 S194 (⟨[⟨nA, la ++ more, (la.length : Int)⟩, ⟨nB, lb, 0⟩], M20, ((la.length : Int) + lb.length + more.length), 0, false⟩ : PD) (⟨#[97]⟩ : ByteArray) (⟨#[98]⟩ : ByteArray) hwf195 (by decide) (by decide) (by first | decide | (show 1 ≤ 1000000; decide) | (show 2 ≤ 1000000; decide)) (by exact HO220); rw [show (renameD (⟨#[97]⟩ : ByteArray) (⟨#[98]⟩ : ByteArray) (⟨[⟨nA, la ++ more, (la.length : Int)⟩, ⟨nB, lb, 0⟩], M20, ((la.length : Int) + lb.length + more.length), 0, false⟩ : PD)) = ((⟨[⟨nB, la ++ more, (la.length : Int)⟩], M20, ((la ++ more).length : Int), 0, false⟩ : PD), 0) from mv8] at h_; (try dsimp only at h_); exact h_)) ?_
    rintro e214 w215 ⟨rfl, S212, hb216⟩
    refine ⟨_, rfl, fun a217 HF218 => ?_⟩
    have HO219 : Own w w215 [Chunk.disk w.heap.size gd5 S212 (⟨[⟨nB, la ++ more, (la.length : Int)⟩], M20, ((la ++ more).length : Int), 0, false⟩ : PD)] := Own.unbundle (A := []) (L := [Chunk.disk w.heap.size gd5 S212 (⟨[⟨nB, la ++ more, (la.length : Int)⟩], M20, ((la ++ more).length : Int), 0, false⟩ : PD)]) (hb216.sel [0, 1] (by decide))
    clear HO220
    clear HF211 HO204 hb216
    have HO222 : Own w w215 [Chunk.disk w.heap.size gd5 S212 (⟨[⟨nB, la ++ more, (la.length : Int)⟩], M20, ((la ++ more).length : Int), 0, false⟩ : PD)] := HO219
    clear HO219
    have hwf213 : wfD (⟨[⟨nB, la ++ more, (la.length : Int)⟩], M20, ((la ++ more).length : Int), 0, false⟩ : PD) := by have h_ : wfD (renameD (⟨#[97]⟩ : ByteArray) (⟨#[98]⟩ : ByteArray) (⟨[⟨nA, la ++ more, (la.length : Int)⟩, ⟨nB, lb, 0⟩], M20, ((la.length : Int) + lb.length + more.length), 0, false⟩ : PD)).1 := wf_rename hwf195; rw [show (renameD (⟨#[97]⟩ : ByteArray) (⟨#[98]⟩ : ByteArray) (⟨[⟨nA, la ++ more, (la.length : Int)⟩, ⟨nB, lb, 0⟩], M20, ((la.length : Int) + lb.length + more.length), 0, false⟩ : PD)) = ((⟨[⟨nB, la ++ more, (la.length : Int)⟩], M20, ((la ++ more).length : Int), 0, false⟩ : PD), 0) from mv8] at h_; exact h_
    refine gw_ev HF218 (want_yes HF218 rfl rfl rfl rfl) rfl (by decide) (op_nei rfl (HF218.ev rfl) (ev_c _ _)) ?_
    intro a223 HF224; clear HF218
    have HF225 := HF224.lit (b := false) (by decide)
    clear HF224
    refine gw_ev HF225 (want_none rfl) rfl (by decide) (op_pick_f rfl (HF225.ev rfl) (HF225.ev rfl)) ?_
    intro a226 HF227; clear HF225
    refine gw_ev HF227 (want_none rfl) rfl (by decide) (op_move rfl (HF227.ev rfl)) ?_
    intro a228 HF229; clear HF227
    refine gw_ev HF229 (want_yes HF229 rfl rfl rfl rfl) rfl (by decide) (op_move rfl (HF229.ev rfl)) ?_
    intro a230 HF231; clear HF229
    have HO240 : Own w _ [(Chunk.all []), Chunk.disk w.heap.size gd5 S212 (⟨[⟨nB, la ++ more, (la.length : Int)⟩], M20, ((la ++ more).length : Int), 0, false⟩ : PD)] := Own.bundle (A := []) (L := [Chunk.disk w.heap.size gd5 S212 (⟨[⟨nB, la ++ more, (la.length : Int)⟩], M20, ((la ++ more).length : Int), 0, false⟩ : PD)]) (HO222.sel [0] (by decide))
    refine gw_call HF231 (want_yes HF231 rfl rfl rfl rfl) rfl (by decide) (op_callL Try.func23 (by kernel_rfl) rfl rfl (ar_cons (HF231.ev rfl) (ar_cons (ev_c _ _) (ar_cons (ev_c _ _) ar_nil)))) ((by have h_ := rename_calls w _ (Chunk.all []) gd5 S212 (⟨[⟨nB, la ++ more, (la.length : Int)⟩], M20, ((la ++ more).length : Int), 0, false⟩ : PD) (⟨#[97]⟩ : ByteArray) (⟨#[99]⟩ : ByteArray) hwf213 (by decide) (by decide) (by first | decide | (show 1 ≤ 1000000; decide) | (show 2 ≤ 1000000; decide)) (by exact HO240); rw [show (renameD (⟨#[97]⟩ : ByteArray) (⟨#[99]⟩ : ByteArray) (⟨[⟨nB, la ++ more, (la.length : Int)⟩], M20, ((la ++ more).length : Int), 0, false⟩ : PD)) = ((⟨[⟨nB, la ++ more, (la.length : Int)⟩], M20, ((la ++ more).length : Int), 0, false⟩ : PD), 4) from (mv9 rfl)] at h_; (try dsimp only at h_); exact h_)) ?_
    rintro e234 w235 ⟨rfl, S232, hb236⟩
    refine ⟨_, rfl, fun a237 HF238 => ?_⟩
    have HO239 : Own w w235 [Chunk.disk w.heap.size gd5 S232 (⟨[⟨nB, la ++ more, (la.length : Int)⟩], M20, ((la ++ more).length : Int), 0, false⟩ : PD)] := Own.unbundle (A := []) (L := [Chunk.disk w.heap.size gd5 S232 (⟨[⟨nB, la ++ more, (la.length : Int)⟩], M20, ((la ++ more).length : Int), 0, false⟩ : PD)]) (hb236.sel [0, 1] (by decide))
    clear HO240
    clear HF231 HO222 hb236
    have HO242 : Own w w235 [Chunk.disk w.heap.size gd5 S232 (⟨[⟨nB, la ++ more, (la.length : Int)⟩], M20, ((la ++ more).length : Int), 0, false⟩ : PD)] := HO239
    clear HO239
    have hwf233 : wfD (⟨[⟨nB, la ++ more, (la.length : Int)⟩], M20, ((la ++ more).length : Int), 0, false⟩ : PD) := by have h_ : wfD (renameD (⟨#[97]⟩ : ByteArray) (⟨#[99]⟩ : ByteArray) (⟨[⟨nB, la ++ more, (la.length : Int)⟩], M20, ((la ++ more).length : Int), 0, false⟩ : PD)).1 := wf_rename hwf213; rw [show (renameD (⟨#[97]⟩ : ByteArray) (⟨#[99]⟩ : ByteArray) (⟨[⟨nB, la ++ more, (la.length : Int)⟩], M20, ((la ++ more).length : Int), 0, false⟩ : PD)) = ((⟨[⟨nB, la ++ more, (la.length : Int)⟩], M20, ((la ++ more).length : Int), 0, false⟩ : PD), 4) from (mv9 rfl)] at h_; exact h_
    refine gw_ev HF238 (want_yes HF238 rfl rfl rfl rfl) rfl (by decide) (op_nei rfl (HF238.ev rfl) (ev_c _ _)) ?_
    intro a243 HF244; clear HF238
    have HF245 := HF244.lit (b := false) (by decide)
    clear HF244
    refine gw_ev HF245 (want_none rfl) rfl (by decide) (op_pick_f rfl (HF245.ev rfl) (HF245.ev rfl)) ?_
    intro a246 HF247; clear HF245
    refine gw_ev HF247 (want_none rfl) rfl (by decide) (op_move rfl (HF247.ev rfl)) ?_
    intro a248 HF249; clear HF247
    refine gw_ev HF249 (want_yes HF249 rfl rfl rfl rfl) rfl (by decide) (op_move rfl (HF249.ev rfl)) ?_
    intro a250 HF251; clear HF249
    refine gw_call HF251 (want_yes HF251 rfl rfl rfl rfl) rfl (by decide) (op_callL Try.func22 (by kernel_rfl) rfl rfl (ar_cons (HF251.ev rfl) ar_nil)) (names_calls w.heap.size gd5 S232 (⟨[⟨nB, la ++ more, (la.length : Int)⟩], M20, ((la ++ more).length : Int), 0, false⟩ : PD) _ (by exact HO242.get 0 rfl) (by first | decide | (show 1 ≤ 1000000; decide) | (show 2 ≤ 1000000; decide))) ?_
    rintro e255 w256 ⟨A252, c253, S254, rfl, hb257⟩
    refine ⟨_, rfl, fun a258 HF259 => ?_⟩
    have HO260 := HO242.fresh hb257
    have hbel261 := HO242.below
    clear HF251 HO242 hb257
    have HO262 := HO260.lowrow 0 rfl (base' := w.heap.size) (Below.size hbel261)
    have HO263 : Own w w256 [Chunk.row Kd.string 9 w.heap.size S254 (.slice A252 ((namesD (⟨[⟨nB, la ++ more, (la.length : Int)⟩], M20, ((la ++ more).length : Int), 0, false⟩ : PD)).length) c253) (namesD (⟨[⟨nB, la ++ more, (la.length : Int)⟩], M20, ((la ++ more).length : Int), 0, false⟩ : PD)), Chunk.disk w.heap.size gd5 S232 (⟨[⟨nB, la ++ more, (la.length : Int)⟩], M20, ((la ++ more).length : Int), 0, false⟩ : PD)] := HO262
    clear HO262
    refine gw_ev HF259 (want_yes HF259 rfl rfl rfl rfl) rfl (by decide) (op_len Try.underlying37 rfl (HF259.ev rfl)) ?_
    intro a264 HF265; clear HF259
    refine gw_ev HF265 (want_yes HF265 rfl rfl rfl rfl) rfl (by decide) (op_nei rfl (HF265.ev rfl) (ev_c _ _)) ?_
    intro a266 HF267; clear HF265
    have HF268 := HF267.lit (b := false) (rfl)
    clear HF267
    refine gw_ev HF268 (want_none rfl) rfl (by decide) (op_pick_f rfl (HF268.ev rfl) (HF268.ev rfl)) ?_
    intro a269 HF270; clear HF268
    refine wpList_nil ?_
    refine gw_nx (hK191 _ _ ?_)
    refine gw_cond HF270 rfl (fun hb271 => ?_) (fun hb271 => ?_)
    skip
    · cases hb271
    refine wp_skip ?_
    refine gw_nx (hK190 _ _ ?_)
    refine gw_seq fun K272 hK272 => ?_
    refine wp_region_lit ?_
    refine gw_lit (enc := Value.int .u8) (fun _ => rfl) (xs := ([] : List Int)) (e := 5) HF270 HO263 (want_none rfl) rfl (by decide) (op_bslice (by kernel_rfl) rfl pt_nil) (by simp) ?_
    intro A273 S274 a275 w276 HF277 HO278; clear HF270 HO263
    have HO279 : Own w w276 [Chunk.row (Kd.int .u8) 5 w.heap.size S274 (.slice A273 ((([] : List Int)).length) ((([] : List Int)).length)) ([] : List Int), Chunk.row Kd.string 9 w.heap.size S254 (.slice A252 ((namesD (⟨[⟨nB, la ++ more, (la.length : Int)⟩], M20, ((la ++ more).length : Int), 0, false⟩ : PD)).length) c253) (namesD (⟨[⟨nB, la ++ more, (la.length : Int)⟩], M20, ((la ++ more).length : Int), 0, false⟩ : PD)), Chunk.disk w.heap.size gd5 S232 (⟨[⟨nB, la ++ more, (la.length : Int)⟩], M20, ((la ++ more).length : Int), 0, false⟩ : PD)] := HO278
    clear HO278
    refine gw_ev HF277 (want_none rfl) rfl (by decide) (op_move rfl (HF277.ev rfl)) ?_
    intro a280 HF281; clear HF277
    refine gw_append (Kd.int .u8) 0 HF281 HO279 (want_none rfl) rfl (by decide) rfl Try.underlying28 gwinfo5 rfl (by decide) (by decide) rfl (HF281.ev rfl) (HF281.ev rfl) (Kd.C_below hr0 HO279.below) (fun _ _ h => h) HO279.below.size (by simp only [List.length_nil]; omega) ?_
    intro A282 c283 S284 a285 w286 HF287 HO288; clear HF281 HO279
    have HO289 : Own w w286 [Chunk.row (Kd.int .u8) 5 w.heap.size S284 (.slice A282 ((([] : List Int) ++ la).length) c283) (([] : List Int) ++ la), Chunk.row Kd.string 9 w.heap.size S254 (.slice A252 ((namesD (⟨[⟨nB, la ++ more, (la.length : Int)⟩], M20, ((la ++ more).length : Int), 0, false⟩ : PD)).length) c253) (namesD (⟨[⟨nB, la ++ more, (la.length : Int)⟩], M20, ((la ++ more).length : Int), 0, false⟩ : PD)), Chunk.disk w.heap.size gd5 S232 (⟨[⟨nB, la ++ more, (la.length : Int)⟩], M20, ((la ++ more).length : Int), 0, false⟩ : PD)] := HO288
    clear HO288
    refine gw_ev HF287 (want_none rfl) rfl (by decide) (op_move rfl (HF287.ev rfl)) ?_
    intro a290 HF291; clear HF287
    refine gw_append (Kd.int .u8) 0 HF291 HO289 (want_none rfl) rfl (by decide) rfl Try.underlying28 gwinfo5 rfl (by decide) (by decide) rfl (HF291.ev rfl) (HF291.ev rfl) (Kd.C_below hr2 HO289.below) (fun _ _ h => h) HO289.below.size (by simp only [List.length_append, List.length_nil]; omega) ?_
    intro A292 c293 S294 a295 w296 HF297 HO298; clear HF291 HO289
    have HO299 : Own w w296 [Chunk.row (Kd.int .u8) 5 w.heap.size S294 (.slice A292 (((([] : List Int) ++ la) ++ more).length) c293) ((([] : List Int) ++ la) ++ more), Chunk.row Kd.string 9 w.heap.size S254 (.slice A252 ((namesD (⟨[⟨nB, la ++ more, (la.length : Int)⟩], M20, ((la ++ more).length : Int), 0, false⟩ : PD)).length) c253) (namesD (⟨[⟨nB, la ++ more, (la.length : Int)⟩], M20, ((la ++ more).length : Int), 0, false⟩ : PD)), Chunk.disk w.heap.size gd5 S232 (⟨[⟨nB, la ++ more, (la.length : Int)⟩], M20, ((la ++ more).length : Int), 0, false⟩ : PD)] := HO298
    clear HO298
    refine gw_ev HF297 (want_none rfl) rfl (by decide) (op_assign rfl (HF297.ev rfl)) ?_
    intro a300 HF301; clear HF297
    refine wpList_nil ?_
    refine gw_nx (hK272 _ _ ?_)
    refine gw_seq fun K302 hK302 => ?_
    refine wp_region_lit ?_
    refine gw_ev HF301 (want_none rfl) rfl (by decide) (op_move rfl (HF301.ev rfl)) ?_
    intro a303 HF304; clear HF301
    refine gw_call HF304 (want_none rfl) rfl (by decide) (op_callL Try.func18 (by kernel_rfl) rfl rfl (ar_cons (HF304.ev rfl) (ar_cons (ev_c _ _) ar_nil))) ((by have h_ := read_calls w.heap.size gd5 S232 (⟨[⟨nB, la ++ more, (la.length : Int)⟩], M20, ((la ++ more).length : Int), 0, false⟩ : PD) (⟨#[98]⟩ : ByteArray) _ (by exact HO299.get 2 rfl) (by decide) hwf233 (by show ((la ++ more).length : Int) ≤ _; rw [List.length_append]; omega); rw [show (readD (⟨#[98]⟩ : ByteArray) (⟨[⟨nB, la ++ more, (la.length : Int)⟩], M20, ((la ++ more).length : Int), 0, false⟩ : PD)) = ((la ++ more), 0) from (read_some (f := ⟨nB, la ++ more, (la.length : Int)⟩) rfl (by unfold getF; simp; rfl))] at h_; (try dsimp only at h_); exact h_)) ?_
    rintro e308 w309 ⟨A305, c306, S307, rfl, hb310⟩
    refine ⟨_, rfl, fun a311 HF312 => ?_⟩
    have HO313 := HO299.fresh hb310
    have hbel314 := HO299.below
    clear HF304 HO299 hb310
    have HO315 := HO313.lowrow 0 rfl (base' := w.heap.size) (Below.size hbel314)
    have HO316 : Own w w309 [Chunk.row (Kd.int .u8) 5 w.heap.size S307 (.slice A305 ((la ++ more).length) c306) (la ++ more), Chunk.row (Kd.int .u8) 5 w.heap.size S294 (.slice A292 (((([] : List Int) ++ la) ++ more).length) c293) ((([] : List Int) ++ la) ++ more), Chunk.row Kd.string 9 w.heap.size S254 (.slice A252 ((namesD (⟨[⟨nB, la ++ more, (la.length : Int)⟩], M20, ((la ++ more).length : Int), 0, false⟩ : PD)).length) c253) (namesD (⟨[⟨nB, la ++ more, (la.length : Int)⟩], M20, ((la ++ more).length : Int), 0, false⟩ : PD)), Chunk.disk w.heap.size gd5 S232 (⟨[⟨nB, la ++ more, (la.length : Int)⟩], M20, ((la ++ more).length : Int), 0, false⟩ : PD)] := HO315
    clear HO315
    refine gw_ev HF312 (want_none rfl) rfl (by decide) (op_move rfl (HF312.ev rfl)) ?_
    intro a317 HF318; clear HF312
    refine gw_ev HF318 (want_none rfl) rfl (by decide) (op_extract rfl (HF318.ev rfl) rfl) ?_
    intro a319 HF320; clear HF318
    refine gw_ev HF320 (want_none rfl) rfl (by decide) (op_extract rfl (HF320.ev rfl) rfl) ?_
    intro a321 HF322; clear HF320
    refine gw_ev HF322 (want_none rfl) rfl (by decide) (op_assign rfl (HF322.ev rfl)) ?_
    intro a323 HF324; clear HF322
    refine gw_ev HF324 (want_none rfl) rfl (by decide) (op_assign rfl (HF324.ev rfl)) ?_
    intro a325 HF326; clear HF324
    refine wpList_nil ?_
    refine gw_nx (hK302 _ _ ?_)
    refine gw_seq fun K327 hK327 => ?_
    refine wp_region_lit ?_
    refine gw_ev HF326 (want_none rfl) rfl (by decide) (op_move rfl (HF326.ev rfl)) ?_
    intro a328 HF329; clear HF326
    refine gw_ev HF329 (want_none rfl) rfl (by decide) (op_move rfl (HF329.ev rfl)) ?_
    intro a330 HF331; clear HF329
    refine gw_lit (enc := Value.int .i64) (fun _ => rfl) (xs := [keep]) (e := 3) HF331 HO316 (want_none rfl) rfl (by decide) (op_bslice (by kernel_rfl) rfl (pt_cons (HF331.ev rfl) pt_nil)) (by simp) ?_
    intro A332 S333 a334 w335 HF336 HO337; clear HF331 HO316
    have HO338 : Own w w335 [Chunk.row (Kd.int .i64) 3 w.heap.size S333 (.slice A332 (([keep]).length) (([keep]).length)) ([keep]), Chunk.row (Kd.int .u8) 5 w.heap.size S307 (.slice A305 ((la ++ more).length) c306) (la ++ more), Chunk.row (Kd.int .u8) 5 w.heap.size S294 (.slice A292 (((([] : List Int) ++ la) ++ more).length) c293) ((([] : List Int) ++ la) ++ more), Chunk.row Kd.string 9 w.heap.size S254 (.slice A252 ((namesD (⟨[⟨nB, la ++ more, (la.length : Int)⟩], M20, ((la ++ more).length : Int), 0, false⟩ : PD)).length) c253) (namesD (⟨[⟨nB, la ++ more, (la.length : Int)⟩], M20, ((la ++ more).length : Int), 0, false⟩ : PD)), Chunk.disk w.heap.size gd5 S232 (⟨[⟨nB, la ++ more, (la.length : Int)⟩], M20, ((la ++ more).length : Int), 0, false⟩ : PD)] := HO337
    clear HO337
    have HO347 : Own w _ [(Chunk.all [Chunk.row (Kd.int .i64) 3 w.heap.size S333 (.slice A332 (([keep]).length) (([keep]).length)) ([keep]), Chunk.row (Kd.int .u8) 5 w.heap.size S307 (.slice A305 ((la ++ more).length) c306) (la ++ more), Chunk.row (Kd.int .u8) 5 w.heap.size S294 (.slice A292 (((([] : List Int) ++ la) ++ more).length) c293) ((([] : List Int) ++ la) ++ more), Chunk.row Kd.string 9 w.heap.size S254 (.slice A252 ((namesD (⟨[⟨nB, la ++ more, (la.length : Int)⟩], M20, ((la ++ more).length : Int), 0, false⟩ : PD)).length) c253) (namesD (⟨[⟨nB, la ++ more, (la.length : Int)⟩], M20, ((la ++ more).length : Int), 0, false⟩ : PD))]), Chunk.disk w.heap.size gd5 S232 (⟨[⟨nB, la ++ more, (la.length : Int)⟩], M20, ((la ++ more).length : Int), 0, false⟩ : PD)] := Own.bundle (A := [Chunk.row (Kd.int .i64) 3 w.heap.size S333 (.slice A332 (([keep]).length) (([keep]).length)) ([keep]), Chunk.row (Kd.int .u8) 5 w.heap.size S307 (.slice A305 ((la ++ more).length) c306) (la ++ more), Chunk.row (Kd.int .u8) 5 w.heap.size S294 (.slice A292 (((([] : List Int) ++ la) ++ more).length) c293) ((([] : List Int) ++ la) ++ more), Chunk.row Kd.string 9 w.heap.size S254 (.slice A252 ((namesD (⟨[⟨nB, la ++ more, (la.length : Int)⟩], M20, ((la ++ more).length : Int), 0, false⟩ : PD)).length) c253) (namesD (⟨[⟨nB, la ++ more, (la.length : Int)⟩], M20, ((la ++ more).length : Int), 0, false⟩ : PD))]) (L := [Chunk.disk w.heap.size gd5 S232 (⟨[⟨nB, la ++ more, (la.length : Int)⟩], M20, ((la ++ more).length : Int), 0, false⟩ : PD)]) (HO338.sel [0, 1, 2, 3, 4] (by decide))
    refine gw_call HF336 (want_none rfl) rfl (by decide) (op_callL Try.func17 (by kernel_rfl) rfl rfl (ar_cons (HF336.ev rfl) (ar_cons (HF336.ev rfl) ar_nil))) (crash_calls w _ (Chunk.all [Chunk.row (Kd.int .i64) 3 w.heap.size S333 (.slice A332 (([keep]).length) (([keep]).length)) ([keep]), Chunk.row (Kd.int .u8) 5 w.heap.size S307 (.slice A305 ((la ++ more).length) c306) (la ++ more), Chunk.row (Kd.int .u8) 5 w.heap.size S294 (.slice A292 (((([] : List Int) ++ la) ++ more).length) c293) ((([] : List Int) ++ la) ++ more), Chunk.row Kd.string 9 w.heap.size S254 (.slice A252 ((namesD (⟨[⟨nB, la ++ more, (la.length : Int)⟩], M20, ((la ++ more).length : Int), 0, false⟩ : PD)).length) c253) (namesD (⟨[⟨nB, la ++ more, (la.length : Int)⟩], M20, ((la ++ more).length : Int), 0, false⟩ : PD))]) gd5 S232 (⟨[⟨nB, la ++ more, (la.length : Int)⟩], M20, ((la ++ more).length : Int), 0, false⟩ : PD) A332 (([keep]).length) ([keep]) (fun w_ h_ => (Kd.R_reads' ((Own.unbundle (A := [Chunk.row (Kd.int .i64) 3 w.heap.size S333 (.slice A332 (([keep]).length) (([keep]).length)) ([keep]), Chunk.row (Kd.int .u8) 5 w.heap.size S307 (.slice A305 ((la ++ more).length) c306) (la ++ more), Chunk.row (Kd.int .u8) 5 w.heap.size S294 (.slice A292 (((([] : List Int) ++ la) ++ more).length) c293) ((([] : List Int) ++ la) ++ more), Chunk.row Kd.string 9 w.heap.size S254 (.slice A252 ((namesD (⟨[⟨nB, la ++ more, (la.length : Int)⟩], M20, ((la ++ more).length : Int), 0, false⟩ : PD)).length) c253) (namesD (⟨[⟨nB, la ++ more, (la.length : Int)⟩], M20, ((la ++ more).length : Int), 0, false⟩ : PD))]) (L := []) h_).get 0 rfl)).2.2) (row_cap (HO338.get 0 rfl)) hwf233 (by first | decide | (show 1 ≤ 1000000; decide) | (show 2 ≤ 1000000; decide)) (by exact HO347)) ?_
    rintro e341 w342 ⟨rfl, S339, hb343⟩
    refine ⟨_, rfl, fun a344 HF345 => ?_⟩
    have HO346 : Own w w342 [Chunk.row (Kd.int .i64) 3 w.heap.size S333 (.slice A332 (([keep]).length) (([keep]).length)) ([keep]), Chunk.row (Kd.int .u8) 5 w.heap.size S307 (.slice A305 ((la ++ more).length) c306) (la ++ more), Chunk.row (Kd.int .u8) 5 w.heap.size S294 (.slice A292 (((([] : List Int) ++ la) ++ more).length) c293) ((([] : List Int) ++ la) ++ more), Chunk.row Kd.string 9 w.heap.size S254 (.slice A252 ((namesD (⟨[⟨nB, la ++ more, (la.length : Int)⟩], M20, ((la ++ more).length : Int), 0, false⟩ : PD)).length) c253) (namesD (⟨[⟨nB, la ++ more, (la.length : Int)⟩], M20, ((la ++ more).length : Int), 0, false⟩ : PD)), Chunk.disk w.heap.size gd5 S339 (crashD ([keep]) (⟨[⟨nB, la ++ more, (la.length : Int)⟩], M20, ((la ++ more).length : Int), 0, false⟩ : PD))] := Own.unbundle (A := [Chunk.row (Kd.int .i64) 3 w.heap.size S333 (.slice A332 (([keep]).length) (([keep]).length)) ([keep]), Chunk.row (Kd.int .u8) 5 w.heap.size S307 (.slice A305 ((la ++ more).length) c306) (la ++ more), Chunk.row (Kd.int .u8) 5 w.heap.size S294 (.slice A292 (((([] : List Int) ++ la) ++ more).length) c293) ((([] : List Int) ++ la) ++ more), Chunk.row Kd.string 9 w.heap.size S254 (.slice A252 ((namesD (⟨[⟨nB, la ++ more, (la.length : Int)⟩], M20, ((la ++ more).length : Int), 0, false⟩ : PD)).length) c253) (namesD (⟨[⟨nB, la ++ more, (la.length : Int)⟩], M20, ((la ++ more).length : Int), 0, false⟩ : PD))]) (L := [Chunk.disk w.heap.size gd5 S339 (crashD ([keep]) (⟨[⟨nB, la ++ more, (la.length : Int)⟩], M20, ((la ++ more).length : Int), 0, false⟩ : PD))]) (hb343.sel [0, 1] (by decide))
    clear HO347
    clear HF336 HO338 hb343
    have HO349 : Own w w342 [Chunk.row (Kd.int .i64) 3 w.heap.size S333 (.slice A332 (([keep]).length) (([keep]).length)) ([keep]), Chunk.row (Kd.int .u8) 5 w.heap.size S307 (.slice A305 ((la ++ more).length) c306) (la ++ more), Chunk.row (Kd.int .u8) 5 w.heap.size S294 (.slice A292 (((([] : List Int) ++ la) ++ more).length) c293) ((([] : List Int) ++ la) ++ more), Chunk.row Kd.string 9 w.heap.size S254 (.slice A252 ((namesD (⟨[⟨nB, la ++ more, (la.length : Int)⟩], M20, ((la ++ more).length : Int), 0, false⟩ : PD)).length) c253) (namesD (⟨[⟨nB, la ++ more, (la.length : Int)⟩], M20, ((la ++ more).length : Int), 0, false⟩ : PD)), Chunk.disk w.heap.size gd5 S339 (crashD ([keep]) (⟨[⟨nB, la ++ more, (la.length : Int)⟩], M20, ((la ++ more).length : Int), 0, false⟩ : PD))] := HO346
    clear HO346
    have hwf340 : wfD (crashD ([keep]) (⟨[⟨nB, la ++ more, (la.length : Int)⟩], M20, ((la ++ more).length : Int), 0, false⟩ : PD)) := wf_crash hwf233
    obtain ⟨m, hm1, hm2, hm3, hm4, hm5⟩ := (mvJ (a := la) (more := more) (by omega)).crash keep
    have hmL : ((la ++ more).take m).length ≤ (la ++ more).length := by rw [List.length_take]; omega
    have hLA : (la ++ more).length = la.length + more.length := List.length_append
    have hLB : ((([] : List Int) ++ la) ++ more).length = la.length + more.length := by simp
    have hme : (((la ++ more).length : Int) - la.length) = more.length := by omega
    rw [hme] at hm1
    have hmnb : 0 ≤ mn (mx keep 0) (more.length : Int) ∧ mn (mx keep 0) (more.length : Int) ≤ more.length := keepN_in [keep] (by omega)
    refine wpList_nil ?_
    refine gw_nx (hK327 _ _ ?_)
    refine gw_seq fun K350 hK350 => ?_
    refine wp_region_lit ?_
    refine gw_ev HF345 (want_none rfl) rfl (by decide) (op_move rfl (HF345.ev rfl)) ?_
    intro a351 HF352; clear HF345
    refine gw_call HF352 (want_none rfl) rfl (by decide) (op_callL Try.func18 (by kernel_rfl) rfl rfl (ar_cons (HF352.ev rfl) (ar_cons (ev_c _ _) ar_nil))) ((by have h_ := read_calls w.heap.size gd5 S339 (crashD ([keep]) (⟨[⟨nB, la ++ more, (la.length : Int)⟩], M20, ((la ++ more).length : Int), 0, false⟩ : PD)) (⟨#[98]⟩ : ByteArray) _ (by exact HO349.get 4 rfl) (by decide) (wf_crash (mvJ (by omega)).wf) (by rw [hm4]; omega); rw [show (readD (⟨#[98]⟩ : ByteArray) (crashD ([keep]) (⟨[⟨nB, la ++ more, (la.length : Int)⟩], M20, ((la ++ more).length : Int), 0, false⟩ : PD))) = (((la ++ more).take m), 0) from hm5] at h_; (try dsimp only at h_); exact h_)) ?_
    rintro e356 w357 ⟨A353, c354, S355, rfl, hb358⟩
    refine ⟨_, rfl, fun a359 HF360 => ?_⟩
    have HO361 := HO349.fresh hb358
    have hbel362 := HO349.below
    clear HF352 HO349 hb358
    have HO363 := HO361.lowrow 0 rfl (base' := w.heap.size) (Below.size hbel362)
    have HO364 : Own w w357 [Chunk.row (Kd.int .u8) 5 w.heap.size S355 (.slice A353 (((la ++ more).take m).length) c354) ((la ++ more).take m), Chunk.row (Kd.int .i64) 3 w.heap.size S333 (.slice A332 (([keep]).length) (([keep]).length)) ([keep]), Chunk.row (Kd.int .u8) 5 w.heap.size S307 (.slice A305 ((la ++ more).length) c306) (la ++ more), Chunk.row (Kd.int .u8) 5 w.heap.size S294 (.slice A292 (((([] : List Int) ++ la) ++ more).length) c293) ((([] : List Int) ++ la) ++ more), Chunk.row Kd.string 9 w.heap.size S254 (.slice A252 ((namesD (⟨[⟨nB, la ++ more, (la.length : Int)⟩], M20, ((la ++ more).length : Int), 0, false⟩ : PD)).length) c253) (namesD (⟨[⟨nB, la ++ more, (la.length : Int)⟩], M20, ((la ++ more).length : Int), 0, false⟩ : PD)), Chunk.disk w.heap.size gd5 S339 (crashD ([keep]) (⟨[⟨nB, la ++ more, (la.length : Int)⟩], M20, ((la ++ more).length : Int), 0, false⟩ : PD))] := HO363
    clear HO363
    refine gw_ev HF360 (want_none rfl) rfl (by decide) (op_move rfl (HF360.ev rfl)) ?_
    intro a365 HF366; clear HF360
    refine gw_ev HF366 (want_none rfl) rfl (by decide) (op_extract rfl (HF366.ev rfl) rfl) ?_
    intro a367 HF368; clear HF366
    refine gw_ev HF368 (want_none rfl) rfl (by decide) (op_extract rfl (HF368.ev rfl) rfl) ?_
    intro a369 HF370; clear HF368
    refine gw_ev HF370 (want_none rfl) rfl (by decide) (op_assign rfl (HF370.ev rfl)) ?_
    intro a371 HF372; clear HF370
    refine gw_ev HF372 (want_none rfl) rfl (by decide) (op_assign rfl (HF372.ev rfl)) ?_
    intro a373 HF374; clear HF372
    refine wpList_nil ?_
    refine gw_nx (hK350 _ _ ?_)
    refine gw_seq fun K375 hK375 => ?_
    refine wp_region_lit ?_
    refine gw_ev HF374 (want_none rfl) rfl (by decide) (op_move rfl (HF374.ev rfl)) ?_
    intro a376 HF377; clear HF374
    refine gw_ev HF377 (want_none rfl) rfl (by decide) (op_len Try.underlying28 rfl (HF377.ev rfl)) ?_
    intro a378 HF379; clear HF377
    refine gw_ev HF379 (want_none rfl) rfl (by decide) (op_move rfl (HF379.ev rfl)) ?_
    intro a380 HF381; clear HF379
    refine gw_ev HF381 (want_none rfl) rfl (by decide) (op_max rfl (HF381.ev rfl) (ev_c _ _)) ?_
    intro a382 HF383; clear HF381
    refine gw_ev HF383 (want_none rfl) rfl (by decide) (op_move rfl (HF383.ev rfl)) ?_
    intro a384 HF385; clear HF383
    refine gw_ev HF385 (want_none rfl) rfl (by decide) (op_len Try.underlying28 rfl (HF385.ev rfl)) ?_
    intro a386 HF387; clear HF385
    refine gw_ev HF387 (want_none rfl) rfl (by decide) (op_min rfl (HF387.ev rfl) (HF387.ev rfl)) ?_
    intro a388 HF389; clear HF387
    refine gw_ev HF389 (want_none rfl) rfl (by decide) (op_add rfl (HF389.ev rfl) (HF389.ev rfl) (by omega)) ?_
    intro a390 HF391; clear HF389
    refine gw_ev HF391 (want_none rfl) rfl (by decide) (op_assign rfl (HF391.ev rfl)) ?_
    intro a392 HF393; clear HF391
    refine wpList_nil ?_
    refine gw_nx (hK375 _ _ ?_)
    refine gw_seq fun K394 hK394 => ?_
    refine wp_region_lit ?_
    refine gw_ev HF393 (want_none rfl) rfl (by decide) (op_move rfl (HF393.ev rfl)) ?_
    intro a395 HF396; clear HF393
    refine gw_ev HF396 (want_none rfl) rfl (by decide) (op_eqi rfl (HF396.ev rfl) (ev_c _ _)) ?_
    intro a397 HF398; clear HF396
    have HF399 := HF398.lit (b := true) (by decide)
    clear HF398
    refine gw_ev HF399 (want_none rfl) rfl (by decide) (op_move rfl (HF399.ev rfl)) ?_
    intro a400 HF401; clear HF399
    refine gw_ev HF401 (want_yes HF401 rfl rfl rfl rfl) rfl (by decide) (op_move rfl (HF401.ev rfl)) ?_
    intro a402 HF403; clear HF401
    refine gw_ev HF403 (want_yes HF403 rfl rfl rfl rfl) rfl (by decide) (op_eqi rfl (HF403.ev rfl) (ev_c _ _)) ?_
    intro a404 HF405; clear HF403
    have HF406 := HF405.lit (b := true) (by decide)
    clear HF405
    refine gw_ev HF406 (want_none rfl) rfl (by decide) (op_pick_t rfl (HF406.ev rfl) (HF406.ev rfl)) ?_
    intro a407 HF408; clear HF406
    refine gw_ev HF408 (want_none rfl) rfl (by decide) (op_move rfl (HF408.ev rfl)) ?_
    intro a409 HF410; clear HF408
    refine gw_ev HF410 (want_yes HF410 rfl rfl rfl rfl) rfl (by decide) (op_move rfl (HF410.ev rfl)) ?_
    intro a411 HF412; clear HF410
    refine gw_ev HF412 (want_yes HF412 rfl rfl rfl rfl) rfl (by decide) (op_move rfl (HF412.ev rfl)) ?_
    intro a413 HF414; clear HF412
    refine gw_call HF414 (want_yes HF414 rfl rfl rfl rfl) rfl (by decide) (op_callL Try.func19 (by kernel_rfl) rfl rfl (ar_cons (HF414.ev rfl) (ar_cons (HF414.ev rfl) ar_nil))) (same_calls A305 c306 (la ++ more) A292 c293 ((([] : List Int) ++ la) ++ more) _ (Kd.R_reads' (HO364.get 2 rfl)).2.2 (row_cap (HO364.get 2 rfl)) (Kd.R_reads' (HO364.get 3 rfl)).2.2 (row_cap (HO364.get 3 rfl)) (by simp only [List.length_append, List.length_nil, List.length_take, List.nil_append]; omega)) ?_
    rintro e415 w416 ⟨rfl, hb417⟩
    refine ⟨_, rfl, fun a418 HF419 => ?_⟩
    have HO420 := HO364.after hb417
    clear HF414 HO364 hb417
    have HF422 := HF419.lit (b := true) (by rw [decide_eq_true_eq, List.nil_append])
    clear HF419
    refine gw_ev HF422 (want_none rfl) rfl (by decide) (op_pick_t rfl (HF422.ev rfl) (HF422.ev rfl)) ?_
    intro a423 HF424; clear HF422
    refine gw_ev HF424 (want_none rfl) rfl (by decide) (op_move rfl (HF424.ev rfl)) ?_
    intro a425 HF426; clear HF424
    refine gw_ev HF426 (want_yes HF426 rfl rfl rfl rfl) rfl (by decide) (op_move rfl (HF426.ev rfl)) ?_
    intro a427 HF428; clear HF426
    refine gw_ev HF428 (want_yes HF428 rfl rfl rfl rfl) rfl (by decide) (op_move rfl (HF428.ev rfl)) ?_
    intro a429 HF430; clear HF428
    refine gw_ev HF430 (want_yes HF430 rfl rfl rfl rfl) rfl (by decide) (op_move rfl (HF430.ev rfl)) ?_
    intro a431 HF432; clear HF430
    obtain ⟨hr433, hc434, hC435⟩ := cut_hi (P := Try.prog) (d := (Kd.int .u8)) (t := 28) (e := 5) Try.underlying28 gwsiz5 A292 c293 ((([] : List Int) ++ la) ++ more) (row_cap (HO420.get 3 rfl)) ((la.length : Int) + (mn (mx keep 0) (more.length : Int))) (by omega) (by omega)
    refine gw_ev HF432 (want_yes HF432 rfl rfl rfl rfl) rfl (by decide) (op_cut Try.underlying28 hr433 rfl (HF432.ev rfl) rfl (some_ev (HF432.ev rfl))) ?_
    intro a436 HF437; clear HF432
    refine gw_call HF437 (want_yes HF437 rfl rfl rfl rfl) rfl (by decide) (op_callL Try.func19 (by kernel_rfl) rfl rfl (ar_cons (HF437.ev rfl) (ar_cons (HF437.ev rfl) ar_nil))) (same_calls A353 c354 ((la ++ more).take m) A292 c293 (((([] : List Int) ++ la) ++ more).take ((la.length : Int) + (mn (mx keep 0) (more.length : Int))).toNat) _ (Kd.R_reads' (HO420.get 0 rfl)).2.2 (row_cap (HO420.get 0 rfl)) (hC435 _ (Kd.R_reads' (HO420.get 3 rfl)).2.2) hc434 (by simp only [List.length_append, List.length_nil, List.length_take, List.nil_append]; omega)) ?_
    rintro e438 w439 ⟨rfl, hb440⟩
    refine ⟨_, rfl, fun a441 HF442 => ?_⟩
    have HO443 := HO420.after hb440
    clear HF437 HO420 hb440
    have HF445 := HF442.lit (b := true) (by rw [decide_eq_true_eq, List.nil_append]; congr 1; omega)
    clear HF442
    refine gw_ev HF445 (want_none rfl) rfl (by decide) (op_pick_t rfl (HF445.ev rfl) (HF445.ev rfl)) ?_
    intro a446 HF447; clear HF445
    refine gw_ev HF447 (want_none rfl) rfl (by decide) (op_move rfl (HF447.ev rfl)) ?_
    intro a448 HF449; clear HF447
    refine gw_ev HF449 (want_yes HF449 rfl rfl rfl rfl) rfl (by decide) (op_move rfl (HF449.ev rfl)) ?_
    intro a450 HF451; clear HF449
    refine gw_call HF451 (want_yes HF451 rfl rfl rfl rfl) rfl (by decide) (op_callL Try.func24 (by kernel_rfl) rfl rfl (ar_cons (HF451.ev rfl) ar_nil)) (room_calls w.heap.size gd5 S339 (crashD ([keep]) (⟨[⟨nB, la ++ more, (la.length : Int)⟩], M20, ((la ++ more).length : Int), 0, false⟩ : PD)) _ (HO443.get 5 rfl) (wf_crash (mvJ (by omega)).wf)) ?_
    rintro e452 w453 ⟨rfl, hb454⟩
    refine ⟨_, rfl, fun a455 HF456 => ?_⟩
    have HO457 := HO443.after hb454
    clear HF451 HO443 hb454
    refine gw_ev HF456 (want_yes HF456 rfl rfl rfl rfl) rfl (by decide) (op_move rfl (HF456.ev rfl)) ?_
    intro a459 HF460; clear HF456
    refine gw_ev HF460 (want_yes HF460 rfl rfl rfl rfl) rfl (by decide) (op_sub rfl (ev_c _ _) (HF460.ev rfl) (by omega)) ?_
    intro a461 HF462; clear HF460
    refine gw_ev HF462 (want_yes HF462 rfl rfl rfl rfl) rfl (by decide) (op_eqi rfl (HF462.ev rfl) (HF462.ev rfl)) ?_
    intro a463 HF464; clear HF462
    have HF465 := HF464.lit (b := true) (by rw [decide_eq_true_eq, hm4]; show M20 - (m : Int) = _; simp only [M20]; omega)
    clear HF464
    refine gw_ev HF465 (want_none rfl) rfl (by decide) (op_pick_t rfl (HF465.ev rfl) (HF465.ev rfl)) ?_
    intro a466 HF467; clear HF465
    refine gw_ev HF467 (want_none rfl) rfl (by decide) (op_assign rfl (HF467.ev rfl)) ?_
    intro a468 HF469; clear HF467
    refine wpList_nil ?_
    refine gw_nx (hK394 _ _ ?_)
    refine wp_ret ?_
    refine gw_ret1 HF469 rfl rfl ?_
    exact ⟨rfl, HO457.below⟩
end GVfsM_
export GVfsM_ (VfsMoves_walk)
open Classical in
noncomputable def colloquylaw07_VfsMoves.f (l0 : List Int) (l1 : List Int) (l2 : List Int) (a3 : Int) : Option Bool := if (l0.length ≤ 140737488355327) ∧ (l1.length ≤ 140737488355327) ∧ (l2.length ≤ 140737488355327) then some true else none
theorem colloquylaw07_VfsMoves.calls (A0 : Option Addr) (c0 : Nat) (l0 : List Int) (A1 : Option Addr) (c1 : Nat) (l1 : List Int) (A2 : Option Addr) (c2 : Nat) (l2 : List Int) (a3 : Int) (r : Bool) (w : World) (hr0 : Kd.C (Kd.int .u8) w A0 l0.length l0) (hc0 : l0.length ≤ c0) (hr1 : Kd.C (Kd.int .u8) w A1 l1.length l1) (hc1 : l1.length ≤ c1) (hr2 : Kd.C (Kd.int .u8) w A2 l2.length l2) (hc2 : l2.length ≤ c2) (h : colloquylaw07_VfsMoves.f l0 l1 l2 a3 = some r) :
    Calls Try.prog 5 #[(.slice A0 l0.length c0), (.slice A1 l1.length c1), (.slice A2 l2.length c2), (.int .i64 a3)] w fun e w' => e = .returned (.bool r) ∧ Below w.heap.size w w' := by
  unfold colloquylaw07_VfsMoves.f at h
  split at h
  · cases h; rename_i hh; exact VfsMoves_walk A0 c0 l0 A1 c1 l1 A2 c2 l2 a3 w hr0 hc0 hr1 hc1 hr2 hc2 hh.1 hh.2.1 hh.2.2
  · cases h
end Go.Proofs.Ytkdahjnmldeklaa.PA
