/- Conditions: Not, And and Or hold as their parts do. Printed by a program of this session; Lean checks it. -/
import Derived.Test.YtjndcgochnaodaaGCond5
import Derived.Test.YtjndcgochnaodaaHCondT
namespace Go.Proofs.Ytjndcgochnaodaa.PA
open Go.RowKit Go.Proofs.YtjndcgochnaodaaW.PrintWords Go.Proofs.YtjndcgochnaodaaW.PrintLast Go.Proofs.YtjndcgochnaodaaW.PrintMore
set_option linter.unusedVariables false
set_option linter.unusedSimpArgs false
namespace GCond9_
theorem gwagg24 : ∀ w, (isAgg 24).run Try.prog w = .ok true w := fun _ => by kernel_rfl
theorem gwagg27 : ∀ w, (isAgg 27).run Try.prog w = .ok true w := fun _ => by kernel_rfl
theorem gwsiz24 : ∀ w, (sizeOf 24).run Try.prog w = .ok 4 w := fun _ => by kernel_rfl
theorem gwsiz27 : ∀ w, (sizeOf 27).run Try.prog w = .ok 2 w := fun _ => by kernel_rfl
theorem gwzer24 : ∀ w, (zeroValue 24).run Try.prog w = .ok (.agg #[.int .i64 0, .string (⟨#[]⟩ : ByteArray), .string (⟨#[]⟩ : ByteArray), .slice none 0 0]) w := fun _ => by kernel_rfl
set_option maxHeartbeats 4000000 in
set_option maxRecDepth 100000 in
theorem CondParts_walk (kd : Int) (nm vl : ByteArray) (A3 : Option Addr) (c3 : Nat) (kids : List S24) (kd2 : Int) (nm2 vl2 : ByteArray) (A4 : Option Addr) (c4 : Nat) (kids2 : List S24) (b : ByteArray) (Ap : Option Addr) (cp : Nat) (ps : List S36) (w : World) (hr3 : Kd.C k24 w A3 kids.length kids) (hc3 : kids.length ≤ c3) (hr4 : Kd.C k24 w A4 kids2.length kids2) (hc4 : kids2.length ≤ c4) (hrp : Kd.C k36 w Ap ps.length ps) (hcp : ps.length ≤ cp) (ha20 : smallN 20 ⟨kd, nm, vl, kids⟩) (hc20 : smallN 20 ⟨kd2, nm2, vl2, kids2⟩) (hw : wtN 21 ⟨kd, nm, vl, kids⟩ ≤ 1048576) :
    Calls Try.prog 6 #[.agg #[.int .i64 kd, .string nm, .string vl, .slice A3 kids.length c3], .agg #[.int .i64 kd2, .string nm2, .string vl2, .slice A4 kids2.length c4], .agg #[.string b, .slice Ap ps.length cp]] w fun e w' => e = .returned (.bool true) ∧ Below w.heap.size w w' := by
  obtain ⟨n0, g0⟩ := (rright_ev 18 (⟨kd, nm, vl, kids⟩ : S24) (by omega) (smallN_le 18 _ (smallN_le 19 _ ha20))).rounds
  obtain ⟨n1, g1⟩ := (rright_ev 18 (⟨kd2, nm2, vl2, kids2⟩ : S24) (by omega) (smallN_le 18 _ (smallN_le 19 _ hc20))).rounds
  refine gw_start (N := 83) (vs := [.agg #[.int .i64 kd, .string nm, .string vl, .slice A3 kids.length c3], .agg #[.int .i64 kd2, .string nm2, .string vl2, .slice A4 kids2.length c4], .agg #[.string b, .slice Ap ps.length cp]]) Try.func6 rfl rfl (by simp) fun a HF HO => ?_
  replace HO : Own w w [] := HO
  refine gw_seq fun K1 hK1 => ?_
  refine wp_region_lit ?_
  refine gw_new HF HO (want_none rfl) rfl (by decide) (op_box rfl (HF.ev rfl)) ?_
  intro g2 a3 w4 HF5 HO6; clear HF HO
  have HO7 : Own w w4 [Chunk.blk g2 (.cells #[.int .i64 kd, .string nm, .string vl, .slice A3 kids.length c3] 24 (0, 0))] := HO6
  clear HO6
  refine gw_new HF5 HO7 (want_none rfl) rfl (by decide) (op_box rfl (HF5.ev rfl)) ?_
  intro g8 a9 w10 HF11 HO12; clear HF5 HO7
  have HO13 : Own w w10 [Chunk.blk g8 (.cells #[.int .i64 kd2, .string nm2, .string vl2, .slice A4 kids2.length c4] 24 (0, 0)), Chunk.blk g2 (.cells #[.int .i64 kd, .string nm, .string vl, .slice A3 kids.length c3] 24 (0, 0))] := HO12
  clear HO12
  refine gw_new HF11 HO13 (want_none rfl) rfl (by decide) (op_box rfl (HF11.ev rfl)) ?_
  intro g14 a15 w16 HF17 HO18; clear HF11 HO13
  have HO19 : Own w w16 [Chunk.blk g14 (.cells #[.string b, .slice Ap ps.length cp] 27 (0, 0)), Chunk.blk g8 (.cells #[.int .i64 kd2, .string nm2, .string vl2, .slice A4 kids2.length c4] 24 (0, 0)), Chunk.blk g2 (.cells #[.int .i64 kd, .string nm, .string vl, .slice A3 kids.length c3] 24 (0, 0))] := HO18
  clear HO18
  refine gw_ev HF17 (want_none rfl) rfl (by decide) (op_assign rfl (ev_c _ _)) ?_
  intro a20 HF21; clear HF17
  refine wpList_nil ?_
  refine gw_nx (hK1 _ _ ?_)
  refine gw_seq fun K22 hK22 => ?_
  refine gw_seq fun K23 hK23 => ?_
  refine wp_region_lit ?_
  refine gw_call HF21 (want_none rfl) rfl (by decide) (op_callL Try.func9 (by kernel_rfl) rfl rfl ar_nil) (alive_calls _) ?_
  rintro e24 w25 ⟨rfl, hb26⟩
  refine ⟨_, rfl, fun a27 HF28 => ?_⟩
  have HO29 := HO19.after hb26
  clear HF21 HO19 hb26
  refine gw_ev HF28 (want_none rfl) rfl (by decide) (op_not rfl (HF28.ev rfl)) ?_
  intro a31 HF32; clear HF28
  refine wpList_nil ?_
  refine gw_nx (hK23 _ _ ?_)
  refine gw_cond HF32 rfl (fun hb33 => ?_) (fun hb33 => ?_)
  skip
  · cases hb33
  refine wp_skip ?_
  refine gw_nx (hK22 _ _ ?_)
  refine gw_seq fun K34 hK34 => ?_
  refine gw_seq fun K35 hK35 => ?_
  refine wp_region_lit ?_
  refine gw_ev HF32 (want_none rfl) rfl (by decide) (op_loadn gwagg24 gwsiz24 rfl (HF32.ev rfl) (HO29.get 2 rfl) rfl rfl) ?_
  intro a36 HF37; clear HF32
  refine gw_call HF37 (want_none rfl) rfl (by decide) (op_callL Try.func10 (by kernel_rfl) rfl rfl (ar_cons (HF37.ev rfl) (ar_cons (ev_c _ _) ar_nil))) (colloquyref12_Right.calls n0 kd nm vl A3 c3 kids 18 (rightB 18 (⟨kd, nm, vl, kids⟩ : S24)) _ (Kd.C_below hr3 HO29.below) hc3 g0) ?_
  rintro e38 w39 ⟨rfl, hb40⟩
  refine ⟨_, rfl, fun a41 HF42 => ?_⟩
  have HO43 := HO29.after hb40
  clear HF37 HO29 hb40
  refine gw_ev HF42 (want_none rfl) rfl (by decide) (op_not rfl (HF42.ev rfl)) ?_
  intro a45 HF46; clear HF42
  refine gw_ev HF46 (want_none rfl) rfl (by decide) (op_move rfl (HF46.ev rfl)) ?_
  intro a47 HF48; clear HF46
  refine gw_evG HF48 rfl rfl rfl rfl (on_f _) rfl (by decide) (fun h_ => (op_loadn gwagg24 gwsiz24 rfl (HF48.ev rfl) (HO43.get 1 rfl) rfl rfl)) ?_
  intro a49 HF50; clear HF48
  refine gw_callG HF50 rfl rfl rfl rfl (on_f _) rfl (by decide) (fun h_ => (op_callL Try.func10 (by kernel_rfl) rfl rfl (ar_cons (ev_gv (HF50.ev rfl) h_) (ar_cons (ev_c _ _) ar_nil)))) (fun h_ => colloquyref12_Right.calls n1 kd2 nm2 vl2 A4 c4 kids2 18 (rightB 18 (⟨kd2, nm2, vl2, kids2⟩ : S24)) _ (Kd.C_below hr4 HO43.below) hc4 g1) ?_
  intro a51 w53 hb54 HF52
  have HO55 := HO43.after hb54; clear HF50 HO43 hb54
  refine gw_evG HF52 rfl rfl rfl rfl (on_f _) rfl (by decide) (fun h_ => (op_not rfl (ev_gv (HF52.ev rfl) h_))) ?_
  intro a56 HF57; clear HF52
  refine gw_ev HF57 (want_none rfl) rfl (by decide) (op_pick_or rfl (HF57.ev rfl) (ev_c _ _) (fun hp_ => (ev_gv (HF57.ev rfl) (not_t hp_)))) ?_
  intro a58 HF59; clear HF57
  refine wpList_nil ?_
  refine gw_nx (hK35 _ _ ?_)
  refine gw_cond HF59 rfl (fun hb60 => ?_) (fun hb60 => ?_)
  · skip
    have HF61 := HF59.subst_ (d := 22) (b := true) rfl hb60
    clear HF59
    (try simp only [Bool.and_eq_true, Bool.or_eq_true, Bool.and_eq_false_iff, Bool.or_eq_false_iff, Bool.not_and, Bool.not_or, Bool.not_not, decide_eq_true_eq, decide_eq_false_iff_not, Bool.not_eq_true', Bool.not_eq_false', Bool.not_eq_true, Bool.not_eq_false, ne_eq, Decidable.not_not, Int.not_lt, Int.not_le, not_true_eq_false, not_false_eq_true, bne_iff_ne, beq_iff_eq, bne_eq_false_iff_eq, beq_eq_false_iff_ne] at hb60)
    refine gw_seq fun K62 hK62 => ?_
    refine wp_region_lit ?_
    refine gw_ev HF61 (want_none rfl) rfl (by decide) (op_assign rfl (ev_c _ _)) ?_
    intro a63 HF64; clear HF61
    refine wpList_nil ?_
    refine gw_nx (hK62 _ _ ?_)
    refine wp_ret ?_
    refine gw_thr ?_
    refine gw_ret1 HF64 rfl rfl ?_
    exact ⟨by first | rfl | (congr 2; simp), HO55.below⟩
  · skip
    have HF65 := HF59.subst_ (d := 22) (b := false) rfl hb60
    clear HF59
    (try simp only [Bool.and_eq_true, Bool.or_eq_true, Bool.and_eq_false_iff, Bool.or_eq_false_iff, Bool.not_and, Bool.not_or, Bool.not_not, decide_eq_true_eq, decide_eq_false_iff_not, Bool.not_eq_true', Bool.not_eq_false', Bool.not_eq_true, Bool.not_eq_false, ne_eq, Decidable.not_not, Int.not_lt, Int.not_le, not_true_eq_false, not_false_eq_true, bne_iff_ne, beq_iff_eq, bne_eq_false_iff_eq, beq_eq_false_iff_ne] at hb60)
    obtain ⟨n, xv, yv, r, f1, f2, f3, f4, f5, f6, f7, f8, f9⟩ := facts_parts (⟨kd, nm, vl, kids⟩ : S24) (⟨kd2, nm2, vl2, kids2⟩ : S24) b ps ⟨smallN_le 19 _ ha20, hb60.1⟩ ⟨smallN_le 19 _ hc20, hb60.2⟩ ha20 hc20 hw
    refine wp_skip ?_
    refine gw_nx (hK34 _ _ ?_)
    refine gw_seq fun K66 hK66 => ?_
    refine gw_drawB HO55 (by kernel_rfl) (by kernel_rfl) fun w67 HO68 => ?_
    clear HO55
    refine gq_ev HF65 (want_none rfl) rfl (by decide) (fun wq hq => have HO := HO68.after hq; (op_loadn gwagg24 gwsiz24 rfl (HF65.ev rfl) (HO.get 2 rfl) rfl rfl)) ?_
    intro a69 HF70; clear HF65
    refine gq_ev HF70 (want_none rfl) rfl (by decide) (fun wq hq => have HO := HO68.after hq; (op_loadn gwagg27 gwsiz27 rfl (HF70.ev rfl) (HO.get 0 rfl) rfl rfl)) ?_
    intro a71 HF72; clear HF70
    refine gq_call HF72 (want_none rfl) rfl (by decide) (fun wq hq => have HO := HO68.after hq; (op_callL Try.func12 (by kernel_rfl) rfl rfl (ar_cons (HF72.ev rfl) (ar_cons (HF72.ev rfl) ar_nil)))) (fun wq hq => have HO := HO68.after hq; (cond_Holds.calls n kd nm vl A3 c3 kids b Ap cp ps xv _ (Kd.C_below hr3 HO.below) hc3 (Kd.C_below hrp HO.below) hcp f1).mono fun e w' h => ⟨h.1, below_then hq h.2⟩) ?_
    intro a73 HF74; clear HF72
    refine gq_ev HF74 (want_none rfl) rfl (by decide) (fun wq hq => have HO := HO68.after hq; (op_loadn gwagg24 gwsiz24 rfl (HF74.ev rfl) (HO.get 1 rfl) rfl rfl)) ?_
    intro a75 HF76; clear HF74
    refine gq_ev HF76 (want_none rfl) rfl (by decide) (fun wq hq => have HO := HO68.after hq; (op_loadn gwagg27 gwsiz27 rfl (HF76.ev rfl) (HO.get 0 rfl) rfl rfl)) ?_
    intro a77 HF78; clear HF76
    refine gq_call HF78 (want_none rfl) rfl (by decide) (fun wq hq => have HO := HO68.after hq; (op_callL Try.func12 (by kernel_rfl) rfl rfl (ar_cons (HF78.ev rfl) (ar_cons (HF78.ev rfl) ar_nil)))) (fun wq hq => have HO := HO68.after hq; (cond_Holds.calls n kd2 nm2 vl2 A4 c4 kids2 b Ap cp ps yv _ (Kd.C_below hr4 HO.below) hc4 (Kd.C_below hrp HO.below) hcp f2).mono fun e w' h => ⟨h.1, below_then hq h.2⟩) ?_
    intro a79 HF80; clear HF78
    refine gq_ev HF80 (want_none rfl) rfl (by decide) (fun wq hq => have HO := HO68.after hq; (op_assign rfl (HF80.ev rfl))) ?_
    intro a81 HF82; clear HF80
    refine gq_ev HF82 (want_none rfl) rfl (by decide) (fun wq hq => have HO := HO68.after hq; (op_assign rfl (HF82.ev rfl))) ?_
    intro a83 HF84; clear HF82
    refine wpQuiet_nil ?_
    intro w85 hq
    have HO86 := HO68.after hq
    clear HO68 hq
    refine gw_nx (hK66 _ _ ?_)
    refine gw_seq fun K87 hK87 => ?_
    refine wp_region_lit ?_
    refine gw_ev HF84 (want_none rfl) rfl (by decide) (op_loadn gwagg24 gwsiz24 rfl (HF84.ev rfl) (HO86.get 2 rfl) rfl rfl) ?_
    intro a88 HF89; clear HF84
    refine gw_news (O := .cells #[.int .i64 kd, .string nm, .string vl, .slice A3 kids.length c3] 24 (0, 0)) (n := 1) HF89 HO86 (want_none rfl) rfl (by decide) (op_bslice (by kernel_rfl) rfl (pt_cons (HF89.ev rfl) pt_nil)) ?_
    intro g90 a91 w92 HF93 HO94; clear HF89 HO86
    have HO95 : Own w w92 [Chunk.blk g90 (.cells #[.int .i64 kd, .string nm, .string vl, .slice A3 kids.length c3] 24 (0, 0)), Chunk.blk g14 (.cells #[.string b, .slice Ap ps.length cp] 27 (0, 0)), Chunk.blk g8 (.cells #[.int .i64 kd2, .string nm2, .string vl2, .slice A4 kids2.length c4] 24 (0, 0)), Chunk.blk g2 (.cells #[.int .i64 kd, .string nm, .string vl, .slice A3 kids.length c3] 24 (0, 0))] := HO94
    clear HO94
    refine gw_ev HF93 (want_none rfl) rfl (by decide) (op_build (cells := #[.int .i64 3, .string (⟨#[]⟩ : ByteArray), .string (⟨#[]⟩ : ByteArray), .slice (some ⟨g90, 0, none⟩) 1 1]) rfl (pt_cons (ev_c _ _) (pt_cons (HF93.ev rfl) pt_nil)) (by kernel_rfl)) ?_
    intro a96 HF97; clear HF93
    refine gw_new HF97 HO95 (want_none rfl) rfl (by decide) (op_alloc gwzer24 rfl) ?_
    intro g98 a99 w100 HF101 HO102; clear HF97 HO95
    have HO103 : Own w w100 [Chunk.blk g98 (.cells #[.int .i64 0, .string (⟨#[]⟩ : ByteArray), .string (⟨#[]⟩ : ByteArray), .slice none 0 0] 24 (0, 0)), Chunk.blk g90 (.cells #[.int .i64 kd, .string nm, .string vl, .slice A3 kids.length c3] 24 (0, 0)), Chunk.blk g14 (.cells #[.string b, .slice Ap ps.length cp] 27 (0, 0)), Chunk.blk g8 (.cells #[.int .i64 kd2, .string nm2, .string vl2, .slice A4 kids2.length c4] 24 (0, 0)), Chunk.blk g2 (.cells #[.int .i64 kd, .string nm, .string vl, .slice A3 kids.length c3] 24 (0, 0))] := HO102
    clear HO102
    refine gw_setn 0 HF101 HO103 rfl (want_none rfl) rfl (op_storen gwsiz24 rfl (HF101.ev rfl) (HF101.ev rfl) (HO103.get 0 rfl) rfl (by simp) (by simp [Value.oneCell'])) ?_
    intro a104 w106 HF105 HO107; clear HF101 HO103
    have HO108 : Own w w106 [Chunk.blk g98 (.cells #[.int .i64 3, .string (⟨#[]⟩ : ByteArray), .string (⟨#[]⟩ : ByteArray), .slice (some ⟨g90, 0, none⟩) 1 1] 24 (0, 0)), Chunk.blk g90 (.cells #[.int .i64 kd, .string nm, .string vl, .slice A3 kids.length c3] 24 (0, 0)), Chunk.blk g14 (.cells #[.string b, .slice Ap ps.length cp] 27 (0, 0)), Chunk.blk g8 (.cells #[.int .i64 kd2, .string nm2, .string vl2, .slice A4 kids2.length c4] 24 (0, 0)), Chunk.blk g2 (.cells #[.int .i64 kd, .string nm, .string vl, .slice A3 kids.length c3] 24 (0, 0))] := HO107
    clear HO107
    refine wpList_nil ?_
    refine gw_nx (hK87 _ _ ?_)
    refine gw_seq fun K109 hK109 => ?_
    refine wp_region_lit ?_
    refine gw_ev HF105 (want_none rfl) rfl (by decide) (op_loadn gwagg24 gwsiz24 rfl (HF105.ev rfl) (HO108.get 0 rfl) rfl rfl) ?_
    intro a110 HF111; clear HF105
    refine gw_news (O := .cells #[.int .i64 3, .string (⟨#[]⟩ : ByteArray), .string (⟨#[]⟩ : ByteArray), .slice (some ⟨g90, 0, none⟩) 1 1] 24 (0, 0)) (n := 1) HF111 HO108 (want_none rfl) rfl (by decide) (op_bslice (by kernel_rfl) rfl (pt_cons (HF111.ev rfl) pt_nil)) ?_
    intro g112 a113 w114 HF115 HO116; clear HF111 HO108
    have HO117 : Own w w114 [Chunk.blk g112 (.cells #[.int .i64 3, .string (⟨#[]⟩ : ByteArray), .string (⟨#[]⟩ : ByteArray), .slice (some ⟨g90, 0, none⟩) 1 1] 24 (0, 0)), Chunk.blk g98 (.cells #[.int .i64 3, .string (⟨#[]⟩ : ByteArray), .string (⟨#[]⟩ : ByteArray), .slice (some ⟨g90, 0, none⟩) 1 1] 24 (0, 0)), Chunk.blk g90 (.cells #[.int .i64 kd, .string nm, .string vl, .slice A3 kids.length c3] 24 (0, 0)), Chunk.blk g14 (.cells #[.string b, .slice Ap ps.length cp] 27 (0, 0)), Chunk.blk g8 (.cells #[.int .i64 kd2, .string nm2, .string vl2, .slice A4 kids2.length c4] 24 (0, 0)), Chunk.blk g2 (.cells #[.int .i64 kd, .string nm, .string vl, .slice A3 kids.length c3] 24 (0, 0))] := HO116
    clear HO116
    refine gw_ev HF115 (want_none rfl) rfl (by decide) (op_build (cells := #[.int .i64 3, .string (⟨#[]⟩ : ByteArray), .string (⟨#[]⟩ : ByteArray), .slice (some ⟨g112, 0, none⟩) 1 1]) rfl (pt_cons (ev_c _ _) (pt_cons (HF115.ev rfl) pt_nil)) (by kernel_rfl)) ?_
    intro a118 HF119; clear HF115
    refine gw_new HF119 HO117 (want_none rfl) rfl (by decide) (op_alloc gwzer24 rfl) ?_
    intro g120 a121 w122 HF123 HO124; clear HF119 HO117
    have HO125 : Own w w122 [Chunk.blk g120 (.cells #[.int .i64 0, .string (⟨#[]⟩ : ByteArray), .string (⟨#[]⟩ : ByteArray), .slice none 0 0] 24 (0, 0)), Chunk.blk g112 (.cells #[.int .i64 3, .string (⟨#[]⟩ : ByteArray), .string (⟨#[]⟩ : ByteArray), .slice (some ⟨g90, 0, none⟩) 1 1] 24 (0, 0)), Chunk.blk g98 (.cells #[.int .i64 3, .string (⟨#[]⟩ : ByteArray), .string (⟨#[]⟩ : ByteArray), .slice (some ⟨g90, 0, none⟩) 1 1] 24 (0, 0)), Chunk.blk g90 (.cells #[.int .i64 kd, .string nm, .string vl, .slice A3 kids.length c3] 24 (0, 0)), Chunk.blk g14 (.cells #[.string b, .slice Ap ps.length cp] 27 (0, 0)), Chunk.blk g8 (.cells #[.int .i64 kd2, .string nm2, .string vl2, .slice A4 kids2.length c4] 24 (0, 0)), Chunk.blk g2 (.cells #[.int .i64 kd, .string nm, .string vl, .slice A3 kids.length c3] 24 (0, 0))] := HO124
    clear HO124
    refine gw_setn 0 HF123 HO125 rfl (want_none rfl) rfl (op_storen gwsiz24 rfl (HF123.ev rfl) (HF123.ev rfl) (HO125.get 0 rfl) rfl (by simp) (by simp [Value.oneCell'])) ?_
    intro a126 w128 HF127 HO129; clear HF123 HO125
    have HO130 : Own w w128 [Chunk.blk g120 (.cells #[.int .i64 3, .string (⟨#[]⟩ : ByteArray), .string (⟨#[]⟩ : ByteArray), .slice (some ⟨g112, 0, none⟩) 1 1] 24 (0, 0)), Chunk.blk g112 (.cells #[.int .i64 3, .string (⟨#[]⟩ : ByteArray), .string (⟨#[]⟩ : ByteArray), .slice (some ⟨g90, 0, none⟩) 1 1] 24 (0, 0)), Chunk.blk g98 (.cells #[.int .i64 3, .string (⟨#[]⟩ : ByteArray), .string (⟨#[]⟩ : ByteArray), .slice (some ⟨g90, 0, none⟩) 1 1] 24 (0, 0)), Chunk.blk g90 (.cells #[.int .i64 kd, .string nm, .string vl, .slice A3 kids.length c3] 24 (0, 0)), Chunk.blk g14 (.cells #[.string b, .slice Ap ps.length cp] 27 (0, 0)), Chunk.blk g8 (.cells #[.int .i64 kd2, .string nm2, .string vl2, .slice A4 kids2.length c4] 24 (0, 0)), Chunk.blk g2 (.cells #[.int .i64 kd, .string nm, .string vl, .slice A3 kids.length c3] 24 (0, 0))] := HO129
    clear HO129
    refine wpList_nil ?_
    refine gw_nx (hK109 _ _ ?_)
    refine gw_seq fun K131 hK131 => ?_
    refine wp_region_lit ?_
    refine gw_ev HF127 (want_none rfl) rfl (by decide) (op_loadn gwagg24 gwsiz24 rfl (HF127.ev rfl) (HO130.get 6 rfl) rfl rfl) ?_
    intro a132 HF133; clear HF127
    refine gw_ev HF133 (want_none rfl) rfl (by decide) (op_loadn gwagg24 gwsiz24 rfl (HF133.ev rfl) (HO130.get 5 rfl) rfl rfl) ?_
    intro a134 HF135; clear HF133
    refine gw_news (O := .cells #[.int .i64 kd, .string nm, .string vl, .slice A3 kids.length c3, .int .i64 kd2, .string nm2, .string vl2, .slice A4 kids2.length c4] 24 (0, 0)) (n := 2) HF135 HO130 (want_none rfl) rfl (by decide) (op_bslice (by kernel_rfl) rfl (pt_cons (HF135.ev rfl) (pt_cons (HF135.ev rfl) pt_nil))) ?_
    intro g136 a137 w138 HF139 HO140; clear HF135 HO130
    have HO141 : Own w w138 [Chunk.blk g136 (.cells #[.int .i64 kd, .string nm, .string vl, .slice A3 kids.length c3, .int .i64 kd2, .string nm2, .string vl2, .slice A4 kids2.length c4] 24 (0, 0)), Chunk.blk g120 (.cells #[.int .i64 3, .string (⟨#[]⟩ : ByteArray), .string (⟨#[]⟩ : ByteArray), .slice (some ⟨g112, 0, none⟩) 1 1] 24 (0, 0)), Chunk.blk g112 (.cells #[.int .i64 3, .string (⟨#[]⟩ : ByteArray), .string (⟨#[]⟩ : ByteArray), .slice (some ⟨g90, 0, none⟩) 1 1] 24 (0, 0)), Chunk.blk g98 (.cells #[.int .i64 3, .string (⟨#[]⟩ : ByteArray), .string (⟨#[]⟩ : ByteArray), .slice (some ⟨g90, 0, none⟩) 1 1] 24 (0, 0)), Chunk.blk g90 (.cells #[.int .i64 kd, .string nm, .string vl, .slice A3 kids.length c3] 24 (0, 0)), Chunk.blk g14 (.cells #[.string b, .slice Ap ps.length cp] 27 (0, 0)), Chunk.blk g8 (.cells #[.int .i64 kd2, .string nm2, .string vl2, .slice A4 kids2.length c4] 24 (0, 0)), Chunk.blk g2 (.cells #[.int .i64 kd, .string nm, .string vl, .slice A3 kids.length c3] 24 (0, 0))] := HO140
    clear HO140
    refine gw_ev HF139 (want_none rfl) rfl (by decide) (op_build (cells := #[.int .i64 4, .string (⟨#[]⟩ : ByteArray), .string (⟨#[]⟩ : ByteArray), .slice (some ⟨g136, 0, none⟩) (([(⟨kd, nm, vl, kids⟩ : S24), (⟨kd2, nm2, vl2, kids2⟩ : S24)]).length) (([(⟨kd, nm, vl, kids⟩ : S24), (⟨kd2, nm2, vl2, kids2⟩ : S24)]).length)]) rfl (pt_cons (ev_c _ _) (pt_cons (HF139.ev rfl) pt_nil)) (by kernel_rfl)) ?_
    intro a142 HF143; clear HF139
    refine gw_new HF143 HO141 (want_none rfl) rfl (by decide) (op_alloc gwzer24 rfl) ?_
    intro g144 a145 w146 HF147 HO148; clear HF143 HO141
    have HO149 : Own w w146 [Chunk.blk g144 (.cells #[.int .i64 0, .string (⟨#[]⟩ : ByteArray), .string (⟨#[]⟩ : ByteArray), .slice none 0 0] 24 (0, 0)), Chunk.blk g136 (.cells #[.int .i64 kd, .string nm, .string vl, .slice A3 kids.length c3, .int .i64 kd2, .string nm2, .string vl2, .slice A4 kids2.length c4] 24 (0, 0)), Chunk.blk g120 (.cells #[.int .i64 3, .string (⟨#[]⟩ : ByteArray), .string (⟨#[]⟩ : ByteArray), .slice (some ⟨g112, 0, none⟩) 1 1] 24 (0, 0)), Chunk.blk g112 (.cells #[.int .i64 3, .string (⟨#[]⟩ : ByteArray), .string (⟨#[]⟩ : ByteArray), .slice (some ⟨g90, 0, none⟩) 1 1] 24 (0, 0)), Chunk.blk g98 (.cells #[.int .i64 3, .string (⟨#[]⟩ : ByteArray), .string (⟨#[]⟩ : ByteArray), .slice (some ⟨g90, 0, none⟩) 1 1] 24 (0, 0)), Chunk.blk g90 (.cells #[.int .i64 kd, .string nm, .string vl, .slice A3 kids.length c3] 24 (0, 0)), Chunk.blk g14 (.cells #[.string b, .slice Ap ps.length cp] 27 (0, 0)), Chunk.blk g8 (.cells #[.int .i64 kd2, .string nm2, .string vl2, .slice A4 kids2.length c4] 24 (0, 0)), Chunk.blk g2 (.cells #[.int .i64 kd, .string nm, .string vl, .slice A3 kids.length c3] 24 (0, 0))] := HO148
    clear HO148
    refine gw_setn 0 HF147 HO149 rfl (want_none rfl) rfl (op_storen gwsiz24 rfl (HF147.ev rfl) (HF147.ev rfl) (HO149.get 0 rfl) rfl (by simp) (by simp [Value.oneCell'])) ?_
    intro a150 w152 HF151 HO153; clear HF147 HO149
    have HO154 : Own w w152 [Chunk.blk g144 (.cells #[.int .i64 4, .string (⟨#[]⟩ : ByteArray), .string (⟨#[]⟩ : ByteArray), .slice (some ⟨g136, 0, none⟩) (([(⟨kd, nm, vl, kids⟩ : S24), (⟨kd2, nm2, vl2, kids2⟩ : S24)]).length) (([(⟨kd, nm, vl, kids⟩ : S24), (⟨kd2, nm2, vl2, kids2⟩ : S24)]).length)] 24 (0, 0)), Chunk.blk g136 (.cells #[.int .i64 kd, .string nm, .string vl, .slice A3 kids.length c3, .int .i64 kd2, .string nm2, .string vl2, .slice A4 kids2.length c4] 24 (0, 0)), Chunk.blk g120 (.cells #[.int .i64 3, .string (⟨#[]⟩ : ByteArray), .string (⟨#[]⟩ : ByteArray), .slice (some ⟨g112, 0, none⟩) 1 1] 24 (0, 0)), Chunk.blk g112 (.cells #[.int .i64 3, .string (⟨#[]⟩ : ByteArray), .string (⟨#[]⟩ : ByteArray), .slice (some ⟨g90, 0, none⟩) 1 1] 24 (0, 0)), Chunk.blk g98 (.cells #[.int .i64 3, .string (⟨#[]⟩ : ByteArray), .string (⟨#[]⟩ : ByteArray), .slice (some ⟨g90, 0, none⟩) 1 1] 24 (0, 0)), Chunk.blk g90 (.cells #[.int .i64 kd, .string nm, .string vl, .slice A3 kids.length c3] 24 (0, 0)), Chunk.blk g14 (.cells #[.string b, .slice Ap ps.length cp] 27 (0, 0)), Chunk.blk g8 (.cells #[.int .i64 kd2, .string nm2, .string vl2, .slice A4 kids2.length c4] 24 (0, 0)), Chunk.blk g2 (.cells #[.int .i64 kd, .string nm, .string vl, .slice A3 kids.length c3] 24 (0, 0))] := HO153
    clear HO153
    refine wpList_nil ?_
    refine gw_nx (hK131 _ _ ?_)
    refine gw_seq fun K155 hK155 => ?_
    refine wp_region_lit ?_
    refine gw_ev HF151 (want_none rfl) rfl (by decide) (op_loadn gwagg24 gwsiz24 rfl (HF151.ev rfl) (HO154.get 8 rfl) rfl rfl) ?_
    intro a156 HF157; clear HF151
    refine gw_ev HF157 (want_none rfl) rfl (by decide) (op_loadn gwagg24 gwsiz24 rfl (HF157.ev rfl) (HO154.get 7 rfl) rfl rfl) ?_
    intro a158 HF159; clear HF157
    refine gw_news (O := .cells #[.int .i64 kd, .string nm, .string vl, .slice A3 kids.length c3, .int .i64 kd2, .string nm2, .string vl2, .slice A4 kids2.length c4] 24 (0, 0)) (n := 2) HF159 HO154 (want_none rfl) rfl (by decide) (op_bslice (by kernel_rfl) rfl (pt_cons (HF159.ev rfl) (pt_cons (HF159.ev rfl) pt_nil))) ?_
    intro g160 a161 w162 HF163 HO164; clear HF159 HO154
    have HO165 : Own w w162 [Chunk.blk g160 (.cells #[.int .i64 kd, .string nm, .string vl, .slice A3 kids.length c3, .int .i64 kd2, .string nm2, .string vl2, .slice A4 kids2.length c4] 24 (0, 0)), Chunk.blk g144 (.cells #[.int .i64 4, .string (⟨#[]⟩ : ByteArray), .string (⟨#[]⟩ : ByteArray), .slice (some ⟨g136, 0, none⟩) (([(⟨kd, nm, vl, kids⟩ : S24), (⟨kd2, nm2, vl2, kids2⟩ : S24)]).length) (([(⟨kd, nm, vl, kids⟩ : S24), (⟨kd2, nm2, vl2, kids2⟩ : S24)]).length)] 24 (0, 0)), Chunk.blk g136 (.cells #[.int .i64 kd, .string nm, .string vl, .slice A3 kids.length c3, .int .i64 kd2, .string nm2, .string vl2, .slice A4 kids2.length c4] 24 (0, 0)), Chunk.blk g120 (.cells #[.int .i64 3, .string (⟨#[]⟩ : ByteArray), .string (⟨#[]⟩ : ByteArray), .slice (some ⟨g112, 0, none⟩) 1 1] 24 (0, 0)), Chunk.blk g112 (.cells #[.int .i64 3, .string (⟨#[]⟩ : ByteArray), .string (⟨#[]⟩ : ByteArray), .slice (some ⟨g90, 0, none⟩) 1 1] 24 (0, 0)), Chunk.blk g98 (.cells #[.int .i64 3, .string (⟨#[]⟩ : ByteArray), .string (⟨#[]⟩ : ByteArray), .slice (some ⟨g90, 0, none⟩) 1 1] 24 (0, 0)), Chunk.blk g90 (.cells #[.int .i64 kd, .string nm, .string vl, .slice A3 kids.length c3] 24 (0, 0)), Chunk.blk g14 (.cells #[.string b, .slice Ap ps.length cp] 27 (0, 0)), Chunk.blk g8 (.cells #[.int .i64 kd2, .string nm2, .string vl2, .slice A4 kids2.length c4] 24 (0, 0)), Chunk.blk g2 (.cells #[.int .i64 kd, .string nm, .string vl, .slice A3 kids.length c3] 24 (0, 0))] := HO164
    clear HO164
    refine gw_ev HF163 (want_none rfl) rfl (by decide) (op_build (cells := #[.int .i64 5, .string (⟨#[]⟩ : ByteArray), .string (⟨#[]⟩ : ByteArray), .slice (some ⟨g160, 0, none⟩) (([(⟨kd, nm, vl, kids⟩ : S24), (⟨kd2, nm2, vl2, kids2⟩ : S24)]).length) (([(⟨kd, nm, vl, kids⟩ : S24), (⟨kd2, nm2, vl2, kids2⟩ : S24)]).length)]) rfl (pt_cons (ev_c _ _) (pt_cons (HF163.ev rfl) pt_nil)) (by kernel_rfl)) ?_
    intro a166 HF167; clear HF163
    refine gw_new HF167 HO165 (want_none rfl) rfl (by decide) (op_alloc gwzer24 rfl) ?_
    intro g168 a169 w170 HF171 HO172; clear HF167 HO165
    have HO173 : Own w w170 [Chunk.blk g168 (.cells #[.int .i64 0, .string (⟨#[]⟩ : ByteArray), .string (⟨#[]⟩ : ByteArray), .slice none 0 0] 24 (0, 0)), Chunk.blk g160 (.cells #[.int .i64 kd, .string nm, .string vl, .slice A3 kids.length c3, .int .i64 kd2, .string nm2, .string vl2, .slice A4 kids2.length c4] 24 (0, 0)), Chunk.blk g144 (.cells #[.int .i64 4, .string (⟨#[]⟩ : ByteArray), .string (⟨#[]⟩ : ByteArray), .slice (some ⟨g136, 0, none⟩) (([(⟨kd, nm, vl, kids⟩ : S24), (⟨kd2, nm2, vl2, kids2⟩ : S24)]).length) (([(⟨kd, nm, vl, kids⟩ : S24), (⟨kd2, nm2, vl2, kids2⟩ : S24)]).length)] 24 (0, 0)), Chunk.blk g136 (.cells #[.int .i64 kd, .string nm, .string vl, .slice A3 kids.length c3, .int .i64 kd2, .string nm2, .string vl2, .slice A4 kids2.length c4] 24 (0, 0)), Chunk.blk g120 (.cells #[.int .i64 3, .string (⟨#[]⟩ : ByteArray), .string (⟨#[]⟩ : ByteArray), .slice (some ⟨g112, 0, none⟩) 1 1] 24 (0, 0)), Chunk.blk g112 (.cells #[.int .i64 3, .string (⟨#[]⟩ : ByteArray), .string (⟨#[]⟩ : ByteArray), .slice (some ⟨g90, 0, none⟩) 1 1] 24 (0, 0)), Chunk.blk g98 (.cells #[.int .i64 3, .string (⟨#[]⟩ : ByteArray), .string (⟨#[]⟩ : ByteArray), .slice (some ⟨g90, 0, none⟩) 1 1] 24 (0, 0)), Chunk.blk g90 (.cells #[.int .i64 kd, .string nm, .string vl, .slice A3 kids.length c3] 24 (0, 0)), Chunk.blk g14 (.cells #[.string b, .slice Ap ps.length cp] 27 (0, 0)), Chunk.blk g8 (.cells #[.int .i64 kd2, .string nm2, .string vl2, .slice A4 kids2.length c4] 24 (0, 0)), Chunk.blk g2 (.cells #[.int .i64 kd, .string nm, .string vl, .slice A3 kids.length c3] 24 (0, 0))] := HO172
    clear HO172
    refine gw_setn 0 HF171 HO173 rfl (want_none rfl) rfl (op_storen gwsiz24 rfl (HF171.ev rfl) (HF171.ev rfl) (HO173.get 0 rfl) rfl (by simp) (by simp [Value.oneCell'])) ?_
    intro a174 w176 HF175 HO177; clear HF171 HO173
    have HO178 : Own w w176 [Chunk.blk g168 (.cells #[.int .i64 5, .string (⟨#[]⟩ : ByteArray), .string (⟨#[]⟩ : ByteArray), .slice (some ⟨g160, 0, none⟩) (([(⟨kd, nm, vl, kids⟩ : S24), (⟨kd2, nm2, vl2, kids2⟩ : S24)]).length) (([(⟨kd, nm, vl, kids⟩ : S24), (⟨kd2, nm2, vl2, kids2⟩ : S24)]).length)] 24 (0, 0)), Chunk.blk g160 (.cells #[.int .i64 kd, .string nm, .string vl, .slice A3 kids.length c3, .int .i64 kd2, .string nm2, .string vl2, .slice A4 kids2.length c4] 24 (0, 0)), Chunk.blk g144 (.cells #[.int .i64 4, .string (⟨#[]⟩ : ByteArray), .string (⟨#[]⟩ : ByteArray), .slice (some ⟨g136, 0, none⟩) (([(⟨kd, nm, vl, kids⟩ : S24), (⟨kd2, nm2, vl2, kids2⟩ : S24)]).length) (([(⟨kd, nm, vl, kids⟩ : S24), (⟨kd2, nm2, vl2, kids2⟩ : S24)]).length)] 24 (0, 0)), Chunk.blk g136 (.cells #[.int .i64 kd, .string nm, .string vl, .slice A3 kids.length c3, .int .i64 kd2, .string nm2, .string vl2, .slice A4 kids2.length c4] 24 (0, 0)), Chunk.blk g120 (.cells #[.int .i64 3, .string (⟨#[]⟩ : ByteArray), .string (⟨#[]⟩ : ByteArray), .slice (some ⟨g112, 0, none⟩) 1 1] 24 (0, 0)), Chunk.blk g112 (.cells #[.int .i64 3, .string (⟨#[]⟩ : ByteArray), .string (⟨#[]⟩ : ByteArray), .slice (some ⟨g90, 0, none⟩) 1 1] 24 (0, 0)), Chunk.blk g98 (.cells #[.int .i64 3, .string (⟨#[]⟩ : ByteArray), .string (⟨#[]⟩ : ByteArray), .slice (some ⟨g90, 0, none⟩) 1 1] 24 (0, 0)), Chunk.blk g90 (.cells #[.int .i64 kd, .string nm, .string vl, .slice A3 kids.length c3] 24 (0, 0)), Chunk.blk g14 (.cells #[.string b, .slice Ap ps.length cp] 27 (0, 0)), Chunk.blk g8 (.cells #[.int .i64 kd2, .string nm2, .string vl2, .slice A4 kids2.length c4] 24 (0, 0)), Chunk.blk g2 (.cells #[.int .i64 kd, .string nm, .string vl, .slice A3 kids.length c3] 24 (0, 0))] := HO177
    clear HO177
    refine wpList_nil ?_
    refine gw_nx (hK155 _ _ ?_)
    refine gw_seq fun K179 hK179 => ?_
    refine gx_draw (M := [Chunk.blk g168 (.cells #[.int .i64 5, .string (⟨#[]⟩ : ByteArray), .string (⟨#[]⟩ : ByteArray), .slice (some ⟨g160, 0, none⟩) (([(⟨kd, nm, vl, kids⟩ : S24), (⟨kd2, nm2, vl2, kids2⟩ : S24)]).length) (([(⟨kd, nm, vl, kids⟩ : S24), (⟨kd2, nm2, vl2, kids2⟩ : S24)]).length)] 24 (0, 0)), Chunk.blk g160 (.cells #[.int .i64 kd, .string nm, .string vl, .slice A3 kids.length c3, .int .i64 kd2, .string nm2, .string vl2, .slice A4 kids2.length c4] 24 (0, 0)), Chunk.blk g144 (.cells #[.int .i64 4, .string (⟨#[]⟩ : ByteArray), .string (⟨#[]⟩ : ByteArray), .slice (some ⟨g136, 0, none⟩) (([(⟨kd, nm, vl, kids⟩ : S24), (⟨kd2, nm2, vl2, kids2⟩ : S24)]).length) (([(⟨kd, nm, vl, kids⟩ : S24), (⟨kd2, nm2, vl2, kids2⟩ : S24)]).length)] 24 (0, 0)), Chunk.blk g136 (.cells #[.int .i64 kd, .string nm, .string vl, .slice A3 kids.length c3, .int .i64 kd2, .string nm2, .string vl2, .slice A4 kids2.length c4] 24 (0, 0)), Chunk.blk g120 (.cells #[.int .i64 3, .string (⟨#[]⟩ : ByteArray), .string (⟨#[]⟩ : ByteArray), .slice (some ⟨g112, 0, none⟩) 1 1] 24 (0, 0)), Chunk.blk g112 (.cells #[.int .i64 3, .string (⟨#[]⟩ : ByteArray), .string (⟨#[]⟩ : ByteArray), .slice (some ⟨g90, 0, none⟩) 1 1] 24 (0, 0)), Chunk.blk g98 (.cells #[.int .i64 3, .string (⟨#[]⟩ : ByteArray), .string (⟨#[]⟩ : ByteArray), .slice (some ⟨g90, 0, none⟩) 1 1] 24 (0, 0)), Chunk.blk g90 (.cells #[.int .i64 kd, .string nm, .string vl, .slice A3 kids.length c3] 24 (0, 0)), Chunk.blk g14 (.cells #[.string b, .slice Ap ps.length cp] 27 (0, 0)), Chunk.blk g8 (.cells #[.int .i64 kd2, .string nm2, .string vl2, .slice A4 kids2.length c4] 24 (0, 0)), Chunk.blk g2 (.cells #[.int .i64 kd, .string nm, .string vl, .slice A3 kids.length c3] 24 (0, 0))]) (fun j_ => false) HO178 (by kernel_rfl) fun w180 HO181 => ?_
    clear HO178
    refine gx_take 0 rfl (by kernel_rfl) HF175 (by exact HO181.sel [0, 1, 2, 3, 4, 5, 6, 7, 8, 9, 10] (by decide)) (want_none rfl) rfl (by decide) (fun wq HO => (op_loadn gwagg24 gwsiz24 rfl (HF175.ev rfl) (HO.get 6 rfl) rfl rfl)) ?_
    intro a182 HF183; clear HF175
    refine gx_take 1 rfl (by kernel_rfl) HF183 (by exact HO181.sel [0, 1, 2, 3, 4, 5, 6, 7, 8, 9, 10] (by decide)) (want_none rfl) rfl (by decide) (fun wq HO => (op_loadn gwagg27 gwsiz27 rfl (HF183.ev rfl) (HO.get 8 rfl) rfl rfl)) ?_
    intro a184 HF185; clear HF183
    refine gx_take 3 rfl (by kernel_rfl) HF185 (by exact HO181.sel [0, 1, 2, 3, 4, 5, 6, 7, 8, 9, 10] (by decide)) (want_none rfl) rfl (by decide) (fun wq HO => (op_move rfl (HF185.ev rfl))) ?_
    intro a186 HF187; clear HF185
    refine gx_take 4 rfl (by kernel_rfl) HF187 (by exact HO181.sel [0, 1, 2, 3, 4, 5, 6, 7, 8, 9, 10] (by decide)) (want_none rfl) rfl (by decide) (fun wq HO => (op_not rfl (HF187.ev rfl))) ?_
    intro a188 HF189; clear HF187
    refine gx_step 2 rfl (by kernel_rfl) ?_
    refine gw_call HF189 (want_none rfl) rfl (by decide) (op_callL Try.func12 (by kernel_rfl) rfl rfl (ar_cons (HF189.ev rfl) (ar_cons (HF189.ev rfl) ar_nil))) (cond_Holds.calls n 3 (⟨#[]⟩ : ByteArray) (⟨#[]⟩ : ByteArray) (some ⟨g90, 0, none⟩) 1 ([(⟨kd, nm, vl, kids⟩ : S24)]) b Ap cp ps (!xv) _ (Cg_lit (cs := [.int .i64 kd, .string nm, .string vl, .slice A3 kids.length c3]) (HO181.get 7 rfl) (reps_more (k24_mk _ (⟨kd, nm, vl, kids⟩ : S24) hc3 (Kd.C_below hr3 HO181.below)) rfl reps_none) (by simp [maxLen])) (Nat.le_refl _) (Kd.C_below hrp HO181.below) hcp f3) ?_
    rintro e190 w191 ⟨rfl, hb192⟩
    refine ⟨_, rfl, fun a193 HF194 => ?_⟩
    have HO195 := HO181.after hb192
    clear HF189 HO181 hb192
    refine gx_on (i := 2) (B := (fun j_ => false)) (M := [Chunk.blk g168 (.cells #[.int .i64 5, .string (⟨#[]⟩ : ByteArray), .string (⟨#[]⟩ : ByteArray), .slice (some ⟨g160, 0, none⟩) (([(⟨kd, nm, vl, kids⟩ : S24), (⟨kd2, nm2, vl2, kids2⟩ : S24)]).length) (([(⟨kd, nm, vl, kids⟩ : S24), (⟨kd2, nm2, vl2, kids2⟩ : S24)]).length)] 24 (0, 0)), Chunk.blk g160 (.cells #[.int .i64 kd, .string nm, .string vl, .slice A3 kids.length c3, .int .i64 kd2, .string nm2, .string vl2, .slice A4 kids2.length c4] 24 (0, 0)), Chunk.blk g144 (.cells #[.int .i64 4, .string (⟨#[]⟩ : ByteArray), .string (⟨#[]⟩ : ByteArray), .slice (some ⟨g136, 0, none⟩) (([(⟨kd, nm, vl, kids⟩ : S24), (⟨kd2, nm2, vl2, kids2⟩ : S24)]).length) (([(⟨kd, nm, vl, kids⟩ : S24), (⟨kd2, nm2, vl2, kids2⟩ : S24)]).length)] 24 (0, 0)), Chunk.blk g136 (.cells #[.int .i64 kd, .string nm, .string vl, .slice A3 kids.length c3, .int .i64 kd2, .string nm2, .string vl2, .slice A4 kids2.length c4] 24 (0, 0)), Chunk.blk g120 (.cells #[.int .i64 3, .string (⟨#[]⟩ : ByteArray), .string (⟨#[]⟩ : ByteArray), .slice (some ⟨g112, 0, none⟩) 1 1] 24 (0, 0)), Chunk.blk g112 (.cells #[.int .i64 3, .string (⟨#[]⟩ : ByteArray), .string (⟨#[]⟩ : ByteArray), .slice (some ⟨g90, 0, none⟩) 1 1] 24 (0, 0)), Chunk.blk g98 (.cells #[.int .i64 3, .string (⟨#[]⟩ : ByteArray), .string (⟨#[]⟩ : ByteArray), .slice (some ⟨g90, 0, none⟩) 1 1] 24 (0, 0)), Chunk.blk g90 (.cells #[.int .i64 kd, .string nm, .string vl, .slice A3 kids.length c3] 24 (0, 0)), Chunk.blk g14 (.cells #[.string b, .slice Ap ps.length cp] 27 (0, 0)), Chunk.blk g8 (.cells #[.int .i64 kd2, .string nm2, .string vl2, .slice A4 kids2.length c4] 24 (0, 0)), Chunk.blk g2 (.cells #[.int .i64 kd, .string nm, .string vl, .slice A3 kids.length c3] 24 (0, 0))]) (fun _ => (by exact HO195.sel [0, 1, 2, 3, 4, 5, 6, 7, 8, 9, 10] (by decide))) ?_
    refine gx_take 5 rfl (by kernel_rfl) HF194 (by exact HO195.sel [0, 1, 2, 3, 4, 5, 6, 7, 8, 9, 10] (by decide)) (want_none rfl) rfl (by decide) (fun wq HO => (op_eqb Try.underlying4 rfl (HF194.ev rfl) (HF194.ev rfl))) ?_
    intro a197 HF198; clear HF194
    have HF199 := HF198.lit (b := true) (by simp)
    clear HF198
    refine gx_take 6 rfl (by kernel_rfl) HF199 (by exact HO195.sel [0, 1, 2, 3, 4, 5, 6, 7, 8, 9, 10] (by decide)) (want_none rfl) rfl (by decide) (fun wq HO => (op_move rfl (HF199.ev rfl))) ?_
    intro a200 HF201; clear HF199
    refine gx_take 7 rfl (by kernel_rfl) HF201 (by exact HO195.sel [0, 1, 2, 3, 4, 5, 6, 7, 8, 9, 10] (by decide)) (want_yes HF201 rfl rfl rfl rfl) rfl (by decide) (fun wq HO => (op_loadn gwagg24 gwsiz24 rfl (HF201.ev rfl) (HO.get 4 rfl) rfl rfl)) ?_
    intro a202 HF203; clear HF201
    refine gx_take 8 rfl (by kernel_rfl) HF203 (by exact HO195.sel [0, 1, 2, 3, 4, 5, 6, 7, 8, 9, 10] (by decide)) (want_yes HF203 rfl rfl rfl rfl) rfl (by decide) (fun wq HO => (op_loadn gwagg27 gwsiz27 rfl (HF203.ev rfl) (HO.get 8 rfl) rfl rfl)) ?_
    intro a204 HF205; clear HF203
    refine gx_take 10 rfl (by kernel_rfl) HF205 (by exact HO195.sel [0, 1, 2, 3, 4, 5, 6, 7, 8, 9, 10] (by decide)) (want_yes HF205 rfl rfl rfl rfl) rfl (by decide) (fun wq HO => (op_move rfl (HF205.ev rfl))) ?_
    intro a206 HF207; clear HF205
    refine gx_step 9 rfl (by kernel_rfl) ?_
    refine gw_call HF207 (want_yes HF207 rfl rfl rfl rfl) rfl (by decide) (op_callL Try.func12 (by kernel_rfl) rfl rfl (ar_cons (HF207.ev rfl) (ar_cons (HF207.ev rfl) ar_nil))) (cond_Holds.calls n 3 (⟨#[]⟩ : ByteArray) (⟨#[]⟩ : ByteArray) (some ⟨g112, 0, none⟩) 1 ([(⟨3, (⟨#[]⟩ : ByteArray), (⟨#[]⟩ : ByteArray), [(⟨kd, nm, vl, kids⟩ : S24)]⟩ : S24)]) b Ap cp ps xv _ (Cg_lit (cs := [.int .i64 3, .string (⟨#[]⟩ : ByteArray), .string (⟨#[]⟩ : ByteArray), .slice (some ⟨g90, 0, none⟩) 1 1]) (HO195.get 5 rfl) (reps_more (k24_mk _ (⟨3, (⟨#[]⟩ : ByteArray), (⟨#[]⟩ : ByteArray), [(⟨kd, nm, vl, kids⟩ : S24)]⟩ : S24) (Nat.le_refl _) (Cg_lit (cs := [.int .i64 kd, .string nm, .string vl, .slice A3 kids.length c3]) (HO195.get 7 rfl) (reps_more (k24_mk _ (⟨kd, nm, vl, kids⟩ : S24) hc3 (Kd.C_below hr3 HO195.below)) rfl reps_none) (by simp [maxLen]))) rfl reps_none) (by simp [maxLen])) (Nat.le_refl _) (Kd.C_below hrp HO195.below) hcp f4) ?_
    rintro e208 w209 ⟨rfl, hb210⟩
    refine ⟨_, rfl, fun a211 HF212 => ?_⟩
    have HO213 := HO195.after hb210
    clear HF207 HO195 hb210
    refine gx_on (i := 9) (B := (fun j_ => false)) (M := [Chunk.blk g168 (.cells #[.int .i64 5, .string (⟨#[]⟩ : ByteArray), .string (⟨#[]⟩ : ByteArray), .slice (some ⟨g160, 0, none⟩) (([(⟨kd, nm, vl, kids⟩ : S24), (⟨kd2, nm2, vl2, kids2⟩ : S24)]).length) (([(⟨kd, nm, vl, kids⟩ : S24), (⟨kd2, nm2, vl2, kids2⟩ : S24)]).length)] 24 (0, 0)), Chunk.blk g160 (.cells #[.int .i64 kd, .string nm, .string vl, .slice A3 kids.length c3, .int .i64 kd2, .string nm2, .string vl2, .slice A4 kids2.length c4] 24 (0, 0)), Chunk.blk g144 (.cells #[.int .i64 4, .string (⟨#[]⟩ : ByteArray), .string (⟨#[]⟩ : ByteArray), .slice (some ⟨g136, 0, none⟩) (([(⟨kd, nm, vl, kids⟩ : S24), (⟨kd2, nm2, vl2, kids2⟩ : S24)]).length) (([(⟨kd, nm, vl, kids⟩ : S24), (⟨kd2, nm2, vl2, kids2⟩ : S24)]).length)] 24 (0, 0)), Chunk.blk g136 (.cells #[.int .i64 kd, .string nm, .string vl, .slice A3 kids.length c3, .int .i64 kd2, .string nm2, .string vl2, .slice A4 kids2.length c4] 24 (0, 0)), Chunk.blk g120 (.cells #[.int .i64 3, .string (⟨#[]⟩ : ByteArray), .string (⟨#[]⟩ : ByteArray), .slice (some ⟨g112, 0, none⟩) 1 1] 24 (0, 0)), Chunk.blk g112 (.cells #[.int .i64 3, .string (⟨#[]⟩ : ByteArray), .string (⟨#[]⟩ : ByteArray), .slice (some ⟨g90, 0, none⟩) 1 1] 24 (0, 0)), Chunk.blk g98 (.cells #[.int .i64 3, .string (⟨#[]⟩ : ByteArray), .string (⟨#[]⟩ : ByteArray), .slice (some ⟨g90, 0, none⟩) 1 1] 24 (0, 0)), Chunk.blk g90 (.cells #[.int .i64 kd, .string nm, .string vl, .slice A3 kids.length c3] 24 (0, 0)), Chunk.blk g14 (.cells #[.string b, .slice Ap ps.length cp] 27 (0, 0)), Chunk.blk g8 (.cells #[.int .i64 kd2, .string nm2, .string vl2, .slice A4 kids2.length c4] 24 (0, 0)), Chunk.blk g2 (.cells #[.int .i64 kd, .string nm, .string vl, .slice A3 kids.length c3] 24 (0, 0))]) (fun _ => (by exact HO213.sel [0, 1, 2, 3, 4, 5, 6, 7, 8, 9, 10] (by decide))) ?_
    refine gx_take 11 rfl (by kernel_rfl) HF212 (by exact HO213.sel [0, 1, 2, 3, 4, 5, 6, 7, 8, 9, 10] (by decide)) (want_yes HF212 rfl rfl rfl rfl) rfl (by decide) (fun wq HO => (op_eqb Try.underlying4 rfl (HF212.ev rfl) (HF212.ev rfl))) ?_
    intro a215 HF216; clear HF212
    have HF217 := HF216.lit (b := true) (by simp)
    clear HF216
    refine gx_take 12 rfl (by kernel_rfl) HF217 (by exact HO213.sel [0, 1, 2, 3, 4, 5, 6, 7, 8, 9, 10] (by decide)) (want_none rfl) rfl (by decide) (fun wq HO => (op_pick_t rfl (HF217.ev rfl) (HF217.ev rfl))) ?_
    intro a218 HF219; clear HF217
    refine gx_take 13 rfl (by kernel_rfl) HF219 (by exact HO213.sel [0, 1, 2, 3, 4, 5, 6, 7, 8, 9, 10] (by decide)) (want_none rfl) rfl (by decide) (fun wq HO => (op_move rfl (HF219.ev rfl))) ?_
    intro a220 HF221; clear HF219
    refine gx_take 14 rfl (by kernel_rfl) HF221 (by exact HO213.sel [0, 1, 2, 3, 4, 5, 6, 7, 8, 9, 10] (by decide)) (want_yes HF221 rfl rfl rfl rfl) rfl (by decide) (fun wq HO => (op_loadn gwagg24 gwsiz24 rfl (HF221.ev rfl) (HO.get 2 rfl) rfl rfl)) ?_
    intro a222 HF223; clear HF221
    refine gx_take 15 rfl (by kernel_rfl) HF223 (by exact HO213.sel [0, 1, 2, 3, 4, 5, 6, 7, 8, 9, 10] (by decide)) (want_yes HF223 rfl rfl rfl rfl) rfl (by decide) (fun wq HO => (op_loadn gwagg27 gwsiz27 rfl (HF223.ev rfl) (HO.get 8 rfl) rfl rfl)) ?_
    intro a224 HF225; clear HF223
    refine gx_take 17 rfl (by kernel_rfl) HF225 (by exact HO213.sel [0, 1, 2, 3, 4, 5, 6, 7, 8, 9, 10] (by decide)) (want_yes HF225 rfl rfl rfl rfl) rfl (by decide) (fun wq HO => (op_move rfl (HF225.ev rfl))) ?_
    intro a226 HF227; clear HF225
    refine gx_step 16 rfl (by kernel_rfl) ?_
    refine gw_call HF227 (want_yes HF227 rfl rfl rfl rfl) rfl (by decide) (op_callL Try.func12 (by kernel_rfl) rfl rfl (ar_cons (HF227.ev rfl) (ar_cons (HF227.ev rfl) ar_nil))) (cond_Holds.calls n 4 (⟨#[]⟩ : ByteArray) (⟨#[]⟩ : ByteArray) (some ⟨g136, 0, none⟩) (([(⟨kd, nm, vl, kids⟩ : S24), (⟨kd2, nm2, vl2, kids2⟩ : S24)]).length) ([(⟨kd, nm, vl, kids⟩ : S24), (⟨kd2, nm2, vl2, kids2⟩ : S24)]) b Ap cp ps (xv && yv) _ (Cg_lit (cs := [.int .i64 kd, .string nm, .string vl, .slice A3 kids.length c3, .int .i64 kd2, .string nm2, .string vl2, .slice A4 kids2.length c4]) (HO213.get 3 rfl) (reps_more (k24_mk _ (⟨kd, nm, vl, kids⟩ : S24) hc3 (Kd.C_below hr3 HO213.below)) rfl (reps_more (k24_mk _ (⟨kd2, nm2, vl2, kids2⟩ : S24) hc4 (Kd.C_below hr4 HO213.below)) rfl reps_none)) (by simp [maxLen])) (Nat.le_refl _) (Kd.C_below hrp HO213.below) hcp f5) ?_
    rintro e228 w229 ⟨rfl, hb230⟩
    refine ⟨_, rfl, fun a231 HF232 => ?_⟩
    have HO233 := HO213.after hb230
    clear HF227 HO213 hb230
    refine gx_on (i := 16) (B := (fun j_ => false)) (M := [Chunk.blk g168 (.cells #[.int .i64 5, .string (⟨#[]⟩ : ByteArray), .string (⟨#[]⟩ : ByteArray), .slice (some ⟨g160, 0, none⟩) (([(⟨kd, nm, vl, kids⟩ : S24), (⟨kd2, nm2, vl2, kids2⟩ : S24)]).length) (([(⟨kd, nm, vl, kids⟩ : S24), (⟨kd2, nm2, vl2, kids2⟩ : S24)]).length)] 24 (0, 0)), Chunk.blk g160 (.cells #[.int .i64 kd, .string nm, .string vl, .slice A3 kids.length c3, .int .i64 kd2, .string nm2, .string vl2, .slice A4 kids2.length c4] 24 (0, 0)), Chunk.blk g144 (.cells #[.int .i64 4, .string (⟨#[]⟩ : ByteArray), .string (⟨#[]⟩ : ByteArray), .slice (some ⟨g136, 0, none⟩) (([(⟨kd, nm, vl, kids⟩ : S24), (⟨kd2, nm2, vl2, kids2⟩ : S24)]).length) (([(⟨kd, nm, vl, kids⟩ : S24), (⟨kd2, nm2, vl2, kids2⟩ : S24)]).length)] 24 (0, 0)), Chunk.blk g136 (.cells #[.int .i64 kd, .string nm, .string vl, .slice A3 kids.length c3, .int .i64 kd2, .string nm2, .string vl2, .slice A4 kids2.length c4] 24 (0, 0)), Chunk.blk g120 (.cells #[.int .i64 3, .string (⟨#[]⟩ : ByteArray), .string (⟨#[]⟩ : ByteArray), .slice (some ⟨g112, 0, none⟩) 1 1] 24 (0, 0)), Chunk.blk g112 (.cells #[.int .i64 3, .string (⟨#[]⟩ : ByteArray), .string (⟨#[]⟩ : ByteArray), .slice (some ⟨g90, 0, none⟩) 1 1] 24 (0, 0)), Chunk.blk g98 (.cells #[.int .i64 3, .string (⟨#[]⟩ : ByteArray), .string (⟨#[]⟩ : ByteArray), .slice (some ⟨g90, 0, none⟩) 1 1] 24 (0, 0)), Chunk.blk g90 (.cells #[.int .i64 kd, .string nm, .string vl, .slice A3 kids.length c3] 24 (0, 0)), Chunk.blk g14 (.cells #[.string b, .slice Ap ps.length cp] 27 (0, 0)), Chunk.blk g8 (.cells #[.int .i64 kd2, .string nm2, .string vl2, .slice A4 kids2.length c4] 24 (0, 0)), Chunk.blk g2 (.cells #[.int .i64 kd, .string nm, .string vl, .slice A3 kids.length c3] 24 (0, 0))]) (fun _ => (by exact HO233.sel [0, 1, 2, 3, 4, 5, 6, 7, 8, 9, 10] (by decide))) ?_
    refine gx_take 18 rfl (by kernel_rfl) HF232 (by exact HO233.sel [0, 1, 2, 3, 4, 5, 6, 7, 8, 9, 10] (by decide)) (want_yes HF232 rfl rfl rfl rfl) rfl (by decide) (fun wq HO => (op_move rfl (HF232.ev rfl))) ?_
    intro a235 HF236; clear HF232
    refine gx_takeG 19 rfl (by kernel_rfl) HF236 (by exact HO233.sel [0, 1, 2, 3, 4, 5, 6, 7, 8, 9, 10] (by decide)) rfl rfl rfl rfl (on_t _) rfl (by decide) (fun h_ wq HO => (op_move rfl (HF236.ev rfl))) ?_
    intro a237 HF238; clear HF236
    refine gx_take 20 rfl (by kernel_rfl) HF238 (by exact HO233.sel [0, 1, 2, 3, 4, 5, 6, 7, 8, 9, 10] (by decide)) (want_yes HF238 rfl rfl rfl rfl) rfl (by decide) (fun wq HO => (op_pick_and rfl (HF238.ev rfl) (fun hp_ => (ev_gv (HF238.ev rfl) hp_)) (ev_c _ _))) ?_
    intro a239 HF240; clear HF238
    refine gx_take 21 rfl (by kernel_rfl) HF240 (by exact HO233.sel [0, 1, 2, 3, 4, 5, 6, 7, 8, 9, 10] (by decide)) (want_yes HF240 rfl rfl rfl rfl) rfl (by decide) (fun wq HO => (op_eqb Try.underlying4 rfl (HF240.ev rfl) (HF240.ev rfl))) ?_
    intro a241 HF242; clear HF240
    have HF243 := HF242.lit (b := true) (by simp)
    clear HF242
    refine gx_take 22 rfl (by kernel_rfl) HF243 (by exact HO233.sel [0, 1, 2, 3, 4, 5, 6, 7, 8, 9, 10] (by decide)) (want_none rfl) rfl (by decide) (fun wq HO => (op_pick_t rfl (HF243.ev rfl) (HF243.ev rfl))) ?_
    intro a244 HF245; clear HF243
    refine gx_take 23 rfl (by kernel_rfl) HF245 (by exact HO233.sel [0, 1, 2, 3, 4, 5, 6, 7, 8, 9, 10] (by decide)) (want_none rfl) rfl (by decide) (fun wq HO => (op_move rfl (HF245.ev rfl))) ?_
    intro a246 HF247; clear HF245
    refine gx_take 24 rfl (by kernel_rfl) HF247 (by exact HO233.sel [0, 1, 2, 3, 4, 5, 6, 7, 8, 9, 10] (by decide)) (want_yes HF247 rfl rfl rfl rfl) rfl (by decide) (fun wq HO => (op_loadn gwagg24 gwsiz24 rfl (HF247.ev rfl) (HO.get 0 rfl) rfl rfl)) ?_
    intro a248 HF249; clear HF247
    refine gx_take 25 rfl (by kernel_rfl) HF249 (by exact HO233.sel [0, 1, 2, 3, 4, 5, 6, 7, 8, 9, 10] (by decide)) (want_yes HF249 rfl rfl rfl rfl) rfl (by decide) (fun wq HO => (op_loadn gwagg27 gwsiz27 rfl (HF249.ev rfl) (HO.get 8 rfl) rfl rfl)) ?_
    intro a250 HF251; clear HF249
    refine gx_take 27 rfl (by kernel_rfl) HF251 (by exact HO233.sel [0, 1, 2, 3, 4, 5, 6, 7, 8, 9, 10] (by decide)) (want_yes HF251 rfl rfl rfl rfl) rfl (by decide) (fun wq HO => (op_move rfl (HF251.ev rfl))) ?_
    intro a252 HF253; clear HF251
    refine gx_step 26 rfl (by kernel_rfl) ?_
    refine gw_call HF253 (want_yes HF253 rfl rfl rfl rfl) rfl (by decide) (op_callL Try.func12 (by kernel_rfl) rfl rfl (ar_cons (HF253.ev rfl) (ar_cons (HF253.ev rfl) ar_nil))) (cond_Holds.calls n 5 (⟨#[]⟩ : ByteArray) (⟨#[]⟩ : ByteArray) (some ⟨g160, 0, none⟩) (([(⟨kd, nm, vl, kids⟩ : S24), (⟨kd2, nm2, vl2, kids2⟩ : S24)]).length) ([(⟨kd, nm, vl, kids⟩ : S24), (⟨kd2, nm2, vl2, kids2⟩ : S24)]) b Ap cp ps (xv || yv) _ (Cg_lit (cs := [.int .i64 kd, .string nm, .string vl, .slice A3 kids.length c3, .int .i64 kd2, .string nm2, .string vl2, .slice A4 kids2.length c4]) (HO233.get 1 rfl) (reps_more (k24_mk _ (⟨kd, nm, vl, kids⟩ : S24) hc3 (Kd.C_below hr3 HO233.below)) rfl (reps_more (k24_mk _ (⟨kd2, nm2, vl2, kids2⟩ : S24) hc4 (Kd.C_below hr4 HO233.below)) rfl reps_none)) (by simp [maxLen])) (Nat.le_refl _) (Kd.C_below hrp HO233.below) hcp f6) ?_
    rintro e254 w255 ⟨rfl, hb256⟩
    refine ⟨_, rfl, fun a257 HF258 => ?_⟩
    have HO259 := HO233.after hb256
    clear HF253 HO233 hb256
    refine gx_on (i := 26) (B := (fun j_ => false)) (M := [Chunk.blk g168 (.cells #[.int .i64 5, .string (⟨#[]⟩ : ByteArray), .string (⟨#[]⟩ : ByteArray), .slice (some ⟨g160, 0, none⟩) (([(⟨kd, nm, vl, kids⟩ : S24), (⟨kd2, nm2, vl2, kids2⟩ : S24)]).length) (([(⟨kd, nm, vl, kids⟩ : S24), (⟨kd2, nm2, vl2, kids2⟩ : S24)]).length)] 24 (0, 0)), Chunk.blk g160 (.cells #[.int .i64 kd, .string nm, .string vl, .slice A3 kids.length c3, .int .i64 kd2, .string nm2, .string vl2, .slice A4 kids2.length c4] 24 (0, 0)), Chunk.blk g144 (.cells #[.int .i64 4, .string (⟨#[]⟩ : ByteArray), .string (⟨#[]⟩ : ByteArray), .slice (some ⟨g136, 0, none⟩) (([(⟨kd, nm, vl, kids⟩ : S24), (⟨kd2, nm2, vl2, kids2⟩ : S24)]).length) (([(⟨kd, nm, vl, kids⟩ : S24), (⟨kd2, nm2, vl2, kids2⟩ : S24)]).length)] 24 (0, 0)), Chunk.blk g136 (.cells #[.int .i64 kd, .string nm, .string vl, .slice A3 kids.length c3, .int .i64 kd2, .string nm2, .string vl2, .slice A4 kids2.length c4] 24 (0, 0)), Chunk.blk g120 (.cells #[.int .i64 3, .string (⟨#[]⟩ : ByteArray), .string (⟨#[]⟩ : ByteArray), .slice (some ⟨g112, 0, none⟩) 1 1] 24 (0, 0)), Chunk.blk g112 (.cells #[.int .i64 3, .string (⟨#[]⟩ : ByteArray), .string (⟨#[]⟩ : ByteArray), .slice (some ⟨g90, 0, none⟩) 1 1] 24 (0, 0)), Chunk.blk g98 (.cells #[.int .i64 3, .string (⟨#[]⟩ : ByteArray), .string (⟨#[]⟩ : ByteArray), .slice (some ⟨g90, 0, none⟩) 1 1] 24 (0, 0)), Chunk.blk g90 (.cells #[.int .i64 kd, .string nm, .string vl, .slice A3 kids.length c3] 24 (0, 0)), Chunk.blk g14 (.cells #[.string b, .slice Ap ps.length cp] 27 (0, 0)), Chunk.blk g8 (.cells #[.int .i64 kd2, .string nm2, .string vl2, .slice A4 kids2.length c4] 24 (0, 0)), Chunk.blk g2 (.cells #[.int .i64 kd, .string nm, .string vl, .slice A3 kids.length c3] 24 (0, 0))]) (fun _ => (by exact HO259.sel [0, 1, 2, 3, 4, 5, 6, 7, 8, 9, 10] (by decide))) ?_
    refine gx_take 28 rfl (by kernel_rfl) HF258 (by exact HO259.sel [0, 1, 2, 3, 4, 5, 6, 7, 8, 9, 10] (by decide)) (want_yes HF258 rfl rfl rfl rfl) rfl (by decide) (fun wq HO => (op_move rfl (HF258.ev rfl))) ?_
    intro a261 HF262; clear HF258
    refine gx_takeG 29 rfl (by kernel_rfl) HF262 (by exact HO259.sel [0, 1, 2, 3, 4, 5, 6, 7, 8, 9, 10] (by decide)) rfl rfl rfl rfl (on_f _) rfl (by decide) (fun h_ wq HO => (op_move rfl (HF262.ev rfl))) ?_
    intro a263 HF264; clear HF262
    refine gx_take 30 rfl (by kernel_rfl) HF264 (by exact HO259.sel [0, 1, 2, 3, 4, 5, 6, 7, 8, 9, 10] (by decide)) (want_yes HF264 rfl rfl rfl rfl) rfl (by decide) (fun wq HO => (op_pick_or rfl (HF264.ev rfl) (ev_c _ _) (fun hp_ => (ev_gv (HF264.ev rfl) (not_t hp_))))) ?_
    intro a265 HF266; clear HF264
    refine gx_take 31 rfl (by kernel_rfl) HF266 (by exact HO259.sel [0, 1, 2, 3, 4, 5, 6, 7, 8, 9, 10] (by decide)) (want_yes HF266 rfl rfl rfl rfl) rfl (by decide) (fun wq HO => (op_eqb Try.underlying4 rfl (HF266.ev rfl) (HF266.ev rfl))) ?_
    intro a267 HF268; clear HF266
    have HF269 := HF268.lit (b := true) (by simp)
    clear HF268
    refine gx_take 32 rfl (by kernel_rfl) HF269 (by exact HO259.sel [0, 1, 2, 3, 4, 5, 6, 7, 8, 9, 10] (by decide)) (want_none rfl) rfl (by decide) (fun wq HO => (op_pick_t rfl (HF269.ev rfl) (HF269.ev rfl))) ?_
    intro a270 HF271; clear HF269
    refine gx_take 33 rfl (by kernel_rfl) HF271 (by exact HO259.sel [0, 1, 2, 3, 4, 5, 6, 7, 8, 9, 10] (by decide)) (want_none rfl) rfl (by decide) (fun wq HO => (op_move rfl (HF271.ev rfl))) ?_
    intro a272 HF273; clear HF271
    refine gx_take 34 rfl (by kernel_rfl) HF273 (by exact HO259.sel [0, 1, 2, 3, 4, 5, 6, 7, 8, 9, 10] (by decide)) (want_yes HF273 rfl rfl rfl rfl) rfl (by decide) (fun wq HO => (op_loadn gwagg24 gwsiz24 rfl (HF273.ev rfl) (HO.get 4 rfl) rfl rfl)) ?_
    intro a274 HF275; clear HF273
    refine gx_take 36 rfl (by kernel_rfl) HF275 (by exact HO259.sel [0, 1, 2, 3, 4, 5, 6, 7, 8, 9, 10] (by decide)) (want_yes HF275 rfl rfl rfl rfl) rfl (by decide) (fun wq HO => (op_loadn gwagg24 gwsiz24 rfl (HF275.ev rfl) (HO.get 10 rfl) rfl rfl)) ?_
    intro a276 HF277; clear HF275
    refine gx_step 35 rfl (by kernel_rfl) ?_
    refine gw_call HF277 (want_yes HF277 rfl rfl rfl rfl) rfl (by decide) (op_callL Try.func17 (by kernel_rfl) rfl rfl (ar_cons (HF277.ev rfl) ar_nil)) (Simple_walk n 3 (⟨#[]⟩ : ByteArray) (⟨#[]⟩ : ByteArray) (some ⟨g112, 0, none⟩) 1 ([(⟨3, (⟨#[]⟩ : ByteArray), (⟨#[]⟩ : ByteArray), [(⟨kd, nm, vl, kids⟩ : S24)]⟩ : S24)]) r _ (Cg_lit (cs := [.int .i64 3, .string (⟨#[]⟩ : ByteArray), .string (⟨#[]⟩ : ByteArray), .slice (some ⟨g90, 0, none⟩) 1 1]) (HO259.get 5 rfl) (reps_more (k24_mk _ (⟨3, (⟨#[]⟩ : ByteArray), (⟨#[]⟩ : ByteArray), [(⟨kd, nm, vl, kids⟩ : S24)]⟩ : S24) (Nat.le_refl _) (Cg_lit (cs := [.int .i64 kd, .string nm, .string vl, .slice A3 kids.length c3]) (HO259.get 7 rfl) (reps_more (k24_mk _ (⟨kd, nm, vl, kids⟩ : S24) hc3 (Kd.C_below hr3 HO259.below)) rfl reps_none) (by simp [maxLen]))) rfl reps_none) (by simp [maxLen])) (Nat.le_refl _) f7) ?_
    rintro e281 w282 ⟨A278, c279, S280, rfl, hb283⟩
    refine ⟨_, rfl, fun a284 HF285 => ?_⟩
    have HO286 := HO259.fresh hb283
    clear HF277 HO259 hb283
    have HO288 : Own w w282 [Chunk.view k24 S280 A278 r.2.2.2.length c279 r.2.2.2, Chunk.blk g168 (.cells #[.int .i64 5, .string (⟨#[]⟩ : ByteArray), .string (⟨#[]⟩ : ByteArray), .slice (some ⟨g160, 0, none⟩) (([(⟨kd, nm, vl, kids⟩ : S24), (⟨kd2, nm2, vl2, kids2⟩ : S24)]).length) (([(⟨kd, nm, vl, kids⟩ : S24), (⟨kd2, nm2, vl2, kids2⟩ : S24)]).length)] 24 (0, 0)), Chunk.blk g160 (.cells #[.int .i64 kd, .string nm, .string vl, .slice A3 kids.length c3, .int .i64 kd2, .string nm2, .string vl2, .slice A4 kids2.length c4] 24 (0, 0)), Chunk.blk g144 (.cells #[.int .i64 4, .string (⟨#[]⟩ : ByteArray), .string (⟨#[]⟩ : ByteArray), .slice (some ⟨g136, 0, none⟩) (([(⟨kd, nm, vl, kids⟩ : S24), (⟨kd2, nm2, vl2, kids2⟩ : S24)]).length) (([(⟨kd, nm, vl, kids⟩ : S24), (⟨kd2, nm2, vl2, kids2⟩ : S24)]).length)] 24 (0, 0)), Chunk.blk g136 (.cells #[.int .i64 kd, .string nm, .string vl, .slice A3 kids.length c3, .int .i64 kd2, .string nm2, .string vl2, .slice A4 kids2.length c4] 24 (0, 0)), Chunk.blk g120 (.cells #[.int .i64 3, .string (⟨#[]⟩ : ByteArray), .string (⟨#[]⟩ : ByteArray), .slice (some ⟨g112, 0, none⟩) 1 1] 24 (0, 0)), Chunk.blk g112 (.cells #[.int .i64 3, .string (⟨#[]⟩ : ByteArray), .string (⟨#[]⟩ : ByteArray), .slice (some ⟨g90, 0, none⟩) 1 1] 24 (0, 0)), Chunk.blk g98 (.cells #[.int .i64 3, .string (⟨#[]⟩ : ByteArray), .string (⟨#[]⟩ : ByteArray), .slice (some ⟨g90, 0, none⟩) 1 1] 24 (0, 0)), Chunk.blk g90 (.cells #[.int .i64 kd, .string nm, .string vl, .slice A3 kids.length c3] 24 (0, 0)), Chunk.blk g14 (.cells #[.string b, .slice Ap ps.length cp] 27 (0, 0)), Chunk.blk g8 (.cells #[.int .i64 kd2, .string nm2, .string vl2, .slice A4 kids2.length c4] 24 (0, 0)), Chunk.blk g2 (.cells #[.int .i64 kd, .string nm, .string vl, .slice A3 kids.length c3] 24 (0, 0))] := HO286
    clear HO286
    refine gx_on (i := 35) (B := (fun j_ => false)) (M := [Chunk.blk g168 (.cells #[.int .i64 5, .string (⟨#[]⟩ : ByteArray), .string (⟨#[]⟩ : ByteArray), .slice (some ⟨g160, 0, none⟩) (([(⟨kd, nm, vl, kids⟩ : S24), (⟨kd2, nm2, vl2, kids2⟩ : S24)]).length) (([(⟨kd, nm, vl, kids⟩ : S24), (⟨kd2, nm2, vl2, kids2⟩ : S24)]).length)] 24 (0, 0)), Chunk.blk g160 (.cells #[.int .i64 kd, .string nm, .string vl, .slice A3 kids.length c3, .int .i64 kd2, .string nm2, .string vl2, .slice A4 kids2.length c4] 24 (0, 0)), Chunk.blk g144 (.cells #[.int .i64 4, .string (⟨#[]⟩ : ByteArray), .string (⟨#[]⟩ : ByteArray), .slice (some ⟨g136, 0, none⟩) (([(⟨kd, nm, vl, kids⟩ : S24), (⟨kd2, nm2, vl2, kids2⟩ : S24)]).length) (([(⟨kd, nm, vl, kids⟩ : S24), (⟨kd2, nm2, vl2, kids2⟩ : S24)]).length)] 24 (0, 0)), Chunk.blk g136 (.cells #[.int .i64 kd, .string nm, .string vl, .slice A3 kids.length c3, .int .i64 kd2, .string nm2, .string vl2, .slice A4 kids2.length c4] 24 (0, 0)), Chunk.blk g120 (.cells #[.int .i64 3, .string (⟨#[]⟩ : ByteArray), .string (⟨#[]⟩ : ByteArray), .slice (some ⟨g112, 0, none⟩) 1 1] 24 (0, 0)), Chunk.blk g112 (.cells #[.int .i64 3, .string (⟨#[]⟩ : ByteArray), .string (⟨#[]⟩ : ByteArray), .slice (some ⟨g90, 0, none⟩) 1 1] 24 (0, 0)), Chunk.blk g98 (.cells #[.int .i64 3, .string (⟨#[]⟩ : ByteArray), .string (⟨#[]⟩ : ByteArray), .slice (some ⟨g90, 0, none⟩) 1 1] 24 (0, 0)), Chunk.blk g90 (.cells #[.int .i64 kd, .string nm, .string vl, .slice A3 kids.length c3] 24 (0, 0)), Chunk.blk g14 (.cells #[.string b, .slice Ap ps.length cp] 27 (0, 0)), Chunk.blk g8 (.cells #[.int .i64 kd2, .string nm2, .string vl2, .slice A4 kids2.length c4] 24 (0, 0)), Chunk.blk g2 (.cells #[.int .i64 kd, .string nm, .string vl, .slice A3 kids.length c3] 24 (0, 0))]) (fun _ => (by exact HO288.sel [1, 2, 3, 4, 5, 6, 7, 8, 9, 10, 11] (by decide))) ?_
    refine gx_step 37 rfl (by kernel_rfl) ?_
    refine gw_call HF285 (want_yes HF285 rfl rfl rfl rfl) rfl (by decide) (op_callL Try.func17 (by kernel_rfl) rfl rfl (ar_cons (HF285.ev rfl) ar_nil)) (Simple_walk n kd nm vl A3 c3 kids r _ (Kd.C_below hr3 HO288.below) hc3 f8) ?_
    rintro e292 w293 ⟨A289, c290, S291, rfl, hb294⟩
    refine ⟨_, rfl, fun a295 HF296 => ?_⟩
    have HO297 := HO288.fresh hb294
    clear HF285 HO288 hb294
    have HO299 : Own w w293 [Chunk.view k24 S291 A289 r.2.2.2.length c290 r.2.2.2, Chunk.view k24 S280 A278 r.2.2.2.length c279 r.2.2.2, Chunk.blk g168 (.cells #[.int .i64 5, .string (⟨#[]⟩ : ByteArray), .string (⟨#[]⟩ : ByteArray), .slice (some ⟨g160, 0, none⟩) (([(⟨kd, nm, vl, kids⟩ : S24), (⟨kd2, nm2, vl2, kids2⟩ : S24)]).length) (([(⟨kd, nm, vl, kids⟩ : S24), (⟨kd2, nm2, vl2, kids2⟩ : S24)]).length)] 24 (0, 0)), Chunk.blk g160 (.cells #[.int .i64 kd, .string nm, .string vl, .slice A3 kids.length c3, .int .i64 kd2, .string nm2, .string vl2, .slice A4 kids2.length c4] 24 (0, 0)), Chunk.blk g144 (.cells #[.int .i64 4, .string (⟨#[]⟩ : ByteArray), .string (⟨#[]⟩ : ByteArray), .slice (some ⟨g136, 0, none⟩) (([(⟨kd, nm, vl, kids⟩ : S24), (⟨kd2, nm2, vl2, kids2⟩ : S24)]).length) (([(⟨kd, nm, vl, kids⟩ : S24), (⟨kd2, nm2, vl2, kids2⟩ : S24)]).length)] 24 (0, 0)), Chunk.blk g136 (.cells #[.int .i64 kd, .string nm, .string vl, .slice A3 kids.length c3, .int .i64 kd2, .string nm2, .string vl2, .slice A4 kids2.length c4] 24 (0, 0)), Chunk.blk g120 (.cells #[.int .i64 3, .string (⟨#[]⟩ : ByteArray), .string (⟨#[]⟩ : ByteArray), .slice (some ⟨g112, 0, none⟩) 1 1] 24 (0, 0)), Chunk.blk g112 (.cells #[.int .i64 3, .string (⟨#[]⟩ : ByteArray), .string (⟨#[]⟩ : ByteArray), .slice (some ⟨g90, 0, none⟩) 1 1] 24 (0, 0)), Chunk.blk g98 (.cells #[.int .i64 3, .string (⟨#[]⟩ : ByteArray), .string (⟨#[]⟩ : ByteArray), .slice (some ⟨g90, 0, none⟩) 1 1] 24 (0, 0)), Chunk.blk g90 (.cells #[.int .i64 kd, .string nm, .string vl, .slice A3 kids.length c3] 24 (0, 0)), Chunk.blk g14 (.cells #[.string b, .slice Ap ps.length cp] 27 (0, 0)), Chunk.blk g8 (.cells #[.int .i64 kd2, .string nm2, .string vl2, .slice A4 kids2.length c4] 24 (0, 0)), Chunk.blk g2 (.cells #[.int .i64 kd, .string nm, .string vl, .slice A3 kids.length c3] 24 (0, 0))] := HO297
    clear HO297
    refine gx_on (i := 37) (B := (fun j_ => false)) (M := [Chunk.blk g168 (.cells #[.int .i64 5, .string (⟨#[]⟩ : ByteArray), .string (⟨#[]⟩ : ByteArray), .slice (some ⟨g160, 0, none⟩) (([(⟨kd, nm, vl, kids⟩ : S24), (⟨kd2, nm2, vl2, kids2⟩ : S24)]).length) (([(⟨kd, nm, vl, kids⟩ : S24), (⟨kd2, nm2, vl2, kids2⟩ : S24)]).length)] 24 (0, 0)), Chunk.blk g160 (.cells #[.int .i64 kd, .string nm, .string vl, .slice A3 kids.length c3, .int .i64 kd2, .string nm2, .string vl2, .slice A4 kids2.length c4] 24 (0, 0)), Chunk.blk g144 (.cells #[.int .i64 4, .string (⟨#[]⟩ : ByteArray), .string (⟨#[]⟩ : ByteArray), .slice (some ⟨g136, 0, none⟩) (([(⟨kd, nm, vl, kids⟩ : S24), (⟨kd2, nm2, vl2, kids2⟩ : S24)]).length) (([(⟨kd, nm, vl, kids⟩ : S24), (⟨kd2, nm2, vl2, kids2⟩ : S24)]).length)] 24 (0, 0)), Chunk.blk g136 (.cells #[.int .i64 kd, .string nm, .string vl, .slice A3 kids.length c3, .int .i64 kd2, .string nm2, .string vl2, .slice A4 kids2.length c4] 24 (0, 0)), Chunk.blk g120 (.cells #[.int .i64 3, .string (⟨#[]⟩ : ByteArray), .string (⟨#[]⟩ : ByteArray), .slice (some ⟨g112, 0, none⟩) 1 1] 24 (0, 0)), Chunk.blk g112 (.cells #[.int .i64 3, .string (⟨#[]⟩ : ByteArray), .string (⟨#[]⟩ : ByteArray), .slice (some ⟨g90, 0, none⟩) 1 1] 24 (0, 0)), Chunk.blk g98 (.cells #[.int .i64 3, .string (⟨#[]⟩ : ByteArray), .string (⟨#[]⟩ : ByteArray), .slice (some ⟨g90, 0, none⟩) 1 1] 24 (0, 0)), Chunk.blk g90 (.cells #[.int .i64 kd, .string nm, .string vl, .slice A3 kids.length c3] 24 (0, 0)), Chunk.blk g14 (.cells #[.string b, .slice Ap ps.length cp] 27 (0, 0)), Chunk.blk g8 (.cells #[.int .i64 kd2, .string nm2, .string vl2, .slice A4 kids2.length c4] 24 (0, 0)), Chunk.blk g2 (.cells #[.int .i64 kd, .string nm, .string vl, .slice A3 kids.length c3] 24 (0, 0))]) (fun _ => (by exact HO299.sel [2, 3, 4, 5, 6, 7, 8, 9, 10, 11, 12] (by decide))) ?_
    refine gx_step 38 rfl (by kernel_rfl) ?_
    refine gw_call HF296 (want_yes HF296 rfl rfl rfl rfl) rfl (by decide) (op_callL Try.func18 (by kernel_rfl) rfl rfl (ar_cons (HF296.ev rfl) (ar_cons (HF296.ev rfl) ar_nil))) (colloquyref12_Same.calls n r.1 r.2.1 r.2.2.1 A278 c279 r.2.2.2 r.1 r.2.1 r.2.2.1 A289 c290 r.2.2.2 true _ (view_C (HO299.get 1 rfl)) (view_le (HO299.get 1 rfl)) (view_C (HO299.get 0 rfl)) (view_le (HO299.get 0 rfl)) f9) ?_
    rintro e300 w301 ⟨rfl, hb302⟩
    refine ⟨_, rfl, fun a303 HF304 => ?_⟩
    have HO305 := HO299.after hb302
    clear HF296 HO299 hb302
    refine gx_on (i := 38) (B := (fun j_ => false)) (M := [Chunk.blk g168 (.cells #[.int .i64 5, .string (⟨#[]⟩ : ByteArray), .string (⟨#[]⟩ : ByteArray), .slice (some ⟨g160, 0, none⟩) (([(⟨kd, nm, vl, kids⟩ : S24), (⟨kd2, nm2, vl2, kids2⟩ : S24)]).length) (([(⟨kd, nm, vl, kids⟩ : S24), (⟨kd2, nm2, vl2, kids2⟩ : S24)]).length)] 24 (0, 0)), Chunk.blk g160 (.cells #[.int .i64 kd, .string nm, .string vl, .slice A3 kids.length c3, .int .i64 kd2, .string nm2, .string vl2, .slice A4 kids2.length c4] 24 (0, 0)), Chunk.blk g144 (.cells #[.int .i64 4, .string (⟨#[]⟩ : ByteArray), .string (⟨#[]⟩ : ByteArray), .slice (some ⟨g136, 0, none⟩) (([(⟨kd, nm, vl, kids⟩ : S24), (⟨kd2, nm2, vl2, kids2⟩ : S24)]).length) (([(⟨kd, nm, vl, kids⟩ : S24), (⟨kd2, nm2, vl2, kids2⟩ : S24)]).length)] 24 (0, 0)), Chunk.blk g136 (.cells #[.int .i64 kd, .string nm, .string vl, .slice A3 kids.length c3, .int .i64 kd2, .string nm2, .string vl2, .slice A4 kids2.length c4] 24 (0, 0)), Chunk.blk g120 (.cells #[.int .i64 3, .string (⟨#[]⟩ : ByteArray), .string (⟨#[]⟩ : ByteArray), .slice (some ⟨g112, 0, none⟩) 1 1] 24 (0, 0)), Chunk.blk g112 (.cells #[.int .i64 3, .string (⟨#[]⟩ : ByteArray), .string (⟨#[]⟩ : ByteArray), .slice (some ⟨g90, 0, none⟩) 1 1] 24 (0, 0)), Chunk.blk g98 (.cells #[.int .i64 3, .string (⟨#[]⟩ : ByteArray), .string (⟨#[]⟩ : ByteArray), .slice (some ⟨g90, 0, none⟩) 1 1] 24 (0, 0)), Chunk.blk g90 (.cells #[.int .i64 kd, .string nm, .string vl, .slice A3 kids.length c3] 24 (0, 0)), Chunk.blk g14 (.cells #[.string b, .slice Ap ps.length cp] 27 (0, 0)), Chunk.blk g8 (.cells #[.int .i64 kd2, .string nm2, .string vl2, .slice A4 kids2.length c4] 24 (0, 0)), Chunk.blk g2 (.cells #[.int .i64 kd, .string nm, .string vl, .slice A3 kids.length c3] 24 (0, 0))]) (fun _ => (by exact HO305.sel [2, 3, 4, 5, 6, 7, 8, 9, 10, 11, 12] (by decide))) ?_
    refine gx_take 39 rfl (by kernel_rfl) HF304 (by exact HO305.sel [2, 3, 4, 5, 6, 7, 8, 9, 10, 11, 12] (by decide)) (want_none rfl) rfl (by decide) (fun wq HO => (op_pick_t rfl (HF304.ev rfl) (HF304.ev rfl))) ?_
    intro a307 HF308; clear HF304
    refine gx_take 40 rfl (by kernel_rfl) HF308 (by exact HO305.sel [2, 3, 4, 5, 6, 7, 8, 9, 10, 11, 12] (by decide)) (want_none rfl) rfl (by decide) (fun wq HO => (op_assign rfl (HF308.ev rfl))) ?_
    intro a309 HF310; clear HF308
    refine gx_done (by kernel_rfl) ?_
    refine gw_nx (hK179 _ _ ?_)
    refine wp_ret ?_
    refine gw_ret1 HF310 rfl rfl ?_
    exact ⟨by first | rfl | (congr 2; simp), HO305.below⟩
end GCond9_
export GCond9_ (CondParts_walk)
open Classical in
noncomputable def colloquylaw12_CondParts.f (a0_0 : Int) (a0_1 : ByteArray) (a0_2 : ByteArray) (l0_3 : List S24) (a1_0 : Int) (a1_1 : ByteArray) (a1_2 : ByteArray) (l1_3 : List S24) (a2_0 : ByteArray) (l2_1 : List S36) : Option Bool := if (smallN 20 ⟨a0_0, a0_1, a0_2, l0_3⟩) ∧ (smallN 20 ⟨a1_0, a1_1, a1_2, l1_3⟩) ∧ (wtN 21 ⟨a0_0, a0_1, a0_2, l0_3⟩ ≤ 1048576) then some true else none
theorem colloquylaw12_CondParts.calls (a0_0 : Int) (a0_1 : ByteArray) (a0_2 : ByteArray) (A0_3 : Option Addr) (c0_3 : Nat) (l0_3 : List S24) (a1_0 : Int) (a1_1 : ByteArray) (a1_2 : ByteArray) (A1_3 : Option Addr) (c1_3 : Nat) (l1_3 : List S24) (a2_0 : ByteArray) (A2_1 : Option Addr) (c2_1 : Nat) (l2_1 : List S36) (r : Bool) (w : World) (hr0_3 : Kd.C k24 w A0_3 l0_3.length l0_3) (hc0_3 : l0_3.length ≤ c0_3) (hr1_3 : Kd.C k24 w A1_3 l1_3.length l1_3) (hc1_3 : l1_3.length ≤ c1_3) (hr2_1 : Kd.C k36 w A2_1 l2_1.length l2_1) (hc2_1 : l2_1.length ≤ c2_1) (h : colloquylaw12_CondParts.f a0_0 a0_1 a0_2 l0_3 a1_0 a1_1 a1_2 l1_3 a2_0 l2_1 = some r) :
    Calls Try.prog 6 #[(.agg #[.int .i64 a0_0, .string a0_1, .string a0_2, .slice A0_3 l0_3.length c0_3]), (.agg #[.int .i64 a1_0, .string a1_1, .string a1_2, .slice A1_3 l1_3.length c1_3]), (.agg #[.string a2_0, .slice A2_1 l2_1.length c2_1])] w fun e w' => e = .returned (.bool r) ∧ Below w.heap.size w w' := by
  unfold colloquylaw12_CondParts.f at h
  split at h
  · cases h; rename_i hh; exact CondParts_walk a0_0 a0_1 a0_2 A0_3 c0_3 l0_3 a1_0 a1_1 a1_2 A1_3 c1_3 l1_3 a2_0 A2_1 c2_1 l2_1 w hr0_3 hc0_3 hr1_3 hc1_3 hr2_1 hc2_1 hh.1 hh.2.1 hh.2.2
  · cases h
end Go.Proofs.Ytjndcgochnaodaa.PA
