/- Conditions: the document's example. Printed by a program of this session; Lean checks it. -/
import Derived.Test.YtjndcgochnaodaaGMix2
import Derived.Test.YtjndcgochnaodaaGMix3
import Derived.Test.YtjndcgochnaodaaPAx43
namespace Go.Proofs.Ytjndcgochnaodaa.PA
open Go.RowKit Go.Proofs.YtjndcgochnaodaaW.PrintWords Go.Proofs.YtjndcgochnaodaaW.PrintLast Go.Proofs.YtjndcgochnaodaaW.PrintMore
set_option linter.unusedVariables false
set_option linter.unusedSimpArgs false
namespace GCond5_
theorem gwagg22 : ∀ w, (isAgg 22).run Try.prog w = .ok false w := fun _ => by kernel_rfl
theorem gwagg3 : ∀ w, (isAgg 3).run Try.prog w = .ok false w := fun _ => by kernel_rfl
theorem gwfld24_0 (g off : Nat) : ∀ w, (Instr.fieldAt 24 (.pointer (some ⟨g, off, none⟩)) 0).run Try.prog w = .ok (.pointer (some ⟨g, off + 0, none⟩)) w := fun _ => by kernel_rfl
theorem gwfld24_3 (g off : Nat) : ∀ w, (Instr.fieldAt 24 (.pointer (some ⟨g, off, none⟩)) 3).run Try.prog w = .ok (.pointer (some ⟨g, off + 3, none⟩)) w := fun _ => by kernel_rfl
theorem gwflda24_0 (ad : Addr) : ∀ w, (Instr.fieldAt 24 (.pointer (some ad)) 0).run Try.prog w = .ok (.pointer (some (ad.add 0))) w := fun _ => by kernel_rfl
theorem gwsiz24 : ∀ w, (sizeOf 24).run Try.prog w = .ok 4 w := fun _ => by kernel_rfl
theorem gwzer24 : ∀ w, (zeroValue 24).run Try.prog w = .ok (.agg #[.int .i64 0, .string (⟨#[]⟩ : ByteArray), .string (⟨#[]⟩ : ByteArray), .slice none 0 0]) w := fun _ => by kernel_rfl
def simR : CondR := (4, (⟨#[]⟩ : ByteArray), (⟨#[]⟩ : ByteArray), [(⟨2, (⟨#[97]⟩ : ByteArray), (⟨#[49]⟩ : ByteArray), []⟩ : S24), (⟨2, (⟨#[97]⟩ : ByteArray), (⟨#[50]⟩ : ByteArray), []⟩ : S24)])
theorem al_simple : cond_Simple.f 60 noR.1 noR.2.1 noR.2.2.1 noR.2.2.2 = some simR := by kernel_rfl
theorem al_right : cond_Right.f 60 noR.1 noR.2.1 noR.2.2.1 noR.2.2.2 = some true := by kernel_rfl
theorem al_holds0 : cond_Holds.f 60 noR.1 noR.2.1 noR.2.2.1 noR.2.2.2 (⟨#[]⟩ : ByteArray) [] = some true := by kernel_rfl
theorem al_holds2 : cond_Holds.f 60 noR.1 noR.2.1 noR.2.2.1 noR.2.2.2 (⟨#[]⟩ : ByteArray) [(⟨(⟨#[97]⟩ : ByteArray), (⟨#[50]⟩ : ByteArray)⟩ : S36)] = some false := by kernel_rfl
theorem al_sorted : sortedN [(⟨#[97]⟩ : ByteArray), (⟨#[97]⟩ : ByteArray)] = [(⟨#[97]⟩ : ByteArray)] := by
  unfold sortedN
  rw [show strKeys (setN [(⟨#[97]⟩ : ByteArray), (⟨#[97]⟩ : ByteArray)]) = [[97]] from by kernel_rfl, List.mergeSort_singleton]
  rfl
theorem al_names : cond_Names.f 60 noR.1 noR.2.1 noR.2.2.1 noR.2.2.2 = some [(⟨#[97]⟩ : ByteArray)] := by
  unfold cond_Names.f
  rw [al_right, Option.bind_some, if_pos rfl, show cond_names.f 60 noR.2.1 noR.2.2.2 [] = some [(⟨#[97]⟩ : ByteArray), (⟨#[97]⟩ : ByteArray)] from by kernel_rfl, Option.bind_some, if_pos (by decide), al_sorted]
theorem al_same : colloquyref01_SameTexts.f 60 [(⟨#[97]⟩ : ByteArray)] [(⟨#[97]⟩ : ByteArray)] = some true := by kernel_rfl

set_option maxHeartbeats 4000000 in
set_option maxRecDepth 100000 in
theorem alive_calls (w : World) :
    Calls Try.prog 9 #[] w fun e w' => e = .returned (.bool true) ∧ Below w.heap.size w w' := by
  refine gw_start (N := 44) (vs := []) Try.func9 rfl rfl (by simp) fun a HF HO => ?_
  replace HO : Own w w [] := HO
  refine gw_seq fun K1 hK1 => ?_
  refine wp_region_lit ?_
  refine gw_ev HF (want_none rfl) rfl (by decide) (op_assign rfl (ev_c _ _)) ?_
  intro a2 HF3; clear HF
  refine wpList_nil ?_
  refine gw_nx (hK1 _ _ ?_)
  refine gw_seq fun K4 hK4 => ?_
  refine wp_region_lit ?_
  refine gw_call HF3 (want_none rfl) rfl (by decide) (op_callL Try.func22 (by kernel_rfl) rfl rfl ar_nil) (no_walk _) ?_
  rintro e8 w9 ⟨A5, c6, S7, rfl, hb10⟩
  refine ⟨_, rfl, fun a11 HF12 => ?_⟩
  have HO13 := HO.fresh hb10
  clear HF3 HO hb10
  have HO15 : Own w w9 [Chunk.view k24 S7 A5 noR.2.2.2.length c6 noR.2.2.2] := HO13
  clear HO13
  refine gw_call HF12 (want_none rfl) rfl (by decide) (op_callL Try.func17 (by kernel_rfl) rfl rfl (ar_cons (HF12.ev rfl) ar_nil)) (Simple_walk 60 noR.1 noR.2.1 noR.2.2.1 A5 c6 noR.2.2.2 simR _ (view_C (HO15.get 0 rfl)) (view_le (HO15.get 0 rfl)) al_simple) ?_
  rintro e19 w20 ⟨A16, c17, S18, rfl, hb21⟩
  refine ⟨_, rfl, fun a22 HF23 => ?_⟩
  have HO24 := HO15.fresh hb21
  clear HF12 HO15 hb21
  have HO26 : Own w w20 [Chunk.view k24 S18 A16 simR.2.2.2.length c17 simR.2.2.2, Chunk.view k24 S7 A5 noR.2.2.2.length c6 noR.2.2.2] := HO24
  clear HO24
  refine gw_new HF23 HO26 (want_none rfl) rfl (by decide) (op_alloc gwzer24 rfl) ?_
  intro g27 a28 w29 HF30 HO31; clear HF23 HO26
  have HO32 : Own w w29 [Chunk.blk g27 (.cells #[.int .i64 0, .string (⟨#[]⟩ : ByteArray), .string (⟨#[]⟩ : ByteArray), .slice none 0 0] 24 (0, 0)), Chunk.view k24 S18 A16 simR.2.2.2.length c17 simR.2.2.2, Chunk.view k24 S7 A5 noR.2.2.2.length c6 noR.2.2.2] := HO31
  clear HO31
  refine gw_setn 0 HF30 HO32 rfl (want_none rfl) rfl (op_storen gwsiz24 rfl (HF30.ev rfl) (HF30.ev rfl) (HO32.get 0 rfl) rfl (by simp) (by simp [Value.oneCell'])) ?_
  intro a33 w35 HF34 HO36; clear HF30 HO32
  have HO37 : Own w w35 [Chunk.blk g27 (.cells #[.int .i64 simR.1, .string simR.2.1, .string simR.2.2.1, .slice A16 simR.2.2.2.length c17] 24 (0, 0)), Chunk.view k24 S18 A16 simR.2.2.2.length c17 simR.2.2.2, Chunk.view k24 S7 A5 noR.2.2.2.length c6 noR.2.2.2] := HO36
  clear HO36
  refine wpList_nil ?_
  refine gw_nx (hK4 _ _ ?_)
  refine gw_seq fun K38 hK38 => ?_
  refine wp_region_lit ?_
  refine gw_call HF34 (want_none rfl) rfl (by decide) (op_callL Try.func22 (by kernel_rfl) rfl rfl ar_nil) (no_walk _) ?_
  rintro e42 w43 ⟨A39, c40, S41, rfl, hb44⟩
  refine ⟨_, rfl, fun a45 HF46 => ?_⟩
  have HO47 := HO37.fresh hb44
  clear HF34 HO37 hb44
  have HO49 : Own w w43 [Chunk.view k24 S41 A39 noR.2.2.2.length c40 noR.2.2.2, Chunk.blk g27 (.cells #[.int .i64 simR.1, .string simR.2.1, .string simR.2.2.1, .slice A16 simR.2.2.2.length c17] 24 (0, 0)), Chunk.view k24 S18 A16 simR.2.2.2.length c17 simR.2.2.2, Chunk.view k24 S7 A5 noR.2.2.2.length c6 noR.2.2.2] := HO47
  clear HO47
  refine gw_call HF46 (want_none rfl) rfl (by decide) (op_callL Try.func11 (by kernel_rfl) rfl rfl (ar_cons (HF46.ev rfl) ar_nil)) (cond_Right.calls 60 noR.1 noR.2.1 noR.2.2.1 A39 c40 noR.2.2.2 true _ (view_C (HO49.get 0 rfl)) (view_le (HO49.get 0 rfl)) al_right) ?_
  rintro e50 w51 ⟨rfl, hb52⟩
  refine ⟨_, rfl, fun a53 HF54 => ?_⟩
  have HO55 := HO49.after hb52
  clear HF46 HO49 hb52
  refine gw_ev HF54 (want_none rfl) rfl (by decide) (op_move rfl (HF54.ev rfl)) ?_
  intro a57 HF58; clear HF54
  refine gw_call HF58 (want_yes HF58 rfl rfl rfl rfl) rfl (by decide) (op_callL Try.func22 (by kernel_rfl) rfl rfl ar_nil) (no_walk _) ?_
  rintro e62 w63 ⟨A59, c60, S61, rfl, hb64⟩
  refine ⟨_, rfl, fun a65 HF66 => ?_⟩
  have HO67 := HO55.fresh hb64
  clear HF58 HO55 hb64
  have HO69 : Own w w63 [Chunk.view k24 S61 A59 noR.2.2.2.length c60 noR.2.2.2, Chunk.view k24 S41 A39 noR.2.2.2.length c40 noR.2.2.2, Chunk.blk g27 (.cells #[.int .i64 simR.1, .string simR.2.1, .string simR.2.2.1, .slice A16 simR.2.2.2.length c17] 24 (0, 0)), Chunk.view k24 S18 A16 simR.2.2.2.length c17 simR.2.2.2, Chunk.view k24 S7 A5 noR.2.2.2.length c6 noR.2.2.2] := HO67
  clear HO67
  refine gw_ev HF66 (want_yes HF66 rfl rfl rfl rfl) rfl (by decide) (op_build (cells := #[.string (⟨#[]⟩ : ByteArray), .slice none 0 0]) rfl pt_nil (by kernel_rfl)) ?_
  intro a70 HF71; clear HF66
  refine gw_call HF71 (want_yes HF71 rfl rfl rfl rfl) rfl (by decide) (op_callL Try.func12 (by kernel_rfl) rfl rfl (ar_cons (HF71.ev rfl) (ar_cons (HF71.ev rfl) ar_nil))) (cond_Holds.calls 60 noR.1 noR.2.1 noR.2.2.1 A59 c60 noR.2.2.2 (⟨#[]⟩ : ByteArray) none 0 [] true _ (view_C (HO69.get 0 rfl)) (view_le (HO69.get 0 rfl)) (Kd.C_nil _ _) (Nat.le_refl _) al_holds0) ?_
  rintro e72 w73 ⟨rfl, hb74⟩
  refine ⟨_, rfl, fun a75 HF76 => ?_⟩
  have HO77 := HO69.after hb74
  clear HF71 HO69 hb74
  refine gw_ev HF76 (want_none rfl) rfl (by decide) (op_pick_t rfl (HF76.ev rfl) (HF76.ev rfl)) ?_
  intro a79 HF80; clear HF76
  refine gw_ev HF80 (want_none rfl) rfl (by decide) (op_move rfl (HF80.ev rfl)) ?_
  intro a81 HF82; clear HF80
  refine gw_call HF82 (want_yes HF82 rfl rfl rfl rfl) rfl (by decide) (op_callL Try.func22 (by kernel_rfl) rfl rfl ar_nil) (no_walk _) ?_
  rintro e86 w87 ⟨A83, c84, S85, rfl, hb88⟩
  refine ⟨_, rfl, fun a89 HF90 => ?_⟩
  have HO91 := HO77.fresh hb88
  clear HF82 HO77 hb88
  have HO93 : Own w w87 [Chunk.view k24 S85 A83 noR.2.2.2.length c84 noR.2.2.2, Chunk.view k24 S61 A59 noR.2.2.2.length c60 noR.2.2.2, Chunk.view k24 S41 A39 noR.2.2.2.length c40 noR.2.2.2, Chunk.blk g27 (.cells #[.int .i64 simR.1, .string simR.2.1, .string simR.2.2.1, .slice A16 simR.2.2.2.length c17] 24 (0, 0)), Chunk.view k24 S18 A16 simR.2.2.2.length c17 simR.2.2.2, Chunk.view k24 S7 A5 noR.2.2.2.length c6 noR.2.2.2] := HO91
  clear HO91
  refine gw_ev HF90 (want_yes HF90 rfl rfl rfl rfl) rfl (by decide) (op_build (cells := #[.string (⟨#[97]⟩ : ByteArray), .string (⟨#[50]⟩ : ByteArray)]) rfl (pt_cons (ev_c _ _) (pt_cons (ev_c _ _) pt_nil)) (by kernel_rfl)) ?_
  intro a94 HF95; clear HF90
  refine gw_news (O := .cells #[.string (⟨#[97]⟩ : ByteArray), .string (⟨#[50]⟩ : ByteArray)] 36 (0, 0)) (n := 1) HF95 HO93 (want_yes HF95 rfl rfl rfl rfl) rfl (by decide) (op_bslice (by kernel_rfl) rfl (pt_cons (HF95.ev rfl) pt_nil)) ?_
  intro g96 a97 w98 HF99 HO100; clear HF95 HO93
  have HO101 : Own w w98 [Chunk.blk g96 (.cells #[.string (⟨#[97]⟩ : ByteArray), .string (⟨#[50]⟩ : ByteArray)] 36 (0, 0)), Chunk.view k24 S85 A83 noR.2.2.2.length c84 noR.2.2.2, Chunk.view k24 S61 A59 noR.2.2.2.length c60 noR.2.2.2, Chunk.view k24 S41 A39 noR.2.2.2.length c40 noR.2.2.2, Chunk.blk g27 (.cells #[.int .i64 simR.1, .string simR.2.1, .string simR.2.2.1, .slice A16 simR.2.2.2.length c17] 24 (0, 0)), Chunk.view k24 S18 A16 simR.2.2.2.length c17 simR.2.2.2, Chunk.view k24 S7 A5 noR.2.2.2.length c6 noR.2.2.2] := HO100
  clear HO100
  refine gw_ev HF99 (want_yes HF99 rfl rfl rfl rfl) rfl (by decide) (op_build (cells := #[.string (⟨#[]⟩ : ByteArray), .slice (some ⟨g96, 0, none⟩) 1 1]) rfl (pt_cons (HF99.ev rfl) pt_nil) (by kernel_rfl)) ?_
  intro a102 HF103; clear HF99
  refine gw_call HF103 (want_yes HF103 rfl rfl rfl rfl) rfl (by decide) (op_callL Try.func12 (by kernel_rfl) rfl rfl (ar_cons (HF103.ev rfl) (ar_cons (HF103.ev rfl) ar_nil))) (cond_Holds.calls 60 noR.1 noR.2.1 noR.2.2.1 A83 c84 noR.2.2.2 (⟨#[]⟩ : ByteArray) (some ⟨g96, 0, none⟩) 1 ([(⟨(⟨#[97]⟩ : ByteArray), (⟨#[50]⟩ : ByteArray)⟩ : S36)]) false _ (view_C (HO101.get 1 rfl)) (view_le (HO101.get 1 rfl)) (Cg_lit (cs := [.string (⟨#[97]⟩ : ByteArray), .string (⟨#[50]⟩ : ByteArray)]) (HO101.get 0 rfl) (reps_more (k36_mk _ (⟨(⟨#[97]⟩ : ByteArray), (⟨#[50]⟩ : ByteArray)⟩ : S36)) rfl reps_none) (by simp [maxLen])) (Nat.le_refl _) al_holds2) ?_
  rintro e104 w105 ⟨rfl, hb106⟩
  refine ⟨_, rfl, fun a107 HF108 => ?_⟩
  have HO109 := HO101.after hb106
  clear HF103 HO101 hb106
  refine gw_ev HF108 (want_yes HF108 rfl rfl rfl rfl) rfl (by decide) (op_not rfl (HF108.ev rfl)) ?_
  intro a111 HF112; clear HF108
  refine gw_ev HF112 (want_none rfl) rfl (by decide) (op_pick_t rfl (HF112.ev rfl) (HF112.ev rfl)) ?_
  intro a113 HF114; clear HF112
  refine gw_ev HF114 (want_none rfl) rfl (by decide) (op_move rfl (HF114.ev rfl)) ?_
  intro a115 HF116; clear HF114
  refine gw_ev HF116 (want_yes HF116 rfl rfl rfl rfl) rfl (by decide) (op_field (gwfld24_0 _ _) rfl (HF116.ev rfl)) ?_
  intro a117 HF118; clear HF116
  refine gw_ev HF118 (want_yes HF118 rfl rfl rfl rfl) rfl (by decide) (op_load1 gwagg3 rfl (HF118.ev rfl) (blk_at (HO109.get 4 rfl) rfl)) ?_
  intro a119 HF120; clear HF118
  refine gw_ev HF120 (want_yes HF120 rfl rfl rfl rfl) rfl (by decide) (op_eqi rfl (HF120.ev rfl) (ev_c _ _)) ?_
  intro a121 HF122; clear HF120
  have HF123 := HF122.lit (b := true) (by decide)
  clear HF122
  refine gw_ev HF123 (want_none rfl) rfl (by decide) (op_pick_t rfl (HF123.ev rfl) (HF123.ev rfl)) ?_
  intro a124 HF125; clear HF123
  refine gw_ev HF125 (want_none rfl) rfl (by decide) (op_move rfl (HF125.ev rfl)) ?_
  intro a126 HF127; clear HF125
  refine gw_ev HF127 (want_yes HF127 rfl rfl rfl rfl) rfl (by decide) (op_field (gwfld24_3 _ _) rfl (HF127.ev rfl)) ?_
  intro a128 HF129; clear HF127
  refine gw_ev HF129 (want_yes HF129 rfl rfl rfl rfl) rfl (by decide) (op_load1 gwagg22 rfl (HF129.ev rfl) (blk_at (HO109.get 4 rfl) rfl)) ?_
  intro a130 HF131; clear HF129
  refine gw_ev HF131 (want_yes HF131 rfl rfl rfl rfl) rfl (by decide) (op_len Try.underlying22 rfl (HF131.ev rfl)) ?_
  intro a132 HF133; clear HF131
  refine gw_ev HF133 (want_yes HF133 rfl rfl rfl rfl) rfl (by decide) (op_eqi rfl (HF133.ev rfl) (ev_c _ _)) ?_
  intro a134 HF135; clear HF133
  have HF136 := HF135.lit (b := true) (by decide)
  clear HF135
  refine gw_ev HF136 (want_none rfl) rfl (by decide) (op_pick_t rfl (HF136.ev rfl) (HF136.ev rfl)) ?_
  intro a137 HF138; clear HF136
  refine gw_ev HF138 (want_none rfl) rfl (by decide) (op_move rfl (HF138.ev rfl)) ?_
  intro a139 HF140; clear HF138
  refine gw_ev HF140 (want_yes HF140 rfl rfl rfl rfl) rfl (by decide) (op_field (gwfld24_3 _ _) rfl (HF140.ev rfl)) ?_
  intro a141 HF142; clear HF140
  refine gw_ev HF142 (want_yes HF142 rfl rfl rfl rfl) rfl (by decide) (op_load1 gwagg22 rfl (HF142.ev rfl) (blk_at (HO109.get 4 rfl) rfl)) ?_
  intro a143 HF144; clear HF142
  have HO151 := HO109.pin 5 rfl
  clear HO109
  have HO152 : Own w w105 [Chunk.blk g96 (.cells #[.string (⟨#[97]⟩ : ByteArray), .string (⟨#[50]⟩ : ByteArray)] 36 (0, 0)), Chunk.view k24 S85 A83 noR.2.2.2.length c84 noR.2.2.2, Chunk.view k24 S61 A59 noR.2.2.2.length c60 noR.2.2.2, Chunk.view k24 S41 A39 noR.2.2.2.length c40 noR.2.2.2, Chunk.blk g27 (.cells #[.int .i64 simR.1, .string simR.2.1, .string simR.2.2.1, .slice A16 simR.2.2.2.length c17] 24 (0, 0)), Chunk.viewAt w105 k24 S18 A16 simR.2.2.2.length c17 simR.2.2.2, Chunk.view k24 S7 A5 noR.2.2.2.length c6 noR.2.2.2] := HO151
  clear HO151
  obtain ⟨ad145, cs148, hA146, hl149, hK150, hc147, _⟩ := Kd.F_get (viewAt_F (HO152.get 5 rfl)) z24 1 (by decide) (by decide)
  obtain ⟨A153, c154, rfl, hl155, hC156⟩ := k24_openF hK150
  clear hl149
  refine gw_ev HF144 (want_yes HF144 rfl rfl rfl rfl) rfl (by decide) (op_index Try.underlying22 gwsiz24 rfl (HF144.ev rfl) (ev_c _ _) hA146 (⟨by decide, by decide⟩)) ?_
  intro a157 HF158; clear HF144
  refine gw_ev HF158 (want_yes HF158 rfl rfl rfl rfl) rfl (by decide) (op_field (gwflda24_0 _) rfl (HF158.ev rfl)) ?_
  intro a159 HF160; clear HF158
  refine gw_ev HF160 (want_yes HF160 rfl rfl rfl rfl) rfl (by decide) (op_load1 gwagg3 rfl (HF160.ev rfl) (((pin_cells (HO152.get 5 rfl) hA146 hc147) 0 _ rfl))) ?_
  intro a161 HF162; clear HF160
  refine gw_ev HF162 (want_yes HF162 rfl rfl rfl rfl) rfl (by decide) (op_eqi rfl (HF162.ev rfl) (ev_c _ _)) ?_
  intro a163 HF164; clear HF162
  have HF165 := HF164.lit (b := true) (by decide)
  clear HF164
  refine gw_ev HF165 (want_none rfl) rfl (by decide) (op_pick_t rfl (HF165.ev rfl) (HF165.ev rfl)) ?_
  intro a166 HF167; clear HF165
  refine gw_ev HF167 (want_none rfl) rfl (by decide) (op_move rfl (HF167.ev rfl)) ?_
  intro a168 HF169; clear HF167
  refine gw_call HF169 (want_yes HF169 rfl rfl rfl rfl) rfl (by decide) (op_callL Try.func22 (by kernel_rfl) rfl rfl ar_nil) (no_walk _) ?_
  rintro e173 w174 ⟨A170, c171, S172, rfl, hb175⟩
  refine ⟨_, rfl, fun a176 HF177 => ?_⟩
  have HO178 := HO152.fresh hb175
  clear HF169 HO152 hb175
  have HO180 : Own w w174 [Chunk.view k24 S172 A170 noR.2.2.2.length c171 noR.2.2.2, Chunk.blk g96 (.cells #[.string (⟨#[97]⟩ : ByteArray), .string (⟨#[50]⟩ : ByteArray)] 36 (0, 0)), Chunk.view k24 S85 A83 noR.2.2.2.length c84 noR.2.2.2, Chunk.view k24 S61 A59 noR.2.2.2.length c60 noR.2.2.2, Chunk.view k24 S41 A39 noR.2.2.2.length c40 noR.2.2.2, Chunk.blk g27 (.cells #[.int .i64 simR.1, .string simR.2.1, .string simR.2.2.1, .slice A16 simR.2.2.2.length c17] 24 (0, 0)), Chunk.viewAt w105 k24 S18 A16 simR.2.2.2.length c17 simR.2.2.2, Chunk.view k24 S7 A5 noR.2.2.2.length c6 noR.2.2.2] := HO178
  clear HO178
  refine gw_call HF177 (want_yes HF177 rfl rfl rfl rfl) rfl (by decide) (op_callL Try.func14 (by kernel_rfl) rfl rfl (ar_cons (HF177.ev rfl) ar_nil)) (Names_walk 60 noR.1 noR.2.1 noR.2.2.1 A170 c171 noR.2.2.2 ([(⟨#[97]⟩ : ByteArray)]) _ (view_C (HO180.get 0 rfl)) (view_le (HO180.get 0 rfl)) al_names) ?_
  rintro e184 w185 ⟨A181, c182, S183, rfl, hb186⟩
  refine ⟨_, rfl, fun a187 HF188 => ?_⟩
  have HO189 := HO180.fresh hb186
  have hbel190 := HO180.below
  clear HF177 HO180 hb186
  have HO191 := HO189.lowrow 0 rfl (base' := w.heap.size) (Below.size hbel190)
  have HO192 : Own w w185 [Chunk.row Kd.string 9 w.heap.size S183 (.slice A181 (([(⟨#[97]⟩ : ByteArray)]).length) c182) ([(⟨#[97]⟩ : ByteArray)]), Chunk.view k24 S172 A170 noR.2.2.2.length c171 noR.2.2.2, Chunk.blk g96 (.cells #[.string (⟨#[97]⟩ : ByteArray), .string (⟨#[50]⟩ : ByteArray)] 36 (0, 0)), Chunk.view k24 S85 A83 noR.2.2.2.length c84 noR.2.2.2, Chunk.view k24 S61 A59 noR.2.2.2.length c60 noR.2.2.2, Chunk.view k24 S41 A39 noR.2.2.2.length c40 noR.2.2.2, Chunk.blk g27 (.cells #[.int .i64 simR.1, .string simR.2.1, .string simR.2.2.1, .slice A16 simR.2.2.2.length c17] 24 (0, 0)), Chunk.viewAt w105 k24 S18 A16 simR.2.2.2.length c17 simR.2.2.2, Chunk.view k24 S7 A5 noR.2.2.2.length c6 noR.2.2.2] := HO191
  clear HO191
  refine gw_lit (enc := Value.string) (fun _ => rfl) (xs := [(⟨#[97]⟩ : ByteArray)]) (e := 9) HF188 HO192 (want_yes HF188 rfl rfl rfl rfl) rfl (by decide) (op_bslice (by kernel_rfl) rfl (pt_cons (ev_c _ _) pt_nil)) (by simp) ?_
  intro A193 S194 a195 w196 HF197 HO198; clear HF188 HO192
  have HO199 : Own w w196 [Chunk.row Kd.string 9 w.heap.size S194 (.slice A193 (([(⟨#[97]⟩ : ByteArray)]).length) (([(⟨#[97]⟩ : ByteArray)]).length)) ([(⟨#[97]⟩ : ByteArray)]), Chunk.row Kd.string 9 w.heap.size S183 (.slice A181 (([(⟨#[97]⟩ : ByteArray)]).length) c182) ([(⟨#[97]⟩ : ByteArray)]), Chunk.view k24 S172 A170 noR.2.2.2.length c171 noR.2.2.2, Chunk.blk g96 (.cells #[.string (⟨#[97]⟩ : ByteArray), .string (⟨#[50]⟩ : ByteArray)] 36 (0, 0)), Chunk.view k24 S85 A83 noR.2.2.2.length c84 noR.2.2.2, Chunk.view k24 S61 A59 noR.2.2.2.length c60 noR.2.2.2, Chunk.view k24 S41 A39 noR.2.2.2.length c40 noR.2.2.2, Chunk.blk g27 (.cells #[.int .i64 simR.1, .string simR.2.1, .string simR.2.2.1, .slice A16 simR.2.2.2.length c17] 24 (0, 0)), Chunk.viewAt w105 k24 S18 A16 simR.2.2.2.length c17 simR.2.2.2, Chunk.view k24 S7 A5 noR.2.2.2.length c6 noR.2.2.2] := HO198
  clear HO198
  refine gw_call HF197 (want_yes HF197 rfl rfl rfl rfl) rfl (by decide) (op_callL Try.func24 (by kernel_rfl) rfl rfl (ar_cons (HF197.ev rfl) (ar_cons (HF197.ev rfl) ar_nil))) ((colloquyref01_SameTexts.calls 60 A181 c182 ([(⟨#[97]⟩ : ByteArray)]) A193 (([(⟨#[97]⟩ : ByteArray)]).length) ([(⟨#[97]⟩ : ByteArray)]) true _ (Kd.R_reads' (HO199.get 1 rfl)).2.2 (row_cap (HO199.get 1 rfl)) (Kd.R_reads' (HO199.get 0 rfl)).2.2 (row_cap (HO199.get 0 rfl)) al_same).mono fun e w' h_ => (⟨h_.1, h_.2.below⟩ : _ ∧ Below _ _ _)) ?_
  rintro e200 w201 ⟨rfl, hb202⟩
  refine ⟨_, rfl, fun a203 HF204 => ?_⟩
  have HO205 := HO199.after hb202
  clear HF197 HO199 hb202
  refine gw_ev HF204 (want_none rfl) rfl (by decide) (op_pick_t rfl (HF204.ev rfl) (HF204.ev rfl)) ?_
  intro a207 HF208; clear HF204
  refine gw_ev HF208 (want_none rfl) rfl (by decide) (op_assign rfl (HF208.ev rfl)) ?_
  intro a209 HF210; clear HF208
  refine wpList_nil ?_
  refine gw_nx (hK38 _ _ ?_)
  refine wp_ret ?_
  have HO211 := HO205.unpin 8 rfl
  clear HO205
  have HO212 : Own w w201 [Chunk.row Kd.string 9 w.heap.size S194 (.slice A193 (([(⟨#[97]⟩ : ByteArray)]).length) (([(⟨#[97]⟩ : ByteArray)]).length)) ([(⟨#[97]⟩ : ByteArray)]), Chunk.row Kd.string 9 w.heap.size S183 (.slice A181 (([(⟨#[97]⟩ : ByteArray)]).length) c182) ([(⟨#[97]⟩ : ByteArray)]), Chunk.view k24 S172 A170 noR.2.2.2.length c171 noR.2.2.2, Chunk.blk g96 (.cells #[.string (⟨#[97]⟩ : ByteArray), .string (⟨#[50]⟩ : ByteArray)] 36 (0, 0)), Chunk.view k24 S85 A83 noR.2.2.2.length c84 noR.2.2.2, Chunk.view k24 S61 A59 noR.2.2.2.length c60 noR.2.2.2, Chunk.view k24 S41 A39 noR.2.2.2.length c40 noR.2.2.2, Chunk.blk g27 (.cells #[.int .i64 simR.1, .string simR.2.1, .string simR.2.2.1, .slice A16 simR.2.2.2.length c17] 24 (0, 0)), Chunk.view k24 S18 A16 simR.2.2.2.length c17 simR.2.2.2, Chunk.view k24 S7 A5 noR.2.2.2.length c6 noR.2.2.2] := HO211
  clear HO211
  refine gw_ret1 HF210 rfl rfl ?_
  exact ⟨rfl, HO212.below⟩
end GCond5_
export GCond5_ (alive_calls simR)
end Go.Proofs.Ytjndcgochnaodaa.PA
