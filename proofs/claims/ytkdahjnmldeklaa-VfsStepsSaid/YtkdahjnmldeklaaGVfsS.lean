/- VfsSteps. Printed by a program of this session; Lean checks it. -/
import Derived.Test.YtkdahjnmldeklaaGVfsA
namespace Go.Proofs.Ytkdahjnmldeklaa.PA
open Go.RowKit Go.Proofs.YtkdahjnmldeklaaW.PrintWords Go.Proofs.YtkdahjnmldeklaaW.PrintLast Go.Proofs.YtkdahjnmldeklaaW.PrintMore
set_option linter.unusedVariables false
set_option linter.unusedSimpArgs false
namespace GVfsS_
theorem gwagg3 : ∀ w, (isAgg 3).run Try.prog w = .ok false w := fun _ => by kernel_rfl
theorem gwsiz3 : ∀ w, (sizeOf 3).run Try.prog w = .ok 1 w := fun _ => by kernel_rfl
set_option maxHeartbeats 4000000 in
set_option maxRecDepth 100000 in
theorem VfsSteps_walk (fail : Int) (A1 : Option Addr) (c1 : Nat) (wrong : List Int) (w : World) (hr1 : Kd.C (Kd.int .i64) w A1 wrong.length wrong) (hc1 : wrong.length ≤ c1) (_ht : True) :
    Calls Try.prog 4 #[.int .i64 fail, .slice A1 wrong.length c1] w fun e w' => e = .returned (.bool true) ∧ Below w.heap.size w w' := by
  refine gw_start (N := 90) (vs := [.int .i64 fail, .slice A1 wrong.length c1]) Try.func4 rfl rfl (by simp) fun a HF HO => ?_
  replace HO : Own w w [] := HO
  refine gw_seq fun K1 hK1 => ?_
  refine wp_region_lit ?_
  refine gw_ev HF (want_none rfl) rfl (by decide) (op_assign rfl (ev_c _ _)) ?_
  intro a2 HF3; clear HF
  refine wpList_nil ?_
  refine gw_nx (hK1 _ _ ?_)
  refine gw_seq fun K4 hK4 => ?_
  refine wp_region_lit ?_
  have HO14 : Own w _ [(Chunk.all [])] := Own.bundle (A := []) (L := []) (HO.sel [] (by decide))
  refine gw_call HF3 (want_none rfl) rfl (by decide) (op_callL Try.func11 (by kernel_rfl) rfl rfl (ar_cons (ev_c _ _) ar_nil)) (new_own w _ (Chunk.all []) 1000 (by exact HO14)) ?_
  rintro e8 w9 ⟨gd5, S6, rfl, hb10⟩
  refine ⟨_, rfl, fun a11 HF12 => ?_⟩
  have HO13 : Own w w9 [Chunk.disk w.heap.size gd5 S6 (newD 1000)] := Own.unbundle (A := []) (L := [Chunk.disk w.heap.size gd5 S6 (newD 1000)]) (hb10.sel [0, 1] (by decide))
  clear HO14
  clear HF3 HO hb10
  have HO16 : Own w w9 [Chunk.disk w.heap.size gd5 S6 (newD 1000)] := HO13
  clear HO13
  have hwf7 : wfD (newD 1000) := wf_new (by decide)
  refine gw_ev HF12 (want_none rfl) rfl (by decide) (op_assign rfl (HF12.ev rfl)) ?_
  intro a17 HF18; clear HF12
  refine wpList_nil ?_
  refine gw_nx (hK4 _ _ ?_)
  refine gw_seq fun K19 hK19 => ?_
  refine gw_seq fun K20 hK20 => ?_
  refine wp_region_lit ?_
  refine gw_ev HF18 (want_none rfl) rfl (by decide) (op_move rfl (HF18.ev rfl)) ?_
  intro a21 HF22; clear HF18
  refine gw_ev HF22 (want_none rfl) rfl (by decide) (op_eqp_nil Try.underlying23 rfl (HF22.ev rfl)) ?_
  intro a23 HF24; clear HF22
  refine gw_ev HF24 (want_none rfl) rfl (by decide) (op_move rfl (HF24.ev rfl)) ?_
  intro a25 HF26; clear HF24
  refine gw_call HF26 (want_yes HF26 rfl rfl rfl rfl) rfl (by decide) (op_callL Try.func12 (by kernel_rfl) rfl rfl ar_nil) (alive_calls _) ?_
  rintro e27 w28 ⟨rfl, hb29⟩
  refine ⟨_, rfl, fun a30 HF31 => ?_⟩
  have HO32 := HO16.after hb29
  clear HF26 HO16 hb29
  refine gw_ev HF31 (want_yes HF31 rfl rfl rfl rfl) rfl (by decide) (op_not rfl (HF31.ev rfl)) ?_
  intro a34 HF35; clear HF31
  refine gw_ev HF35 (want_none rfl) rfl (by decide) (op_pick_f rfl (HF35.ev rfl) (HF35.ev rfl)) ?_
  intro a36 HF37; clear HF35
  refine wpList_nil ?_
  refine gw_nx (hK20 _ _ ?_)
  refine gw_cond HF37 rfl (fun hb38 => ?_) (fun hb38 => ?_)
  skip
  · cases hb38
  refine wp_skip ?_
  refine gw_nx (hK19 _ _ ?_)
  refine gw_seq fun K39 hK39 => ?_
  refine wp_region_lit ?_
  refine gw_ev HF37 (want_none rfl) rfl (by decide) (op_move rfl (HF37.ev rfl)) ?_
  intro a40 HF41; clear HF37
  refine gw_ev HF41 (want_none rfl) rfl (by decide) (op_and rfl (HF41.ev rfl) (ev_c _ _)) ?_
  intro a42 HF43; clear HF41
  obtain ⟨fl, hfl, hf0, hf1⟩ : ∃ fl : Int, bits .and .i64 fail 15 = fl ∧ 0 ≤ fl ∧ fl ≤ 15 := ⟨_, rfl, and_low fail 15 (by decide)⟩
  have HF44 := HF43.conv (v' := .int .i64 fl) (congrArg (Value.int .i64) hfl)
  clear HF43
  refine gw_ev HF44 (want_none rfl) rfl (by decide) (op_add rfl (ev_c _ _) (HF44.ev rfl) (by omega)) ?_
  intro a45 HF46; clear HF44
  refine gw_ev HF46 (want_none rfl) rfl (by decide) (op_assign rfl (HF46.ev rfl)) ?_
  intro a47 HF48; clear HF46
  refine wpList_nil ?_
  refine gw_nx (hK39 _ _ ?_)
  refine gw_seq fun K49 hK49 => ?_
  refine wp_region_lit ?_
  refine gw_ev HF48 (want_none rfl) rfl (by decide) (op_move rfl (HF48.ev rfl)) ?_
  intro a50 HF51; clear HF48
  refine gw_ev HF51 (want_none rfl) rfl (by decide) (op_move rfl (HF51.ev rfl)) ?_
  intro a52 HF53; clear HF51
  have HO62 : Own w _ [(Chunk.all []), Chunk.disk w.heap.size gd5 S6 (newD 1000)] := Own.bundle (A := []) (L := [Chunk.disk w.heap.size gd5 S6 (newD 1000)]) (HO32.sel [0] (by decide))
  refine gw_call HF53 (want_none rfl) rfl (by decide) (op_callL Try.func14 (by kernel_rfl) rfl rfl (ar_cons (HF53.ev rfl) (ar_cons (HF53.ev rfl) ar_nil))) (fail_calls w _ (Chunk.all []) gd5 S6 (newD 1000) (1 + fl) (by exact HO62)) ?_
  rintro e56 w57 ⟨rfl, S54, hb58⟩
  refine ⟨_, rfl, fun a59 HF60 => ?_⟩
  have HO61 : Own w w57 [Chunk.disk w.heap.size gd5 S54 ({ (newD 1000) with fuse := mx (1 + fl) 0 } : PD)] := Own.unbundle (A := []) (L := [Chunk.disk w.heap.size gd5 S54 ({ (newD 1000) with fuse := mx (1 + fl) 0 } : PD)]) (hb58.sel [0, 1] (by decide))
  clear HO62
  clear HF53 HO32 hb58
  have HO64 : Own w w57 [Chunk.disk w.heap.size gd5 S54 ({ (newD 1000) with fuse := mx (1 + fl) 0 } : PD)] := HO61
  clear HO61
  have hJ0 : JS ({ (newD 1000) with fuse := mx (1 + fl) 0 } : PD) (1 + fl) 0 0 := ⟨wf_fuse (wf_new (by decide)) (by unfold mx; split <;> omega), fun f hf => by simp [newD] at hf, fun f hf => by simp [newD] at hf, rfl, .inl ⟨rfl, by show mx (1 + fl) 0 = 1 + fl - 0; unfold mx; split <;> omega, by omega, rfl⟩⟩
  refine wpList_nil ?_
  refine gw_nx (hK49 _ _ ?_)
  refine gw_seq fun K65 hK65 => ?_
  refine wp_region_lit ?_
  refine gw_ev HF60 (want_none rfl) rfl (by decide) (op_assign rfl (ev_c _ _)) ?_
  intro a66 HF67; clear HF60
  refine wpList_nil ?_
  refine gw_nx (hK65 _ _ ?_)
  refine gw_seq fun K68 hK68 => ?_
  refine gw_seq fun K69 hK69 => ?_
  refine wp_region_lit ?_
  refine gw_ev HF67 (want_none rfl) rfl (by decide) (op_assign rfl (ev_c _ _)) ?_
  intro a70 HF71; clear HF67
  refine wpList_nil ?_
  refine gw_nx (hK69 _ _ ?_)
  refine wp_block ?_
  refine gw_loop (fun m_ a_ w_ => ∃ (i : Int) (d : PD) (Sd : Nat → Prop) (done : Int), Fr 90 a_ [(7, .int .i64 i), (6, .int .i64 done), (1, .slice A1 wrong.length c1), (5, .pointer (some ⟨gd5, 0, none⟩)), (0, .int .i64 (1 + fl))] ∧ Own w w_ [Chunk.disk w.heap.size gd5 Sd d] ∧ (0 ≤ i ∧ i ≤ 20) ∧ (JS d (1 + fl) i done) ∧ (0 ≤ done ∧ done ≤ i) ∧ (d.most = 1000) ∧ m_ = (20 - i.toNat)) ((20 - (0 : Int).toNat)) ?_ ?_
  · refine ⟨0, ({ (newD 1000) with fuse := mx (1 + fl) 0 } : PD), S54, 0, (HF71.pick (t := 7) rfl (HF71.pick (t := 6) rfl (HF71.pick (t := 1) rfl (HF71.pick (t := 5) rfl (HF71.pick (t := 0) rfl HF71.nil))))), HO64.sel [0] (by decide), ?_, ?_, ?_, ?_, rfl⟩
    · omega
    · exact hJ0
    · omega
    · rfl
  · rintro m73 a74 w75 ⟨i, d, Sd, done, HF76, HO77, hi, hJ, hd0, hmost, hm78⟩
    refine gw_seq fun K79 hK79 => ?_
    refine gw_seq fun K80 hK80 => ?_
    refine wp_region_lit ?_
    refine gw_ev HF76 (want_none rfl) rfl (by decide) (op_move rfl (HF76.ev rfl)) ?_
    intro a81 HF82; clear HF76
    refine gw_ev HF82 (want_none rfl) rfl (by decide) (op_lss rfl (HF82.ev rfl) (ev_c _ _)) ?_
    intro a83 HF84; clear HF82
    refine wpList_nil ?_
    refine gw_nx (hK80 _ _ ?_)
    refine gw_cond HF84 rfl (fun hb85 => ?_) (fun hb85 => ?_)
    · skip
      have HF86 := HF84.subst_ (d := 24) (b := true) rfl hb85
      clear HF84
      (try simp only [Bool.and_eq_true, Bool.or_eq_true, Bool.and_eq_false_iff, Bool.or_eq_false_iff, Bool.not_and, Bool.not_or, Bool.not_not, decide_eq_true_eq, decide_eq_false_iff_not, Bool.not_eq_true', Bool.not_eq_false', Bool.not_eq_true, Bool.not_eq_false, ne_eq, Decidable.not_not, Int.not_lt, Int.not_le, not_true_eq_false, not_false_eq_true, bne_iff_ne, beq_iff_eq, bne_eq_false_iff_eq, beq_eq_false_iff_ne] at hb85)
      refine wp_skip ?_
      refine gw_nx (hK79 _ _ ?_)
      refine gw_seq fun K87 hK87 => ?_
      refine wp_block ?_
      refine gw_seq fun K88 hK88 => ?_
      refine gw_seq fun K89 hK89 => ?_
      refine wp_region_lit ?_
      refine gw_ev HF86 (want_none rfl) rfl (by decide) (op_move rfl (HF86.ev rfl)) ?_
      intro a90 HF91; clear HF86
      refine gw_ev HF91 (want_none rfl) rfl (by decide) (op_move rfl (HF91.ev rfl)) ?_
      intro a92 HF93; clear HF91
      refine gw_ev HF93 (want_none rfl) rfl (by decide) (op_len Try.underlying32 rfl (HF93.ev rfl)) ?_
      intro a94 HF95; clear HF93
      refine gw_ev HF95 (want_none rfl) rfl (by decide) (op_lss rfl (HF95.ev rfl) (HF95.ev rfl)) ?_
      intro a96 HF97; clear HF95
      refine wpList_nil ?_
      refine gw_nx (hK89 _ _ ?_)
      refine gw_cond HF97 rfl (fun hb98 => ?_) (fun hb98 => ?_)
      · skip
        have HF99 := HF97.subst_ (d := 30) (b := true) rfl hb98
        clear HF97
        (try simp only [Bool.and_eq_true, Bool.or_eq_true, Bool.and_eq_false_iff, Bool.or_eq_false_iff, Bool.not_and, Bool.not_or, Bool.not_not, decide_eq_true_eq, decide_eq_false_iff_not, Bool.not_eq_true', Bool.not_eq_false', Bool.not_eq_true, Bool.not_eq_false, ne_eq, Decidable.not_not, Int.not_lt, Int.not_le, not_true_eq_false, not_false_eq_true, bne_iff_ne, beq_iff_eq, bne_eq_false_iff_eq, beq_eq_false_iff_ne] at hb98)
        refine gw_seq fun K100 hK100 => ?_
        refine wp_region_lit ?_
        refine gw_ev HF99 (want_none rfl) rfl (by decide) (op_move rfl (HF99.ev rfl)) ?_
        intro a101 HF102; clear HF99
        refine gw_ev HF102 (want_none rfl) rfl (by decide) (op_move rfl (HF102.ev rfl)) ?_
        intro a103 HF104; clear HF102
        obtain ⟨ad105, cs108, hA106, hl109, hK110, hc107⟩ := Kd.C_get hr1 (0 : Int) i (by omega) (by omega)
        obtain rfl := id hK110
        clear hl109
        refine gw_ev HF104 (want_none rfl) rfl (by decide) (op_index Try.underlying32 gwsiz3 rfl (HF104.ev rfl) (HF104.ev rfl) hA106 (⟨by omega, by omega⟩)) ?_
        intro a111 HF112; clear HF104
        refine gw_ev HF112 (want_none rfl) rfl (by decide) (op_load1 gwagg3 rfl (HF112.ev rfl) (HO77.cell0 (at0 hc107))) ?_
        intro a113 HF114; clear HF112
        refine gw_ev HF114 (want_none rfl) rfl (by decide) (op_and rfl (HF114.ev rfl) (ev_c _ _)) ?_
        intro a115 HF116; clear HF114
        refine wpList_nil ?_
        refine gw_nx (hK100 _ _ ?_)
        refine wp_block ?_
        refine gw_seq fun K117 hK117 => ?_
        refine wp_region_lit ?_
        refine gw_ev HF116 (want_none rfl) rfl (by decide) (op_eqi rfl (HF116.ev rfl) (ev_c _ _)) ?_
        intro a118 HF119; clear HF116
        refine gw_ev HF119 (want_none rfl) rfl (by decide) (op_assign rfl (HF119.ev rfl)) ?_
        intro a120 HF121; clear HF119
        refine wpList_nil ?_
        refine gw_nx (hK117 _ _ ?_)
        refine gw_cond HF121 rfl (fun hb122 => ?_) (fun hb122 => ?_)
        · skip
          have HF123 := HF121.subst_ (d := 36) (b := true) rfl hb122
          clear HF121
          (try simp only [Bool.and_eq_true, Bool.or_eq_true, Bool.and_eq_false_iff, Bool.or_eq_false_iff, Bool.not_and, Bool.not_or, Bool.not_not, decide_eq_true_eq, decide_eq_false_iff_not, Bool.not_eq_true', Bool.not_eq_false', Bool.not_eq_true, Bool.not_eq_false, ne_eq, Decidable.not_not, Int.not_lt, Int.not_le, not_true_eq_false, not_false_eq_true, bne_iff_ne, beq_iff_eq, bne_eq_false_iff_eq, beq_eq_false_iff_ne] at hb122)
          refine wp_region_lit ?_
          refine gw_ev HF123 (want_none rfl) rfl (by decide) (op_move rfl (HF123.ev rfl)) ?_
          intro a124 HF125; clear HF123
          have HO134 : Own w _ [(Chunk.all []), Chunk.disk w.heap.size gd5 Sd d] := Own.bundle (A := []) (L := [Chunk.disk w.heap.size gd5 Sd d]) (HO77.sel [0] (by decide))
          refine gw_call HF125 (want_none rfl) rfl (by decide) (op_callL Try.func20 (by kernel_rfl) rfl rfl (ar_cons (HF125.ev rfl) (ar_cons (ev_c _ _) ar_nil))) ((by have h_ := remove_calls w _ (Chunk.all []) gd5 Sd d (⟨#[110, 111, 110, 101]⟩ : ByteArray) hJ.wf (by decide) (by exact HO134); rw [show (removeD (⟨#[110, 111, 110, 101]⟩ : ByteArray) d) = (d, (removeD (⟨#[110, 111, 110, 101]⟩ : ByteArray) d).2) from (hJ.remove (by omega) none_letter)] at h_; (try dsimp only at h_); exact h_)) ?_
          rintro e128 w129 ⟨rfl, S126, hb130⟩
          refine ⟨_, rfl, fun a131 HF132 => ?_⟩
          have HO133 : Own w w129 [Chunk.disk w.heap.size gd5 S126 d] := Own.unbundle (A := []) (L := [Chunk.disk w.heap.size gd5 S126 d]) (hb130.sel [0, 1] (by decide))
          clear HO134
          clear HF125 HO77 hb130
          have HO136 : Own w w129 [Chunk.disk w.heap.size gd5 S126 d] := HO133
          clear HO133
          refine wpList_nil ?_
          refine gw_blk ?_
          refine gw_nx (hK88 _ _ ?_)
          refine gw_seq fun K137 hK137 => ?_
          refine wp_region_lit ?_
          refine gw_ev HF132 (want_none rfl) rfl (by decide) (op_move rfl (HF132.ev rfl)) ?_
          intro a138 HF139; clear HF132
          refine gw_ev HF139 (want_none rfl) rfl (by decide) (op_add rfl (ev_c _ _) (HF139.ev rfl) (by omega)) ?_
          intro a140 HF141; clear HF139
          refine gw_ev HF141 (want_none rfl) rfl (by decide) (op_conv_int Try.underlying3 Try.underlying5 rfl (HF141.ev rfl)) ?_
          intro a142 HF143; clear HF141
          refine gw_lit (enc := Value.int .u8) (fun _ => rfl) (xs := [IntKind.u8.wrap (97 + i)]) (e := 5) HF143 HO136 (want_none rfl) rfl (by decide) (op_bslice (by kernel_rfl) rfl (pt_cons (HF143.ev rfl) pt_nil)) (by simp) ?_
          intro A144 S145 a146 w147 HF148 HO149; clear HF143 HO136
          have HO150 : Own w w147 [Chunk.row (Kd.int .u8) 5 w.heap.size S145 (.slice A144 (([IntKind.u8.wrap (97 + i)]).length) (([IntKind.u8.wrap (97 + i)]).length)) ([IntKind.u8.wrap (97 + i)]), Chunk.disk w.heap.size gd5 S126 d] := HO149
          clear HO149
          refine gw_ev HF148 (want_none rfl) rfl (by decide) (op_conv_str Try.underlying28 Try.underlying5 Try.underlying9 (Kd.R_reads' (HO150.get 0 rfl)).2.2 rfl (HF148.ev rfl)) ?_
          intro a151 HF152; clear HF148
          have HF153 := HF152.conv (v' := .string (letter i)) (rfl)
          clear HF152
          refine gw_ev HF153 (want_none rfl) rfl (by decide) (op_assign rfl (HF153.ev rfl)) ?_
          intro a154 HF155; clear HF153
          refine wpList_nil ?_
          refine gw_nx (hK137 _ _ ?_)
          refine gw_seq fun K156 hK156 => ?_
          refine wp_region_lit ?_
          refine gw_ev HF155 (want_none rfl) rfl (by decide) (op_move rfl (HF155.ev rfl)) ?_
          intro a157 HF158; clear HF155
          refine gw_ev HF158 (want_none rfl) rfl (by decide) (op_move rfl (HF158.ev rfl)) ?_
          intro a159 HF160; clear HF158
          have HO170 : Own w _ [(Chunk.all [Chunk.row (Kd.int .u8) 5 w.heap.size S145 (.slice A144 (([IntKind.u8.wrap (97 + i)]).length) (([IntKind.u8.wrap (97 + i)]).length)) ([IntKind.u8.wrap (97 + i)])]), Chunk.disk w.heap.size gd5 S126 d] := Own.bundle (A := [Chunk.row (Kd.int .u8) 5 w.heap.size S145 (.slice A144 (([IntKind.u8.wrap (97 + i)]).length) (([IntKind.u8.wrap (97 + i)]).length)) ([IntKind.u8.wrap (97 + i)])]) (L := [Chunk.disk w.heap.size gd5 S126 d]) (HO150.sel [0, 1] (by decide))
          refine gw_call HF160 (want_none rfl) rfl (by decide) (op_callL Try.func13 (by kernel_rfl) rfl rfl (ar_cons (HF160.ev rfl) (ar_cons (HF160.ev rfl) ar_nil))) (create_calls w _ (Chunk.all [Chunk.row (Kd.int .u8) 5 w.heap.size S145 (.slice A144 (([IntKind.u8.wrap (97 + i)]).length) (([IntKind.u8.wrap (97 + i)]).length)) ([IntKind.u8.wrap (97 + i)])]) gd5 S126 d (letter i) hJ.wf (letter_sz (by omega)) (by have h_ := hJ.len; omega) (by exact HO170)) ?_
          rintro e164 w165 ⟨rfl, S161, hb166⟩
          refine ⟨_, rfl, fun a167 HF168 => ?_⟩
          have HO169 : Own w w165 [Chunk.row (Kd.int .u8) 5 w.heap.size S145 (.slice A144 (([IntKind.u8.wrap (97 + i)]).length) (([IntKind.u8.wrap (97 + i)]).length)) ([IntKind.u8.wrap (97 + i)]), Chunk.disk w.heap.size gd5 S161 ((createD (letter i) d).1)] := Own.unbundle (A := [Chunk.row (Kd.int .u8) 5 w.heap.size S145 (.slice A144 (([IntKind.u8.wrap (97 + i)]).length) (([IntKind.u8.wrap (97 + i)]).length)) ([IntKind.u8.wrap (97 + i)])]) (L := [Chunk.disk w.heap.size gd5 S161 ((createD (letter i) d).1)]) (hb166.sel [0, 1] (by decide))
          clear HO170
          clear HF160 HO150 hb166
          have HO172 : Own w w165 [Chunk.row (Kd.int .u8) 5 w.heap.size S145 (.slice A144 (([IntKind.u8.wrap (97 + i)]).length) (([IntKind.u8.wrap (97 + i)]).length)) ([IntKind.u8.wrap (97 + i)]), Chunk.disk w.heap.size gd5 S161 ((createD (letter i) d).1)] := HO169
          clear HO169
          have hJ163 := hJ.create (by omega)
          refine gw_ev HF168 (want_none rfl) rfl (by decide) (op_assign rfl (HF168.ev rfl)) ?_
          intro a173 HF174; clear HF168
          refine wpList_nil ?_
          refine gw_nx (hK156 _ _ ?_)
          refine gw_seq fun K175 hK175 => ?_
          refine gw_seq fun K176 hK176 => ?_
          refine wp_region_lit ?_
          refine gw_ev HF174 (want_none rfl) rfl (by decide) (op_move rfl (HF174.ev rfl)) ?_
          intro a177 HF178; clear HF174
          refine gw_ev HF178 (want_none rfl) rfl (by decide) (op_eqi rfl (HF178.ev rfl) (ev_c _ _)) ?_
          intro a179 HF180; clear HF178
          refine wpList_nil ?_
          refine gw_nx (hK176 _ _ ?_)
          refine gw_cond HF180 rfl (fun hb181 => ?_) (fun hb181 => ?_)
          · skip
            have HF182 := HF180.subst_ (d := 57) (b := true) rfl hb181
            clear HF180
            (try simp only [Bool.and_eq_true, Bool.or_eq_true, Bool.and_eq_false_iff, Bool.or_eq_false_iff, Bool.not_and, Bool.not_or, Bool.not_not, decide_eq_true_eq, decide_eq_false_iff_not, Bool.not_eq_true', Bool.not_eq_false', Bool.not_eq_true, Bool.not_eq_false, ne_eq, Decidable.not_not, Int.not_lt, Int.not_le, not_true_eq_false, not_false_eq_true, bne_iff_ne, beq_iff_eq, bne_eq_false_iff_eq, beq_eq_false_iff_ne] at hb181)
            have hJ183 := (hJ163.resolve_right (fun h_ => by have h1_ := h_.1; rw [h1_] at hb181; exact absurd hb181 (by decide))).2
            refine wp_region_lit ?_
            refine gw_ev HF182 (want_none rfl) rfl (by decide) (op_move rfl (HF182.ev rfl)) ?_
            intro a184 HF185; clear HF182
            refine gw_ev HF185 (want_none rfl) rfl (by decide) (op_add rfl (HF185.ev rfl) (ev_c _ _) (by omega)) ?_
            intro a186 HF187; clear HF185
            refine gw_ev HF187 (want_none rfl) rfl (by decide) (op_assign rfl (HF187.ev rfl)) ?_
            intro a188 HF189; clear HF187
            refine wpList_nil ?_
            refine gw_nx (hK175 _ _ ?_)
            refine gw_seq fun K190 hK190 => ?_
            refine wp_region_lit ?_
            refine gw_ev HF189 (want_none rfl) rfl (by decide) (op_move rfl (HF189.ev rfl)) ?_
            intro a191 HF192; clear HF189
            refine gw_call HF192 (want_none rfl) rfl (by decide) (op_callL Try.func21 (by kernel_rfl) rfl rfl (ar_cons (HF192.ev rfl) ar_nil)) (down_calls w.heap.size gd5 S161 ((createD (letter i) d).1) _ (HO172.get 1 rfl)) ?_
            rintro e193 w194 ⟨rfl, hb195⟩
            refine ⟨_, rfl, fun a196 HF197 => ?_⟩
            have HO198 := HO172.after hb195
            clear HF192 HO172 hb195
            refine gw_ev HF197 (want_none rfl) rfl (by decide) (op_move rfl (HF197.ev rfl)) ?_
            intro a200 HF201; clear HF197
            refine gw_ev HF201 (want_none rfl) rfl (by decide) (op_move rfl (HF201.ev rfl)) ?_
            intro a202 HF203; clear HF201
            refine gw_ev HF203 (want_none rfl) rfl (by decide) (op_add rfl (HF203.ev rfl) (ev_c _ _) (by omega)) ?_
            intro a204 HF205; clear HF203
            refine gw_ev HF205 (want_none rfl) rfl (by decide) (op_lss rfl (HF205.ev rfl) (HF205.ev rfl)) ?_
            intro a206 HF207; clear HF205
            refine gw_ev HF207 (want_none rfl) rfl (by decide) (op_neb Try.underlying4 rfl (HF207.ev rfl) (HF207.ev rfl)) ?_
            intro a208 HF209; clear HF207
            have HF210 := HF209.lit (b := false) (by rw [hJ183.down_]; simp)
            clear HF209
            refine wpList_nil ?_
            refine gw_nx (hK190 _ _ ?_)
            refine gw_cond HF210 rfl (fun hb211 => ?_) (fun hb211 => ?_)
            skip
            · cases hb211
            refine wp_skip ?_
            refine gw_blk ?_
            refine gw_nx (hK87 _ _ ?_)
            refine wp_region_lit ?_
            refine gw_ev HF210 (want_none rfl) rfl (by decide) (op_move rfl (HF210.ev rfl)) ?_
            intro a212 HF213; clear HF210
            refine gw_ev HF213 (want_none rfl) rfl (by decide) (op_add rfl (HF213.ev rfl) (ev_c _ _) (by omega)) ?_
            intro a214 HF215; clear HF213
            refine gw_ev HF215 (want_none rfl) rfl (by decide) (op_assign rfl (HF215.ev rfl)) ?_
            intro a216 HF217; clear HF215
            refine wpList_nil ?_
            refine gw_nx ⟨_, ?_, i + 1, ((createD (letter i) d).1), S161, (done + 1), (HF217.pick (t := 7) rfl (HF217.pick (t := 6) rfl (HF217.pick (t := 1) rfl (HF217.pick (t := 5) rfl (HF217.pick (t := 0) rfl HF217.nil))))), HO198.sel [1] (by decide), ?_, ?_, ?_, ?_, rfl⟩
            · rw [hm78]; omega
            · omega
            · exact hJ183
            · omega
            · exact (kept_create hJ.wf.fuse.1).most.trans hmost
          · skip
            have HF218 := HF180.subst_ (d := 57) (b := false) rfl hb181
            clear HF180
            (try simp only [Bool.and_eq_true, Bool.or_eq_true, Bool.and_eq_false_iff, Bool.or_eq_false_iff, Bool.not_and, Bool.not_or, Bool.not_not, decide_eq_true_eq, decide_eq_false_iff_not, Bool.not_eq_true', Bool.not_eq_false', Bool.not_eq_true, Bool.not_eq_false, ne_eq, Decidable.not_not, Int.not_lt, Int.not_le, not_true_eq_false, not_false_eq_true, bne_iff_ne, beq_iff_eq, bne_eq_false_iff_eq, beq_eq_false_iff_ne] at hb181)
            have hJ219 := (hJ163.resolve_left (fun h_ => hb181 h_.1)).2
            refine gw_seq fun K220 hK220 => ?_
            refine wp_region_lit ?_
            refine gw_ev HF218 (want_none rfl) rfl (by decide) (op_move rfl (HF218.ev rfl)) ?_
            intro a221 HF222; clear HF218
            refine gw_ev HF222 (want_none rfl) rfl (by decide) (op_nei rfl (HF222.ev rfl) (ev_c _ _)) ?_
            intro a223 HF224; clear HF222
            have HF225 := HF224.lit (b := false) (by rcases hJ163 with h_ | h_; (· exact absurd h_.1 (by assumption)); (· rw [h_.1]; decide))
            clear HF224
            refine wpList_nil ?_
            refine gw_nx (hK220 _ _ ?_)
            refine gw_cond HF225 rfl (fun hb226 => ?_) (fun hb226 => ?_)
            skip
            · cases hb226
            refine wp_skip ?_
            refine gw_nx (hK175 _ _ ?_)
            refine gw_seq fun K227 hK227 => ?_
            refine wp_region_lit ?_
            refine gw_ev HF225 (want_none rfl) rfl (by decide) (op_move rfl (HF225.ev rfl)) ?_
            intro a228 HF229; clear HF225
            refine gw_call HF229 (want_none rfl) rfl (by decide) (op_callL Try.func21 (by kernel_rfl) rfl rfl (ar_cons (HF229.ev rfl) ar_nil)) (down_calls w.heap.size gd5 S161 ((createD (letter i) d).1) _ (HO172.get 1 rfl)) ?_
            rintro e230 w231 ⟨rfl, hb232⟩
            refine ⟨_, rfl, fun a233 HF234 => ?_⟩
            have HO235 := HO172.after hb232
            clear HF229 HO172 hb232
            refine gw_ev HF234 (want_none rfl) rfl (by decide) (op_move rfl (HF234.ev rfl)) ?_
            intro a237 HF238; clear HF234
            refine gw_ev HF238 (want_none rfl) rfl (by decide) (op_move rfl (HF238.ev rfl)) ?_
            intro a239 HF240; clear HF238
            refine gw_ev HF240 (want_none rfl) rfl (by decide) (op_add rfl (HF240.ev rfl) (ev_c _ _) (by omega)) ?_
            intro a241 HF242; clear HF240
            refine gw_ev HF242 (want_none rfl) rfl (by decide) (op_lss rfl (HF242.ev rfl) (HF242.ev rfl)) ?_
            intro a243 HF244; clear HF242
            refine gw_ev HF244 (want_none rfl) rfl (by decide) (op_neb Try.underlying4 rfl (HF244.ev rfl) (HF244.ev rfl)) ?_
            intro a245 HF246; clear HF244
            have HF247 := HF246.lit (b := false) (by rw [hJ219.down_]; simp)
            clear HF246
            refine wpList_nil ?_
            refine gw_nx (hK227 _ _ ?_)
            refine gw_cond HF247 rfl (fun hb248 => ?_) (fun hb248 => ?_)
            skip
            · cases hb248
            refine wp_skip ?_
            refine gw_blk ?_
            refine gw_nx (hK87 _ _ ?_)
            refine wp_region_lit ?_
            refine gw_ev HF247 (want_none rfl) rfl (by decide) (op_move rfl (HF247.ev rfl)) ?_
            intro a249 HF250; clear HF247
            refine gw_ev HF250 (want_none rfl) rfl (by decide) (op_add rfl (HF250.ev rfl) (ev_c _ _) (by omega)) ?_
            intro a251 HF252; clear HF250
            refine gw_ev HF252 (want_none rfl) rfl (by decide) (op_assign rfl (HF252.ev rfl)) ?_
            intro a253 HF254; clear HF252
            refine wpList_nil ?_
            refine gw_nx ⟨_, ?_, i + 1, ((createD (letter i) d).1), S161, done, (HF254.pick (t := 7) rfl (HF254.pick (t := 6) rfl (HF254.pick (t := 1) rfl (HF254.pick (t := 5) rfl (HF254.pick (t := 0) rfl HF254.nil))))), HO235.sel [1] (by decide), ?_, ?_, ?_, ?_, rfl⟩
            · rw [hm78]; omega
            · omega
            · exact hJ219
            · omega
            · exact (kept_create hJ.wf.fuse.1).most.trans hmost
        · skip
          have HF255 := HF121.subst_ (d := 36) (b := false) rfl hb122
          clear HF121
          (try simp only [Bool.and_eq_true, Bool.or_eq_true, Bool.and_eq_false_iff, Bool.or_eq_false_iff, Bool.not_and, Bool.not_or, Bool.not_not, decide_eq_true_eq, decide_eq_false_iff_not, Bool.not_eq_true', Bool.not_eq_false', Bool.not_eq_true, Bool.not_eq_false, ne_eq, Decidable.not_not, Int.not_lt, Int.not_le, not_true_eq_false, not_false_eq_true, bne_iff_ne, beq_iff_eq, bne_eq_false_iff_eq, beq_eq_false_iff_ne] at hb122)
          refine gw_seq fun K256 hK256 => ?_
          refine wp_region_lit ?_
          refine gw_ev HF255 (want_none rfl) rfl (by decide) (op_eqi rfl (HF255.ev rfl) (ev_c _ _)) ?_
          intro a257 HF258; clear HF255
          refine gw_ev HF258 (want_none rfl) rfl (by decide) (op_assign rfl (HF258.ev rfl)) ?_
          intro a259 HF260; clear HF258
          refine wpList_nil ?_
          refine gw_nx (hK256 _ _ ?_)
          refine gw_cond HF260 rfl (fun hb261 => ?_) (fun hb261 => ?_)
          · skip
            have HF262 := HF260.subst_ (d := 40) (b := true) rfl hb261
            clear HF260
            (try simp only [Bool.and_eq_true, Bool.or_eq_true, Bool.and_eq_false_iff, Bool.or_eq_false_iff, Bool.not_and, Bool.not_or, Bool.not_not, decide_eq_true_eq, decide_eq_false_iff_not, Bool.not_eq_true', Bool.not_eq_false', Bool.not_eq_true, Bool.not_eq_false, ne_eq, Decidable.not_not, Int.not_lt, Int.not_le, not_true_eq_false, not_false_eq_true, bne_iff_ne, beq_iff_eq, bne_eq_false_iff_eq, beq_eq_false_iff_ne] at hb261)
            refine wp_region_lit ?_
            refine gw_ev HF262 (want_none rfl) rfl (by decide) (op_move rfl (HF262.ev rfl)) ?_
            intro a263 HF264; clear HF262
            have HO273 : Own w _ [(Chunk.all []), Chunk.disk w.heap.size gd5 Sd d] := Own.bundle (A := []) (L := [Chunk.disk w.heap.size gd5 Sd d]) (HO77.sel [0] (by decide))
            refine gw_call HF264 (want_none rfl) rfl (by decide) (op_callL Try.func13 (by kernel_rfl) rfl rfl (ar_cons (HF264.ev rfl) (ar_cons (ev_c _ _) ar_nil))) ((by have h_ := create_calls w _ (Chunk.all []) gd5 Sd d (⟨#[]⟩ : ByteArray) hJ.wf (by decide) (by have h_ := hJ.len; omega) (by exact HO273); rw [show (createD (⟨#[]⟩ : ByteArray) d) = (d, (createD (⟨#[]⟩ : ByteArray) d).2) from (create_bad2 (by decide))] at h_; (try dsimp only at h_); exact h_)) ?_
            rintro e267 w268 ⟨rfl, S265, hb269⟩
            refine ⟨_, rfl, fun a270 HF271 => ?_⟩
            have HO272 : Own w w268 [Chunk.disk w.heap.size gd5 S265 d] := Own.unbundle (A := []) (L := [Chunk.disk w.heap.size gd5 S265 d]) (hb269.sel [0, 1] (by decide))
            clear HO273
            clear HF264 HO77 hb269
            have HO275 : Own w w268 [Chunk.disk w.heap.size gd5 S265 d] := HO272
            clear HO272
            refine wpList_nil ?_
            refine gw_blk ?_
            refine gw_nx (hK88 _ _ ?_)
            refine gw_seq fun K276 hK276 => ?_
            refine wp_region_lit ?_
            refine gw_ev HF271 (want_none rfl) rfl (by decide) (op_move rfl (HF271.ev rfl)) ?_
            intro a277 HF278; clear HF271
            refine gw_ev HF278 (want_none rfl) rfl (by decide) (op_add rfl (ev_c _ _) (HF278.ev rfl) (by omega)) ?_
            intro a279 HF280; clear HF278
            refine gw_ev HF280 (want_none rfl) rfl (by decide) (op_conv_int Try.underlying3 Try.underlying5 rfl (HF280.ev rfl)) ?_
            intro a281 HF282; clear HF280
            refine gw_lit (enc := Value.int .u8) (fun _ => rfl) (xs := [IntKind.u8.wrap (97 + i)]) (e := 5) HF282 HO275 (want_none rfl) rfl (by decide) (op_bslice (by kernel_rfl) rfl (pt_cons (HF282.ev rfl) pt_nil)) (by simp) ?_
            intro A283 S284 a285 w286 HF287 HO288; clear HF282 HO275
            have HO289 : Own w w286 [Chunk.row (Kd.int .u8) 5 w.heap.size S284 (.slice A283 (([IntKind.u8.wrap (97 + i)]).length) (([IntKind.u8.wrap (97 + i)]).length)) ([IntKind.u8.wrap (97 + i)]), Chunk.disk w.heap.size gd5 S265 d] := HO288
            clear HO288
            refine gw_ev HF287 (want_none rfl) rfl (by decide) (op_conv_str Try.underlying28 Try.underlying5 Try.underlying9 (Kd.R_reads' (HO289.get 0 rfl)).2.2 rfl (HF287.ev rfl)) ?_
            intro a290 HF291; clear HF287
            have HF292 := HF291.conv (v' := .string (letter i)) (rfl)
            clear HF291
            refine gw_ev HF292 (want_none rfl) rfl (by decide) (op_assign rfl (HF292.ev rfl)) ?_
            intro a293 HF294; clear HF292
            refine wpList_nil ?_
            refine gw_nx (hK276 _ _ ?_)
            refine gw_seq fun K295 hK295 => ?_
            refine wp_region_lit ?_
            refine gw_ev HF294 (want_none rfl) rfl (by decide) (op_move rfl (HF294.ev rfl)) ?_
            intro a296 HF297; clear HF294
            refine gw_ev HF297 (want_none rfl) rfl (by decide) (op_move rfl (HF297.ev rfl)) ?_
            intro a298 HF299; clear HF297
            have HO309 : Own w _ [(Chunk.all [Chunk.row (Kd.int .u8) 5 w.heap.size S284 (.slice A283 (([IntKind.u8.wrap (97 + i)]).length) (([IntKind.u8.wrap (97 + i)]).length)) ([IntKind.u8.wrap (97 + i)])]), Chunk.disk w.heap.size gd5 S265 d] := Own.bundle (A := [Chunk.row (Kd.int .u8) 5 w.heap.size S284 (.slice A283 (([IntKind.u8.wrap (97 + i)]).length) (([IntKind.u8.wrap (97 + i)]).length)) ([IntKind.u8.wrap (97 + i)])]) (L := [Chunk.disk w.heap.size gd5 S265 d]) (HO289.sel [0, 1] (by decide))
            refine gw_call HF299 (want_none rfl) rfl (by decide) (op_callL Try.func13 (by kernel_rfl) rfl rfl (ar_cons (HF299.ev rfl) (ar_cons (HF299.ev rfl) ar_nil))) (create_calls w _ (Chunk.all [Chunk.row (Kd.int .u8) 5 w.heap.size S284 (.slice A283 (([IntKind.u8.wrap (97 + i)]).length) (([IntKind.u8.wrap (97 + i)]).length)) ([IntKind.u8.wrap (97 + i)])]) gd5 S265 d (letter i) hJ.wf (letter_sz (by omega)) (by have h_ := hJ.len; omega) (by exact HO309)) ?_
            rintro e303 w304 ⟨rfl, S300, hb305⟩
            refine ⟨_, rfl, fun a306 HF307 => ?_⟩
            have HO308 : Own w w304 [Chunk.row (Kd.int .u8) 5 w.heap.size S284 (.slice A283 (([IntKind.u8.wrap (97 + i)]).length) (([IntKind.u8.wrap (97 + i)]).length)) ([IntKind.u8.wrap (97 + i)]), Chunk.disk w.heap.size gd5 S300 ((createD (letter i) d).1)] := Own.unbundle (A := [Chunk.row (Kd.int .u8) 5 w.heap.size S284 (.slice A283 (([IntKind.u8.wrap (97 + i)]).length) (([IntKind.u8.wrap (97 + i)]).length)) ([IntKind.u8.wrap (97 + i)])]) (L := [Chunk.disk w.heap.size gd5 S300 ((createD (letter i) d).1)]) (hb305.sel [0, 1] (by decide))
            clear HO309
            clear HF299 HO289 hb305
            have HO311 : Own w w304 [Chunk.row (Kd.int .u8) 5 w.heap.size S284 (.slice A283 (([IntKind.u8.wrap (97 + i)]).length) (([IntKind.u8.wrap (97 + i)]).length)) ([IntKind.u8.wrap (97 + i)]), Chunk.disk w.heap.size gd5 S300 ((createD (letter i) d).1)] := HO308
            clear HO308
            have hJ302 := hJ.create (by omega)
            refine gw_ev HF307 (want_none rfl) rfl (by decide) (op_assign rfl (HF307.ev rfl)) ?_
            intro a312 HF313; clear HF307
            refine wpList_nil ?_
            refine gw_nx (hK295 _ _ ?_)
            refine gw_seq fun K314 hK314 => ?_
            refine gw_seq fun K315 hK315 => ?_
            refine wp_region_lit ?_
            refine gw_ev HF313 (want_none rfl) rfl (by decide) (op_move rfl (HF313.ev rfl)) ?_
            intro a316 HF317; clear HF313
            refine gw_ev HF317 (want_none rfl) rfl (by decide) (op_eqi rfl (HF317.ev rfl) (ev_c _ _)) ?_
            intro a318 HF319; clear HF317
            refine wpList_nil ?_
            refine gw_nx (hK315 _ _ ?_)
            refine gw_cond HF319 rfl (fun hb320 => ?_) (fun hb320 => ?_)
            · skip
              have HF321 := HF319.subst_ (d := 57) (b := true) rfl hb320
              clear HF319
              (try simp only [Bool.and_eq_true, Bool.or_eq_true, Bool.and_eq_false_iff, Bool.or_eq_false_iff, Bool.not_and, Bool.not_or, Bool.not_not, decide_eq_true_eq, decide_eq_false_iff_not, Bool.not_eq_true', Bool.not_eq_false', Bool.not_eq_true, Bool.not_eq_false, ne_eq, Decidable.not_not, Int.not_lt, Int.not_le, not_true_eq_false, not_false_eq_true, bne_iff_ne, beq_iff_eq, bne_eq_false_iff_eq, beq_eq_false_iff_ne] at hb320)
              have hJ322 := (hJ302.resolve_right (fun h_ => by have h1_ := h_.1; rw [h1_] at hb320; exact absurd hb320 (by decide))).2
              refine wp_region_lit ?_
              refine gw_ev HF321 (want_none rfl) rfl (by decide) (op_move rfl (HF321.ev rfl)) ?_
              intro a323 HF324; clear HF321
              refine gw_ev HF324 (want_none rfl) rfl (by decide) (op_add rfl (HF324.ev rfl) (ev_c _ _) (by omega)) ?_
              intro a325 HF326; clear HF324
              refine gw_ev HF326 (want_none rfl) rfl (by decide) (op_assign rfl (HF326.ev rfl)) ?_
              intro a327 HF328; clear HF326
              refine wpList_nil ?_
              refine gw_nx (hK314 _ _ ?_)
              refine gw_seq fun K329 hK329 => ?_
              refine wp_region_lit ?_
              refine gw_ev HF328 (want_none rfl) rfl (by decide) (op_move rfl (HF328.ev rfl)) ?_
              intro a330 HF331; clear HF328
              refine gw_call HF331 (want_none rfl) rfl (by decide) (op_callL Try.func21 (by kernel_rfl) rfl rfl (ar_cons (HF331.ev rfl) ar_nil)) (down_calls w.heap.size gd5 S300 ((createD (letter i) d).1) _ (HO311.get 1 rfl)) ?_
              rintro e332 w333 ⟨rfl, hb334⟩
              refine ⟨_, rfl, fun a335 HF336 => ?_⟩
              have HO337 := HO311.after hb334
              clear HF331 HO311 hb334
              refine gw_ev HF336 (want_none rfl) rfl (by decide) (op_move rfl (HF336.ev rfl)) ?_
              intro a339 HF340; clear HF336
              refine gw_ev HF340 (want_none rfl) rfl (by decide) (op_move rfl (HF340.ev rfl)) ?_
              intro a341 HF342; clear HF340
              refine gw_ev HF342 (want_none rfl) rfl (by decide) (op_add rfl (HF342.ev rfl) (ev_c _ _) (by omega)) ?_
              intro a343 HF344; clear HF342
              refine gw_ev HF344 (want_none rfl) rfl (by decide) (op_lss rfl (HF344.ev rfl) (HF344.ev rfl)) ?_
              intro a345 HF346; clear HF344
              refine gw_ev HF346 (want_none rfl) rfl (by decide) (op_neb Try.underlying4 rfl (HF346.ev rfl) (HF346.ev rfl)) ?_
              intro a347 HF348; clear HF346
              have HF349 := HF348.lit (b := false) (by rw [hJ322.down_]; simp)
              clear HF348
              refine wpList_nil ?_
              refine gw_nx (hK329 _ _ ?_)
              refine gw_cond HF349 rfl (fun hb350 => ?_) (fun hb350 => ?_)
              skip
              · cases hb350
              refine wp_skip ?_
              refine gw_blk ?_
              refine gw_nx (hK87 _ _ ?_)
              refine wp_region_lit ?_
              refine gw_ev HF349 (want_none rfl) rfl (by decide) (op_move rfl (HF349.ev rfl)) ?_
              intro a351 HF352; clear HF349
              refine gw_ev HF352 (want_none rfl) rfl (by decide) (op_add rfl (HF352.ev rfl) (ev_c _ _) (by omega)) ?_
              intro a353 HF354; clear HF352
              refine gw_ev HF354 (want_none rfl) rfl (by decide) (op_assign rfl (HF354.ev rfl)) ?_
              intro a355 HF356; clear HF354
              refine wpList_nil ?_
              refine gw_nx ⟨_, ?_, i + 1, ((createD (letter i) d).1), S300, (done + 1), (HF356.pick (t := 7) rfl (HF356.pick (t := 6) rfl (HF356.pick (t := 1) rfl (HF356.pick (t := 5) rfl (HF356.pick (t := 0) rfl HF356.nil))))), HO337.sel [1] (by decide), ?_, ?_, ?_, ?_, rfl⟩
              · rw [hm78]; omega
              · omega
              · exact hJ322
              · omega
              · exact (kept_create hJ.wf.fuse.1).most.trans hmost
            · skip
              have HF357 := HF319.subst_ (d := 57) (b := false) rfl hb320
              clear HF319
              (try simp only [Bool.and_eq_true, Bool.or_eq_true, Bool.and_eq_false_iff, Bool.or_eq_false_iff, Bool.not_and, Bool.not_or, Bool.not_not, decide_eq_true_eq, decide_eq_false_iff_not, Bool.not_eq_true', Bool.not_eq_false', Bool.not_eq_true, Bool.not_eq_false, ne_eq, Decidable.not_not, Int.not_lt, Int.not_le, not_true_eq_false, not_false_eq_true, bne_iff_ne, beq_iff_eq, bne_eq_false_iff_eq, beq_eq_false_iff_ne] at hb320)
              have hJ358 := (hJ302.resolve_left (fun h_ => hb320 h_.1)).2
              refine gw_seq fun K359 hK359 => ?_
              refine wp_region_lit ?_
              refine gw_ev HF357 (want_none rfl) rfl (by decide) (op_move rfl (HF357.ev rfl)) ?_
              intro a360 HF361; clear HF357
              refine gw_ev HF361 (want_none rfl) rfl (by decide) (op_nei rfl (HF361.ev rfl) (ev_c _ _)) ?_
              intro a362 HF363; clear HF361
              have HF364 := HF363.lit (b := false) (by rcases hJ302 with h_ | h_; (· exact absurd h_.1 (by assumption)); (· rw [h_.1]; decide))
              clear HF363
              refine wpList_nil ?_
              refine gw_nx (hK359 _ _ ?_)
              refine gw_cond HF364 rfl (fun hb365 => ?_) (fun hb365 => ?_)
              skip
              · cases hb365
              refine wp_skip ?_
              refine gw_nx (hK314 _ _ ?_)
              refine gw_seq fun K366 hK366 => ?_
              refine wp_region_lit ?_
              refine gw_ev HF364 (want_none rfl) rfl (by decide) (op_move rfl (HF364.ev rfl)) ?_
              intro a367 HF368; clear HF364
              refine gw_call HF368 (want_none rfl) rfl (by decide) (op_callL Try.func21 (by kernel_rfl) rfl rfl (ar_cons (HF368.ev rfl) ar_nil)) (down_calls w.heap.size gd5 S300 ((createD (letter i) d).1) _ (HO311.get 1 rfl)) ?_
              rintro e369 w370 ⟨rfl, hb371⟩
              refine ⟨_, rfl, fun a372 HF373 => ?_⟩
              have HO374 := HO311.after hb371
              clear HF368 HO311 hb371
              refine gw_ev HF373 (want_none rfl) rfl (by decide) (op_move rfl (HF373.ev rfl)) ?_
              intro a376 HF377; clear HF373
              refine gw_ev HF377 (want_none rfl) rfl (by decide) (op_move rfl (HF377.ev rfl)) ?_
              intro a378 HF379; clear HF377
              refine gw_ev HF379 (want_none rfl) rfl (by decide) (op_add rfl (HF379.ev rfl) (ev_c _ _) (by omega)) ?_
              intro a380 HF381; clear HF379
              refine gw_ev HF381 (want_none rfl) rfl (by decide) (op_lss rfl (HF381.ev rfl) (HF381.ev rfl)) ?_
              intro a382 HF383; clear HF381
              refine gw_ev HF383 (want_none rfl) rfl (by decide) (op_neb Try.underlying4 rfl (HF383.ev rfl) (HF383.ev rfl)) ?_
              intro a384 HF385; clear HF383
              have HF386 := HF385.lit (b := false) (by rw [hJ358.down_]; simp)
              clear HF385
              refine wpList_nil ?_
              refine gw_nx (hK366 _ _ ?_)
              refine gw_cond HF386 rfl (fun hb387 => ?_) (fun hb387 => ?_)
              skip
              · cases hb387
              refine wp_skip ?_
              refine gw_blk ?_
              refine gw_nx (hK87 _ _ ?_)
              refine wp_region_lit ?_
              refine gw_ev HF386 (want_none rfl) rfl (by decide) (op_move rfl (HF386.ev rfl)) ?_
              intro a388 HF389; clear HF386
              refine gw_ev HF389 (want_none rfl) rfl (by decide) (op_add rfl (HF389.ev rfl) (ev_c _ _) (by omega)) ?_
              intro a390 HF391; clear HF389
              refine gw_ev HF391 (want_none rfl) rfl (by decide) (op_assign rfl (HF391.ev rfl)) ?_
              intro a392 HF393; clear HF391
              refine wpList_nil ?_
              refine gw_nx ⟨_, ?_, i + 1, ((createD (letter i) d).1), S300, done, (HF393.pick (t := 7) rfl (HF393.pick (t := 6) rfl (HF393.pick (t := 1) rfl (HF393.pick (t := 5) rfl (HF393.pick (t := 0) rfl HF393.nil))))), HO374.sel [1] (by decide), ?_, ?_, ?_, ?_, rfl⟩
              · rw [hm78]; omega
              · omega
              · exact hJ358
              · omega
              · exact (kept_create hJ.wf.fuse.1).most.trans hmost
          · skip
            have HF394 := HF260.subst_ (d := 40) (b := false) rfl hb261
            clear HF260
            (try simp only [Bool.and_eq_true, Bool.or_eq_true, Bool.and_eq_false_iff, Bool.or_eq_false_iff, Bool.not_and, Bool.not_or, Bool.not_not, decide_eq_true_eq, decide_eq_false_iff_not, Bool.not_eq_true', Bool.not_eq_false', Bool.not_eq_true, Bool.not_eq_false, ne_eq, Decidable.not_not, Int.not_lt, Int.not_le, not_true_eq_false, not_false_eq_true, bne_iff_ne, beq_iff_eq, bne_eq_false_iff_eq, beq_eq_false_iff_ne] at hb261)
            refine gw_seq fun K395 hK395 => ?_
            refine wp_region_lit ?_
            refine gw_ev HF394 (want_none rfl) rfl (by decide) (op_eqi rfl (HF394.ev rfl) (ev_c _ _)) ?_
            intro a396 HF397; clear HF394
            refine gw_ev HF397 (want_none rfl) rfl (by decide) (op_assign rfl (HF397.ev rfl)) ?_
            intro a398 HF399; clear HF397
            refine wpList_nil ?_
            refine gw_nx (hK395 _ _ ?_)
            refine gw_cond HF399 rfl (fun hb400 => ?_) (fun hb400 => ?_)
            · skip
              have HF401 := HF399.subst_ (d := 44) (b := true) rfl hb400
              clear HF399
              (try simp only [Bool.and_eq_true, Bool.or_eq_true, Bool.and_eq_false_iff, Bool.or_eq_false_iff, Bool.not_and, Bool.not_or, Bool.not_not, decide_eq_true_eq, decide_eq_false_iff_not, Bool.not_eq_true', Bool.not_eq_false', Bool.not_eq_true, Bool.not_eq_false, ne_eq, Decidable.not_not, Int.not_lt, Int.not_le, not_true_eq_false, not_false_eq_true, bne_iff_ne, beq_iff_eq, bne_eq_false_iff_eq, beq_eq_false_iff_ne] at hb400)
              refine wp_region_lit ?_
              refine gw_ev HF401 (want_none rfl) rfl (by decide) (op_move rfl (HF401.ev rfl)) ?_
              intro a402 HF403; clear HF401
              have HO412 : Own w _ [(Chunk.all []), Chunk.disk w.heap.size gd5 Sd d] := Own.bundle (A := []) (L := [Chunk.disk w.heap.size gd5 Sd d]) (HO77.sel [0] (by decide))
              refine gw_call HF403 (want_none rfl) rfl (by decide) (op_callL Try.func15 (by kernel_rfl) rfl rfl (ar_cons (HF403.ev rfl) (ar_cons (ev_c _ _) (ar_cons (ev_c _ _) ar_nil)))) ((by have h_ := append_calls w _ (Chunk.all []) gd5 Sd d (⟨#[110, 111, 110, 101]⟩ : ByteArray) none 0 ([]) (fun w_ h_ => (Kd.C_nil _ _)) (Nat.le_refl _) hJ.wf (by decide) (by have h_ := hJ.wf.most; have h2_ : d.most = 1000 := hmost; simp only [List.length_nil]; omega) (by exact HO412); rw [show (appendD (⟨#[110, 111, 110, 101]⟩ : ByteArray) ([]) d) = (d, (appendD (⟨#[110, 111, 110, 101]⟩ : ByteArray) ([] : List Int) d).2) from (hJ.append (by omega) none_letter)] at h_; (try dsimp only at h_); exact h_)) ?_
              rintro e406 w407 ⟨rfl, S404, hb408⟩
              refine ⟨_, rfl, fun a409 HF410 => ?_⟩
              have HO411 : Own w w407 [Chunk.disk w.heap.size gd5 S404 d] := Own.unbundle (A := []) (L := [Chunk.disk w.heap.size gd5 S404 d]) (hb408.sel [0, 1] (by decide))
              clear HO412
              clear HF403 HO77 hb408
              have HO414 : Own w w407 [Chunk.disk w.heap.size gd5 S404 d] := HO411
              clear HO411
              refine wpList_nil ?_
              refine gw_blk ?_
              refine gw_nx (hK88 _ _ ?_)
              refine gw_seq fun K415 hK415 => ?_
              refine wp_region_lit ?_
              refine gw_ev HF410 (want_none rfl) rfl (by decide) (op_move rfl (HF410.ev rfl)) ?_
              intro a416 HF417; clear HF410
              refine gw_ev HF417 (want_none rfl) rfl (by decide) (op_add rfl (ev_c _ _) (HF417.ev rfl) (by omega)) ?_
              intro a418 HF419; clear HF417
              refine gw_ev HF419 (want_none rfl) rfl (by decide) (op_conv_int Try.underlying3 Try.underlying5 rfl (HF419.ev rfl)) ?_
              intro a420 HF421; clear HF419
              refine gw_lit (enc := Value.int .u8) (fun _ => rfl) (xs := [IntKind.u8.wrap (97 + i)]) (e := 5) HF421 HO414 (want_none rfl) rfl (by decide) (op_bslice (by kernel_rfl) rfl (pt_cons (HF421.ev rfl) pt_nil)) (by simp) ?_
              intro A422 S423 a424 w425 HF426 HO427; clear HF421 HO414
              have HO428 : Own w w425 [Chunk.row (Kd.int .u8) 5 w.heap.size S423 (.slice A422 (([IntKind.u8.wrap (97 + i)]).length) (([IntKind.u8.wrap (97 + i)]).length)) ([IntKind.u8.wrap (97 + i)]), Chunk.disk w.heap.size gd5 S404 d] := HO427
              clear HO427
              refine gw_ev HF426 (want_none rfl) rfl (by decide) (op_conv_str Try.underlying28 Try.underlying5 Try.underlying9 (Kd.R_reads' (HO428.get 0 rfl)).2.2 rfl (HF426.ev rfl)) ?_
              intro a429 HF430; clear HF426
              have HF431 := HF430.conv (v' := .string (letter i)) (rfl)
              clear HF430
              refine gw_ev HF431 (want_none rfl) rfl (by decide) (op_assign rfl (HF431.ev rfl)) ?_
              intro a432 HF433; clear HF431
              refine wpList_nil ?_
              refine gw_nx (hK415 _ _ ?_)
              refine gw_seq fun K434 hK434 => ?_
              refine wp_region_lit ?_
              refine gw_ev HF433 (want_none rfl) rfl (by decide) (op_move rfl (HF433.ev rfl)) ?_
              intro a435 HF436; clear HF433
              refine gw_ev HF436 (want_none rfl) rfl (by decide) (op_move rfl (HF436.ev rfl)) ?_
              intro a437 HF438; clear HF436
              have HO448 : Own w _ [(Chunk.all [Chunk.row (Kd.int .u8) 5 w.heap.size S423 (.slice A422 (([IntKind.u8.wrap (97 + i)]).length) (([IntKind.u8.wrap (97 + i)]).length)) ([IntKind.u8.wrap (97 + i)])]), Chunk.disk w.heap.size gd5 S404 d] := Own.bundle (A := [Chunk.row (Kd.int .u8) 5 w.heap.size S423 (.slice A422 (([IntKind.u8.wrap (97 + i)]).length) (([IntKind.u8.wrap (97 + i)]).length)) ([IntKind.u8.wrap (97 + i)])]) (L := [Chunk.disk w.heap.size gd5 S404 d]) (HO428.sel [0, 1] (by decide))
              refine gw_call HF438 (want_none rfl) rfl (by decide) (op_callL Try.func13 (by kernel_rfl) rfl rfl (ar_cons (HF438.ev rfl) (ar_cons (HF438.ev rfl) ar_nil))) (create_calls w _ (Chunk.all [Chunk.row (Kd.int .u8) 5 w.heap.size S423 (.slice A422 (([IntKind.u8.wrap (97 + i)]).length) (([IntKind.u8.wrap (97 + i)]).length)) ([IntKind.u8.wrap (97 + i)])]) gd5 S404 d (letter i) hJ.wf (letter_sz (by omega)) (by have h_ := hJ.len; omega) (by exact HO448)) ?_
              rintro e442 w443 ⟨rfl, S439, hb444⟩
              refine ⟨_, rfl, fun a445 HF446 => ?_⟩
              have HO447 : Own w w443 [Chunk.row (Kd.int .u8) 5 w.heap.size S423 (.slice A422 (([IntKind.u8.wrap (97 + i)]).length) (([IntKind.u8.wrap (97 + i)]).length)) ([IntKind.u8.wrap (97 + i)]), Chunk.disk w.heap.size gd5 S439 ((createD (letter i) d).1)] := Own.unbundle (A := [Chunk.row (Kd.int .u8) 5 w.heap.size S423 (.slice A422 (([IntKind.u8.wrap (97 + i)]).length) (([IntKind.u8.wrap (97 + i)]).length)) ([IntKind.u8.wrap (97 + i)])]) (L := [Chunk.disk w.heap.size gd5 S439 ((createD (letter i) d).1)]) (hb444.sel [0, 1] (by decide))
              clear HO448
              clear HF438 HO428 hb444
              have HO450 : Own w w443 [Chunk.row (Kd.int .u8) 5 w.heap.size S423 (.slice A422 (([IntKind.u8.wrap (97 + i)]).length) (([IntKind.u8.wrap (97 + i)]).length)) ([IntKind.u8.wrap (97 + i)]), Chunk.disk w.heap.size gd5 S439 ((createD (letter i) d).1)] := HO447
              clear HO447
              have hJ441 := hJ.create (by omega)
              refine gw_ev HF446 (want_none rfl) rfl (by decide) (op_assign rfl (HF446.ev rfl)) ?_
              intro a451 HF452; clear HF446
              refine wpList_nil ?_
              refine gw_nx (hK434 _ _ ?_)
              refine gw_seq fun K453 hK453 => ?_
              refine gw_seq fun K454 hK454 => ?_
              refine wp_region_lit ?_
              refine gw_ev HF452 (want_none rfl) rfl (by decide) (op_move rfl (HF452.ev rfl)) ?_
              intro a455 HF456; clear HF452
              refine gw_ev HF456 (want_none rfl) rfl (by decide) (op_eqi rfl (HF456.ev rfl) (ev_c _ _)) ?_
              intro a457 HF458; clear HF456
              refine wpList_nil ?_
              refine gw_nx (hK454 _ _ ?_)
              refine gw_cond HF458 rfl (fun hb459 => ?_) (fun hb459 => ?_)
              · skip
                have HF460 := HF458.subst_ (d := 57) (b := true) rfl hb459
                clear HF458
                (try simp only [Bool.and_eq_true, Bool.or_eq_true, Bool.and_eq_false_iff, Bool.or_eq_false_iff, Bool.not_and, Bool.not_or, Bool.not_not, decide_eq_true_eq, decide_eq_false_iff_not, Bool.not_eq_true', Bool.not_eq_false', Bool.not_eq_true, Bool.not_eq_false, ne_eq, Decidable.not_not, Int.not_lt, Int.not_le, not_true_eq_false, not_false_eq_true, bne_iff_ne, beq_iff_eq, bne_eq_false_iff_eq, beq_eq_false_iff_ne] at hb459)
                have hJ461 := (hJ441.resolve_right (fun h_ => by have h1_ := h_.1; rw [h1_] at hb459; exact absurd hb459 (by decide))).2
                refine wp_region_lit ?_
                refine gw_ev HF460 (want_none rfl) rfl (by decide) (op_move rfl (HF460.ev rfl)) ?_
                intro a462 HF463; clear HF460
                refine gw_ev HF463 (want_none rfl) rfl (by decide) (op_add rfl (HF463.ev rfl) (ev_c _ _) (by omega)) ?_
                intro a464 HF465; clear HF463
                refine gw_ev HF465 (want_none rfl) rfl (by decide) (op_assign rfl (HF465.ev rfl)) ?_
                intro a466 HF467; clear HF465
                refine wpList_nil ?_
                refine gw_nx (hK453 _ _ ?_)
                refine gw_seq fun K468 hK468 => ?_
                refine wp_region_lit ?_
                refine gw_ev HF467 (want_none rfl) rfl (by decide) (op_move rfl (HF467.ev rfl)) ?_
                intro a469 HF470; clear HF467
                refine gw_call HF470 (want_none rfl) rfl (by decide) (op_callL Try.func21 (by kernel_rfl) rfl rfl (ar_cons (HF470.ev rfl) ar_nil)) (down_calls w.heap.size gd5 S439 ((createD (letter i) d).1) _ (HO450.get 1 rfl)) ?_
                rintro e471 w472 ⟨rfl, hb473⟩
                refine ⟨_, rfl, fun a474 HF475 => ?_⟩
                have HO476 := HO450.after hb473
                clear HF470 HO450 hb473
                refine gw_ev HF475 (want_none rfl) rfl (by decide) (op_move rfl (HF475.ev rfl)) ?_
                intro a478 HF479; clear HF475
                refine gw_ev HF479 (want_none rfl) rfl (by decide) (op_move rfl (HF479.ev rfl)) ?_
                intro a480 HF481; clear HF479
                refine gw_ev HF481 (want_none rfl) rfl (by decide) (op_add rfl (HF481.ev rfl) (ev_c _ _) (by omega)) ?_
                intro a482 HF483; clear HF481
                refine gw_ev HF483 (want_none rfl) rfl (by decide) (op_lss rfl (HF483.ev rfl) (HF483.ev rfl)) ?_
                intro a484 HF485; clear HF483
                refine gw_ev HF485 (want_none rfl) rfl (by decide) (op_neb Try.underlying4 rfl (HF485.ev rfl) (HF485.ev rfl)) ?_
                intro a486 HF487; clear HF485
                have HF488 := HF487.lit (b := false) (by rw [hJ461.down_]; simp)
                clear HF487
                refine wpList_nil ?_
                refine gw_nx (hK468 _ _ ?_)
                refine gw_cond HF488 rfl (fun hb489 => ?_) (fun hb489 => ?_)
                skip
                · cases hb489
                refine wp_skip ?_
                refine gw_blk ?_
                refine gw_nx (hK87 _ _ ?_)
                refine wp_region_lit ?_
                refine gw_ev HF488 (want_none rfl) rfl (by decide) (op_move rfl (HF488.ev rfl)) ?_
                intro a490 HF491; clear HF488
                refine gw_ev HF491 (want_none rfl) rfl (by decide) (op_add rfl (HF491.ev rfl) (ev_c _ _) (by omega)) ?_
                intro a492 HF493; clear HF491
                refine gw_ev HF493 (want_none rfl) rfl (by decide) (op_assign rfl (HF493.ev rfl)) ?_
                intro a494 HF495; clear HF493
                refine wpList_nil ?_
                refine gw_nx ⟨_, ?_, i + 1, ((createD (letter i) d).1), S439, (done + 1), (HF495.pick (t := 7) rfl (HF495.pick (t := 6) rfl (HF495.pick (t := 1) rfl (HF495.pick (t := 5) rfl (HF495.pick (t := 0) rfl HF495.nil))))), HO476.sel [1] (by decide), ?_, ?_, ?_, ?_, rfl⟩
                · rw [hm78]; omega
                · omega
                · exact hJ461
                · omega
                · exact (kept_create hJ.wf.fuse.1).most.trans hmost
              · skip
                have HF496 := HF458.subst_ (d := 57) (b := false) rfl hb459
                clear HF458
                (try simp only [Bool.and_eq_true, Bool.or_eq_true, Bool.and_eq_false_iff, Bool.or_eq_false_iff, Bool.not_and, Bool.not_or, Bool.not_not, decide_eq_true_eq, decide_eq_false_iff_not, Bool.not_eq_true', Bool.not_eq_false', Bool.not_eq_true, Bool.not_eq_false, ne_eq, Decidable.not_not, Int.not_lt, Int.not_le, not_true_eq_false, not_false_eq_true, bne_iff_ne, beq_iff_eq, bne_eq_false_iff_eq, beq_eq_false_iff_ne] at hb459)
                have hJ497 := (hJ441.resolve_left (fun h_ => hb459 h_.1)).2
                refine gw_seq fun K498 hK498 => ?_
                refine wp_region_lit ?_
                refine gw_ev HF496 (want_none rfl) rfl (by decide) (op_move rfl (HF496.ev rfl)) ?_
                intro a499 HF500; clear HF496
                refine gw_ev HF500 (want_none rfl) rfl (by decide) (op_nei rfl (HF500.ev rfl) (ev_c _ _)) ?_
                intro a501 HF502; clear HF500
                have HF503 := HF502.lit (b := false) (by rcases hJ441 with h_ | h_; (· exact absurd h_.1 (by assumption)); (· rw [h_.1]; decide))
                clear HF502
                refine wpList_nil ?_
                refine gw_nx (hK498 _ _ ?_)
                refine gw_cond HF503 rfl (fun hb504 => ?_) (fun hb504 => ?_)
                skip
                · cases hb504
                refine wp_skip ?_
                refine gw_nx (hK453 _ _ ?_)
                refine gw_seq fun K505 hK505 => ?_
                refine wp_region_lit ?_
                refine gw_ev HF503 (want_none rfl) rfl (by decide) (op_move rfl (HF503.ev rfl)) ?_
                intro a506 HF507; clear HF503
                refine gw_call HF507 (want_none rfl) rfl (by decide) (op_callL Try.func21 (by kernel_rfl) rfl rfl (ar_cons (HF507.ev rfl) ar_nil)) (down_calls w.heap.size gd5 S439 ((createD (letter i) d).1) _ (HO450.get 1 rfl)) ?_
                rintro e508 w509 ⟨rfl, hb510⟩
                refine ⟨_, rfl, fun a511 HF512 => ?_⟩
                have HO513 := HO450.after hb510
                clear HF507 HO450 hb510
                refine gw_ev HF512 (want_none rfl) rfl (by decide) (op_move rfl (HF512.ev rfl)) ?_
                intro a515 HF516; clear HF512
                refine gw_ev HF516 (want_none rfl) rfl (by decide) (op_move rfl (HF516.ev rfl)) ?_
                intro a517 HF518; clear HF516
                refine gw_ev HF518 (want_none rfl) rfl (by decide) (op_add rfl (HF518.ev rfl) (ev_c _ _) (by omega)) ?_
                intro a519 HF520; clear HF518
                refine gw_ev HF520 (want_none rfl) rfl (by decide) (op_lss rfl (HF520.ev rfl) (HF520.ev rfl)) ?_
                intro a521 HF522; clear HF520
                refine gw_ev HF522 (want_none rfl) rfl (by decide) (op_neb Try.underlying4 rfl (HF522.ev rfl) (HF522.ev rfl)) ?_
                intro a523 HF524; clear HF522
                have HF525 := HF524.lit (b := false) (by rw [hJ497.down_]; simp)
                clear HF524
                refine wpList_nil ?_
                refine gw_nx (hK505 _ _ ?_)
                refine gw_cond HF525 rfl (fun hb526 => ?_) (fun hb526 => ?_)
                skip
                · cases hb526
                refine wp_skip ?_
                refine gw_blk ?_
                refine gw_nx (hK87 _ _ ?_)
                refine wp_region_lit ?_
                refine gw_ev HF525 (want_none rfl) rfl (by decide) (op_move rfl (HF525.ev rfl)) ?_
                intro a527 HF528; clear HF525
                refine gw_ev HF528 (want_none rfl) rfl (by decide) (op_add rfl (HF528.ev rfl) (ev_c _ _) (by omega)) ?_
                intro a529 HF530; clear HF528
                refine gw_ev HF530 (want_none rfl) rfl (by decide) (op_assign rfl (HF530.ev rfl)) ?_
                intro a531 HF532; clear HF530
                refine wpList_nil ?_
                refine gw_nx ⟨_, ?_, i + 1, ((createD (letter i) d).1), S439, done, (HF532.pick (t := 7) rfl (HF532.pick (t := 6) rfl (HF532.pick (t := 1) rfl (HF532.pick (t := 5) rfl (HF532.pick (t := 0) rfl HF532.nil))))), HO513.sel [1] (by decide), ?_, ?_, ?_, ?_, rfl⟩
                · rw [hm78]; omega
                · omega
                · exact hJ497
                · omega
                · exact (kept_create hJ.wf.fuse.1).most.trans hmost
            · skip
              have HF533 := HF399.subst_ (d := 44) (b := false) rfl hb400
              clear HF399
              (try simp only [Bool.and_eq_true, Bool.or_eq_true, Bool.and_eq_false_iff, Bool.or_eq_false_iff, Bool.not_and, Bool.not_or, Bool.not_not, decide_eq_true_eq, decide_eq_false_iff_not, Bool.not_eq_true', Bool.not_eq_false', Bool.not_eq_true, Bool.not_eq_false, ne_eq, Decidable.not_not, Int.not_lt, Int.not_le, not_true_eq_false, not_false_eq_true, bne_iff_ne, beq_iff_eq, bne_eq_false_iff_eq, beq_eq_false_iff_ne] at hb400)
              refine wp_skip ?_
              refine gw_blk ?_
              refine gw_nx (hK88 _ _ ?_)
              refine gw_seq fun K534 hK534 => ?_
              refine wp_region_lit ?_
              refine gw_ev HF533 (want_none rfl) rfl (by decide) (op_move rfl (HF533.ev rfl)) ?_
              intro a535 HF536; clear HF533
              refine gw_ev HF536 (want_none rfl) rfl (by decide) (op_add rfl (ev_c _ _) (HF536.ev rfl) (by omega)) ?_
              intro a537 HF538; clear HF536
              refine gw_ev HF538 (want_none rfl) rfl (by decide) (op_conv_int Try.underlying3 Try.underlying5 rfl (HF538.ev rfl)) ?_
              intro a539 HF540; clear HF538
              refine gw_lit (enc := Value.int .u8) (fun _ => rfl) (xs := [IntKind.u8.wrap (97 + i)]) (e := 5) HF540 HO77 (want_none rfl) rfl (by decide) (op_bslice (by kernel_rfl) rfl (pt_cons (HF540.ev rfl) pt_nil)) (by simp) ?_
              intro A541 S542 a543 w544 HF545 HO546; clear HF540 HO77
              have HO547 : Own w w544 [Chunk.row (Kd.int .u8) 5 w.heap.size S542 (.slice A541 (([IntKind.u8.wrap (97 + i)]).length) (([IntKind.u8.wrap (97 + i)]).length)) ([IntKind.u8.wrap (97 + i)]), Chunk.disk w.heap.size gd5 Sd d] := HO546
              clear HO546
              refine gw_ev HF545 (want_none rfl) rfl (by decide) (op_conv_str Try.underlying28 Try.underlying5 Try.underlying9 (Kd.R_reads' (HO547.get 0 rfl)).2.2 rfl (HF545.ev rfl)) ?_
              intro a548 HF549; clear HF545
              have HF550 := HF549.conv (v' := .string (letter i)) (rfl)
              clear HF549
              refine gw_ev HF550 (want_none rfl) rfl (by decide) (op_assign rfl (HF550.ev rfl)) ?_
              intro a551 HF552; clear HF550
              refine wpList_nil ?_
              refine gw_nx (hK534 _ _ ?_)
              refine gw_seq fun K553 hK553 => ?_
              refine wp_region_lit ?_
              refine gw_ev HF552 (want_none rfl) rfl (by decide) (op_move rfl (HF552.ev rfl)) ?_
              intro a554 HF555; clear HF552
              refine gw_ev HF555 (want_none rfl) rfl (by decide) (op_move rfl (HF555.ev rfl)) ?_
              intro a556 HF557; clear HF555
              have HO567 : Own w _ [(Chunk.all [Chunk.row (Kd.int .u8) 5 w.heap.size S542 (.slice A541 (([IntKind.u8.wrap (97 + i)]).length) (([IntKind.u8.wrap (97 + i)]).length)) ([IntKind.u8.wrap (97 + i)])]), Chunk.disk w.heap.size gd5 Sd d] := Own.bundle (A := [Chunk.row (Kd.int .u8) 5 w.heap.size S542 (.slice A541 (([IntKind.u8.wrap (97 + i)]).length) (([IntKind.u8.wrap (97 + i)]).length)) ([IntKind.u8.wrap (97 + i)])]) (L := [Chunk.disk w.heap.size gd5 Sd d]) (HO547.sel [0, 1] (by decide))
              refine gw_call HF557 (want_none rfl) rfl (by decide) (op_callL Try.func13 (by kernel_rfl) rfl rfl (ar_cons (HF557.ev rfl) (ar_cons (HF557.ev rfl) ar_nil))) (create_calls w _ (Chunk.all [Chunk.row (Kd.int .u8) 5 w.heap.size S542 (.slice A541 (([IntKind.u8.wrap (97 + i)]).length) (([IntKind.u8.wrap (97 + i)]).length)) ([IntKind.u8.wrap (97 + i)])]) gd5 Sd d (letter i) hJ.wf (letter_sz (by omega)) (by have h_ := hJ.len; omega) (by exact HO567)) ?_
              rintro e561 w562 ⟨rfl, S558, hb563⟩
              refine ⟨_, rfl, fun a564 HF565 => ?_⟩
              have HO566 : Own w w562 [Chunk.row (Kd.int .u8) 5 w.heap.size S542 (.slice A541 (([IntKind.u8.wrap (97 + i)]).length) (([IntKind.u8.wrap (97 + i)]).length)) ([IntKind.u8.wrap (97 + i)]), Chunk.disk w.heap.size gd5 S558 ((createD (letter i) d).1)] := Own.unbundle (A := [Chunk.row (Kd.int .u8) 5 w.heap.size S542 (.slice A541 (([IntKind.u8.wrap (97 + i)]).length) (([IntKind.u8.wrap (97 + i)]).length)) ([IntKind.u8.wrap (97 + i)])]) (L := [Chunk.disk w.heap.size gd5 S558 ((createD (letter i) d).1)]) (hb563.sel [0, 1] (by decide))
              clear HO567
              clear HF557 HO547 hb563
              have HO569 : Own w w562 [Chunk.row (Kd.int .u8) 5 w.heap.size S542 (.slice A541 (([IntKind.u8.wrap (97 + i)]).length) (([IntKind.u8.wrap (97 + i)]).length)) ([IntKind.u8.wrap (97 + i)]), Chunk.disk w.heap.size gd5 S558 ((createD (letter i) d).1)] := HO566
              clear HO566
              have hJ560 := hJ.create (by omega)
              refine gw_ev HF565 (want_none rfl) rfl (by decide) (op_assign rfl (HF565.ev rfl)) ?_
              intro a570 HF571; clear HF565
              refine wpList_nil ?_
              refine gw_nx (hK553 _ _ ?_)
              refine gw_seq fun K572 hK572 => ?_
              refine gw_seq fun K573 hK573 => ?_
              refine wp_region_lit ?_
              refine gw_ev HF571 (want_none rfl) rfl (by decide) (op_move rfl (HF571.ev rfl)) ?_
              intro a574 HF575; clear HF571
              refine gw_ev HF575 (want_none rfl) rfl (by decide) (op_eqi rfl (HF575.ev rfl) (ev_c _ _)) ?_
              intro a576 HF577; clear HF575
              refine wpList_nil ?_
              refine gw_nx (hK573 _ _ ?_)
              refine gw_cond HF577 rfl (fun hb578 => ?_) (fun hb578 => ?_)
              · skip
                have HF579 := HF577.subst_ (d := 57) (b := true) rfl hb578
                clear HF577
                (try simp only [Bool.and_eq_true, Bool.or_eq_true, Bool.and_eq_false_iff, Bool.or_eq_false_iff, Bool.not_and, Bool.not_or, Bool.not_not, decide_eq_true_eq, decide_eq_false_iff_not, Bool.not_eq_true', Bool.not_eq_false', Bool.not_eq_true, Bool.not_eq_false, ne_eq, Decidable.not_not, Int.not_lt, Int.not_le, not_true_eq_false, not_false_eq_true, bne_iff_ne, beq_iff_eq, bne_eq_false_iff_eq, beq_eq_false_iff_ne] at hb578)
                have hJ580 := (hJ560.resolve_right (fun h_ => by have h1_ := h_.1; rw [h1_] at hb578; exact absurd hb578 (by decide))).2
                refine wp_region_lit ?_
                refine gw_ev HF579 (want_none rfl) rfl (by decide) (op_move rfl (HF579.ev rfl)) ?_
                intro a581 HF582; clear HF579
                refine gw_ev HF582 (want_none rfl) rfl (by decide) (op_add rfl (HF582.ev rfl) (ev_c _ _) (by omega)) ?_
                intro a583 HF584; clear HF582
                refine gw_ev HF584 (want_none rfl) rfl (by decide) (op_assign rfl (HF584.ev rfl)) ?_
                intro a585 HF586; clear HF584
                refine wpList_nil ?_
                refine gw_nx (hK572 _ _ ?_)
                refine gw_seq fun K587 hK587 => ?_
                refine wp_region_lit ?_
                refine gw_ev HF586 (want_none rfl) rfl (by decide) (op_move rfl (HF586.ev rfl)) ?_
                intro a588 HF589; clear HF586
                refine gw_call HF589 (want_none rfl) rfl (by decide) (op_callL Try.func21 (by kernel_rfl) rfl rfl (ar_cons (HF589.ev rfl) ar_nil)) (down_calls w.heap.size gd5 S558 ((createD (letter i) d).1) _ (HO569.get 1 rfl)) ?_
                rintro e590 w591 ⟨rfl, hb592⟩
                refine ⟨_, rfl, fun a593 HF594 => ?_⟩
                have HO595 := HO569.after hb592
                clear HF589 HO569 hb592
                refine gw_ev HF594 (want_none rfl) rfl (by decide) (op_move rfl (HF594.ev rfl)) ?_
                intro a597 HF598; clear HF594
                refine gw_ev HF598 (want_none rfl) rfl (by decide) (op_move rfl (HF598.ev rfl)) ?_
                intro a599 HF600; clear HF598
                refine gw_ev HF600 (want_none rfl) rfl (by decide) (op_add rfl (HF600.ev rfl) (ev_c _ _) (by omega)) ?_
                intro a601 HF602; clear HF600
                refine gw_ev HF602 (want_none rfl) rfl (by decide) (op_lss rfl (HF602.ev rfl) (HF602.ev rfl)) ?_
                intro a603 HF604; clear HF602
                refine gw_ev HF604 (want_none rfl) rfl (by decide) (op_neb Try.underlying4 rfl (HF604.ev rfl) (HF604.ev rfl)) ?_
                intro a605 HF606; clear HF604
                have HF607 := HF606.lit (b := false) (by rw [hJ580.down_]; simp)
                clear HF606
                refine wpList_nil ?_
                refine gw_nx (hK587 _ _ ?_)
                refine gw_cond HF607 rfl (fun hb608 => ?_) (fun hb608 => ?_)
                skip
                · cases hb608
                refine wp_skip ?_
                refine gw_blk ?_
                refine gw_nx (hK87 _ _ ?_)
                refine wp_region_lit ?_
                refine gw_ev HF607 (want_none rfl) rfl (by decide) (op_move rfl (HF607.ev rfl)) ?_
                intro a609 HF610; clear HF607
                refine gw_ev HF610 (want_none rfl) rfl (by decide) (op_add rfl (HF610.ev rfl) (ev_c _ _) (by omega)) ?_
                intro a611 HF612; clear HF610
                refine gw_ev HF612 (want_none rfl) rfl (by decide) (op_assign rfl (HF612.ev rfl)) ?_
                intro a613 HF614; clear HF612
                refine wpList_nil ?_
                refine gw_nx ⟨_, ?_, i + 1, ((createD (letter i) d).1), S558, (done + 1), (HF614.pick (t := 7) rfl (HF614.pick (t := 6) rfl (HF614.pick (t := 1) rfl (HF614.pick (t := 5) rfl (HF614.pick (t := 0) rfl HF614.nil))))), HO595.sel [1] (by decide), ?_, ?_, ?_, ?_, rfl⟩
                · rw [hm78]; omega
                · omega
                · exact hJ580
                · omega
                · exact (kept_create hJ.wf.fuse.1).most.trans hmost
              · skip
                have HF615 := HF577.subst_ (d := 57) (b := false) rfl hb578
                clear HF577
                (try simp only [Bool.and_eq_true, Bool.or_eq_true, Bool.and_eq_false_iff, Bool.or_eq_false_iff, Bool.not_and, Bool.not_or, Bool.not_not, decide_eq_true_eq, decide_eq_false_iff_not, Bool.not_eq_true', Bool.not_eq_false', Bool.not_eq_true, Bool.not_eq_false, ne_eq, Decidable.not_not, Int.not_lt, Int.not_le, not_true_eq_false, not_false_eq_true, bne_iff_ne, beq_iff_eq, bne_eq_false_iff_eq, beq_eq_false_iff_ne] at hb578)
                have hJ616 := (hJ560.resolve_left (fun h_ => hb578 h_.1)).2
                refine gw_seq fun K617 hK617 => ?_
                refine wp_region_lit ?_
                refine gw_ev HF615 (want_none rfl) rfl (by decide) (op_move rfl (HF615.ev rfl)) ?_
                intro a618 HF619; clear HF615
                refine gw_ev HF619 (want_none rfl) rfl (by decide) (op_nei rfl (HF619.ev rfl) (ev_c _ _)) ?_
                intro a620 HF621; clear HF619
                have HF622 := HF621.lit (b := false) (by rcases hJ560 with h_ | h_; (· exact absurd h_.1 (by assumption)); (· rw [h_.1]; decide))
                clear HF621
                refine wpList_nil ?_
                refine gw_nx (hK617 _ _ ?_)
                refine gw_cond HF622 rfl (fun hb623 => ?_) (fun hb623 => ?_)
                skip
                · cases hb623
                refine wp_skip ?_
                refine gw_nx (hK572 _ _ ?_)
                refine gw_seq fun K624 hK624 => ?_
                refine wp_region_lit ?_
                refine gw_ev HF622 (want_none rfl) rfl (by decide) (op_move rfl (HF622.ev rfl)) ?_
                intro a625 HF626; clear HF622
                refine gw_call HF626 (want_none rfl) rfl (by decide) (op_callL Try.func21 (by kernel_rfl) rfl rfl (ar_cons (HF626.ev rfl) ar_nil)) (down_calls w.heap.size gd5 S558 ((createD (letter i) d).1) _ (HO569.get 1 rfl)) ?_
                rintro e627 w628 ⟨rfl, hb629⟩
                refine ⟨_, rfl, fun a630 HF631 => ?_⟩
                have HO632 := HO569.after hb629
                clear HF626 HO569 hb629
                refine gw_ev HF631 (want_none rfl) rfl (by decide) (op_move rfl (HF631.ev rfl)) ?_
                intro a634 HF635; clear HF631
                refine gw_ev HF635 (want_none rfl) rfl (by decide) (op_move rfl (HF635.ev rfl)) ?_
                intro a636 HF637; clear HF635
                refine gw_ev HF637 (want_none rfl) rfl (by decide) (op_add rfl (HF637.ev rfl) (ev_c _ _) (by omega)) ?_
                intro a638 HF639; clear HF637
                refine gw_ev HF639 (want_none rfl) rfl (by decide) (op_lss rfl (HF639.ev rfl) (HF639.ev rfl)) ?_
                intro a640 HF641; clear HF639
                refine gw_ev HF641 (want_none rfl) rfl (by decide) (op_neb Try.underlying4 rfl (HF641.ev rfl) (HF641.ev rfl)) ?_
                intro a642 HF643; clear HF641
                have HF644 := HF643.lit (b := false) (by rw [hJ616.down_]; simp)
                clear HF643
                refine wpList_nil ?_
                refine gw_nx (hK624 _ _ ?_)
                refine gw_cond HF644 rfl (fun hb645 => ?_) (fun hb645 => ?_)
                skip
                · cases hb645
                refine wp_skip ?_
                refine gw_blk ?_
                refine gw_nx (hK87 _ _ ?_)
                refine wp_region_lit ?_
                refine gw_ev HF644 (want_none rfl) rfl (by decide) (op_move rfl (HF644.ev rfl)) ?_
                intro a646 HF647; clear HF644
                refine gw_ev HF647 (want_none rfl) rfl (by decide) (op_add rfl (HF647.ev rfl) (ev_c _ _) (by omega)) ?_
                intro a648 HF649; clear HF647
                refine gw_ev HF649 (want_none rfl) rfl (by decide) (op_assign rfl (HF649.ev rfl)) ?_
                intro a650 HF651; clear HF649
                refine wpList_nil ?_
                refine gw_nx ⟨_, ?_, i + 1, ((createD (letter i) d).1), S558, done, (HF651.pick (t := 7) rfl (HF651.pick (t := 6) rfl (HF651.pick (t := 1) rfl (HF651.pick (t := 5) rfl (HF651.pick (t := 0) rfl HF651.nil))))), HO632.sel [1] (by decide), ?_, ?_, ?_, ?_, rfl⟩
                · rw [hm78]; omega
                · omega
                · exact hJ616
                · omega
                · exact (kept_create hJ.wf.fuse.1).most.trans hmost
      · skip
        have HF652 := HF97.subst_ (d := 30) (b := false) rfl hb98
        clear HF97
        (try simp only [Bool.and_eq_true, Bool.or_eq_true, Bool.and_eq_false_iff, Bool.or_eq_false_iff, Bool.not_and, Bool.not_or, Bool.not_not, decide_eq_true_eq, decide_eq_false_iff_not, Bool.not_eq_true', Bool.not_eq_false', Bool.not_eq_true, Bool.not_eq_false, ne_eq, Decidable.not_not, Int.not_lt, Int.not_le, not_true_eq_false, not_false_eq_true, bne_iff_ne, beq_iff_eq, bne_eq_false_iff_eq, beq_eq_false_iff_ne] at hb98)
        refine wp_skip ?_
        refine gw_nx (hK88 _ _ ?_)
        refine gw_seq fun K653 hK653 => ?_
        refine wp_region_lit ?_
        refine gw_ev HF652 (want_none rfl) rfl (by decide) (op_move rfl (HF652.ev rfl)) ?_
        intro a654 HF655; clear HF652
        refine gw_ev HF655 (want_none rfl) rfl (by decide) (op_add rfl (ev_c _ _) (HF655.ev rfl) (by omega)) ?_
        intro a656 HF657; clear HF655
        refine gw_ev HF657 (want_none rfl) rfl (by decide) (op_conv_int Try.underlying3 Try.underlying5 rfl (HF657.ev rfl)) ?_
        intro a658 HF659; clear HF657
        refine gw_lit (enc := Value.int .u8) (fun _ => rfl) (xs := [IntKind.u8.wrap (97 + i)]) (e := 5) HF659 HO77 (want_none rfl) rfl (by decide) (op_bslice (by kernel_rfl) rfl (pt_cons (HF659.ev rfl) pt_nil)) (by simp) ?_
        intro A660 S661 a662 w663 HF664 HO665; clear HF659 HO77
        have HO666 : Own w w663 [Chunk.row (Kd.int .u8) 5 w.heap.size S661 (.slice A660 (([IntKind.u8.wrap (97 + i)]).length) (([IntKind.u8.wrap (97 + i)]).length)) ([IntKind.u8.wrap (97 + i)]), Chunk.disk w.heap.size gd5 Sd d] := HO665
        clear HO665
        refine gw_ev HF664 (want_none rfl) rfl (by decide) (op_conv_str Try.underlying28 Try.underlying5 Try.underlying9 (Kd.R_reads' (HO666.get 0 rfl)).2.2 rfl (HF664.ev rfl)) ?_
        intro a667 HF668; clear HF664
        have HF669 := HF668.conv (v' := .string (letter i)) (rfl)
        clear HF668
        refine gw_ev HF669 (want_none rfl) rfl (by decide) (op_assign rfl (HF669.ev rfl)) ?_
        intro a670 HF671; clear HF669
        refine wpList_nil ?_
        refine gw_nx (hK653 _ _ ?_)
        refine gw_seq fun K672 hK672 => ?_
        refine wp_region_lit ?_
        refine gw_ev HF671 (want_none rfl) rfl (by decide) (op_move rfl (HF671.ev rfl)) ?_
        intro a673 HF674; clear HF671
        refine gw_ev HF674 (want_none rfl) rfl (by decide) (op_move rfl (HF674.ev rfl)) ?_
        intro a675 HF676; clear HF674
        have HO686 : Own w _ [(Chunk.all [Chunk.row (Kd.int .u8) 5 w.heap.size S661 (.slice A660 (([IntKind.u8.wrap (97 + i)]).length) (([IntKind.u8.wrap (97 + i)]).length)) ([IntKind.u8.wrap (97 + i)])]), Chunk.disk w.heap.size gd5 Sd d] := Own.bundle (A := [Chunk.row (Kd.int .u8) 5 w.heap.size S661 (.slice A660 (([IntKind.u8.wrap (97 + i)]).length) (([IntKind.u8.wrap (97 + i)]).length)) ([IntKind.u8.wrap (97 + i)])]) (L := [Chunk.disk w.heap.size gd5 Sd d]) (HO666.sel [0, 1] (by decide))
        refine gw_call HF676 (want_none rfl) rfl (by decide) (op_callL Try.func13 (by kernel_rfl) rfl rfl (ar_cons (HF676.ev rfl) (ar_cons (HF676.ev rfl) ar_nil))) (create_calls w _ (Chunk.all [Chunk.row (Kd.int .u8) 5 w.heap.size S661 (.slice A660 (([IntKind.u8.wrap (97 + i)]).length) (([IntKind.u8.wrap (97 + i)]).length)) ([IntKind.u8.wrap (97 + i)])]) gd5 Sd d (letter i) hJ.wf (letter_sz (by omega)) (by have h_ := hJ.len; omega) (by exact HO686)) ?_
        rintro e680 w681 ⟨rfl, S677, hb682⟩
        refine ⟨_, rfl, fun a683 HF684 => ?_⟩
        have HO685 : Own w w681 [Chunk.row (Kd.int .u8) 5 w.heap.size S661 (.slice A660 (([IntKind.u8.wrap (97 + i)]).length) (([IntKind.u8.wrap (97 + i)]).length)) ([IntKind.u8.wrap (97 + i)]), Chunk.disk w.heap.size gd5 S677 ((createD (letter i) d).1)] := Own.unbundle (A := [Chunk.row (Kd.int .u8) 5 w.heap.size S661 (.slice A660 (([IntKind.u8.wrap (97 + i)]).length) (([IntKind.u8.wrap (97 + i)]).length)) ([IntKind.u8.wrap (97 + i)])]) (L := [Chunk.disk w.heap.size gd5 S677 ((createD (letter i) d).1)]) (hb682.sel [0, 1] (by decide))
        clear HO686
        clear HF676 HO666 hb682
        have HO688 : Own w w681 [Chunk.row (Kd.int .u8) 5 w.heap.size S661 (.slice A660 (([IntKind.u8.wrap (97 + i)]).length) (([IntKind.u8.wrap (97 + i)]).length)) ([IntKind.u8.wrap (97 + i)]), Chunk.disk w.heap.size gd5 S677 ((createD (letter i) d).1)] := HO685
        clear HO685
        have hJ679 := hJ.create (by omega)
        refine gw_ev HF684 (want_none rfl) rfl (by decide) (op_assign rfl (HF684.ev rfl)) ?_
        intro a689 HF690; clear HF684
        refine wpList_nil ?_
        refine gw_nx (hK672 _ _ ?_)
        refine gw_seq fun K691 hK691 => ?_
        refine gw_seq fun K692 hK692 => ?_
        refine wp_region_lit ?_
        refine gw_ev HF690 (want_none rfl) rfl (by decide) (op_move rfl (HF690.ev rfl)) ?_
        intro a693 HF694; clear HF690
        refine gw_ev HF694 (want_none rfl) rfl (by decide) (op_eqi rfl (HF694.ev rfl) (ev_c _ _)) ?_
        intro a695 HF696; clear HF694
        refine wpList_nil ?_
        refine gw_nx (hK692 _ _ ?_)
        refine gw_cond HF696 rfl (fun hb697 => ?_) (fun hb697 => ?_)
        · skip
          have HF698 := HF696.subst_ (d := 57) (b := true) rfl hb697
          clear HF696
          (try simp only [Bool.and_eq_true, Bool.or_eq_true, Bool.and_eq_false_iff, Bool.or_eq_false_iff, Bool.not_and, Bool.not_or, Bool.not_not, decide_eq_true_eq, decide_eq_false_iff_not, Bool.not_eq_true', Bool.not_eq_false', Bool.not_eq_true, Bool.not_eq_false, ne_eq, Decidable.not_not, Int.not_lt, Int.not_le, not_true_eq_false, not_false_eq_true, bne_iff_ne, beq_iff_eq, bne_eq_false_iff_eq, beq_eq_false_iff_ne] at hb697)
          have hJ699 := (hJ679.resolve_right (fun h_ => by have h1_ := h_.1; rw [h1_] at hb697; exact absurd hb697 (by decide))).2
          refine wp_region_lit ?_
          refine gw_ev HF698 (want_none rfl) rfl (by decide) (op_move rfl (HF698.ev rfl)) ?_
          intro a700 HF701; clear HF698
          refine gw_ev HF701 (want_none rfl) rfl (by decide) (op_add rfl (HF701.ev rfl) (ev_c _ _) (by omega)) ?_
          intro a702 HF703; clear HF701
          refine gw_ev HF703 (want_none rfl) rfl (by decide) (op_assign rfl (HF703.ev rfl)) ?_
          intro a704 HF705; clear HF703
          refine wpList_nil ?_
          refine gw_nx (hK691 _ _ ?_)
          refine gw_seq fun K706 hK706 => ?_
          refine wp_region_lit ?_
          refine gw_ev HF705 (want_none rfl) rfl (by decide) (op_move rfl (HF705.ev rfl)) ?_
          intro a707 HF708; clear HF705
          refine gw_call HF708 (want_none rfl) rfl (by decide) (op_callL Try.func21 (by kernel_rfl) rfl rfl (ar_cons (HF708.ev rfl) ar_nil)) (down_calls w.heap.size gd5 S677 ((createD (letter i) d).1) _ (HO688.get 1 rfl)) ?_
          rintro e709 w710 ⟨rfl, hb711⟩
          refine ⟨_, rfl, fun a712 HF713 => ?_⟩
          have HO714 := HO688.after hb711
          clear HF708 HO688 hb711
          refine gw_ev HF713 (want_none rfl) rfl (by decide) (op_move rfl (HF713.ev rfl)) ?_
          intro a716 HF717; clear HF713
          refine gw_ev HF717 (want_none rfl) rfl (by decide) (op_move rfl (HF717.ev rfl)) ?_
          intro a718 HF719; clear HF717
          refine gw_ev HF719 (want_none rfl) rfl (by decide) (op_add rfl (HF719.ev rfl) (ev_c _ _) (by omega)) ?_
          intro a720 HF721; clear HF719
          refine gw_ev HF721 (want_none rfl) rfl (by decide) (op_lss rfl (HF721.ev rfl) (HF721.ev rfl)) ?_
          intro a722 HF723; clear HF721
          refine gw_ev HF723 (want_none rfl) rfl (by decide) (op_neb Try.underlying4 rfl (HF723.ev rfl) (HF723.ev rfl)) ?_
          intro a724 HF725; clear HF723
          have HF726 := HF725.lit (b := false) (by rw [hJ699.down_]; simp)
          clear HF725
          refine wpList_nil ?_
          refine gw_nx (hK706 _ _ ?_)
          refine gw_cond HF726 rfl (fun hb727 => ?_) (fun hb727 => ?_)
          skip
          · cases hb727
          refine wp_skip ?_
          refine gw_blk ?_
          refine gw_nx (hK87 _ _ ?_)
          refine wp_region_lit ?_
          refine gw_ev HF726 (want_none rfl) rfl (by decide) (op_move rfl (HF726.ev rfl)) ?_
          intro a728 HF729; clear HF726
          refine gw_ev HF729 (want_none rfl) rfl (by decide) (op_add rfl (HF729.ev rfl) (ev_c _ _) (by omega)) ?_
          intro a730 HF731; clear HF729
          refine gw_ev HF731 (want_none rfl) rfl (by decide) (op_assign rfl (HF731.ev rfl)) ?_
          intro a732 HF733; clear HF731
          refine wpList_nil ?_
          refine gw_nx ⟨_, ?_, i + 1, ((createD (letter i) d).1), S677, (done + 1), (HF733.pick (t := 7) rfl (HF733.pick (t := 6) rfl (HF733.pick (t := 1) rfl (HF733.pick (t := 5) rfl (HF733.pick (t := 0) rfl HF733.nil))))), HO714.sel [1] (by decide), ?_, ?_, ?_, ?_, rfl⟩
          · rw [hm78]; omega
          · omega
          · exact hJ699
          · omega
          · exact (kept_create hJ.wf.fuse.1).most.trans hmost
        · skip
          have HF734 := HF696.subst_ (d := 57) (b := false) rfl hb697
          clear HF696
          (try simp only [Bool.and_eq_true, Bool.or_eq_true, Bool.and_eq_false_iff, Bool.or_eq_false_iff, Bool.not_and, Bool.not_or, Bool.not_not, decide_eq_true_eq, decide_eq_false_iff_not, Bool.not_eq_true', Bool.not_eq_false', Bool.not_eq_true, Bool.not_eq_false, ne_eq, Decidable.not_not, Int.not_lt, Int.not_le, not_true_eq_false, not_false_eq_true, bne_iff_ne, beq_iff_eq, bne_eq_false_iff_eq, beq_eq_false_iff_ne] at hb697)
          have hJ735 := (hJ679.resolve_left (fun h_ => hb697 h_.1)).2
          refine gw_seq fun K736 hK736 => ?_
          refine wp_region_lit ?_
          refine gw_ev HF734 (want_none rfl) rfl (by decide) (op_move rfl (HF734.ev rfl)) ?_
          intro a737 HF738; clear HF734
          refine gw_ev HF738 (want_none rfl) rfl (by decide) (op_nei rfl (HF738.ev rfl) (ev_c _ _)) ?_
          intro a739 HF740; clear HF738
          have HF741 := HF740.lit (b := false) (by rcases hJ679 with h_ | h_; (· exact absurd h_.1 (by assumption)); (· rw [h_.1]; decide))
          clear HF740
          refine wpList_nil ?_
          refine gw_nx (hK736 _ _ ?_)
          refine gw_cond HF741 rfl (fun hb742 => ?_) (fun hb742 => ?_)
          skip
          · cases hb742
          refine wp_skip ?_
          refine gw_nx (hK691 _ _ ?_)
          refine gw_seq fun K743 hK743 => ?_
          refine wp_region_lit ?_
          refine gw_ev HF741 (want_none rfl) rfl (by decide) (op_move rfl (HF741.ev rfl)) ?_
          intro a744 HF745; clear HF741
          refine gw_call HF745 (want_none rfl) rfl (by decide) (op_callL Try.func21 (by kernel_rfl) rfl rfl (ar_cons (HF745.ev rfl) ar_nil)) (down_calls w.heap.size gd5 S677 ((createD (letter i) d).1) _ (HO688.get 1 rfl)) ?_
          rintro e746 w747 ⟨rfl, hb748⟩
          refine ⟨_, rfl, fun a749 HF750 => ?_⟩
          have HO751 := HO688.after hb748
          clear HF745 HO688 hb748
          refine gw_ev HF750 (want_none rfl) rfl (by decide) (op_move rfl (HF750.ev rfl)) ?_
          intro a753 HF754; clear HF750
          refine gw_ev HF754 (want_none rfl) rfl (by decide) (op_move rfl (HF754.ev rfl)) ?_
          intro a755 HF756; clear HF754
          refine gw_ev HF756 (want_none rfl) rfl (by decide) (op_add rfl (HF756.ev rfl) (ev_c _ _) (by omega)) ?_
          intro a757 HF758; clear HF756
          refine gw_ev HF758 (want_none rfl) rfl (by decide) (op_lss rfl (HF758.ev rfl) (HF758.ev rfl)) ?_
          intro a759 HF760; clear HF758
          refine gw_ev HF760 (want_none rfl) rfl (by decide) (op_neb Try.underlying4 rfl (HF760.ev rfl) (HF760.ev rfl)) ?_
          intro a761 HF762; clear HF760
          have HF763 := HF762.lit (b := false) (by rw [hJ735.down_]; simp)
          clear HF762
          refine wpList_nil ?_
          refine gw_nx (hK743 _ _ ?_)
          refine gw_cond HF763 rfl (fun hb764 => ?_) (fun hb764 => ?_)
          skip
          · cases hb764
          refine wp_skip ?_
          refine gw_blk ?_
          refine gw_nx (hK87 _ _ ?_)
          refine wp_region_lit ?_
          refine gw_ev HF763 (want_none rfl) rfl (by decide) (op_move rfl (HF763.ev rfl)) ?_
          intro a765 HF766; clear HF763
          refine gw_ev HF766 (want_none rfl) rfl (by decide) (op_add rfl (HF766.ev rfl) (ev_c _ _) (by omega)) ?_
          intro a767 HF768; clear HF766
          refine gw_ev HF768 (want_none rfl) rfl (by decide) (op_assign rfl (HF768.ev rfl)) ?_
          intro a769 HF770; clear HF768
          refine wpList_nil ?_
          refine gw_nx ⟨_, ?_, i + 1, ((createD (letter i) d).1), S677, done, (HF770.pick (t := 7) rfl (HF770.pick (t := 6) rfl (HF770.pick (t := 1) rfl (HF770.pick (t := 5) rfl (HF770.pick (t := 0) rfl HF770.nil))))), HO751.sel [1] (by decide), ?_, ?_, ?_, ?_, rfl⟩
          · rw [hm78]; omega
          · omega
          · exact hJ735
          · omega
          · exact (kept_create hJ.wf.fuse.1).most.trans hmost
    · skip
      have HF771 := HF84.subst_ (d := 24) (b := false) rfl hb85
      clear HF84
      (try simp only [Bool.and_eq_true, Bool.or_eq_true, Bool.and_eq_false_iff, Bool.or_eq_false_iff, Bool.not_and, Bool.not_or, Bool.not_not, decide_eq_true_eq, decide_eq_false_iff_not, Bool.not_eq_true', Bool.not_eq_false', Bool.not_eq_true, Bool.not_eq_false, ne_eq, Decidable.not_not, Int.not_lt, Int.not_le, not_true_eq_false, not_false_eq_true, bne_iff_ne, beq_iff_eq, bne_eq_false_iff_eq, beq_eq_false_iff_ne] at hb85)
      refine wp_exit ?_
      refine gw_thx ?_
      refine gw_thx ?_
      refine gw_in ?_
      refine gw_nx (hK68 _ _ ?_)
      refine gw_seq fun K772 hK772 => ?_
      refine gw_seq fun K773 hK773 => ?_
      refine wp_region_lit ?_
      refine gw_ev HF771 (want_none rfl) rfl (by decide) (op_move rfl (HF771.ev rfl)) ?_
      intro a774 HF775; clear HF771
      refine gw_ev HF775 (want_none rfl) rfl (by decide) (op_move rfl (HF775.ev rfl)) ?_
      intro a776 HF777; clear HF775
      refine gw_ev HF777 (want_none rfl) rfl (by decide) (op_sub rfl (HF777.ev rfl) (ev_c _ _) (by omega)) ?_
      intro a778 HF779; clear HF777
      refine gw_ev HF779 (want_none rfl) rfl (by decide) (op_nei rfl (HF779.ev rfl) (HF779.ev rfl)) ?_
      intro a780 HF781; clear HF779
      have HF782 := HF781.lit (b := false) (by rcases hJ.st with ⟨h1_, h2_, h3_, h4_⟩ | ⟨h1_, h2_, h3_⟩; (· exfalso; omega); (· rw [decide_eq_false_iff_not]; omega))
      clear HF781
      refine wpList_nil ?_
      refine gw_nx (hK773 _ _ ?_)
      refine gw_cond HF782 rfl (fun hb783 => ?_) (fun hb783 => ?_)
      skip
      · cases hb783
      refine wp_skip ?_
      refine gw_nx (hK772 _ _ ?_)
      refine gw_seq fun K784 hK784 => ?_
      refine wp_region_lit ?_
      refine gw_ev HF782 (want_none rfl) rfl (by decide) (op_move rfl (HF782.ev rfl)) ?_
      intro a785 HF786; clear HF782
      have HO795 : Own w _ [(Chunk.all []), Chunk.disk w.heap.size gd5 Sd d] := Own.bundle (A := []) (L := [Chunk.disk w.heap.size gd5 Sd d]) (HO77.sel [0] (by decide))
      refine gw_call HF786 (want_none rfl) rfl (by decide) (op_callL Try.func17 (by kernel_rfl) rfl rfl (ar_cons (HF786.ev rfl) (ar_cons (ev_c _ _) ar_nil))) (crash_calls w _ (Chunk.all []) gd5 Sd d none 0 ([] : List Int) (fun w_ h_ => (Kd.C_nil _ _)) (Nat.le_refl _) hJ.wf (by have h_ := hJ.len; omega) (by exact HO795)) ?_
      rintro e789 w790 ⟨rfl, S787, hb791⟩
      refine ⟨_, rfl, fun a792 HF793 => ?_⟩
      have HO794 : Own w w790 [Chunk.disk w.heap.size gd5 S787 (crashD ([] : List Int) d)] := Own.unbundle (A := []) (L := [Chunk.disk w.heap.size gd5 S787 (crashD ([] : List Int) d)]) (hb791.sel [0, 1] (by decide))
      clear HO795
      clear HF786 HO77 hb791
      have HO797 : Own w w790 [Chunk.disk w.heap.size gd5 S787 (crashD ([] : List Int) d)] := HO794
      clear HO794
      refine wpList_nil ?_
      refine gw_nx (hK784 _ _ ?_)
      refine gw_seq fun K798 hK798 => ?_
      refine wp_region_lit ?_
      refine gw_ev HF793 (want_none rfl) rfl (by decide) (op_move rfl (HF793.ev rfl)) ?_
      intro a799 HF800; clear HF793
      refine gw_call HF800 (want_none rfl) rfl (by decide) (op_callL Try.func21 (by kernel_rfl) rfl rfl (ar_cons (HF800.ev rfl) ar_nil)) (down_calls w.heap.size gd5 S787 (crashD ([] : List Int) d) _ (HO797.get 0 rfl)) ?_
      rintro e801 w802 ⟨rfl, hb803⟩
      refine ⟨_, rfl, fun a804 HF805 => ?_⟩
      have HO806 := HO797.after hb803
      clear HF800 HO797 hb803
      refine gw_ev HF805 (want_none rfl) rfl (by decide) (op_not rfl (HF805.ev rfl)) ?_
      intro a808 HF809; clear HF805
      have HF810 := HF809.lit (b := true) (rfl)
      clear HF809
      refine gw_ev HF810 (want_none rfl) rfl (by decide) (op_move rfl (HF810.ev rfl)) ?_
      intro a811 HF812; clear HF810
      refine gw_ev HF812 (want_yes HF812 rfl rfl rfl rfl) rfl (by decide) (op_move rfl (HF812.ev rfl)) ?_
      intro a813 HF814; clear HF812
      refine gw_call HF814 (want_yes HF814 rfl rfl rfl rfl) rfl (by decide) (op_callL Try.func22 (by kernel_rfl) rfl rfl (ar_cons (HF814.ev rfl) ar_nil)) (names_calls w.heap.size gd5 S787 (crashD ([] : List Int) d) _ (by exact HO806.get 0 rfl) (by rw [hJ.crash_]; have h_ := hJ.len2 (by omega) (by omega); omega)) ?_
      rintro e818 w819 ⟨A815, c816, S817, rfl, hb820⟩
      refine ⟨_, rfl, fun a821 HF822 => ?_⟩
      have HO823 := HO806.fresh hb820
      have hbel824 := HO806.below
      clear HF814 HO806 hb820
      have HO825 := HO823.lowrow 0 rfl (base' := w.heap.size) (Below.size hbel824)
      have HO826 : Own w w819 [Chunk.row Kd.string 9 w.heap.size S817 (.slice A815 ((namesD (crashD ([] : List Int) d)).length) c816) (namesD (crashD ([] : List Int) d)), Chunk.disk w.heap.size gd5 S787 (crashD ([] : List Int) d)] := HO825
      clear HO825
      refine gw_ev HF822 (want_yes HF822 rfl rfl rfl rfl) rfl (by decide) (op_len Try.underlying37 rfl (HF822.ev rfl)) ?_
      intro a827 HF828; clear HF822
      refine gw_ev HF828 (want_yes HF828 rfl rfl rfl rfl) rfl (by decide) (op_move rfl (HF828.ev rfl)) ?_
      intro a829 HF830; clear HF828
      refine gw_ev HF830 (want_yes HF830 rfl rfl rfl rfl) rfl (by decide) (op_eqi rfl (HF830.ev rfl) (HF830.ev rfl)) ?_
      intro a831 HF832; clear HF830
      have HF833 := HF832.lit (b := true) (by rw [decide_eq_true_eq, names_len, hJ.crash_]; exact hJ.len)
      clear HF832
      refine gw_ev HF833 (want_none rfl) rfl (by decide) (op_pick_t rfl (HF833.ev rfl) (HF833.ev rfl)) ?_
      intro a834 HF835; clear HF833
      refine gw_ev HF835 (want_none rfl) rfl (by decide) (op_move rfl (HF835.ev rfl)) ?_
      intro a836 HF837; clear HF835
      refine gw_ev HF837 (want_yes HF837 rfl rfl rfl rfl) rfl (by decide) (op_move rfl (HF837.ev rfl)) ?_
      intro a838 HF839; clear HF837
      have HO848 : Own w _ [(Chunk.all [Chunk.row Kd.string 9 w.heap.size S817 (.slice A815 ((namesD (crashD ([] : List Int) d)).length) c816) (namesD (crashD ([] : List Int) d))]), Chunk.disk w.heap.size gd5 S787 (crashD ([] : List Int) d)] := Own.bundle (A := [Chunk.row Kd.string 9 w.heap.size S817 (.slice A815 ((namesD (crashD ([] : List Int) d)).length) c816) (namesD (crashD ([] : List Int) d))]) (L := [Chunk.disk w.heap.size gd5 S787 (crashD ([] : List Int) d)]) (HO826.sel [0, 1] (by decide))
      refine gw_call HF839 (want_yes HF839 rfl rfl rfl rfl) rfl (by decide) (op_callL Try.func13 (by kernel_rfl) rfl rfl (ar_cons (HF839.ev rfl) (ar_cons (ev_c _ _) ar_nil))) (create_calls w _ (Chunk.all [Chunk.row Kd.string 9 w.heap.size S817 (.slice A815 ((namesD (crashD ([] : List Int) d)).length) c816) (namesD (crashD ([] : List Int) d))]) gd5 S787 (crashD ([] : List Int) d) (⟨#[122]⟩ : ByteArray) (wf_crash hJ.wf) (by decide) (by rw [hJ.crash_]; have h_ := hJ.len2 (by omega) (by omega); omega) (by exact HO848)) ?_
      rintro e842 w843 ⟨rfl, S840, hb844⟩
      refine ⟨_, rfl, fun a845 HF846 => ?_⟩
      have HO847 : Own w w843 [Chunk.row Kd.string 9 w.heap.size S817 (.slice A815 ((namesD (crashD ([] : List Int) d)).length) c816) (namesD (crashD ([] : List Int) d)), Chunk.disk w.heap.size gd5 S840 ((createD (⟨#[122]⟩ : ByteArray) (crashD ([] : List Int) d)).1)] := Own.unbundle (A := [Chunk.row Kd.string 9 w.heap.size S817 (.slice A815 ((namesD (crashD ([] : List Int) d)).length) c816) (namesD (crashD ([] : List Int) d))]) (L := [Chunk.disk w.heap.size gd5 S840 ((createD (⟨#[122]⟩ : ByteArray) (crashD ([] : List Int) d)).1)]) (hb844.sel [0, 1] (by decide))
      clear HO848
      clear HF839 HO826 hb844
      have HO850 : Own w w843 [Chunk.row Kd.string 9 w.heap.size S817 (.slice A815 ((namesD (crashD ([] : List Int) d)).length) c816) (namesD (crashD ([] : List Int) d)), Chunk.disk w.heap.size gd5 S840 ((createD (⟨#[122]⟩ : ByteArray) (crashD ([] : List Int) d)).1)] := HO847
      clear HO847
      refine gw_ev HF846 (want_yes HF846 rfl rfl rfl rfl) rfl (by decide) (op_eqi rfl (HF846.ev rfl) (ev_c _ _)) ?_
      intro a851 HF852; clear HF846
      have HF853 := HF852.lit (b := true) (by rw [decide_eq_true_eq]; exact hJ.last (by omega))
      clear HF852
      refine gw_ev HF853 (want_none rfl) rfl (by decide) (op_pick_t rfl (HF853.ev rfl) (HF853.ev rfl)) ?_
      intro a854 HF855; clear HF853
      refine gw_ev HF855 (want_none rfl) rfl (by decide) (op_assign rfl (HF855.ev rfl)) ?_
      intro a856 HF857; clear HF855
      refine wpList_nil ?_
      refine gw_nx (hK798 _ _ ?_)
      refine wp_ret ?_
      refine gw_ret1 HF857 rfl rfl ?_
      exact ⟨rfl, HO850.below⟩
end GVfsS_
export GVfsS_ (VfsSteps_walk)
open Classical in
noncomputable def colloquylaw07_VfsSteps.f (a0 : Int) (l1 : List Int) : Option Bool := if (True) then some true else none
theorem colloquylaw07_VfsSteps.calls (a0 : Int) (A1 : Option Addr) (c1 : Nat) (l1 : List Int) (r : Bool) (w : World) (hr1 : Kd.C (Kd.int .i64) w A1 l1.length l1) (hc1 : l1.length ≤ c1) (h : colloquylaw07_VfsSteps.f a0 l1 = some r) :
    Calls Try.prog 4 #[(.int .i64 a0), (.slice A1 l1.length c1)] w fun e w' => e = .returned (.bool r) ∧ Below w.heap.size w w' := by
  unfold colloquylaw07_VfsSteps.f at h
  split at h
  · cases h; rename_i hh; exact VfsSteps_walk a0 A1 c1 l1 w hr1 hc1 hh
  · cases h
end Go.Proofs.Ytkdahjnmldeklaa.PA
