/- The document's GetNum, GetText. Printed by a program of this session; Lean checks it. -/
import Derived.Test.YtmlemnfleicnfaaHRead
namespace Go.Proofs.Ytmlemnfleicnfaa.PA
open Go.RowKit Go.Proofs.YtmlemnfleicnfaaW.PrintWords Go.Proofs.YtmlemnfleicnfaaW.PrintLast Go.Proofs.YtmlemnfleicnfaaW.PrintMore
set_option linter.unusedVariables false
set_option linter.unusedSimpArgs false
namespace GGet_
theorem gwagg5 : ∀ w, (isAgg 5).run Try.prog w = .ok false w := fun _ => by kernel_rfl
theorem gwsiz5 : ∀ w, (sizeOf 5).run Try.prog w = .ok 1 w := fun _ => by kernel_rfl
set_option maxHeartbeats 4000000 in
set_option maxRecDepth 100000 in
theorem getnum_calls (A : Option Addr) (c : Nat) (xs : List Int) (w : World) (hr : Kd.C (Kd.int .u8) w A xs.length xs) (hc : xs.length ≤ c) (hb : ByteL xs) :
    Calls Try.prog 39 #[.slice A xs.length c] w fun e w' => e = .returned (.tuple #[.int .i64 (gnumV xs).1, .int .i64 (gnumV xs).2]) ∧ Below w.heap.size w w' := by
  refine gw_start (N := 60) (vs := [.slice A xs.length c]) Try.func39 rfl rfl (by simp) fun a HF HO => ?_
  replace HO : Own w w [] := HO
  refine gw_seq fun K1 hK1 => ?_
  refine wp_region_lit ?_
  refine gw_ev HF (want_none rfl) rfl (by decide) (op_assign rfl (ev_c _ _)) ?_
  intro a2 HF3; clear HF
  refine gw_ev HF3 (want_none rfl) rfl (by decide) (op_assign rfl (ev_c _ _)) ?_
  intro a4 HF5; clear HF3
  refine wpList_nil ?_
  refine gw_nx (hK1 _ _ ?_)
  refine gw_seq fun K6 hK6 => ?_
  refine wp_region_lit ?_
  refine gw_ev HF5 (want_none rfl) rfl (by decide) (op_assign rfl (ev_c _ _)) ?_
  intro a7 HF8; clear HF5
  refine wpList_nil ?_
  refine gw_nx (hK6 _ _ ?_)
  refine gw_seq fun K9 hK9 => ?_
  refine wp_region_lit ?_
  refine gw_ev HF8 (want_none rfl) rfl (by decide) (op_assign rfl (ev_c _ _)) ?_
  intro a10 HF11; clear HF8
  refine wpList_nil ?_
  refine gw_nx (hK9 _ _ ?_)
  refine gw_seq fun K12 hK12 => ?_
  refine gw_seq fun K13 hK13 => ?_
  refine wp_region_lit ?_
  refine gw_ev HF11 (want_none rfl) rfl (by decide) (op_assign rfl (ev_c _ _)) ?_
  intro a14 HF15; clear HF11
  refine wpList_nil ?_
  refine gw_nx (hK13 _ _ ?_)
  refine wp_block ?_
  refine gw_loop (fun m_ a_ w_ => ∃ (i : Int) (un : Int), Fr 60 a_ [(4, .int .i64 (valN xs i.toNat)), (5, .int .i64 un), (6, .int .i64 i), (0, .slice A xs.length c)] ∧ Own w w_ [] ∧ (0 ≤ i ∧ i ≤ 9 ∧ i ≤ xs.length) ∧ (un = 128 ^ (min i.toNat 8)) ∧ (gnum xs = gnumFrom xs (10 - i.toNat) i.toNat) ∧ m_ = (9 - i.toNat)) ((9 - (0 : Int).toNat)) ?_ ?_
  · refine ⟨0, 1, (HF15.pick (t := 4) rfl (HF15.pick (t := 5) rfl (HF15.pick (t := 6) rfl (HF15.pick (t := 0) rfl HF15.nil)))), HO.sel [] (by decide), ?_, ?_, ?_, rfl⟩
    · omega
    · rfl
    · rfl
  · rintro m17 a18 w19 ⟨i, un, HF20, HO21, hi, hu, hg, hm22⟩
    refine gw_seq fun K23 hK23 => ?_
    refine gw_seq fun K24 hK24 => ?_
    refine wp_region_lit ?_
    refine gw_ev HF20 (want_none rfl) rfl (by decide) (op_move rfl (HF20.ev rfl)) ?_
    intro a25 HF26; clear HF20
    refine gw_ev HF26 (want_none rfl) rfl (by decide) (op_move rfl (HF26.ev rfl)) ?_
    intro a27 HF28; clear HF26
    refine gw_ev HF28 (want_none rfl) rfl (by decide) (op_len Try.underlying22 rfl (HF28.ev rfl)) ?_
    intro a29 HF30; clear HF28
    refine gw_ev HF30 (want_none rfl) rfl (by decide) (op_lss rfl (HF30.ev rfl) (HF30.ev rfl)) ?_
    intro a31 HF32; clear HF30
    refine gw_ev HF32 (want_none rfl) rfl (by decide) (op_move rfl (HF32.ev rfl)) ?_
    intro a33 HF34; clear HF32
    refine gw_evG HF34 rfl rfl rfl rfl (on_t _) rfl (by decide) (fun h_ => (op_move rfl (HF34.ev rfl))) ?_
    intro a35 HF36; clear HF34
    refine gw_evG HF36 rfl rfl rfl rfl (on_t _) rfl (by decide) (fun h_ => (op_lss rfl (ev_gv (HF36.ev rfl) h_) (ev_c _ _))) ?_
    intro a37 HF38; clear HF36
    refine gw_ev HF38 (want_none rfl) rfl (by decide) (op_pick_and rfl (HF38.ev rfl) (fun hp_ => (ev_gv (HF38.ev rfl) hp_)) (ev_c _ _)) ?_
    intro a39 HF40; clear HF38
    refine wpList_nil ?_
    refine gw_nx (hK24 _ _ ?_)
    refine gw_cond HF40 rfl (fun hb41 => ?_) (fun hb41 => ?_)
    · skip
      have HF42 := HF40.subst_ (d := 15) (b := true) rfl hb41
      clear HF40
      (try simp only [Bool.and_eq_true, Bool.or_eq_true, Bool.and_eq_false_iff, Bool.or_eq_false_iff, Bool.not_and, Bool.not_or, Bool.not_not, decide_eq_true_eq, decide_eq_false_iff_not, Bool.not_eq_true', Bool.not_eq_false', Bool.not_eq_true, Bool.not_eq_false, ne_eq, Decidable.not_not, Int.not_lt, Int.not_le, not_true_eq_false, not_false_eq_true, bne_iff_ne, beq_iff_eq, bne_eq_false_iff_eq, beq_eq_false_iff_ne] at hb41)
      refine wp_skip ?_
      refine gw_nx (hK23 _ _ ?_)
      refine gw_seq fun K43 hK43 => ?_
      refine wp_block ?_
      refine gw_seq fun K44 hK44 => ?_
      refine wp_region_lit ?_
      refine gw_ev HF42 (want_none rfl) rfl (by decide) (op_move rfl (HF42.ev rfl)) ?_
      intro a45 HF46; clear HF42
      refine gw_ev HF46 (want_none rfl) rfl (by decide) (op_move rfl (HF46.ev rfl)) ?_
      intro a47 HF48; clear HF46
      obtain ⟨ad49, cs52, hA50, hl53, hK54, hc51⟩ := Kd.C_get hr (0 : Int) i (by omega) (by omega)
      obtain rfl := id hK54
      clear hl53
      refine gw_ev HF48 (want_none rfl) rfl (by decide) (op_index Try.underlying22 gwsiz5 rfl (HF48.ev rfl) (HF48.ev rfl) hA50 (⟨by omega, by omega⟩)) ?_
      intro a55 HF56; clear HF48
      have hby := byte_getD hb i.toNat (by omega)
      refine gw_ev HF56 (want_none rfl) rfl (by decide) (op_load1 gwagg5 rfl (HF56.ev rfl) (HO21.cell0 (at0 hc51))) ?_
      intro a57 HF58; clear HF56
      refine gw_ev HF58 (want_none rfl) rfl (by decide) (op_rem rfl (HF58.ev rfl) (ev_c _ _) (by omega)) ?_
      intro a59 HF60; clear HF58
      have HF61 := HF60.conv (v' := .int .u8 ((xs.getD i.toNat 0) % 128)) (by congr 1; exact Int.tmod_eq_emod_of_nonneg hby.1)
      clear HF60
      refine gw_ev HF61 (want_none rfl) rfl (by decide) (op_conv_inb Try.underlying5 Try.underlying2 rfl (HF61.ev rfl) (by omega)) ?_
      intro a62 HF63; clear HF61
      refine gw_ev HF63 (want_none rfl) rfl (by decide) (op_assign rfl (HF63.ev rfl)) ?_
      intro a64 HF65; clear HF63
      refine wpList_nil ?_
      refine gw_nx (hK44 _ _ ?_)
      refine gw_seq fun K66 hK66 => ?_
      refine gw_seq fun K67 hK67 => ?_
      refine wp_region_lit ?_
      refine gw_ev HF65 (want_none rfl) rfl (by decide) (op_move rfl (HF65.ev rfl)) ?_
      intro a68 HF69; clear HF65
      refine gw_ev HF69 (want_none rfl) rfl (by decide) (op_eqi rfl (HF69.ev rfl) (ev_c _ _)) ?_
      intro a70 HF71; clear HF69
      refine gw_ev HF71 (want_none rfl) rfl (by decide) (op_move rfl (HF71.ev rfl)) ?_
      intro a72 HF73; clear HF71
      refine gw_evG HF73 rfl rfl rfl rfl (on_t _) rfl (by decide) (fun h_ => (op_move rfl (HF73.ev rfl))) ?_
      intro a74 HF75; clear HF73
      refine gw_evG HF75 rfl rfl rfl rfl (on_t _) rfl (by decide) (fun h_ => (op_gtr rfl (ev_gv (HF75.ev rfl) h_) (ev_c _ _))) ?_
      intro a76 HF77; clear HF75
      refine gw_ev HF77 (want_none rfl) rfl (by decide) (op_pick_and rfl (HF77.ev rfl) (fun hp_ => (ev_gv (HF77.ev rfl) hp_)) (ev_c _ _)) ?_
      intro a78 HF79; clear HF77
      refine wpList_nil ?_
      refine gw_nx (hK67 _ _ ?_)
      refine gw_cond HF79 rfl (fun hb80 => ?_) (fun hb80 => ?_)
      · skip
        have HF81 := HF79.subst_ (d := 29) (b := true) rfl hb80
        clear HF79
        (try simp only [Bool.and_eq_true, Bool.or_eq_true, Bool.and_eq_false_iff, Bool.or_eq_false_iff, Bool.not_and, Bool.not_or, Bool.not_not, decide_eq_true_eq, decide_eq_false_iff_not, Bool.not_eq_true', Bool.not_eq_false', Bool.not_eq_true, Bool.not_eq_false, ne_eq, Decidable.not_not, Int.not_lt, Int.not_le, not_true_eq_false, not_false_eq_true, bne_iff_ne, beq_iff_eq, bne_eq_false_iff_eq, beq_eq_false_iff_ne] at hb80)
        refine gw_seq fun K82 hK82 => ?_
        refine wp_region_lit ?_
        refine gw_ev HF81 (want_none rfl) rfl (by decide) (op_assign rfl (ev_c _ _)) ?_
        intro a83 HF84; clear HF81
        refine gw_ev HF84 (want_none rfl) rfl (by decide) (op_assign rfl (ev_c _ _)) ?_
        intro a85 HF86; clear HF84
        refine wpList_nil ?_
        refine gw_nx (hK82 _ _ ?_)
        refine wp_ret ?_
        refine gw_thr ?_
        refine gw_blr ?_
        refine gw_thr ?_
        refine gw_thr ?_
        refine gw_blr ?_
        refine gw_thr ?_
        refine gw_ret2 HF86 rfl rfl rfl ?_
        exact ⟨by rw [gnumV_none (by first | exact gn_out hi.1 hi.2.1 hg (by omega) | exact rn_big hg (by omega) (by omega) (by omega) (by omega) | (rw [gn_in hi.1 hg (by omega) (by omega), if_pos (by omega), if_neg (by omega)]))], HO21.below⟩
      · skip
        have HF87 := HF79.subst_ (d := 29) (b := false) rfl hb80
        clear HF79
        (try simp only [Bool.and_eq_true, Bool.or_eq_true, Bool.and_eq_false_iff, Bool.or_eq_false_iff, Bool.not_and, Bool.not_or, Bool.not_not, decide_eq_true_eq, decide_eq_false_iff_not, Bool.not_eq_true', Bool.not_eq_false', Bool.not_eq_true, Bool.not_eq_false, ne_eq, Decidable.not_not, Int.not_lt, Int.not_le, not_true_eq_false, not_false_eq_true, bne_iff_ne, beq_iff_eq, bne_eq_false_iff_eq, beq_eq_false_iff_ne] at hb80)
        refine wp_skip ?_
        refine gw_nx (hK66 _ _ ?_)
        refine gw_seq fun K88 hK88 => ?_
        refine wp_region_lit ?_
        refine gw_ev HF87 (want_none rfl) rfl (by decide) (op_move rfl (HF87.ev rfl)) ?_
        intro a89 HF90; clear HF87
        refine gw_ev HF90 (want_none rfl) rfl (by decide) (op_move rfl (HF90.ev rfl)) ?_
        intro a91 HF92; clear HF90
        refine gw_ev HF92 (want_none rfl) rfl (by decide) (op_move rfl (HF92.ev rfl)) ?_
        intro a93 HF94; clear HF92
        refine gw_ev HF94 (want_none rfl) rfl (by decide) (op_mul rfl (HF94.ev rfl) (HF94.ev rfl) (by rw [hu]; have hm_ := rn_mul (xs := xs) (i := i) (by omega) (by omega); constructor <;> omega)) ?_
        intro a95 HF96; clear HF94
        refine gw_ev HF96 (want_none rfl) rfl (by decide) (op_add rfl (HF96.ev rfl) (HF96.ev rfl) (by rw [hu]; have hm_ := rn_mul (xs := xs) (i := i) (by omega) (by omega); have hl_ := rn_lt (xs := xs) (i := i) (by omega); constructor <;> omega)) ?_
        intro a97 HF98; clear HF96
        have HF99 := HF98.conv (v' := .int .i64 (valN xs (i.toNat + 1))) (by rw [hu, rn_add (by omega)])
        clear HF98
        refine gw_ev HF99 (want_none rfl) rfl (by decide) (op_assign rfl (HF99.ev rfl)) ?_
        intro a100 HF101; clear HF99
        refine wpList_nil ?_
        refine gw_nx (hK88 _ _ ?_)
        refine gw_seq fun K102 hK102 => ?_
        refine gw_seq fun K103 hK103 => ?_
        refine wp_region_lit ?_
        refine gw_ev HF101 (want_none rfl) rfl (by decide) (op_move rfl (HF101.ev rfl)) ?_
        intro a104 HF105; clear HF101
        refine gw_ev HF105 (want_none rfl) rfl (by decide) (op_move rfl (HF105.ev rfl)) ?_
        intro a106 HF107; clear HF105
        obtain ⟨ad108, cs111, hA109, hl112, hK113, hc110⟩ := Kd.C_get hr (0 : Int) i (by omega) (by omega)
        obtain rfl := id hK113
        clear hl112
        refine gw_ev HF107 (want_none rfl) rfl (by decide) (op_index Try.underlying22 gwsiz5 rfl (HF107.ev rfl) (HF107.ev rfl) hA109 (⟨by omega, by omega⟩)) ?_
        intro a114 HF115; clear HF107
        refine gw_ev HF115 (want_none rfl) rfl (by decide) (op_load1 gwagg5 rfl (HF115.ev rfl) (HO21.cell0 (at0 hc110))) ?_
        intro a116 HF117; clear HF115
        refine gw_ev HF117 (want_none rfl) rfl (by decide) (op_lss rfl (HF117.ev rfl) (ev_c _ _)) ?_
        intro a118 HF119; clear HF117
        refine wpList_nil ?_
        refine gw_nx (hK103 _ _ ?_)
        refine gw_cond HF119 rfl (fun hb120 => ?_) (fun hb120 => ?_)
        · skip
          have HF121 := HF119.subst_ (d := 39) (b := true) rfl hb120
          clear HF119
          (try simp only [Bool.and_eq_true, Bool.or_eq_true, Bool.and_eq_false_iff, Bool.or_eq_false_iff, Bool.not_and, Bool.not_or, Bool.not_not, decide_eq_true_eq, decide_eq_false_iff_not, Bool.not_eq_true', Bool.not_eq_false', Bool.not_eq_true, Bool.not_eq_false, ne_eq, Decidable.not_not, Int.not_lt, Int.not_le, not_true_eq_false, not_false_eq_true, bne_iff_ne, beq_iff_eq, bne_eq_false_iff_eq, beq_eq_false_iff_ne] at hb120)
          refine gw_seq fun K122 hK122 => ?_
          refine gw_seq fun K123 hK123 => ?_
          refine wp_region_lit ?_
          refine gw_ev HF121 (want_none rfl) rfl (by decide) (op_move rfl (HF121.ev rfl)) ?_
          intro a124 HF125; clear HF121
          refine gw_ev HF125 (want_none rfl) rfl (by decide) (op_move rfl (HF125.ev rfl)) ?_
          intro a126 HF127; clear HF125
          obtain ⟨ad128, cs131, hA129, hl132, hK133, hc130⟩ := Kd.C_get hr (0 : Int) i (by omega) (by omega)
          obtain rfl := id hK133
          clear hl132
          refine gw_ev HF127 (want_none rfl) rfl (by decide) (op_index Try.underlying22 gwsiz5 rfl (HF127.ev rfl) (HF127.ev rfl) hA129 (⟨by omega, by omega⟩)) ?_
          intro a134 HF135; clear HF127
          refine gw_ev HF135 (want_none rfl) rfl (by decide) (op_load1 gwagg5 rfl (HF135.ev rfl) (HO21.cell0 (at0 hc130))) ?_
          intro a136 HF137; clear HF135
          refine gw_ev HF137 (want_none rfl) rfl (by decide) (op_eqi rfl (HF137.ev rfl) (ev_c _ _)) ?_
          intro a138 HF139; clear HF137
          refine gw_ev HF139 (want_none rfl) rfl (by decide) (op_move rfl (HF139.ev rfl)) ?_
          intro a140 HF141; clear HF139
          refine gw_evG HF141 rfl rfl rfl rfl (on_t _) rfl (by decide) (fun h_ => (op_move rfl (HF141.ev rfl))) ?_
          intro a142 HF143; clear HF141
          refine gw_evG HF143 rfl rfl rfl rfl (on_t _) rfl (by decide) (fun h_ => (op_gtr rfl (ev_gv (HF143.ev rfl) h_) (ev_c _ _))) ?_
          intro a144 HF145; clear HF143
          refine gw_ev HF145 (want_none rfl) rfl (by decide) (op_pick_and rfl (HF145.ev rfl) (fun hp_ => (ev_gv (HF145.ev rfl) hp_)) (ev_c _ _)) ?_
          intro a146 HF147; clear HF145
          refine gw_ev HF147 (want_none rfl) rfl (by decide) (op_move rfl (HF147.ev rfl)) ?_
          intro a148 HF149; clear HF147
          refine gw_evG HF149 rfl rfl rfl rfl (on_f _) rfl (by decide) (fun h_ => (op_move rfl (HF149.ev rfl))) ?_
          intro a150 HF151; clear HF149
          refine gw_evG HF151 rfl rfl rfl rfl (on_f _) rfl (by decide) (fun h_ => (op_gtr rfl (ev_gv (HF151.ev rfl) h_) (ev_c _ _))) ?_
          intro a152 HF153; clear HF151
          refine gw_ev HF153 (want_none rfl) rfl (by decide) (op_pick_or rfl (HF153.ev rfl) (ev_c _ _) (fun hp_ => (ev_gv (HF153.ev rfl) (not_t hp_)))) ?_
          intro a154 HF155; clear HF153
          refine wpList_nil ?_
          refine gw_nx (hK123 _ _ ?_)
          refine gw_cond HF155 rfl (fun hb156 => ?_) (fun hb156 => ?_)
          · skip
            have HF157 := HF155.subst_ (d := 52) (b := true) rfl hb156
            clear HF155
            (try simp only [Bool.and_eq_true, Bool.or_eq_true, Bool.and_eq_false_iff, Bool.or_eq_false_iff, Bool.not_and, Bool.not_or, Bool.not_not, decide_eq_true_eq, decide_eq_false_iff_not, Bool.not_eq_true', Bool.not_eq_false', Bool.not_eq_true, Bool.not_eq_false, ne_eq, Decidable.not_not, Int.not_lt, Int.not_le, not_true_eq_false, not_false_eq_true, bne_iff_ne, beq_iff_eq, bne_eq_false_iff_eq, beq_eq_false_iff_ne] at hb156)
            refine gw_seq fun K158 hK158 => ?_
            refine wp_region_lit ?_
            refine gw_ev HF157 (want_none rfl) rfl (by decide) (op_assign rfl (ev_c _ _)) ?_
            intro a159 HF160; clear HF157
            refine gw_ev HF160 (want_none rfl) rfl (by decide) (op_assign rfl (ev_c _ _)) ?_
            intro a161 HF162; clear HF160
            refine wpList_nil ?_
            refine gw_nx (hK158 _ _ ?_)
            refine wp_ret ?_
            refine gw_thr ?_
            refine gw_thr ?_
            refine gw_blr ?_
            refine gw_thr ?_
            refine gw_thr ?_
            refine gw_blr ?_
            refine gw_thr ?_
            refine gw_ret2 HF162 rfl rfl rfl ?_
            exact ⟨by rw [gnumV_none (by first | exact gn_out hi.1 hi.2.1 hg (by omega) | exact rn_big hg (by omega) (by omega) (by omega) (by omega) | (rw [gn_in hi.1 hg (by omega) (by omega), if_pos (by omega), if_neg (by omega)]))], HO21.below⟩
          · skip
            have HF163 := HF155.subst_ (d := 52) (b := false) rfl hb156
            clear HF155
            (try simp only [Bool.and_eq_true, Bool.or_eq_true, Bool.and_eq_false_iff, Bool.or_eq_false_iff, Bool.not_and, Bool.not_or, Bool.not_not, decide_eq_true_eq, decide_eq_false_iff_not, Bool.not_eq_true', Bool.not_eq_false', Bool.not_eq_true, Bool.not_eq_false, ne_eq, Decidable.not_not, Int.not_lt, Int.not_le, not_true_eq_false, not_false_eq_true, bne_iff_ne, beq_iff_eq, bne_eq_false_iff_eq, beq_eq_false_iff_ne] at hb156)
            refine wp_skip ?_
            refine gw_nx (hK122 _ _ ?_)
            refine gw_seq fun K164 hK164 => ?_
            refine wp_region_lit ?_
            refine gw_ev HF163 (want_none rfl) rfl (by decide) (op_move rfl (HF163.ev rfl)) ?_
            intro a165 HF166; clear HF163
            refine gw_ev HF166 (want_none rfl) rfl (by decide) (op_move rfl (HF166.ev rfl)) ?_
            intro a167 HF168; clear HF166
            refine gw_ev HF168 (want_none rfl) rfl (by decide) (op_add rfl (HF168.ev rfl) (ev_c _ _) (by omega)) ?_
            intro a169 HF170; clear HF168
            refine gw_ev HF170 (want_none rfl) rfl (by decide) (op_assign rfl (HF170.ev rfl)) ?_
            intro a171 HF172; clear HF170
            refine gw_ev HF172 (want_none rfl) rfl (by decide) (op_assign rfl (HF172.ev rfl)) ?_
            intro a173 HF174; clear HF172
            refine wpList_nil ?_
            refine gw_nx (hK164 _ _ ?_)
            refine wp_ret ?_
            refine gw_thr ?_
            refine gw_blr ?_
            refine gw_thr ?_
            refine gw_thr ?_
            refine gw_blr ?_
            refine gw_thr ?_
            refine gw_ret2 HF174 rfl rfl rfl ?_
            have eg := gn_in hi.1 hg (by omega) (by omega)
            rw [if_pos (by omega), if_pos (by exact ⟨by omega, by omega⟩)] at eg
            exact ⟨by rw [gnumV_some eg, show ((i.toNat + 1 : Nat) : Int) = i + 1 by omega], HO21.below⟩
        · skip
          have HF175 := HF119.subst_ (d := 39) (b := false) rfl hb120
          clear HF119
          (try simp only [Bool.and_eq_true, Bool.or_eq_true, Bool.and_eq_false_iff, Bool.or_eq_false_iff, Bool.not_and, Bool.not_or, Bool.not_not, decide_eq_true_eq, decide_eq_false_iff_not, Bool.not_eq_true', Bool.not_eq_false', Bool.not_eq_true, Bool.not_eq_false, ne_eq, Decidable.not_not, Int.not_lt, Int.not_le, not_true_eq_false, not_false_eq_true, bne_iff_ne, beq_iff_eq, bne_eq_false_iff_eq, beq_eq_false_iff_ne] at hb120)
          refine wp_skip ?_
          refine gw_nx (hK102 _ _ ?_)
          refine gw_seq fun K176 hK176 => ?_
          refine wp_region_lit ?_
          refine gw_ev HF175 (want_none rfl) rfl (by decide) (op_move rfl (HF175.ev rfl)) ?_
          intro a177 HF178; clear HF175
          refine gw_ev HF178 (want_none rfl) rfl (by decide) (op_lss rfl (HF178.ev rfl) (ev_c _ _)) ?_
          intro a179 HF180; clear HF178
          refine wpList_nil ?_
          refine gw_nx (hK176 _ _ ?_)
          refine gw_cond HF180 rfl (fun hb181 => ?_) (fun hb181 => ?_)
          · skip
            have HF182 := HF180.subst_ (d := 57) (b := true) rfl hb181
            clear HF180
            (try simp only [Bool.and_eq_true, Bool.or_eq_true, Bool.and_eq_false_iff, Bool.or_eq_false_iff, Bool.not_and, Bool.not_or, Bool.not_not, decide_eq_true_eq, decide_eq_false_iff_not, Bool.not_eq_true', Bool.not_eq_false', Bool.not_eq_true, Bool.not_eq_false, ne_eq, Decidable.not_not, Int.not_lt, Int.not_le, not_true_eq_false, not_false_eq_true, bne_iff_ne, beq_iff_eq, bne_eq_false_iff_eq, beq_eq_false_iff_ne] at hb181)
            refine wp_region_lit ?_
            refine gw_ev HF182 (want_none rfl) rfl (by decide) (op_move rfl (HF182.ev rfl)) ?_
            intro a183 HF184; clear HF182
            refine gw_ev HF184 (want_none rfl) rfl (by decide) (op_mul rfl (HF184.ev rfl) (ev_c _ _) (by rw [hu]; have hu_ := rn_u (i := i) (by omega); generalize (128 : Int) ^ (min i.toNat 8) = q_ at hu_ ⊢; constructor <;> omega)) ?_
            intro a185 HF186; clear HF184
            refine gw_ev HF186 (want_none rfl) rfl (by decide) (op_assign rfl (HF186.ev rfl)) ?_
            intro a187 HF188; clear HF186
            refine wpList_nil ?_
            refine gw_blk ?_
            refine gw_nx (hK43 _ _ ?_)
            refine wp_region_lit ?_
            refine gw_ev HF188 (want_none rfl) rfl (by decide) (op_move rfl (HF188.ev rfl)) ?_
            intro a189 HF190; clear HF188
            refine gw_ev HF190 (want_none rfl) rfl (by decide) (op_add rfl (HF190.ev rfl) (ev_c _ _) (by omega)) ?_
            intro a191 HF192; clear HF190
            refine gw_ev HF192 (want_none rfl) rfl (by decide) (op_assign rfl (HF192.ev rfl)) ?_
            intro a193 HF194; clear HF192
            refine wpList_nil ?_
            rw [show valN xs (i.toNat + 1) = valN xs (i + 1).toNat from by rw [show (i + 1).toNat = i.toNat + 1 by omega]] at HF194
            refine gw_nx ⟨_, ?_, i + 1, un * 128, (HF194.pick (t := 4) rfl (HF194.pick (t := 5) rfl (HF194.pick (t := 6) rfl (HF194.pick (t := 0) rfl HF194.nil)))), HO21.sel [] (by decide), ?_, ?_, ?_, rfl⟩
            · rw [hm22]; omega
            · omega
            · first | (rw [hu]; exact rn_unit (by omega)) | (rw [hu]; exact rn_unit8 (by omega) (by omega))
            · rw [gn_in hi.1 hg (by omega) (by omega), if_neg (by omega)]
          · skip
            have HF195 := HF180.subst_ (d := 57) (b := false) rfl hb181
            clear HF180
            (try simp only [Bool.and_eq_true, Bool.or_eq_true, Bool.and_eq_false_iff, Bool.or_eq_false_iff, Bool.not_and, Bool.not_or, Bool.not_not, decide_eq_true_eq, decide_eq_false_iff_not, Bool.not_eq_true', Bool.not_eq_false', Bool.not_eq_true, Bool.not_eq_false, ne_eq, Decidable.not_not, Int.not_lt, Int.not_le, not_true_eq_false, not_false_eq_true, bne_iff_ne, beq_iff_eq, bne_eq_false_iff_eq, beq_eq_false_iff_ne] at hb181)
            refine wp_skip ?_
            refine gw_blk ?_
            refine gw_nx (hK43 _ _ ?_)
            refine wp_region_lit ?_
            refine gw_ev HF195 (want_none rfl) rfl (by decide) (op_move rfl (HF195.ev rfl)) ?_
            intro a196 HF197; clear HF195
            refine gw_ev HF197 (want_none rfl) rfl (by decide) (op_add rfl (HF197.ev rfl) (ev_c _ _) (by omega)) ?_
            intro a198 HF199; clear HF197
            refine gw_ev HF199 (want_none rfl) rfl (by decide) (op_assign rfl (HF199.ev rfl)) ?_
            intro a200 HF201; clear HF199
            refine wpList_nil ?_
            rw [show valN xs (i.toNat + 1) = valN xs (i + 1).toNat from by rw [show (i + 1).toNat = i.toNat + 1 by omega]] at HF201
            refine gw_nx ⟨_, ?_, i + 1, un, (HF201.pick (t := 4) rfl (HF201.pick (t := 5) rfl (HF201.pick (t := 6) rfl (HF201.pick (t := 0) rfl HF201.nil)))), HO21.sel [] (by decide), ?_, ?_, ?_, rfl⟩
            · rw [hm22]; omega
            · omega
            · first | (rw [hu]; exact rn_unit (by omega)) | (rw [hu]; exact rn_unit8 (by omega) (by omega))
            · rw [gn_in hi.1 hg (by omega) (by omega), if_neg (by omega)]
    · skip
      have HF202 := HF40.subst_ (d := 15) (b := false) rfl hb41
      clear HF40
      (try simp only [Bool.and_eq_true, Bool.or_eq_true, Bool.and_eq_false_iff, Bool.or_eq_false_iff, Bool.not_and, Bool.not_or, Bool.not_not, decide_eq_true_eq, decide_eq_false_iff_not, Bool.not_eq_true', Bool.not_eq_false', Bool.not_eq_true, Bool.not_eq_false, ne_eq, Decidable.not_not, Int.not_lt, Int.not_le, not_true_eq_false, not_false_eq_true, bne_iff_ne, beq_iff_eq, bne_eq_false_iff_eq, beq_eq_false_iff_ne] at hb41)
      refine wp_exit ?_
      refine gw_thx ?_
      refine gw_thx ?_
      refine gw_in ?_
      refine gw_nx (hK12 _ _ ?_)
      refine gw_seq fun K203 hK203 => ?_
      refine wp_region_lit ?_
      refine gw_ev HF202 (want_none rfl) rfl (by decide) (op_assign rfl (ev_c _ _)) ?_
      intro a204 HF205; clear HF202
      refine gw_ev HF205 (want_none rfl) rfl (by decide) (op_assign rfl (ev_c _ _)) ?_
      intro a206 HF207; clear HF205
      refine wpList_nil ?_
      refine gw_nx (hK203 _ _ ?_)
      refine wp_ret ?_
      refine gw_ret2 HF207 rfl rfl rfl ?_
      exact ⟨by rw [gnumV_none (by first | exact gn_out hi.1 hi.2.1 hg (by omega) | exact rn_big hg (by omega) (by omega) (by omega) (by omega) | (rw [gn_in hi.1 hg (by omega) (by omega), if_pos (by omega), if_neg (by omega)]))], HO21.below⟩
set_option maxHeartbeats 4000000 in
set_option maxRecDepth 100000 in
theorem gettext_calls (A : Option Addr) (c : Nat) (xs : List Int) (w : World) (hr : Kd.C (Kd.int .u8) w A xs.length xs) (hc : xs.length ≤ c) (hb : ByteL xs) (most : Int) (hl : xs.length ≤ 9223372036854775807) :
    Calls Try.prog 40 #[.slice A xs.length c, .int .i64 most] w fun e w' => e = .returned (.tuple #[.string (gtextV xs most).1, .int .i64 (gtextV xs most).2]) ∧ Below w.heap.size w w' := by
  refine gw_start (N := 38) (vs := [.slice A xs.length c, .int .i64 most]) Try.func40 rfl rfl (by simp) fun a HF HO => ?_
  replace HO : Own w w [] := HO
  refine gw_seq fun K1 hK1 => ?_
  refine wp_region_lit ?_
  refine gw_ev HF (want_none rfl) rfl (by decide) (op_assign rfl (ev_c _ _)) ?_
  intro a2 HF3; clear HF
  refine gw_ev HF3 (want_none rfl) rfl (by decide) (op_assign rfl (ev_c _ _)) ?_
  intro a4 HF5; clear HF3
  refine wpList_nil ?_
  refine gw_nx (hK1 _ _ ?_)
  refine gw_seq fun K6 hK6 => ?_
  refine wp_region_lit ?_
  refine gw_ev HF5 (want_none rfl) rfl (by decide) (op_move rfl (HF5.ev rfl)) ?_
  intro a7 HF8; clear HF5
  refine gw_call HF8 (want_none rfl) rfl (by decide) (op_callL Try.func39 (by kernel_rfl) rfl rfl (ar_cons (HF8.ev rfl) ar_nil)) (getnum_calls A c xs _ (Kd.C_below hr HO.below) hc (by first | exact hb | assumption)) ?_
  rintro e9 w10 ⟨rfl, hb11⟩
  refine ⟨_, rfl, fun a12 HF13 => ?_⟩
  have HO14 := HO.after hb11
  clear HF8 HO hb11
  refine gw_ev HF13 (want_none rfl) rfl (by decide) (op_move rfl (HF13.ev rfl)) ?_
  intro a16 HF17; clear HF13
  refine gw_ev HF17 (want_none rfl) rfl (by decide) (op_extract rfl (HF17.ev rfl) rfl) ?_
  intro a18 HF19; clear HF17
  refine gw_ev HF19 (want_none rfl) rfl (by decide) (op_extract rfl (HF19.ev rfl) rfl) ?_
  intro a20 HF21; clear HF19
  have hv := gnumV_b xs
  refine gw_ev HF21 (want_none rfl) rfl (by decide) (op_assign rfl (HF21.ev rfl)) ?_
  intro a22 HF23; clear HF21
  refine gw_ev HF23 (want_none rfl) rfl (by decide) (op_assign rfl (HF23.ev rfl)) ?_
  intro a24 HF25; clear HF23
  refine wpList_nil ?_
  refine gw_nx (hK6 _ _ ?_)
  refine gw_seq fun K26 hK26 => ?_
  refine gw_seq fun K27 hK27 => ?_
  refine wp_region_lit ?_
  refine gw_ev HF25 (want_none rfl) rfl (by decide) (op_move rfl (HF25.ev rfl)) ?_
  intro a28 HF29; clear HF25
  refine gw_ev HF29 (want_none rfl) rfl (by decide) (op_eqi rfl (HF29.ev rfl) (ev_c _ _)) ?_
  intro a30 HF31; clear HF29
  refine gw_ev HF31 (want_none rfl) rfl (by decide) (op_move rfl (HF31.ev rfl)) ?_
  intro a32 HF33; clear HF31
  refine gw_evG HF33 rfl rfl rfl rfl (on_f _) rfl (by decide) (fun h_ => (op_move rfl (HF33.ev rfl))) ?_
  intro a34 HF35; clear HF33
  refine gw_evG HF35 rfl rfl rfl rfl (on_f _) rfl (by decide) (fun h_ => (op_move rfl (HF35.ev rfl))) ?_
  intro a36 HF37; clear HF35
  refine gw_evG HF37 rfl rfl rfl rfl (on_f _) rfl (by decide) (fun h_ => (op_gtr rfl (ev_gv (HF37.ev rfl) h_) (ev_gv (HF37.ev rfl) h_))) ?_
  intro a38 HF39; clear HF37
  refine gw_ev HF39 (want_none rfl) rfl (by decide) (op_pick_or rfl (HF39.ev rfl) (ev_c _ _) (fun hp_ => (ev_gv (HF39.ev rfl) (not_t hp_)))) ?_
  intro a40 HF41; clear HF39
  refine gw_ev HF41 (want_none rfl) rfl (by decide) (op_move rfl (HF41.ev rfl)) ?_
  intro a42 HF43; clear HF41
  refine gw_evG HF43 rfl rfl rfl rfl (on_f _) rfl (by decide) (fun h_ => (op_move rfl (HF43.ev rfl))) ?_
  intro a44 HF45; clear HF43
  refine gw_evG HF45 rfl rfl rfl rfl (on_f _) rfl (by decide) (fun h_ => (op_move rfl (HF45.ev rfl))) ?_
  intro a46 HF47; clear HF45
  refine gw_evG HF47 rfl rfl rfl rfl (on_f _) rfl (by decide) (fun h_ => (op_len Try.underlying22 rfl (ev_gv (HF47.ev rfl) h_))) ?_
  intro a48 HF49; clear HF47
  refine gw_evG HF49 rfl rfl rfl rfl (on_f _) rfl (by decide) (fun h_ => (op_move rfl (HF49.ev rfl))) ?_
  intro a50 HF51; clear HF49
  refine gw_evG HF51 rfl rfl rfl rfl (on_f _) rfl (by decide) (fun h_ => (op_sub rfl (ev_gv (HF51.ev rfl) h_) (ev_gv (HF51.ev rfl) h_) (by (try simp only [Bool.and_eq_true, Bool.or_eq_true, Bool.and_eq_false_iff, Bool.or_eq_false_iff, Bool.not_and, Bool.not_or, Bool.not_not, decide_eq_true_eq, decide_eq_false_iff_not, Bool.not_eq_true', Bool.not_eq_false', Bool.not_eq_true, Bool.not_eq_false, ne_eq, Decidable.not_not, Int.not_lt, Int.not_le, not_true_eq_false, not_false_eq_true, bne_iff_ne, beq_iff_eq, bne_eq_false_iff_eq, beq_eq_false_iff_ne] at h_); omega))) ?_
  intro a52 HF53; clear HF51
  refine gw_evG HF53 rfl rfl rfl rfl (on_f _) rfl (by decide) (fun h_ => (op_gtr rfl (ev_gv (HF53.ev rfl) h_) (ev_gv (HF53.ev rfl) h_))) ?_
  intro a54 HF55; clear HF53
  refine gw_ev HF55 (want_none rfl) rfl (by decide) (op_pick_or rfl (HF55.ev rfl) (ev_c _ _) (fun hp_ => (ev_gv (HF55.ev rfl) (not_t hp_)))) ?_
  intro a56 HF57; clear HF55
  refine wpList_nil ?_
  refine gw_nx (hK27 _ _ ?_)
  refine gw_cond HF57 rfl (fun hb58 => ?_) (fun hb58 => ?_)
  · skip
    have HF59 := HF57.subst_ (d := 27) (b := true) rfl hb58
    clear HF57
    (try simp only [Bool.and_eq_true, Bool.or_eq_true, Bool.and_eq_false_iff, Bool.or_eq_false_iff, Bool.not_and, Bool.not_or, Bool.not_not, decide_eq_true_eq, decide_eq_false_iff_not, Bool.not_eq_true', Bool.not_eq_false', Bool.not_eq_true, Bool.not_eq_false, ne_eq, Decidable.not_not, Int.not_lt, Int.not_le, not_true_eq_false, not_false_eq_true, bne_iff_ne, beq_iff_eq, bne_eq_false_iff_eq, beq_eq_false_iff_ne] at hb58)
    refine gw_seq fun K60 hK60 => ?_
    refine wp_region_lit ?_
    refine gw_ev HF59 (want_none rfl) rfl (by decide) (op_assign rfl (ev_c _ _)) ?_
    intro a61 HF62; clear HF59
    refine gw_ev HF62 (want_none rfl) rfl (by decide) (op_assign rfl (ev_c _ _)) ?_
    intro a63 HF64; clear HF62
    refine wpList_nil ?_
    refine gw_nx (hK60 _ _ ?_)
    refine wp_ret ?_
    refine gw_thr ?_
    refine gw_ret2 HF64 rfl rfl rfl ?_
    exact ⟨by rw [gtextV_none (gt_none (by omega))], HO14.below⟩
  · skip
    have HF65 := HF57.subst_ (d := 27) (b := false) rfl hb58
    clear HF57
    (try simp only [Bool.and_eq_true, Bool.or_eq_true, Bool.and_eq_false_iff, Bool.or_eq_false_iff, Bool.not_and, Bool.not_or, Bool.not_not, decide_eq_true_eq, decide_eq_false_iff_not, Bool.not_eq_true', Bool.not_eq_false', Bool.not_eq_true, Bool.not_eq_false, ne_eq, Decidable.not_not, Int.not_lt, Int.not_le, not_true_eq_false, not_false_eq_true, bne_iff_ne, beq_iff_eq, bne_eq_false_iff_eq, beq_eq_false_iff_ne] at hb58)
    refine wp_skip ?_
    refine gw_nx (hK26 _ _ ?_)
    refine gw_seq fun K66 hK66 => ?_
    refine wp_region_lit ?_
    refine gw_ev HF65 (want_none rfl) rfl (by decide) (op_move rfl (HF65.ev rfl)) ?_
    intro a67 HF68; clear HF65
    refine gw_ev HF68 (want_none rfl) rfl (by decide) (op_move rfl (HF68.ev rfl)) ?_
    intro a69 HF70; clear HF68
    refine gw_ev HF70 (want_none rfl) rfl (by decide) (op_move rfl (HF70.ev rfl)) ?_
    intro a71 HF72; clear HF70
    refine gw_ev HF72 (want_none rfl) rfl (by decide) (op_move rfl (HF72.ev rfl)) ?_
    intro a73 HF74; clear HF72
    refine gw_ev HF74 (want_none rfl) rfl (by decide) (op_add rfl (HF74.ev rfl) (HF74.ev rfl) (by omega)) ?_
    intro a75 HF76; clear HF74
    obtain ⟨A77, c78, hr79, hc80, hC81, hA82⟩ := cut_lh (P := Try.prog) (d := (Kd.int .u8)) (t := 22) (e := 5) Try.underlying22 gwsiz5 A c xs hc ((gnumV xs).2) (((gnumV xs).2) + ((gnumV xs).1)) (by omega) (by omega) (by omega)
    refine gw_ev HF76 (want_none rfl) rfl (by decide) (op_cut Try.underlying22 hr79 rfl (HF76.ev rfl) (some_ev (HF76.ev rfl)) (some_ev (HF76.ev rfl))) ?_
    intro a83 HF84; clear HF76
    refine gw_ev HF84 (want_none rfl) rfl (by decide) (op_conv_str Try.underlying22 Try.underlying5 Try.underlying9 (hC81 _ (Kd.C_below hr HO14.below)) rfl (HF84.ev rfl)) ?_
    intro a85 HF86; clear HF84
    refine gw_ev HF86 (want_none rfl) rfl (by decide) (op_move rfl (HF86.ev rfl)) ?_
    intro a87 HF88; clear HF86
    refine gw_ev HF88 (want_none rfl) rfl (by decide) (op_move rfl (HF88.ev rfl)) ?_
    intro a89 HF90; clear HF88
    refine gw_ev HF90 (want_none rfl) rfl (by decide) (op_add rfl (HF90.ev rfl) (HF90.ev rfl) (by omega)) ?_
    intro a91 HF92; clear HF90
    refine gw_ev HF92 (want_none rfl) rfl (by decide) (op_assign rfl (HF92.ev rfl)) ?_
    intro a93 HF94; clear HF92
    refine gw_ev HF94 (want_none rfl) rfl (by decide) (op_assign rfl (HF94.ev rfl)) ?_
    intro a95 HF96; clear HF94
    refine wpList_nil ?_
    refine gw_nx (hK66 _ _ ?_)
    refine wp_ret ?_
    refine gw_ret2 HF96 rfl rfl rfl ?_
    have eg := gt_some (xs := xs) (most := most) (by omega) (by omega) (by omega)
    exact ⟨by rw [gtextV_some eg.1, eg.2.1, eg.2.2], HO14.below⟩
end GGet_
end Go.Proofs.Ytmlemnfleicnfaa.PA
