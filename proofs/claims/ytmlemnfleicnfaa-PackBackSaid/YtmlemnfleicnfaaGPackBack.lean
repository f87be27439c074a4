/- PackBack. Printed by a program of this session; Lean checks it. -/
import Derived.Test.YtmlemnfleicnfaaGBack1
import Derived.Test.YtmlemnfleicnfaaGReading
namespace Go.Proofs.Ytmlemnfleicnfaa.PA
open Go.RowKit Go.Proofs.YtmlemnfleicnfaaW.PrintWords Go.Proofs.YtmlemnfleicnfaaW.PrintLast Go.Proofs.YtmlemnfleicnfaaW.PrintMore
set_option linter.unusedVariables false
set_option linter.unusedSimpArgs false
namespace GPackBack_
theorem gwagg2 : ∀ w, (isAgg 2).run Try.prog w = .ok false w := fun _ => by kernel_rfl
theorem gwagg4 : ∀ w, (isAgg 4).run Try.prog w = .ok false w := fun _ => by kernel_rfl
theorem gwagg45 : ∀ w, (isAgg 45).run Try.prog w = .ok false w := fun _ => by kernel_rfl
theorem gwagg46 : ∀ w, (isAgg 46).run Try.prog w = .ok false w := fun _ => by kernel_rfl
theorem gwagg9 : ∀ w, (isAgg 9).run Try.prog w = .ok false w := fun _ => by kernel_rfl
theorem gwinfo5 : (Try.prog.info? 5).map (fun i => (i.zero, i.size, i.bytes)) = some (some (.int .u8 0), 1, 1) := by kernel_rfl
theorem gwsiz2 : ∀ w, (sizeOf 2).run Try.prog w = .ok 1 w := fun _ => by kernel_rfl
theorem gwsiz4 : ∀ w, (sizeOf 4).run Try.prog w = .ok 1 w := fun _ => by kernel_rfl
theorem gwsiz5 : ∀ w, (sizeOf 5).run Try.prog w = .ok 1 w := fun _ => by kernel_rfl
theorem gwsiz9 : ∀ w, (sizeOf 9).run Try.prog w = .ok 1 w := fun _ => by kernel_rfl
theorem gwzer4 : ∀ w, (zeroValue 4).run Try.prog w = .ok (.bool false) w := fun _ => by kernel_rfl
theorem writing60 : colloquylaw08_writing.f 60 = some true := by decide +kernel
set_option maxHeartbeats 4000000 in
set_option maxRecDepth 100000 in
theorem PackBack_calls (A0 : Option Addr) (c0 : Nat) (nums : List Int) (A1 : Option Addr) (c1 : Nat) (texts : List ByteArray) (w : World) (hr0 : Kd.C (Kd.int .i64) w A0 nums.length nums) (hc0 : nums.length ≤ c0) (hr1 : Kd.C Kd.string w A1 texts.length texts) (hc1 : texts.length ≤ c1) (hnl : nums.length ≤ 9223372036854775807) (htl : texts.length ≤ 9223372036854775807) (hsz : ∀ s ∈ texts, s.size ≤ 9223372036854775807) :
    Calls Try.prog 9 #[.slice A0 nums.length c0, .slice A1 texts.length c1] w fun e w' => e = .returned (.bool true) ∧ Below w.heap.size w w' := by
  refine gw_start (N := 93) (vs := [.slice A0 nums.length c0, .slice A1 texts.length c1]) Try.func9 rfl rfl (by simp) fun a HF HO => ?_
  replace HO : Own w w [] := HO
  refine gw_seq fun K1 hK1 => ?_
  refine wp_region_lit ?_
  refine gw_new HF HO (want_none rfl) rfl (by decide) (op_box rfl (HF.ev rfl)) ?_
  intro g2 a3 w4 HF5 HO6; clear HF HO
  have HO7 : Own w w4 [Chunk.blk g2 (.cells #[.slice A0 nums.length c0] 45 (0, 0))] := HO6
  clear HO6
  refine gw_new HF5 HO7 (want_none rfl) rfl (by decide) (op_box rfl (HF5.ev rfl)) ?_
  intro g8 a9 w10 HF11 HO12; clear HF5 HO7
  have HO13 : Own w w10 [Chunk.blk g8 (.cells #[.slice A1 texts.length c1] 46 (0, 0)), Chunk.blk g2 (.cells #[.slice A0 nums.length c0] 45 (0, 0))] := HO12
  clear HO12
  refine gw_ev HF11 (want_none rfl) rfl (by decide) (op_assign rfl (ev_c _ _)) ?_
  intro a14 HF15; clear HF11
  refine wpList_nil ?_
  refine gw_nx (hK1 _ _ ?_)
  refine gw_seq fun K16 hK16 => ?_
  refine gw_seq fun K17 hK17 => ?_
  refine wp_region_lit ?_
  refine gw_call HF15 (want_none rfl) rfl (by decide) (op_callL Try.func18 (by kernel_rfl) rfl rfl ar_nil) (colloquylaw08_writing.calls 60 true _ writing60) ?_
  rintro e18 w19 ⟨rfl, hb20⟩
  refine ⟨_, rfl, fun a21 HF22 => ?_⟩
  have HO23 := HO13.after hb20
  clear HF15 HO13 hb20
  refine gw_ev HF22 (want_none rfl) rfl (by decide) (op_not rfl (HF22.ev rfl)) ?_
  intro a25 HF26; clear HF22
  refine gw_ev HF26 (want_none rfl) rfl (by decide) (op_move rfl (HF26.ev rfl)) ?_
  intro a27 HF28; clear HF26
  refine gw_call HF28 (want_yes HF28 rfl rfl rfl rfl) rfl (by decide) (op_callL Try.func29 (by kernel_rfl) rfl rfl ar_nil) (GReading_.reading_calls _) ?_
  rintro e29 w30 ⟨rfl, hb31⟩
  refine ⟨_, rfl, fun a32 HF33 => ?_⟩
  have HO34 := HO23.after hb31
  clear HF28 HO23 hb31
  refine gw_ev HF33 (want_yes HF33 rfl rfl rfl rfl) rfl (by decide) (op_not rfl (HF33.ev rfl)) ?_
  intro a36 HF37; clear HF33
  refine gw_ev HF37 (want_none rfl) rfl (by decide) (op_pick_f rfl (HF37.ev rfl) (HF37.ev rfl)) ?_
  intro a38 HF39; clear HF37
  refine wpList_nil ?_
  refine gw_nx (hK17 _ _ ?_)
  refine gw_cond HF39 rfl (fun hb40 => ?_) (fun hb40 => ?_)
  skip
  · cases hb40
  refine wp_skip ?_
  refine gw_nx (hK16 _ _ ?_)
  refine gw_seq fun K41 hK41 => ?_
  refine wp_region_lit ?_
  refine gw_ev HF39 (want_none rfl) rfl (by decide) (op_assign rfl (ev_c _ _)) ?_
  intro a42 HF43; clear HF39
  refine wpList_nil ?_
  refine gw_nx (hK41 _ _ ?_)
  refine gw_seq fun K44 hK44 => ?_
  refine gw_seq fun K45 hK45 => ?_
  refine wp_region_lit ?_
  refine gw_ev HF43 (want_none rfl) rfl (by decide) (op_load1 gwagg45 rfl (HF43.ev rfl) (blk_at (HO34.get 1 rfl) rfl)) ?_
  intro a46 HF47; clear HF43
  refine gw_ev HF47 (want_none rfl) rfl (by decide) (op_len Try.underlying45 rfl (HF47.ev rfl)) ?_
  intro a48 HF49; clear HF47
  refine gw_ev HF49 (want_none rfl) rfl (by decide) (op_move rfl (ev_c _ _)) ?_
  intro a50 HF51; clear HF49
  refine wpList_nil ?_
  refine gw_nx (hK45 _ _ ?_)
  refine wp_block ?_
  have HO52 := HO34.row_nil (Kd.int .u8) 5 w.heap.size
  clear HO34
  refine gw_loop (fun m_ a_ w_ => ∃ (i : Int) (bs1 : List Int) (Ab1 : Option Addr) (cb1 : Nat) (Sb1 : Nat → Prop), Fr 93 a_ [(23, .int .i64 i), (5, .slice Ab1 bs1.length cb1), (2, .pointer (some ⟨g2, 0, none⟩)), (3, .pointer (some ⟨g8, 0, none⟩)), (4, .bool false), (21, .slice A0 nums.length c0), (22, .int .i64 (nums.length : Int))] ∧ Own w w_ [Chunk.row (Kd.int .u8) 5 w.heap.size Sb1 (.slice Ab1 bs1.length cb1) bs1, Chunk.blk g8 (.cells #[.slice A1 texts.length c1] 46 (0, 0)), Chunk.blk g2 (.cells #[.slice A0 nums.length c0] 45 (0, 0))] ∧ (0 ≤ i ∧ i ≤ nums.length ∧ i ≤ 50) ∧ (bs1 ++ encNi nums (51 - i.toNat) i.toNat = encNi nums 51 0) ∧ ((bs1.length : Int) ≤ 10 * i) ∧ m_ = (51 - i.toNat)) ((51 - (0 : Int).toNat)) ?_ ?_
  · refine ⟨0, [], none, 0, _, (HF51.pick (t := 23) rfl (HF51.pick (t := 5) rfl (HF51.pick (t := 2) rfl (HF51.pick (t := 3) rfl (HF51.pick (t := 4) rfl (HF51.pick (t := 21) rfl (HF51.pick (t := 22) rfl HF51.nil))))))), HO52.sel [0, 1, 2] (by decide), ?_, ?_, ?_, rfl⟩
    · omega
    · rfl
    · simp
  · rintro m54 a55 w56 ⟨i, bs1, Ab1, cb1, Sb1, HF57, HO58, hi1, he1, hl1, hm59⟩
    refine gw_seq fun K60 hK60 => ?_
    refine wp_region_lit ?_
    refine gw_ev HF57 (want_none rfl) rfl (by decide) (op_lss rfl (HF57.ev rfl) (HF57.ev rfl)) ?_
    intro a61 HF62; clear HF57
    refine wpList_nil ?_
    refine gw_nx (hK60 _ _ ?_)
    refine gw_seq fun K63 hK63 => ?_
    refine gw_cond HF62 rfl (fun hb64 => ?_) (fun hb64 => ?_)
    · skip
      have HF65 := HF62.subst_ (d := 24) (b := true) rfl hb64
      clear HF62
      (try simp only [Bool.and_eq_true, Bool.or_eq_true, Bool.and_eq_false_iff, Bool.or_eq_false_iff, Bool.not_and, Bool.not_or, Bool.not_not, decide_eq_true_eq, decide_eq_false_iff_not, Bool.not_eq_true', Bool.not_eq_false', Bool.not_eq_true, Bool.not_eq_false, ne_eq, Decidable.not_not, Int.not_lt, Int.not_le, not_true_eq_false, not_false_eq_true, bne_iff_ne, beq_iff_eq, bne_eq_false_iff_eq, beq_eq_false_iff_ne] at hb64)
      refine wp_skip ?_
      refine gw_nx (hK63 _ _ ?_)
      refine gw_seq fun K66 hK66 => ?_
      refine wp_block ?_
      refine gw_seq fun K67 hK67 => ?_
      refine wp_region_lit ?_
      refine gw_ev HF65 (want_none rfl) rfl (by decide) (op_move rfl (HF65.ev rfl)) ?_
      intro a68 HF69; clear HF65
      obtain ⟨ad70, cs73, hA71, hl74, hK75, hc72⟩ := Kd.C_get hr0 (0 : Int) i (by omega) (by omega)
      obtain rfl := id hK75
      clear hl74
      refine gw_ev HF69 (want_none rfl) rfl (by decide) (op_index Try.underlying45 gwsiz2 rfl (HF69.ev rfl) (HF69.ev rfl) hA71 (⟨by omega, by omega⟩)) ?_
      intro a76 HF77; clear HF69
      refine gw_ev HF77 (want_none rfl) rfl (by decide) (op_load1 gwagg2 rfl (HF77.ev rfl) (HO58.cell0 (at0 hc72))) ?_
      intro a78 HF79; clear HF77
      refine gw_ev HF79 (want_none rfl) rfl (by decide) (op_assign rfl (HF79.ev rfl)) ?_
      intro a80 HF81; clear HF79
      refine gw_ev HF81 (want_none rfl) rfl (by decide) (op_assign rfl (HF81.ev rfl)) ?_
      intro a82 HF83; clear HF81
      refine wpList_nil ?_
      refine gw_nx (hK67 _ _ ?_)
      refine gw_seq fun K84 hK84 => ?_
      refine gw_seq fun K85 hK85 => ?_
      refine wp_region_lit ?_
      refine gw_ev HF83 (want_none rfl) rfl (by decide) (op_move rfl (HF83.ev rfl)) ?_
      intro a86 HF87; clear HF83
      refine gw_ev HF87 (want_none rfl) rfl (by decide) (op_geq rfl (HF87.ev rfl) (ev_c _ _)) ?_
      intro a88 HF89; clear HF87
      refine wpList_nil ?_
      refine gw_nx (hK85 _ _ ?_)
      refine gw_cond HF89 rfl (fun hb90 => ?_) (fun hb90 => ?_)
      · skip
        have HF91 := HF89.subst_ (d := 29) (b := true) rfl hb90
        clear HF89
        (try simp only [Bool.and_eq_true, Bool.or_eq_true, Bool.and_eq_false_iff, Bool.or_eq_false_iff, Bool.not_and, Bool.not_or, Bool.not_not, decide_eq_true_eq, decide_eq_false_iff_not, Bool.not_eq_true', Bool.not_eq_false', Bool.not_eq_true, Bool.not_eq_false, ne_eq, Decidable.not_not, Int.not_lt, Int.not_le, not_true_eq_false, not_false_eq_true, bne_iff_ne, beq_iff_eq, bne_eq_false_iff_eq, beq_eq_false_iff_ne] at hb90)
        refine wp_exit ?_
        refine gw_thx ?_
        refine gw_out (by decide) ?_
        refine gw_thx ?_
        refine gw_thx ?_
        refine gw_in ?_
        refine gw_nx (hK44 _ _ ?_)
        refine gw_seq fun K92 hK92 => ?_
        refine gw_seq fun K93 hK93 => ?_
        refine wp_region_lit ?_
        refine gw_ev HF91 (want_none rfl) rfl (by decide) (op_load1 gwagg46 rfl (HF91.ev rfl) (blk_at (HO58.get 1 rfl) rfl)) ?_
        intro a94 HF95; clear HF91
        refine gw_ev HF95 (want_none rfl) rfl (by decide) (op_len Try.underlying46 rfl (HF95.ev rfl)) ?_
        intro a96 HF97; clear HF95
        refine gw_ev HF97 (want_none rfl) rfl (by decide) (op_move rfl (ev_c _ _)) ?_
        intro a98 HF99; clear HF97
        refine wpList_nil ?_
        refine gw_nx (hK93 _ _ ?_)
        refine wp_block ?_
        refine gw_loop (fun m_ a_ w_ => ∃ (k : Int) (bs2 : List Int) (Ab2 : Option Addr) (cb2 : Nat) (Sb2 : Nat → Prop), Fr 93 a_ [(36, .int .i64 k), (5, .slice Ab2 bs2.length cb2), (2, .pointer (some ⟨g2, 0, none⟩)), (3, .pointer (some ⟨g8, 0, none⟩)), (4, .bool false), (34, .slice A1 texts.length c1), (35, .int .i64 (texts.length : Int))] ∧ Own w w_ [Chunk.row (Kd.int .u8) 5 w.heap.size Sb2 (.slice Ab2 bs2.length cb2) bs2, Chunk.blk g8 (.cells #[.slice A1 texts.length c1] 46 (0, 0)), Chunk.blk g2 (.cells #[.slice A0 nums.length c0] 45 (0, 0))] ∧ (0 ≤ k ∧ k ≤ texts.length ∧ k ≤ 50) ∧ (bs2 ++ encTi texts (51 - k.toNat) k.toNat = (encNi nums 51 0 ++ encTi texts 51 0)) ∧ ((bs2.length : Int) ≤ 500 + 510 * k) ∧ m_ = (51 - k.toNat)) ((51 - (0 : Int).toNat)) ?_ ?_
        · refine ⟨0, bs1, Ab1, cb1, _, (HF99.pick (t := 36) rfl (HF99.pick (t := 5) rfl (HF99.pick (t := 2) rfl (HF99.pick (t := 3) rfl (HF99.pick (t := 4) rfl (HF99.pick (t := 34) rfl (HF99.pick (t := 35) rfl HF99.nil))))))), HO58.sel [0, 1, 2] (by decide), ?_, ?_, ?_, rfl⟩
          · omega
          · (have e0_ := en_out (ns := nums) hi1.1 hi1.2.2 (by omega); rw [e0_, List.append_nil] at he1; rw [he1]; rfl)
          · omega
        · rintro m101 a102 w103 ⟨k, bs2, Ab2, cb2, Sb2, HF104, HO105, hi2, he2, hl2, hm106⟩
          refine gw_seq fun K107 hK107 => ?_
          refine wp_region_lit ?_
          refine gw_ev HF104 (want_none rfl) rfl (by decide) (op_lss rfl (HF104.ev rfl) (HF104.ev rfl)) ?_
          intro a108 HF109; clear HF104
          refine wpList_nil ?_
          refine gw_nx (hK107 _ _ ?_)
          refine gw_seq fun K110 hK110 => ?_
          refine gw_cond HF109 rfl (fun hb111 => ?_) (fun hb111 => ?_)
          · skip
            have HF112 := HF109.subst_ (d := 37) (b := true) rfl hb111
            clear HF109
            (try simp only [Bool.and_eq_true, Bool.or_eq_true, Bool.and_eq_false_iff, Bool.or_eq_false_iff, Bool.not_and, Bool.not_or, Bool.not_not, decide_eq_true_eq, decide_eq_false_iff_not, Bool.not_eq_true', Bool.not_eq_false', Bool.not_eq_true, Bool.not_eq_false, ne_eq, Decidable.not_not, Int.not_lt, Int.not_le, not_true_eq_false, not_false_eq_true, bne_iff_ne, beq_iff_eq, bne_eq_false_iff_eq, beq_eq_false_iff_ne] at hb111)
            refine wp_skip ?_
            refine gw_nx (hK110 _ _ ?_)
            refine gw_seq fun K113 hK113 => ?_
            refine wp_block ?_
            refine gw_seq fun K114 hK114 => ?_
            refine wp_region_lit ?_
            refine gw_ev HF112 (want_none rfl) rfl (by decide) (op_move rfl (HF112.ev rfl)) ?_
            intro a115 HF116; clear HF112
            obtain ⟨ad117, cs120, hA118, hl121, hK122, hc119⟩ := Kd.C_get hr1 (⟨#[]⟩ : ByteArray) k (by omega) (by omega)
            obtain rfl := id hK122
            clear hl121
            refine gw_ev HF116 (want_none rfl) rfl (by decide) (op_index Try.underlying46 gwsiz9 rfl (HF116.ev rfl) (HF116.ev rfl) hA118 (⟨by omega, by omega⟩)) ?_
            intro a123 HF124; clear HF116
            refine gw_ev HF124 (want_none rfl) rfl (by decide) (op_load1 gwagg9 rfl (HF124.ev rfl) (HO105.cell0 (at0 hc119))) ?_
            intro a125 HF126; clear HF124
            refine gw_ev HF126 (want_none rfl) rfl (by decide) (op_assign rfl (HF126.ev rfl)) ?_
            intro a127 HF128; clear HF126
            refine gw_ev HF128 (want_none rfl) rfl (by decide) (op_assign rfl (HF128.ev rfl)) ?_
            intro a129 HF130; clear HF128
            refine wpList_nil ?_
            refine gw_nx (hK114 _ _ ?_)
            refine gw_seq fun K131 hK131 => ?_
            refine gw_seq fun K132 hK132 => ?_
            refine wp_region_lit ?_
            refine gw_ev HF130 (want_none rfl) rfl (by decide) (op_move rfl (HF130.ev rfl)) ?_
            intro a133 HF134; clear HF130
            refine gw_ev HF134 (want_none rfl) rfl (by decide) (op_geq rfl (HF134.ev rfl) (ev_c _ _)) ?_
            intro a135 HF136; clear HF134
            refine gw_ev HF136 (want_none rfl) rfl (by decide) (op_move rfl (HF136.ev rfl)) ?_
            intro a137 HF138; clear HF136
            refine gw_evG HF138 rfl rfl rfl rfl (on_f _) rfl (by decide) (fun h_ => (op_move rfl (HF138.ev rfl))) ?_
            intro a139 HF140; clear HF138
            refine gw_evG HF140 rfl rfl rfl rfl (on_f _) rfl (by decide) (fun h_ => (op_lens Try.underlying9 rfl (ev_gv (HF140.ev rfl) h_))) ?_
            intro a141 HF142; clear HF140
            refine gw_evG HF142 rfl rfl rfl rfl (on_f _) rfl (by decide) (fun h_ => (op_gtr rfl (ev_gv (HF142.ev rfl) h_) (ev_c _ _))) ?_
            intro a143 HF144; clear HF142
            refine gw_ev HF144 (want_none rfl) rfl (by decide) (op_pick_or rfl (HF144.ev rfl) (ev_c _ _) (fun hp_ => (ev_gv (HF144.ev rfl) (not_t hp_)))) ?_
            intro a145 HF146; clear HF144
            refine wpList_nil ?_
            refine gw_nx (hK132 _ _ ?_)
            refine gw_cond HF146 rfl (fun hb147 => ?_) (fun hb147 => ?_)
            · skip
              have HF148 := HF146.subst_ (d := 47) (b := true) rfl hb147
              clear HF146
              (try simp only [Bool.and_eq_true, Bool.or_eq_true, Bool.and_eq_false_iff, Bool.or_eq_false_iff, Bool.not_and, Bool.not_or, Bool.not_not, decide_eq_true_eq, decide_eq_false_iff_not, Bool.not_eq_true', Bool.not_eq_false', Bool.not_eq_true, Bool.not_eq_false, ne_eq, Decidable.not_not, Int.not_lt, Int.not_le, not_true_eq_false, not_false_eq_true, bne_iff_ne, beq_iff_eq, bne_eq_false_iff_eq, beq_eq_false_iff_ne] at hb147)
              refine wp_exit ?_
              refine gw_thx ?_
              refine gw_out (by decide) ?_
              refine gw_thx ?_
              refine gw_thx ?_
              refine gw_in ?_
              refine gw_nx (hK92 _ _ ?_)
              refine gw_seq fun K149 hK149 => ?_
              refine wp_region_lit ?_
              refine gw_new HF148 HO105 (want_none rfl) rfl (by decide) (op_alloc gwzer4 rfl) ?_
              intro g150 a151 w152 HF153 HO154; clear HF148 HO105
              have HO155 : Own w w152 [Chunk.blk g150 (.cells #[.bool false] 4 (0, 0)), Chunk.row (Kd.int .u8) 5 w.heap.size Sb2 (.slice Ab2 bs2.length cb2) bs2, Chunk.blk g8 (.cells #[.slice A1 texts.length c1] 46 (0, 0)), Chunk.blk g2 (.cells #[.slice A0 nums.length c0] 45 (0, 0))] := HO154
              clear HO154
              have hbs : bs2 = (encNi nums 51 0 ++ encTi texts 51 0) := by have e0_ := et_out (ts := texts) hi2.1 hi2.2.2 (by omega); rw [e0_, List.append_nil] at he2; exact he2
              have hby : ByteL bs2 := by rw [hbs]; exact byteL_app (encNi_byte _ _ _) (encTi_byte _ _ _)
              refine gw_set 0 HF153 HO155 rfl (want_none rfl) rfl (op_store1 gwsiz4 rfl (HF153.ev rfl) (ev_c _ _) rfl (blk_at (HO155.get 0 rfl) rfl) (blkf (HO155.get 0 rfl))) ?_
              intro a156 w158 HF157 HO159; clear HF153 HO155
              have HO160 : Own w w158 [Chunk.blk g150 (.cells #[.bool true] 4 (0, 0)), Chunk.row (Kd.int .u8) 5 w.heap.size Sb2 (.slice Ab2 bs2.length cb2) bs2, Chunk.blk g8 (.cells #[.slice A1 texts.length c1] 46 (0, 0)), Chunk.blk g2 (.cells #[.slice A0 nums.length c0] 45 (0, 0))] := HO159
              clear HO159
              refine wpList_nil ?_
              refine gw_nx (hK149 _ _ ?_)
              refine gw_seq fun K161 hK161 => ?_
              refine wp_region_lit ?_
              refine gw_ev HF157 (want_none rfl) rfl (by decide) (op_func rfl (ar_cons (HF157.ev rfl) (ar_cons (HF157.ev rfl) (ar_cons (HF157.ev rfl) ar_nil)))) ?_
              intro a162 HF163; clear HF157
              refine gw_ev HF163 (want_none rfl) rfl (by decide) (op_assign rfl (HF163.ev rfl)) ?_
              intro a164 HF165; clear HF163
              refine wpList_nil ?_
              refine gw_nx (hK161 _ _ ?_)
              refine gw_seq fun K166 hK166 => ?_
              refine wp_region_lit ?_
              refine gw_ev HF165 (want_none rfl) rfl (by decide) (op_move rfl (HF165.ev rfl)) ?_
              intro a167 HF168; clear HF165
              refine gw_ev HF168 (want_none rfl) rfl (by decide) (op_move rfl (HF168.ev rfl)) ?_
              intro a169 HF170; clear HF168
              have HO177 : Own w _ [(Chunk.all [Chunk.row (Kd.int .u8) 5 w.heap.size Sb2 (.slice Ab2 bs2.length cb2) bs2]), Chunk.blk g2 (.cells #[.slice A0 nums.length c0] 45 (0, 0)), Chunk.blk g150 (.cells #[.bool true] 4 (0, 0)), Chunk.blk g8 (.cells #[.slice A1 texts.length c1] 46 (0, 0))] := Own.bundle (A := [Chunk.row (Kd.int .u8) 5 w.heap.size Sb2 (.slice Ab2 bs2.length cb2) bs2]) (L := [Chunk.blk g2 (.cells #[.slice A0 nums.length c0] 45 (0, 0)), Chunk.blk g150 (.cells #[.bool true] 4 (0, 0)), Chunk.blk g8 (.cells #[.slice A1 texts.length c1] 46 (0, 0))]) (HO160.sel [1, 3, 0, 2] (by decide))
              refine gw_call HF170 (want_none rfl) rfl (by decide) (op_callL Try.func31 (by kernel_rfl) rfl rfl (ar_cons (HF170.ev rfl) (ar_cons (HF170.ev rfl) ar_nil))) (GBack1_.back_read w _ (Chunk.all [Chunk.row (Kd.int .u8) 5 w.heap.size Sb2 (.slice Ab2 bs2.length cb2) bs2]) Ab2 cb2 bs2 (fun w_ h_ => (Kd.R_reads' ((Own.unbundle (A := [Chunk.row (Kd.int .u8) 5 w.heap.size Sb2 (.slice Ab2 bs2.length cb2) bs2]) (L := []) h_).get 0 rfl)).2.2) (row_cap (HO160.get 1 rfl)) (hby) g2 g150 g8 A0 c0 nums (fun w_ h_ => Kd.C_below hr0 h_.below) hc0 A1 c1 texts (fun w_ h_ => Kd.C_below hr1 h_.below) hc1 (some []) (fin1 hbs) (by omega) (by omega) hsz HO177) ?_
              rintro e171 w172 ⟨rfl, hb173⟩
              refine ⟨_, rfl, fun a174 HF175 => ?_⟩
              have HO176 : Own w w172 [Chunk.row (Kd.int .u8) 5 w.heap.size Sb2 (.slice Ab2 bs2.length cb2) bs2, Chunk.blk g2 (.cells #[.slice A0 nums.length c0] 45 (0, 0)), Chunk.blk g150 (.cells #[.bool true] 4 (0, 0)), Chunk.blk g8 (.cells #[.slice A1 texts.length c1] 46 (0, 0))] := Own.unbundle (A := [Chunk.row (Kd.int .u8) 5 w.heap.size Sb2 (.slice Ab2 bs2.length cb2) bs2]) (L := [Chunk.blk g2 (.cells #[.slice A0 nums.length c0] 45 (0, 0)), Chunk.blk g150 (.cells #[.bool true] 4 (0, 0)), Chunk.blk g8 (.cells #[.slice A1 texts.length c1] 46 (0, 0))]) (hb173.sel [0, 1, 2, 3] (by decide))
              clear HO177
              clear HF170 HO160 hb173
              have HO179 : Own w w172 [Chunk.row (Kd.int .u8) 5 w.heap.size Sb2 (.slice Ab2 bs2.length cb2) bs2, Chunk.blk g2 (.cells #[.slice A0 nums.length c0] 45 (0, 0)), Chunk.blk g150 (.cells #[.bool true] 4 (0, 0)), Chunk.blk g8 (.cells #[.slice A1 texts.length c1] 46 (0, 0))] := HO176
              clear HO176
              refine gw_ev HF175 (want_none rfl) rfl (by decide) (op_assign rfl (HF175.ev rfl)) ?_
              intro a180 HF181; clear HF175
              refine wpList_nil ?_
              refine gw_nx (hK166 _ _ ?_)
              refine gw_seq fun K182 hK182 => ?_
              refine wp_region_lit ?_
              refine gw_ev HF181 (want_none rfl) rfl (by decide) (op_move rfl (HF181.ev rfl)) ?_
              intro a183 HF184; clear HF181
              refine gw_lit (enc := Value.int .u8) (fun _ => rfl) (xs := [0]) (e := 5) HF184 HO179 (want_none rfl) rfl (by decide) (op_bslice (by kernel_rfl) rfl (pt_cons (ev_c _ _) pt_nil)) (by simp) ?_
              intro A185 S186 a187 w188 HF189 HO190; clear HF184 HO179
              have HO191 : Own w w188 [Chunk.row (Kd.int .u8) 5 w.heap.size S186 (.slice A185 (([0]).length) (([0]).length)) ([0]), Chunk.row (Kd.int .u8) 5 w.heap.size Sb2 (.slice Ab2 bs2.length cb2) bs2, Chunk.blk g2 (.cells #[.slice A0 nums.length c0] 45 (0, 0)), Chunk.blk g150 (.cells #[.bool true] 4 (0, 0)), Chunk.blk g8 (.cells #[.slice A1 texts.length c1] 46 (0, 0))] := HO190
              clear HO190
              refine gw_appendV 1 HF189 HO191 (want_none rfl) rfl (by decide) rfl Try.underlying22 gwinfo5 (by decide) rfl (HF189.ev rfl) (HF189.ev rfl) (Kd.R_reads' (HO191.get 0 rfl)).2.2 (by simp) HO191.below.size (by first | omega | (simp; omega)) ?_
              intro A192 c193 S194 a195 w196 HF197 HO198; clear HF189 HO191
              have HO199 : Own w w196 [Chunk.row (Kd.int .u8) 5 w.heap.size S186 (.slice A185 (([0]).length) (([0]).length)) ([0]), Chunk.two .u8 S194 A192 ((bs2 ++ [0]).length) c193 (bs2 ++ [0]) Ab2 bs2.length cb2 bs2, Chunk.blk g2 (.cells #[.slice A0 nums.length c0] 45 (0, 0)), Chunk.blk g150 (.cells #[.bool true] 4 (0, 0)), Chunk.blk g8 (.cells #[.slice A1 texts.length c1] 46 (0, 0))] := HO198
              clear HO198
              refine gw_ev HF197 (want_none rfl) rfl (by decide) (op_move rfl (HF197.ev rfl)) ?_
              intro a200 HF201; clear HF197
              have HO208 : Own w _ [(Chunk.all [Chunk.row (Kd.int .u8) 5 w.heap.size S186 (.slice A185 (([0]).length) (([0]).length)) ([0]), Chunk.two .u8 S194 A192 ((bs2 ++ [0]).length) c193 (bs2 ++ [0]) Ab2 bs2.length cb2 bs2]), Chunk.blk g2 (.cells #[.slice A0 nums.length c0] 45 (0, 0)), Chunk.blk g150 (.cells #[.bool true] 4 (0, 0)), Chunk.blk g8 (.cells #[.slice A1 texts.length c1] 46 (0, 0))] := Own.bundle (A := [Chunk.row (Kd.int .u8) 5 w.heap.size S186 (.slice A185 (([0]).length) (([0]).length)) ([0]), Chunk.two .u8 S194 A192 ((bs2 ++ [0]).length) c193 (bs2 ++ [0]) Ab2 bs2.length cb2 bs2]) (L := [Chunk.blk g2 (.cells #[.slice A0 nums.length c0] 45 (0, 0)), Chunk.blk g150 (.cells #[.bool true] 4 (0, 0)), Chunk.blk g8 (.cells #[.slice A1 texts.length c1] 46 (0, 0))]) (HO199.sel [0, 1, 2, 3, 4] (by decide))
              refine gw_call HF201 (want_none rfl) rfl (by decide) (op_callL Try.func31 (by kernel_rfl) rfl rfl (ar_cons (HF201.ev rfl) (ar_cons (HF201.ev rfl) ar_nil))) (GBack1_.back_read w _ (Chunk.all [Chunk.row (Kd.int .u8) 5 w.heap.size S186 (.slice A185 (([0]).length) (([0]).length)) ([0]), Chunk.two .u8 S194 A192 ((bs2 ++ [0]).length) c193 (bs2 ++ [0]) Ab2 bs2.length cb2 bs2]) A192 c193 (bs2 ++ [0]) (fun w_ h_ => ((Own.unbundle (A := [Chunk.row (Kd.int .u8) 5 w.heap.size S186 (.slice A185 (([0]).length) (([0]).length)) ([0]), Chunk.two .u8 S194 A192 ((bs2 ++ [0]).length) c193 (bs2 ++ [0]) Ab2 bs2.length cb2 bs2]) (L := []) h_).get 1 rfl).1.1) (HO199.get 1 rfl).1.2.1 (byteL_app hby (fun x hx => by simp at hx; omega)) g2 g150 g8 A0 c0 nums (fun w_ h_ => Kd.C_below hr0 h_.below) hc0 A1 c1 texts (fun w_ h_ => Kd.C_below hr1 h_.below) hc1 (some [0]) (fin2 hbs) (by omega) (by omega) hsz HO208) ?_
              rintro e202 w203 ⟨rfl, hb204⟩
              refine ⟨_, rfl, fun a205 HF206 => ?_⟩
              have HO207 : Own w w203 [Chunk.row (Kd.int .u8) 5 w.heap.size S186 (.slice A185 (([0]).length) (([0]).length)) ([0]), Chunk.two .u8 S194 A192 ((bs2 ++ [0]).length) c193 (bs2 ++ [0]) Ab2 bs2.length cb2 bs2, Chunk.blk g2 (.cells #[.slice A0 nums.length c0] 45 (0, 0)), Chunk.blk g150 (.cells #[.bool true] 4 (0, 0)), Chunk.blk g8 (.cells #[.slice A1 texts.length c1] 46 (0, 0))] := Own.unbundle (A := [Chunk.row (Kd.int .u8) 5 w.heap.size S186 (.slice A185 (([0]).length) (([0]).length)) ([0]), Chunk.two .u8 S194 A192 ((bs2 ++ [0]).length) c193 (bs2 ++ [0]) Ab2 bs2.length cb2 bs2]) (L := [Chunk.blk g2 (.cells #[.slice A0 nums.length c0] 45 (0, 0)), Chunk.blk g150 (.cells #[.bool true] 4 (0, 0)), Chunk.blk g8 (.cells #[.slice A1 texts.length c1] 46 (0, 0))]) (hb204.sel [0, 1, 2, 3] (by decide))
              clear HO208
              clear HF201 HO199 hb204
              have HO210 : Own w w203 [Chunk.row (Kd.int .u8) 5 w.heap.size S186 (.slice A185 (([0]).length) (([0]).length)) ([0]), Chunk.two .u8 S194 A192 ((bs2 ++ [0]).length) c193 (bs2 ++ [0]) Ab2 bs2.length cb2 bs2, Chunk.blk g2 (.cells #[.slice A0 nums.length c0] 45 (0, 0)), Chunk.blk g150 (.cells #[.bool true] 4 (0, 0)), Chunk.blk g8 (.cells #[.slice A1 texts.length c1] 46 (0, 0))] := HO207
              clear HO207
              refine gw_ev HF206 (want_none rfl) rfl (by decide) (op_assign rfl (HF206.ev rfl)) ?_
              intro a211 HF212; clear HF206
              refine wpList_nil ?_
              refine gw_nx (hK182 _ _ ?_)
              refine gw_seq fun K213 hK213 => ?_
              refine gw_seq fun K214 hK214 => ?_
              refine wp_region_lit ?_
              refine gw_ev HF212 (want_none rfl) rfl (by decide) (op_move rfl (HF212.ev rfl)) ?_
              intro a215 HF216; clear HF212
              refine gw_ev HF216 (want_none rfl) rfl (by decide) (op_len Try.underlying22 rfl (HF216.ev rfl)) ?_
              intro a217 HF218; clear HF216
              refine gw_ev HF218 (want_none rfl) rfl (by decide) (op_eqi rfl (HF218.ev rfl) (ev_c _ _)) ?_
              intro a219 HF220; clear HF218
              refine wpList_nil ?_
              refine gw_nx (hK214 _ _ ?_)
              refine gw_cond HF220 rfl (fun hb221 => ?_) (fun hb221 => ?_)
              · skip
                have HF222 := HF220.subst_ (d := 63) (b := true) rfl hb221
                clear HF220
                (try simp only [Bool.and_eq_true, Bool.or_eq_true, Bool.and_eq_false_iff, Bool.or_eq_false_iff, Bool.not_and, Bool.not_or, Bool.not_not, decide_eq_true_eq, decide_eq_false_iff_not, Bool.not_eq_true', Bool.not_eq_false', Bool.not_eq_true, Bool.not_eq_false, ne_eq, Decidable.not_not, Int.not_lt, Int.not_le, not_true_eq_false, not_false_eq_true, bne_iff_ne, beq_iff_eq, bne_eq_false_iff_eq, beq_eq_false_iff_ne] at hb221)
                refine gw_seq fun K223 hK223 => ?_
                refine wp_region_lit ?_
                refine gw_ev HF222 (want_none rfl) rfl (by decide) (op_load1 gwagg4 rfl (HF222.ev rfl) (blk_at (HO210.get 3 rfl) rfl)) ?_
                intro a224 HF225; clear HF222
                refine gw_ev HF225 (want_none rfl) rfl (by decide) (op_move rfl (HF225.ev rfl)) ?_
                intro a226 HF227; clear HF225
                refine gw_ev HF227 (want_yes HF227 rfl rfl rfl rfl) rfl (by decide) (op_move rfl (HF227.ev rfl)) ?_
                intro a228 HF229; clear HF227
                refine gw_ev HF229 (want_yes HF229 rfl rfl rfl rfl) rfl (by decide) (op_eqi rfl (HF229.ev rfl) (ev_c _ _)) ?_
                intro a230 HF231; clear HF229
                have HF232 := HF231.lit (b := true) (by decide)
                clear HF231
                refine gw_ev HF232 (want_none rfl) rfl (by decide) (op_pick_t rfl (HF232.ev rfl) (HF232.ev rfl)) ?_
                intro a233 HF234; clear HF232
                refine gw_ev HF234 (want_none rfl) rfl (by decide) (op_move rfl (HF234.ev rfl)) ?_
                intro a235 HF236; clear HF234
                refine gw_ev HF236 (want_yes HF236 rfl rfl rfl rfl) rfl (by decide) (op_move rfl (HF236.ev rfl)) ?_
                intro a237 HF238; clear HF236
                refine gw_ev HF238 (want_yes HF238 rfl rfl rfl rfl) rfl (by decide) (op_eqi rfl (HF238.ev rfl) (ev_c _ _)) ?_
                intro a239 HF240; clear HF238
                have HF241 := HF240.lit (b := true) (by decide)
                clear HF240
                refine gw_ev HF241 (want_none rfl) rfl (by decide) (op_pick_t rfl (HF241.ev rfl) (HF241.ev rfl)) ?_
                intro a242 HF243; clear HF241
                refine gw_ev HF243 (want_none rfl) rfl (by decide) (op_assign rfl (HF243.ev rfl)) ?_
                intro a244 HF245; clear HF243
                refine wpList_nil ?_
                refine gw_nx (hK223 _ _ ?_)
                refine wp_ret ?_
                refine gw_thr ?_
                refine gw_ret1 HF245 rfl rfl ?_
                exact ⟨rfl, HO210.below⟩
              · skip
                have HF246 := HF220.subst_ (d := 63) (b := false) rfl hb221
                clear HF220
                (try simp only [Bool.and_eq_true, Bool.or_eq_true, Bool.and_eq_false_iff, Bool.or_eq_false_iff, Bool.not_and, Bool.not_or, Bool.not_not, decide_eq_true_eq, decide_eq_false_iff_not, Bool.not_eq_true', Bool.not_eq_false', Bool.not_eq_true, Bool.not_eq_false, ne_eq, Decidable.not_not, Int.not_lt, Int.not_le, not_true_eq_false, not_false_eq_true, bne_iff_ne, beq_iff_eq, bne_eq_false_iff_eq, beq_eq_false_iff_ne] at hb221)
                refine wp_skip ?_
                refine gw_nx (hK213 _ _ ?_)
                refine gw_seq fun K247 hK247 => ?_
                refine wp_region_lit ?_
                refine gw_ev HF246 (want_none rfl) rfl (by decide) (op_move rfl (HF246.ev rfl)) ?_
                intro a248 HF249; clear HF246
                refine gw_ev HF249 (want_none rfl) rfl (by decide) (op_move rfl (HF249.ev rfl)) ?_
                intro a250 HF251; clear HF249
                refine gw_ev HF251 (want_none rfl) rfl (by decide) (op_len Try.underlying22 rfl (HF251.ev rfl)) ?_
                intro a252 HF253; clear HF251
                refine gw_ev HF253 (want_none rfl) rfl (by decide) (op_sub rfl (HF253.ev rfl) (ev_c _ _) (by omega)) ?_
                intro a254 HF255; clear HF253
                obtain ⟨hr256, hc257, hC258⟩ := cut_hi (P := Try.prog) (d := (Kd.int .u8)) (t := 22) (e := 5) Try.underlying22 gwsiz5 Ab2 cb2 bs2 (HO210.get 1 rfl).2.2.1 ((bs2.length : Int) - 1) (by omega) (by omega)
                refine gw_ev HF255 (want_none rfl) rfl (by decide) (op_cut Try.underlying22 hr256 rfl (HF255.ev rfl) rfl (some_ev (HF255.ev rfl))) ?_
                intro a259 HF260; clear HF255
                refine gw_ev HF260 (want_none rfl) rfl (by decide) (op_move rfl (HF260.ev rfl)) ?_
                intro a261 HF262; clear HF260
                have HO269 : Own w _ [(Chunk.all [Chunk.row (Kd.int .u8) 5 w.heap.size S186 (.slice A185 (([0]).length) (([0]).length)) ([0]), Chunk.two .u8 S194 A192 ((bs2 ++ [0]).length) c193 (bs2 ++ [0]) Ab2 bs2.length cb2 bs2]), Chunk.blk g2 (.cells #[.slice A0 nums.length c0] 45 (0, 0)), Chunk.blk g150 (.cells #[.bool true] 4 (0, 0)), Chunk.blk g8 (.cells #[.slice A1 texts.length c1] 46 (0, 0))] := Own.bundle (A := [Chunk.row (Kd.int .u8) 5 w.heap.size S186 (.slice A185 (([0]).length) (([0]).length)) ([0]), Chunk.two .u8 S194 A192 ((bs2 ++ [0]).length) c193 (bs2 ++ [0]) Ab2 bs2.length cb2 bs2]) (L := [Chunk.blk g2 (.cells #[.slice A0 nums.length c0] 45 (0, 0)), Chunk.blk g150 (.cells #[.bool true] 4 (0, 0)), Chunk.blk g8 (.cells #[.slice A1 texts.length c1] 46 (0, 0))]) (HO210.sel [0, 1, 2, 3, 4] (by decide))
                refine gw_call HF262 (want_none rfl) rfl (by decide) (op_callL Try.func31 (by kernel_rfl) rfl rfl (ar_cons (HF262.ev rfl) (ar_cons (HF262.ev rfl) ar_nil))) (GBack1_.back_read w _ (Chunk.all [Chunk.row (Kd.int .u8) 5 w.heap.size S186 (.slice A185 (([0]).length) (([0]).length)) ([0]), Chunk.two .u8 S194 A192 ((bs2 ++ [0]).length) c193 (bs2 ++ [0]) Ab2 bs2.length cb2 bs2]) Ab2 cb2 (bs2.take ((bs2.length : Int) - 1).toNat) (fun w_ h_ => (hC258 _ ((Own.unbundle (A := [Chunk.row (Kd.int .u8) 5 w.heap.size S186 (.slice A185 (([0]).length) (([0]).length)) ([0]), Chunk.two .u8 S194 A192 ((bs2 ++ [0]).length) c193 (bs2 ++ [0]) Ab2 bs2.length cb2 bs2]) (L := []) h_).get 1 rfl).2.1)) hc257 ((fun x hx => hby x (List.mem_of_mem_take hx))) g2 g150 g8 A0 c0 nums (fun w_ h_ => Kd.C_below hr0 h_.below) hc0 A1 c1 texts (fun w_ h_ => Kd.C_below hr1 h_.below) hc1 none (fin3 hbs (by omega)) (by omega) (by omega) hsz HO269) ?_
                rintro e263 w264 ⟨rfl, hb265⟩
                refine ⟨_, rfl, fun a266 HF267 => ?_⟩
                have HO268 : Own w w264 [Chunk.row (Kd.int .u8) 5 w.heap.size S186 (.slice A185 (([0]).length) (([0]).length)) ([0]), Chunk.two .u8 S194 A192 ((bs2 ++ [0]).length) c193 (bs2 ++ [0]) Ab2 bs2.length cb2 bs2, Chunk.blk g2 (.cells #[.slice A0 nums.length c0] 45 (0, 0)), Chunk.blk g150 (.cells #[.bool true] 4 (0, 0)), Chunk.blk g8 (.cells #[.slice A1 texts.length c1] 46 (0, 0))] := Own.unbundle (A := [Chunk.row (Kd.int .u8) 5 w.heap.size S186 (.slice A185 (([0]).length) (([0]).length)) ([0]), Chunk.two .u8 S194 A192 ((bs2 ++ [0]).length) c193 (bs2 ++ [0]) Ab2 bs2.length cb2 bs2]) (L := [Chunk.blk g2 (.cells #[.slice A0 nums.length c0] 45 (0, 0)), Chunk.blk g150 (.cells #[.bool true] 4 (0, 0)), Chunk.blk g8 (.cells #[.slice A1 texts.length c1] 46 (0, 0))]) (hb265.sel [0, 1, 2, 3] (by decide))
                clear HO269
                clear HF262 HO210 hb265
                have HO271 : Own w w264 [Chunk.row (Kd.int .u8) 5 w.heap.size S186 (.slice A185 (([0]).length) (([0]).length)) ([0]), Chunk.two .u8 S194 A192 ((bs2 ++ [0]).length) c193 (bs2 ++ [0]) Ab2 bs2.length cb2 bs2, Chunk.blk g2 (.cells #[.slice A0 nums.length c0] 45 (0, 0)), Chunk.blk g150 (.cells #[.bool true] 4 (0, 0)), Chunk.blk g8 (.cells #[.slice A1 texts.length c1] 46 (0, 0))] := HO268
                clear HO268
                refine gw_ev HF267 (want_none rfl) rfl (by decide) (op_assign rfl (HF267.ev rfl)) ?_
                intro a272 HF273; clear HF267
                refine wpList_nil ?_
                refine gw_nx (hK247 _ _ ?_)
                refine gw_seq fun K274 hK274 => ?_
                refine wp_region_lit ?_
                refine gw_ev HF273 (want_none rfl) rfl (by decide) (op_load1 gwagg4 rfl (HF273.ev rfl) (blk_at (HO271.get 3 rfl) rfl)) ?_
                intro a275 HF276; clear HF273
                refine gw_ev HF276 (want_none rfl) rfl (by decide) (op_move rfl (HF276.ev rfl)) ?_
                intro a277 HF278; clear HF276
                refine gw_ev HF278 (want_yes HF278 rfl rfl rfl rfl) rfl (by decide) (op_move rfl (HF278.ev rfl)) ?_
                intro a279 HF280; clear HF278
                refine gw_ev HF280 (want_yes HF280 rfl rfl rfl rfl) rfl (by decide) (op_eqi rfl (HF280.ev rfl) (ev_c _ _)) ?_
                intro a281 HF282; clear HF280
                have HF283 := HF282.lit (b := true) (by decide)
                clear HF282
                refine gw_ev HF283 (want_none rfl) rfl (by decide) (op_pick_t rfl (HF283.ev rfl) (HF283.ev rfl)) ?_
                intro a284 HF285; clear HF283
                refine gw_ev HF285 (want_none rfl) rfl (by decide) (op_move rfl (HF285.ev rfl)) ?_
                intro a286 HF287; clear HF285
                refine gw_ev HF287 (want_yes HF287 rfl rfl rfl rfl) rfl (by decide) (op_move rfl (HF287.ev rfl)) ?_
                intro a288 HF289; clear HF287
                refine gw_ev HF289 (want_yes HF289 rfl rfl rfl rfl) rfl (by decide) (op_eqi rfl (HF289.ev rfl) (ev_c _ _)) ?_
                intro a290 HF291; clear HF289
                have HF292 := HF291.lit (b := true) (by decide)
                clear HF291
                refine gw_ev HF292 (want_none rfl) rfl (by decide) (op_pick_t rfl (HF292.ev rfl) (HF292.ev rfl)) ?_
                intro a293 HF294; clear HF292
                refine gw_ev HF294 (want_none rfl) rfl (by decide) (op_move rfl (HF294.ev rfl)) ?_
                intro a295 HF296; clear HF294
                refine gw_ev HF296 (want_yes HF296 rfl rfl rfl rfl) rfl (by decide) (op_move rfl (HF296.ev rfl)) ?_
                intro a297 HF298; clear HF296
                refine gw_ev HF298 (want_yes HF298 rfl rfl rfl rfl) rfl (by decide) (op_eqi rfl (HF298.ev rfl) (ev_c _ _)) ?_
                intro a299 HF300; clear HF298
                have HF301 := HF300.lit (b := true) (by decide)
                clear HF300
                refine gw_ev HF301 (want_none rfl) rfl (by decide) (op_pick_t rfl (HF301.ev rfl) (HF301.ev rfl)) ?_
                intro a302 HF303; clear HF301
                refine gw_ev HF303 (want_none rfl) rfl (by decide) (op_assign rfl (HF303.ev rfl)) ?_
                intro a304 HF305; clear HF303
                refine wpList_nil ?_
                refine gw_nx (hK274 _ _ ?_)
                refine wp_ret ?_
                refine gw_ret1 HF305 rfl rfl ?_
                exact ⟨rfl, HO271.below⟩
            · skip
              have HF306 := HF146.subst_ (d := 47) (b := false) rfl hb147
              clear HF146
              (try simp only [Bool.and_eq_true, Bool.or_eq_true, Bool.and_eq_false_iff, Bool.or_eq_false_iff, Bool.not_and, Bool.not_or, Bool.not_not, decide_eq_true_eq, decide_eq_false_iff_not, Bool.not_eq_true', Bool.not_eq_false', Bool.not_eq_true, Bool.not_eq_false, ne_eq, Decidable.not_not, Int.not_lt, Int.not_le, not_true_eq_false, not_false_eq_true, bne_iff_ne, beq_iff_eq, bne_eq_false_iff_eq, beq_eq_false_iff_ne] at hb147)
              refine wp_skip ?_
              refine gw_nx (hK131 _ _ ?_)
              refine wp_region_lit ?_
              refine gw_ev HF306 (want_none rfl) rfl (by decide) (op_move rfl (HF306.ev rfl)) ?_
              intro a307 HF308; clear HF306
              refine gw_ev HF308 (want_none rfl) rfl (by decide) (op_move rfl (HF308.ev rfl)) ?_
              intro a309 HF310; clear HF308
              refine gw_call HF310 (want_none rfl) rfl (by decide) (op_callL Try.func20 (by kernel_rfl) rfl rfl (ar_cons (HF310.ev rfl) (ar_cons (HF310.ev rfl) ar_nil))) (text_own Ab2 cb2 bs2 (texts.getD k.toNat (⟨#[]⟩ : ByteArray)) _ (Kd.R_reads' (HO105.get 0 rfl)).2.2 (row_cap (HO105.get 0 rfl)) (by omega)) ?_
              rintro e314 w315 ⟨A311, c312, S313, rfl, hb316⟩
              refine ⟨_, rfl, fun a317 HF318 => ?_⟩
              have HO319 := HO105.fresh hb316
              have hbel320 := HO105.below
              clear HF310 HO105 hb316
              have HO321 := HO319.lowrow 0 rfl (base' := w.heap.size) (Below.size hbel320)
              have HO322 : Own w w315 [Chunk.row (Kd.int .u8) 5 w.heap.size S313 (.slice A311 ((bs2 ++ encT (texts.getD k.toNat (⟨#[]⟩ : ByteArray))).length) c312) (bs2 ++ encT (texts.getD k.toNat (⟨#[]⟩ : ByteArray))), Chunk.row (Kd.int .u8) 5 w.heap.size Sb2 (.slice Ab2 bs2.length cb2) bs2, Chunk.blk g8 (.cells #[.slice A1 texts.length c1] 46 (0, 0)), Chunk.blk g2 (.cells #[.slice A0 nums.length c0] 45 (0, 0))] := HO321
              clear HO321
              refine gw_ev HF318 (want_none rfl) rfl (by decide) (op_assign rfl (HF318.ev rfl)) ?_
              intro a323 HF324; clear HF318
              refine wpList_nil ?_
              refine gw_blk ?_
              refine gw_nx (hK113 _ _ ?_)
              refine wp_region_lit ?_
              refine gw_ev HF324 (want_none rfl) rfl (by decide) (op_add rfl (HF324.ev rfl) (ev_c _ _) (by omega)) ?_
              intro a325 HF326; clear HF324
              refine gw_ev HF326 (want_none rfl) rfl (by decide) (op_move rfl (HF326.ev rfl)) ?_
              intro a327 HF328; clear HF326
              refine wpList_nil ?_
              refine gw_nx ⟨_, ?_, k + 1, bs2 ++ encT (texts.getD k.toNat (⟨#[]⟩ : ByteArray)), A311, c312, _, (HF328.pick (t := 36) rfl (HF328.pick (t := 5) rfl (HF328.pick (t := 2) rfl (HF328.pick (t := 3) rfl (HF328.pick (t := 4) rfl (HF328.pick (t := 34) rfl (HF328.pick (t := 35) rfl HF328.nil))))))), HO322.sel [0, 2, 3] (by decide), ?_, ?_, ?_, rfl⟩
              · rw [hm106]; omega
              · omega
              · rw [List.append_assoc, ← et_in hi2.1 (by omega) (by omega) (by omega), he2]
              · have hx_ := encT_len (texts.getD k.toNat (⟨#[]⟩ : ByteArray)); simp only [List.length_append]; omega
          · skip
            have HF329 := HF109.subst_ (d := 37) (b := false) rfl hb111
            clear HF109
            (try simp only [Bool.and_eq_true, Bool.or_eq_true, Bool.and_eq_false_iff, Bool.or_eq_false_iff, Bool.not_and, Bool.not_or, Bool.not_not, decide_eq_true_eq, decide_eq_false_iff_not, Bool.not_eq_true', Bool.not_eq_false', Bool.not_eq_true, Bool.not_eq_false, ne_eq, Decidable.not_not, Int.not_lt, Int.not_le, not_true_eq_false, not_false_eq_true, bne_iff_ne, beq_iff_eq, bne_eq_false_iff_eq, beq_eq_false_iff_ne] at hb111)
            refine wp_exit ?_
            refine gw_thx ?_
            refine gw_thx ?_
            refine gw_in ?_
            refine gw_nx (hK92 _ _ ?_)
            refine gw_seq fun K330 hK330 => ?_
            refine wp_region_lit ?_
            refine gw_new HF329 HO105 (want_none rfl) rfl (by decide) (op_alloc gwzer4 rfl) ?_
            intro g331 a332 w333 HF334 HO335; clear HF329 HO105
            have HO336 : Own w w333 [Chunk.blk g331 (.cells #[.bool false] 4 (0, 0)), Chunk.row (Kd.int .u8) 5 w.heap.size Sb2 (.slice Ab2 bs2.length cb2) bs2, Chunk.blk g8 (.cells #[.slice A1 texts.length c1] 46 (0, 0)), Chunk.blk g2 (.cells #[.slice A0 nums.length c0] 45 (0, 0))] := HO335
            clear HO335
            have hbs : bs2 = (encNi nums 51 0 ++ encTi texts 51 0) := by have e0_ := et_out (ts := texts) hi2.1 hi2.2.2 (by omega); rw [e0_, List.append_nil] at he2; exact he2
            have hby : ByteL bs2 := by rw [hbs]; exact byteL_app (encNi_byte _ _ _) (encTi_byte _ _ _)
            refine gw_set 0 HF334 HO336 rfl (want_none rfl) rfl (op_store1 gwsiz4 rfl (HF334.ev rfl) (ev_c _ _) rfl (blk_at (HO336.get 0 rfl) rfl) (blkf (HO336.get 0 rfl))) ?_
            intro a337 w339 HF338 HO340; clear HF334 HO336
            have HO341 : Own w w339 [Chunk.blk g331 (.cells #[.bool true] 4 (0, 0)), Chunk.row (Kd.int .u8) 5 w.heap.size Sb2 (.slice Ab2 bs2.length cb2) bs2, Chunk.blk g8 (.cells #[.slice A1 texts.length c1] 46 (0, 0)), Chunk.blk g2 (.cells #[.slice A0 nums.length c0] 45 (0, 0))] := HO340
            clear HO340
            refine wpList_nil ?_
            refine gw_nx (hK330 _ _ ?_)
            refine gw_seq fun K342 hK342 => ?_
            refine wp_region_lit ?_
            refine gw_ev HF338 (want_none rfl) rfl (by decide) (op_func rfl (ar_cons (HF338.ev rfl) (ar_cons (HF338.ev rfl) (ar_cons (HF338.ev rfl) ar_nil)))) ?_
            intro a343 HF344; clear HF338
            refine gw_ev HF344 (want_none rfl) rfl (by decide) (op_assign rfl (HF344.ev rfl)) ?_
            intro a345 HF346; clear HF344
            refine wpList_nil ?_
            refine gw_nx (hK342 _ _ ?_)
            refine gw_seq fun K347 hK347 => ?_
            refine wp_region_lit ?_
            refine gw_ev HF346 (want_none rfl) rfl (by decide) (op_move rfl (HF346.ev rfl)) ?_
            intro a348 HF349; clear HF346
            refine gw_ev HF349 (want_none rfl) rfl (by decide) (op_move rfl (HF349.ev rfl)) ?_
            intro a350 HF351; clear HF349
            have HO358 : Own w _ [(Chunk.all [Chunk.row (Kd.int .u8) 5 w.heap.size Sb2 (.slice Ab2 bs2.length cb2) bs2]), Chunk.blk g2 (.cells #[.slice A0 nums.length c0] 45 (0, 0)), Chunk.blk g331 (.cells #[.bool true] 4 (0, 0)), Chunk.blk g8 (.cells #[.slice A1 texts.length c1] 46 (0, 0))] := Own.bundle (A := [Chunk.row (Kd.int .u8) 5 w.heap.size Sb2 (.slice Ab2 bs2.length cb2) bs2]) (L := [Chunk.blk g2 (.cells #[.slice A0 nums.length c0] 45 (0, 0)), Chunk.blk g331 (.cells #[.bool true] 4 (0, 0)), Chunk.blk g8 (.cells #[.slice A1 texts.length c1] 46 (0, 0))]) (HO341.sel [1, 3, 0, 2] (by decide))
            refine gw_call HF351 (want_none rfl) rfl (by decide) (op_callL Try.func31 (by kernel_rfl) rfl rfl (ar_cons (HF351.ev rfl) (ar_cons (HF351.ev rfl) ar_nil))) (GBack1_.back_read w _ (Chunk.all [Chunk.row (Kd.int .u8) 5 w.heap.size Sb2 (.slice Ab2 bs2.length cb2) bs2]) Ab2 cb2 bs2 (fun w_ h_ => (Kd.R_reads' ((Own.unbundle (A := [Chunk.row (Kd.int .u8) 5 w.heap.size Sb2 (.slice Ab2 bs2.length cb2) bs2]) (L := []) h_).get 0 rfl)).2.2) (row_cap (HO341.get 1 rfl)) (hby) g2 g331 g8 A0 c0 nums (fun w_ h_ => Kd.C_below hr0 h_.below) hc0 A1 c1 texts (fun w_ h_ => Kd.C_below hr1 h_.below) hc1 (some []) (fin1 hbs) (by omega) (by omega) hsz HO358) ?_
            rintro e352 w353 ⟨rfl, hb354⟩
            refine ⟨_, rfl, fun a355 HF356 => ?_⟩
            have HO357 : Own w w353 [Chunk.row (Kd.int .u8) 5 w.heap.size Sb2 (.slice Ab2 bs2.length cb2) bs2, Chunk.blk g2 (.cells #[.slice A0 nums.length c0] 45 (0, 0)), Chunk.blk g331 (.cells #[.bool true] 4 (0, 0)), Chunk.blk g8 (.cells #[.slice A1 texts.length c1] 46 (0, 0))] := Own.unbundle (A := [Chunk.row (Kd.int .u8) 5 w.heap.size Sb2 (.slice Ab2 bs2.length cb2) bs2]) (L := [Chunk.blk g2 (.cells #[.slice A0 nums.length c0] 45 (0, 0)), Chunk.blk g331 (.cells #[.bool true] 4 (0, 0)), Chunk.blk g8 (.cells #[.slice A1 texts.length c1] 46 (0, 0))]) (hb354.sel [0, 1, 2, 3] (by decide))
            clear HO358
            clear HF351 HO341 hb354
            have HO360 : Own w w353 [Chunk.row (Kd.int .u8) 5 w.heap.size Sb2 (.slice Ab2 bs2.length cb2) bs2, Chunk.blk g2 (.cells #[.slice A0 nums.length c0] 45 (0, 0)), Chunk.blk g331 (.cells #[.bool true] 4 (0, 0)), Chunk.blk g8 (.cells #[.slice A1 texts.length c1] 46 (0, 0))] := HO357
            clear HO357
            refine gw_ev HF356 (want_none rfl) rfl (by decide) (op_assign rfl (HF356.ev rfl)) ?_
            intro a361 HF362; clear HF356
            refine wpList_nil ?_
            refine gw_nx (hK347 _ _ ?_)
            refine gw_seq fun K363 hK363 => ?_
            refine wp_region_lit ?_
            refine gw_ev HF362 (want_none rfl) rfl (by decide) (op_move rfl (HF362.ev rfl)) ?_
            intro a364 HF365; clear HF362
            refine gw_lit (enc := Value.int .u8) (fun _ => rfl) (xs := [0]) (e := 5) HF365 HO360 (want_none rfl) rfl (by decide) (op_bslice (by kernel_rfl) rfl (pt_cons (ev_c _ _) pt_nil)) (by simp) ?_
            intro A366 S367 a368 w369 HF370 HO371; clear HF365 HO360
            have HO372 : Own w w369 [Chunk.row (Kd.int .u8) 5 w.heap.size S367 (.slice A366 (([0]).length) (([0]).length)) ([0]), Chunk.row (Kd.int .u8) 5 w.heap.size Sb2 (.slice Ab2 bs2.length cb2) bs2, Chunk.blk g2 (.cells #[.slice A0 nums.length c0] 45 (0, 0)), Chunk.blk g331 (.cells #[.bool true] 4 (0, 0)), Chunk.blk g8 (.cells #[.slice A1 texts.length c1] 46 (0, 0))] := HO371
            clear HO371
            refine gw_appendV 1 HF370 HO372 (want_none rfl) rfl (by decide) rfl Try.underlying22 gwinfo5 (by decide) rfl (HF370.ev rfl) (HF370.ev rfl) (Kd.R_reads' (HO372.get 0 rfl)).2.2 (by simp) HO372.below.size (by first | omega | (simp; omega)) ?_
            intro A373 c374 S375 a376 w377 HF378 HO379; clear HF370 HO372
            have HO380 : Own w w377 [Chunk.row (Kd.int .u8) 5 w.heap.size S367 (.slice A366 (([0]).length) (([0]).length)) ([0]), Chunk.two .u8 S375 A373 ((bs2 ++ [0]).length) c374 (bs2 ++ [0]) Ab2 bs2.length cb2 bs2, Chunk.blk g2 (.cells #[.slice A0 nums.length c0] 45 (0, 0)), Chunk.blk g331 (.cells #[.bool true] 4 (0, 0)), Chunk.blk g8 (.cells #[.slice A1 texts.length c1] 46 (0, 0))] := HO379
            clear HO379
            refine gw_ev HF378 (want_none rfl) rfl (by decide) (op_move rfl (HF378.ev rfl)) ?_
            intro a381 HF382; clear HF378
            have HO389 : Own w _ [(Chunk.all [Chunk.row (Kd.int .u8) 5 w.heap.size S367 (.slice A366 (([0]).length) (([0]).length)) ([0]), Chunk.two .u8 S375 A373 ((bs2 ++ [0]).length) c374 (bs2 ++ [0]) Ab2 bs2.length cb2 bs2]), Chunk.blk g2 (.cells #[.slice A0 nums.length c0] 45 (0, 0)), Chunk.blk g331 (.cells #[.bool true] 4 (0, 0)), Chunk.blk g8 (.cells #[.slice A1 texts.length c1] 46 (0, 0))] := Own.bundle (A := [Chunk.row (Kd.int .u8) 5 w.heap.size S367 (.slice A366 (([0]).length) (([0]).length)) ([0]), Chunk.two .u8 S375 A373 ((bs2 ++ [0]).length) c374 (bs2 ++ [0]) Ab2 bs2.length cb2 bs2]) (L := [Chunk.blk g2 (.cells #[.slice A0 nums.length c0] 45 (0, 0)), Chunk.blk g331 (.cells #[.bool true] 4 (0, 0)), Chunk.blk g8 (.cells #[.slice A1 texts.length c1] 46 (0, 0))]) (HO380.sel [0, 1, 2, 3, 4] (by decide))
            refine gw_call HF382 (want_none rfl) rfl (by decide) (op_callL Try.func31 (by kernel_rfl) rfl rfl (ar_cons (HF382.ev rfl) (ar_cons (HF382.ev rfl) ar_nil))) (GBack1_.back_read w _ (Chunk.all [Chunk.row (Kd.int .u8) 5 w.heap.size S367 (.slice A366 (([0]).length) (([0]).length)) ([0]), Chunk.two .u8 S375 A373 ((bs2 ++ [0]).length) c374 (bs2 ++ [0]) Ab2 bs2.length cb2 bs2]) A373 c374 (bs2 ++ [0]) (fun w_ h_ => ((Own.unbundle (A := [Chunk.row (Kd.int .u8) 5 w.heap.size S367 (.slice A366 (([0]).length) (([0]).length)) ([0]), Chunk.two .u8 S375 A373 ((bs2 ++ [0]).length) c374 (bs2 ++ [0]) Ab2 bs2.length cb2 bs2]) (L := []) h_).get 1 rfl).1.1) (HO380.get 1 rfl).1.2.1 (byteL_app hby (fun x hx => by simp at hx; omega)) g2 g331 g8 A0 c0 nums (fun w_ h_ => Kd.C_below hr0 h_.below) hc0 A1 c1 texts (fun w_ h_ => Kd.C_below hr1 h_.below) hc1 (some [0]) (fin2 hbs) (by omega) (by omega) hsz HO389) ?_
            rintro e383 w384 ⟨rfl, hb385⟩
            refine ⟨_, rfl, fun a386 HF387 => ?_⟩
            have HO388 : Own w w384 [Chunk.row (Kd.int .u8) 5 w.heap.size S367 (.slice A366 (([0]).length) (([0]).length)) ([0]), Chunk.two .u8 S375 A373 ((bs2 ++ [0]).length) c374 (bs2 ++ [0]) Ab2 bs2.length cb2 bs2, Chunk.blk g2 (.cells #[.slice A0 nums.length c0] 45 (0, 0)), Chunk.blk g331 (.cells #[.bool true] 4 (0, 0)), Chunk.blk g8 (.cells #[.slice A1 texts.length c1] 46 (0, 0))] := Own.unbundle (A := [Chunk.row (Kd.int .u8) 5 w.heap.size S367 (.slice A366 (([0]).length) (([0]).length)) ([0]), Chunk.two .u8 S375 A373 ((bs2 ++ [0]).length) c374 (bs2 ++ [0]) Ab2 bs2.length cb2 bs2]) (L := [Chunk.blk g2 (.cells #[.slice A0 nums.length c0] 45 (0, 0)), Chunk.blk g331 (.cells #[.bool true] 4 (0, 0)), Chunk.blk g8 (.cells #[.slice A1 texts.length c1] 46 (0, 0))]) (hb385.sel [0, 1, 2, 3] (by decide))
            clear HO389
            clear HF382 HO380 hb385
            have HO391 : Own w w384 [Chunk.row (Kd.int .u8) 5 w.heap.size S367 (.slice A366 (([0]).length) (([0]).length)) ([0]), Chunk.two .u8 S375 A373 ((bs2 ++ [0]).length) c374 (bs2 ++ [0]) Ab2 bs2.length cb2 bs2, Chunk.blk g2 (.cells #[.slice A0 nums.length c0] 45 (0, 0)), Chunk.blk g331 (.cells #[.bool true] 4 (0, 0)), Chunk.blk g8 (.cells #[.slice A1 texts.length c1] 46 (0, 0))] := HO388
            clear HO388
            refine gw_ev HF387 (want_none rfl) rfl (by decide) (op_assign rfl (HF387.ev rfl)) ?_
            intro a392 HF393; clear HF387
            refine wpList_nil ?_
            refine gw_nx (hK363 _ _ ?_)
            refine gw_seq fun K394 hK394 => ?_
            refine gw_seq fun K395 hK395 => ?_
            refine wp_region_lit ?_
            refine gw_ev HF393 (want_none rfl) rfl (by decide) (op_move rfl (HF393.ev rfl)) ?_
            intro a396 HF397; clear HF393
            refine gw_ev HF397 (want_none rfl) rfl (by decide) (op_len Try.underlying22 rfl (HF397.ev rfl)) ?_
            intro a398 HF399; clear HF397
            refine gw_ev HF399 (want_none rfl) rfl (by decide) (op_eqi rfl (HF399.ev rfl) (ev_c _ _)) ?_
            intro a400 HF401; clear HF399
            refine wpList_nil ?_
            refine gw_nx (hK395 _ _ ?_)
            refine gw_cond HF401 rfl (fun hb402 => ?_) (fun hb402 => ?_)
            · skip
              have HF403 := HF401.subst_ (d := 63) (b := true) rfl hb402
              clear HF401
              (try simp only [Bool.and_eq_true, Bool.or_eq_true, Bool.and_eq_false_iff, Bool.or_eq_false_iff, Bool.not_and, Bool.not_or, Bool.not_not, decide_eq_true_eq, decide_eq_false_iff_not, Bool.not_eq_true', Bool.not_eq_false', Bool.not_eq_true, Bool.not_eq_false, ne_eq, Decidable.not_not, Int.not_lt, Int.not_le, not_true_eq_false, not_false_eq_true, bne_iff_ne, beq_iff_eq, bne_eq_false_iff_eq, beq_eq_false_iff_ne] at hb402)
              refine gw_seq fun K404 hK404 => ?_
              refine wp_region_lit ?_
              refine gw_ev HF403 (want_none rfl) rfl (by decide) (op_load1 gwagg4 rfl (HF403.ev rfl) (blk_at (HO391.get 3 rfl) rfl)) ?_
              intro a405 HF406; clear HF403
              refine gw_ev HF406 (want_none rfl) rfl (by decide) (op_move rfl (HF406.ev rfl)) ?_
              intro a407 HF408; clear HF406
              refine gw_ev HF408 (want_yes HF408 rfl rfl rfl rfl) rfl (by decide) (op_move rfl (HF408.ev rfl)) ?_
              intro a409 HF410; clear HF408
              refine gw_ev HF410 (want_yes HF410 rfl rfl rfl rfl) rfl (by decide) (op_eqi rfl (HF410.ev rfl) (ev_c _ _)) ?_
              intro a411 HF412; clear HF410
              have HF413 := HF412.lit (b := true) (by decide)
              clear HF412
              refine gw_ev HF413 (want_none rfl) rfl (by decide) (op_pick_t rfl (HF413.ev rfl) (HF413.ev rfl)) ?_
              intro a414 HF415; clear HF413
              refine gw_ev HF415 (want_none rfl) rfl (by decide) (op_move rfl (HF415.ev rfl)) ?_
              intro a416 HF417; clear HF415
              refine gw_ev HF417 (want_yes HF417 rfl rfl rfl rfl) rfl (by decide) (op_move rfl (HF417.ev rfl)) ?_
              intro a418 HF419; clear HF417
              refine gw_ev HF419 (want_yes HF419 rfl rfl rfl rfl) rfl (by decide) (op_eqi rfl (HF419.ev rfl) (ev_c _ _)) ?_
              intro a420 HF421; clear HF419
              have HF422 := HF421.lit (b := true) (by decide)
              clear HF421
              refine gw_ev HF422 (want_none rfl) rfl (by decide) (op_pick_t rfl (HF422.ev rfl) (HF422.ev rfl)) ?_
              intro a423 HF424; clear HF422
              refine gw_ev HF424 (want_none rfl) rfl (by decide) (op_assign rfl (HF424.ev rfl)) ?_
              intro a425 HF426; clear HF424
              refine wpList_nil ?_
              refine gw_nx (hK404 _ _ ?_)
              refine wp_ret ?_
              refine gw_thr ?_
              refine gw_ret1 HF426 rfl rfl ?_
              exact ⟨rfl, HO391.below⟩
            · skip
              have HF427 := HF401.subst_ (d := 63) (b := false) rfl hb402
              clear HF401
              (try simp only [Bool.and_eq_true, Bool.or_eq_true, Bool.and_eq_false_iff, Bool.or_eq_false_iff, Bool.not_and, Bool.not_or, Bool.not_not, decide_eq_true_eq, decide_eq_false_iff_not, Bool.not_eq_true', Bool.not_eq_false', Bool.not_eq_true, Bool.not_eq_false, ne_eq, Decidable.not_not, Int.not_lt, Int.not_le, not_true_eq_false, not_false_eq_true, bne_iff_ne, beq_iff_eq, bne_eq_false_iff_eq, beq_eq_false_iff_ne] at hb402)
              refine wp_skip ?_
              refine gw_nx (hK394 _ _ ?_)
              refine gw_seq fun K428 hK428 => ?_
              refine wp_region_lit ?_
              refine gw_ev HF427 (want_none rfl) rfl (by decide) (op_move rfl (HF427.ev rfl)) ?_
              intro a429 HF430; clear HF427
              refine gw_ev HF430 (want_none rfl) rfl (by decide) (op_move rfl (HF430.ev rfl)) ?_
              intro a431 HF432; clear HF430
              refine gw_ev HF432 (want_none rfl) rfl (by decide) (op_len Try.underlying22 rfl (HF432.ev rfl)) ?_
              intro a433 HF434; clear HF432
              refine gw_ev HF434 (want_none rfl) rfl (by decide) (op_sub rfl (HF434.ev rfl) (ev_c _ _) (by omega)) ?_
              intro a435 HF436; clear HF434
              obtain ⟨hr437, hc438, hC439⟩ := cut_hi (P := Try.prog) (d := (Kd.int .u8)) (t := 22) (e := 5) Try.underlying22 gwsiz5 Ab2 cb2 bs2 (HO391.get 1 rfl).2.2.1 ((bs2.length : Int) - 1) (by omega) (by omega)
              refine gw_ev HF436 (want_none rfl) rfl (by decide) (op_cut Try.underlying22 hr437 rfl (HF436.ev rfl) rfl (some_ev (HF436.ev rfl))) ?_
              intro a440 HF441; clear HF436
              refine gw_ev HF441 (want_none rfl) rfl (by decide) (op_move rfl (HF441.ev rfl)) ?_
              intro a442 HF443; clear HF441
              have HO450 : Own w _ [(Chunk.all [Chunk.row (Kd.int .u8) 5 w.heap.size S367 (.slice A366 (([0]).length) (([0]).length)) ([0]), Chunk.two .u8 S375 A373 ((bs2 ++ [0]).length) c374 (bs2 ++ [0]) Ab2 bs2.length cb2 bs2]), Chunk.blk g2 (.cells #[.slice A0 nums.length c0] 45 (0, 0)), Chunk.blk g331 (.cells #[.bool true] 4 (0, 0)), Chunk.blk g8 (.cells #[.slice A1 texts.length c1] 46 (0, 0))] := Own.bundle (A := [Chunk.row (Kd.int .u8) 5 w.heap.size S367 (.slice A366 (([0]).length) (([0]).length)) ([0]), Chunk.two .u8 S375 A373 ((bs2 ++ [0]).length) c374 (bs2 ++ [0]) Ab2 bs2.length cb2 bs2]) (L := [Chunk.blk g2 (.cells #[.slice A0 nums.length c0] 45 (0, 0)), Chunk.blk g331 (.cells #[.bool true] 4 (0, 0)), Chunk.blk g8 (.cells #[.slice A1 texts.length c1] 46 (0, 0))]) (HO391.sel [0, 1, 2, 3, 4] (by decide))
              refine gw_call HF443 (want_none rfl) rfl (by decide) (op_callL Try.func31 (by kernel_rfl) rfl rfl (ar_cons (HF443.ev rfl) (ar_cons (HF443.ev rfl) ar_nil))) (GBack1_.back_read w _ (Chunk.all [Chunk.row (Kd.int .u8) 5 w.heap.size S367 (.slice A366 (([0]).length) (([0]).length)) ([0]), Chunk.two .u8 S375 A373 ((bs2 ++ [0]).length) c374 (bs2 ++ [0]) Ab2 bs2.length cb2 bs2]) Ab2 cb2 (bs2.take ((bs2.length : Int) - 1).toNat) (fun w_ h_ => (hC439 _ ((Own.unbundle (A := [Chunk.row (Kd.int .u8) 5 w.heap.size S367 (.slice A366 (([0]).length) (([0]).length)) ([0]), Chunk.two .u8 S375 A373 ((bs2 ++ [0]).length) c374 (bs2 ++ [0]) Ab2 bs2.length cb2 bs2]) (L := []) h_).get 1 rfl).2.1)) hc438 ((fun x hx => hby x (List.mem_of_mem_take hx))) g2 g331 g8 A0 c0 nums (fun w_ h_ => Kd.C_below hr0 h_.below) hc0 A1 c1 texts (fun w_ h_ => Kd.C_below hr1 h_.below) hc1 none (fin3 hbs (by omega)) (by omega) (by omega) hsz HO450) ?_
              rintro e444 w445 ⟨rfl, hb446⟩
              refine ⟨_, rfl, fun a447 HF448 => ?_⟩
              have HO449 : Own w w445 [Chunk.row (Kd.int .u8) 5 w.heap.size S367 (.slice A366 (([0]).length) (([0]).length)) ([0]), Chunk.two .u8 S375 A373 ((bs2 ++ [0]).length) c374 (bs2 ++ [0]) Ab2 bs2.length cb2 bs2, Chunk.blk g2 (.cells #[.slice A0 nums.length c0] 45 (0, 0)), Chunk.blk g331 (.cells #[.bool true] 4 (0, 0)), Chunk.blk g8 (.cells #[.slice A1 texts.length c1] 46 (0, 0))] := Own.unbundle (A := [Chunk.row (Kd.int .u8) 5 w.heap.size S367 (.slice A366 (([0]).length) (([0]).length)) ([0]), Chunk.two .u8 S375 A373 ((bs2 ++ [0]).length) c374 (bs2 ++ [0]) Ab2 bs2.length cb2 bs2]) (L := [Chunk.blk g2 (.cells #[.slice A0 nums.length c0] 45 (0, 0)), Chunk.blk g331 (.cells #[.bool true] 4 (0, 0)), Chunk.blk g8 (.cells #[.slice A1 texts.length c1] 46 (0, 0))]) (hb446.sel [0, 1, 2, 3] (by decide))
              clear HO450
              clear HF443 HO391 hb446
              have HO452 : Own w w445 [Chunk.row (Kd.int .u8) 5 w.heap.size S367 (.slice A366 (([0]).length) (([0]).length)) ([0]), Chunk.two .u8 S375 A373 ((bs2 ++ [0]).length) c374 (bs2 ++ [0]) Ab2 bs2.length cb2 bs2, Chunk.blk g2 (.cells #[.slice A0 nums.length c0] 45 (0, 0)), Chunk.blk g331 (.cells #[.bool true] 4 (0, 0)), Chunk.blk g8 (.cells #[.slice A1 texts.length c1] 46 (0, 0))] := HO449
              clear HO449
              refine gw_ev HF448 (want_none rfl) rfl (by decide) (op_assign rfl (HF448.ev rfl)) ?_
              intro a453 HF454; clear HF448
              refine wpList_nil ?_
              refine gw_nx (hK428 _ _ ?_)
              refine gw_seq fun K455 hK455 => ?_
              refine wp_region_lit ?_
              refine gw_ev HF454 (want_none rfl) rfl (by decide) (op_load1 gwagg4 rfl (HF454.ev rfl) (blk_at (HO452.get 3 rfl) rfl)) ?_
              intro a456 HF457; clear HF454
              refine gw_ev HF457 (want_none rfl) rfl (by decide) (op_move rfl (HF457.ev rfl)) ?_
              intro a458 HF459; clear HF457
              refine gw_ev HF459 (want_yes HF459 rfl rfl rfl rfl) rfl (by decide) (op_move rfl (HF459.ev rfl)) ?_
              intro a460 HF461; clear HF459
              refine gw_ev HF461 (want_yes HF461 rfl rfl rfl rfl) rfl (by decide) (op_eqi rfl (HF461.ev rfl) (ev_c _ _)) ?_
              intro a462 HF463; clear HF461
              have HF464 := HF463.lit (b := true) (by decide)
              clear HF463
              refine gw_ev HF464 (want_none rfl) rfl (by decide) (op_pick_t rfl (HF464.ev rfl) (HF464.ev rfl)) ?_
              intro a465 HF466; clear HF464
              refine gw_ev HF466 (want_none rfl) rfl (by decide) (op_move rfl (HF466.ev rfl)) ?_
              intro a467 HF468; clear HF466
              refine gw_ev HF468 (want_yes HF468 rfl rfl rfl rfl) rfl (by decide) (op_move rfl (HF468.ev rfl)) ?_
              intro a469 HF470; clear HF468
              refine gw_ev HF470 (want_yes HF470 rfl rfl rfl rfl) rfl (by decide) (op_eqi rfl (HF470.ev rfl) (ev_c _ _)) ?_
              intro a471 HF472; clear HF470
              have HF473 := HF472.lit (b := true) (by decide)
              clear HF472
              refine gw_ev HF473 (want_none rfl) rfl (by decide) (op_pick_t rfl (HF473.ev rfl) (HF473.ev rfl)) ?_
              intro a474 HF475; clear HF473
              refine gw_ev HF475 (want_none rfl) rfl (by decide) (op_move rfl (HF475.ev rfl)) ?_
              intro a476 HF477; clear HF475
              refine gw_ev HF477 (want_yes HF477 rfl rfl rfl rfl) rfl (by decide) (op_move rfl (HF477.ev rfl)) ?_
              intro a478 HF479; clear HF477
              refine gw_ev HF479 (want_yes HF479 rfl rfl rfl rfl) rfl (by decide) (op_eqi rfl (HF479.ev rfl) (ev_c _ _)) ?_
              intro a480 HF481; clear HF479
              have HF482 := HF481.lit (b := true) (by decide)
              clear HF481
              refine gw_ev HF482 (want_none rfl) rfl (by decide) (op_pick_t rfl (HF482.ev rfl) (HF482.ev rfl)) ?_
              intro a483 HF484; clear HF482
              refine gw_ev HF484 (want_none rfl) rfl (by decide) (op_assign rfl (HF484.ev rfl)) ?_
              intro a485 HF486; clear HF484
              refine wpList_nil ?_
              refine gw_nx (hK455 _ _ ?_)
              refine wp_ret ?_
              refine gw_ret1 HF486 rfl rfl ?_
              exact ⟨rfl, HO452.below⟩
      · skip
        have HF487 := HF89.subst_ (d := 29) (b := false) rfl hb90
        clear HF89
        (try simp only [Bool.and_eq_true, Bool.or_eq_true, Bool.and_eq_false_iff, Bool.or_eq_false_iff, Bool.not_and, Bool.not_or, Bool.not_not, decide_eq_true_eq, decide_eq_false_iff_not, Bool.not_eq_true', Bool.not_eq_false', Bool.not_eq_true, Bool.not_eq_false, ne_eq, Decidable.not_not, Int.not_lt, Int.not_le, not_true_eq_false, not_false_eq_true, bne_iff_ne, beq_iff_eq, bne_eq_false_iff_eq, beq_eq_false_iff_ne] at hb90)
        refine wp_skip ?_
        refine gw_nx (hK84 _ _ ?_)
        refine wp_region_lit ?_
        refine gw_ev HF487 (want_none rfl) rfl (by decide) (op_move rfl (HF487.ev rfl)) ?_
        intro a488 HF489; clear HF487
        refine gw_ev HF489 (want_none rfl) rfl (by decide) (op_move rfl (HF489.ev rfl)) ?_
        intro a490 HF491; clear HF489
        refine gw_call HF491 (want_none rfl) rfl (by decide) (op_callL Try.func19 (by kernel_rfl) rfl rfl (ar_cons (HF491.ev rfl) (ar_cons (HF491.ev rfl) ar_nil))) (num_own Ab1 cb1 bs1 (nums.getD i.toNat (0 : Int)) _ (Kd.R_reads' (HO58.get 0 rfl)).2.2 (row_cap (HO58.get 0 rfl)) (by omega)) ?_
        rintro e495 w496 ⟨A492, c493, S494, rfl, hb497⟩
        refine ⟨_, rfl, fun a498 HF499 => ?_⟩
        have HO500 := HO58.fresh hb497
        have hbel501 := HO58.below
        clear HF491 HO58 hb497
        have HO502 := HO500.lowrow 0 rfl (base' := w.heap.size) (Below.size hbel501)
        have HO503 : Own w w496 [Chunk.row (Kd.int .u8) 5 w.heap.size S494 (.slice A492 ((bs1 ++ encN (nums.getD i.toNat (0 : Int))).length) c493) (bs1 ++ encN (nums.getD i.toNat (0 : Int))), Chunk.row (Kd.int .u8) 5 w.heap.size Sb1 (.slice Ab1 bs1.length cb1) bs1, Chunk.blk g8 (.cells #[.slice A1 texts.length c1] 46 (0, 0)), Chunk.blk g2 (.cells #[.slice A0 nums.length c0] 45 (0, 0))] := HO502
        clear HO502
        refine gw_ev HF499 (want_none rfl) rfl (by decide) (op_assign rfl (HF499.ev rfl)) ?_
        intro a504 HF505; clear HF499
        refine wpList_nil ?_
        refine gw_blk ?_
        refine gw_nx (hK66 _ _ ?_)
        refine wp_region_lit ?_
        refine gw_ev HF505 (want_none rfl) rfl (by decide) (op_add rfl (HF505.ev rfl) (ev_c _ _) (by omega)) ?_
        intro a506 HF507; clear HF505
        refine gw_ev HF507 (want_none rfl) rfl (by decide) (op_move rfl (HF507.ev rfl)) ?_
        intro a508 HF509; clear HF507
        refine wpList_nil ?_
        refine gw_nx ⟨_, ?_, i + 1, bs1 ++ encN (nums.getD i.toNat (0 : Int)), A492, c493, _, (HF509.pick (t := 23) rfl (HF509.pick (t := 5) rfl (HF509.pick (t := 2) rfl (HF509.pick (t := 3) rfl (HF509.pick (t := 4) rfl (HF509.pick (t := 21) rfl (HF509.pick (t := 22) rfl HF509.nil))))))), HO503.sel [0, 2, 3] (by decide), ?_, ?_, ?_, rfl⟩
        · rw [hm59]; omega
        · omega
        · rw [List.append_assoc, ← en_in hi1.1 (by omega) (by omega), he1]
        · have hx_ := encN_len (nums.getD i.toNat (0 : Int)); simp only [List.length_append]; omega
    · skip
      have HF510 := HF62.subst_ (d := 24) (b := false) rfl hb64
      clear HF62
      (try simp only [Bool.and_eq_true, Bool.or_eq_true, Bool.and_eq_false_iff, Bool.or_eq_false_iff, Bool.not_and, Bool.not_or, Bool.not_not, decide_eq_true_eq, decide_eq_false_iff_not, Bool.not_eq_true', Bool.not_eq_false', Bool.not_eq_true, Bool.not_eq_false, ne_eq, Decidable.not_not, Int.not_lt, Int.not_le, not_true_eq_false, not_false_eq_true, bne_iff_ne, beq_iff_eq, bne_eq_false_iff_eq, beq_eq_false_iff_ne] at hb64)
      refine wp_exit ?_
      refine gw_thx ?_
      refine gw_thx ?_
      refine gw_in ?_
      refine gw_nx (hK44 _ _ ?_)
      refine gw_seq fun K511 hK511 => ?_
      refine gw_seq fun K512 hK512 => ?_
      refine wp_region_lit ?_
      refine gw_ev HF510 (want_none rfl) rfl (by decide) (op_load1 gwagg46 rfl (HF510.ev rfl) (blk_at (HO58.get 1 rfl) rfl)) ?_
      intro a513 HF514; clear HF510
      refine gw_ev HF514 (want_none rfl) rfl (by decide) (op_len Try.underlying46 rfl (HF514.ev rfl)) ?_
      intro a515 HF516; clear HF514
      refine gw_ev HF516 (want_none rfl) rfl (by decide) (op_move rfl (ev_c _ _)) ?_
      intro a517 HF518; clear HF516
      refine wpList_nil ?_
      refine gw_nx (hK512 _ _ ?_)
      refine wp_block ?_
      refine gw_loop (fun m_ a_ w_ => ∃ (k : Int) (bs2 : List Int) (Ab2 : Option Addr) (cb2 : Nat) (Sb2 : Nat → Prop), Fr 93 a_ [(36, .int .i64 k), (5, .slice Ab2 bs2.length cb2), (2, .pointer (some ⟨g2, 0, none⟩)), (3, .pointer (some ⟨g8, 0, none⟩)), (4, .bool false), (34, .slice A1 texts.length c1), (35, .int .i64 (texts.length : Int))] ∧ Own w w_ [Chunk.row (Kd.int .u8) 5 w.heap.size Sb2 (.slice Ab2 bs2.length cb2) bs2, Chunk.blk g8 (.cells #[.slice A1 texts.length c1] 46 (0, 0)), Chunk.blk g2 (.cells #[.slice A0 nums.length c0] 45 (0, 0))] ∧ (0 ≤ k ∧ k ≤ texts.length ∧ k ≤ 50) ∧ (bs2 ++ encTi texts (51 - k.toNat) k.toNat = (encNi nums 51 0 ++ encTi texts 51 0)) ∧ ((bs2.length : Int) ≤ 500 + 510 * k) ∧ m_ = (51 - k.toNat)) ((51 - (0 : Int).toNat)) ?_ ?_
      · refine ⟨0, bs1, Ab1, cb1, _, (HF518.pick (t := 36) rfl (HF518.pick (t := 5) rfl (HF518.pick (t := 2) rfl (HF518.pick (t := 3) rfl (HF518.pick (t := 4) rfl (HF518.pick (t := 34) rfl (HF518.pick (t := 35) rfl HF518.nil))))))), HO58.sel [0, 1, 2] (by decide), ?_, ?_, ?_, rfl⟩
        · omega
        · (have e0_ := en_out (ns := nums) hi1.1 hi1.2.2 (by omega); rw [e0_, List.append_nil] at he1; rw [he1]; rfl)
        · omega
      · rintro m520 a521 w522 ⟨k, bs2, Ab2, cb2, Sb2, HF523, HO524, hi2, he2, hl2, hm525⟩
        refine gw_seq fun K526 hK526 => ?_
        refine wp_region_lit ?_
        refine gw_ev HF523 (want_none rfl) rfl (by decide) (op_lss rfl (HF523.ev rfl) (HF523.ev rfl)) ?_
        intro a527 HF528; clear HF523
        refine wpList_nil ?_
        refine gw_nx (hK526 _ _ ?_)
        refine gw_seq fun K529 hK529 => ?_
        refine gw_cond HF528 rfl (fun hb530 => ?_) (fun hb530 => ?_)
        · skip
          have HF531 := HF528.subst_ (d := 37) (b := true) rfl hb530
          clear HF528
          (try simp only [Bool.and_eq_true, Bool.or_eq_true, Bool.and_eq_false_iff, Bool.or_eq_false_iff, Bool.not_and, Bool.not_or, Bool.not_not, decide_eq_true_eq, decide_eq_false_iff_not, Bool.not_eq_true', Bool.not_eq_false', Bool.not_eq_true, Bool.not_eq_false, ne_eq, Decidable.not_not, Int.not_lt, Int.not_le, not_true_eq_false, not_false_eq_true, bne_iff_ne, beq_iff_eq, bne_eq_false_iff_eq, beq_eq_false_iff_ne] at hb530)
          refine wp_skip ?_
          refine gw_nx (hK529 _ _ ?_)
          refine gw_seq fun K532 hK532 => ?_
          refine wp_block ?_
          refine gw_seq fun K533 hK533 => ?_
          refine wp_region_lit ?_
          refine gw_ev HF531 (want_none rfl) rfl (by decide) (op_move rfl (HF531.ev rfl)) ?_
          intro a534 HF535; clear HF531
          obtain ⟨ad536, cs539, hA537, hl540, hK541, hc538⟩ := Kd.C_get hr1 (⟨#[]⟩ : ByteArray) k (by omega) (by omega)
          obtain rfl := id hK541
          clear hl540
          refine gw_ev HF535 (want_none rfl) rfl (by decide) (op_index Try.underlying46 gwsiz9 rfl (HF535.ev rfl) (HF535.ev rfl) hA537 (⟨by omega, by omega⟩)) ?_
          intro a542 HF543; clear HF535
          refine gw_ev HF543 (want_none rfl) rfl (by decide) (op_load1 gwagg9 rfl (HF543.ev rfl) (HO524.cell0 (at0 hc538))) ?_
          intro a544 HF545; clear HF543
          refine gw_ev HF545 (want_none rfl) rfl (by decide) (op_assign rfl (HF545.ev rfl)) ?_
          intro a546 HF547; clear HF545
          refine gw_ev HF547 (want_none rfl) rfl (by decide) (op_assign rfl (HF547.ev rfl)) ?_
          intro a548 HF549; clear HF547
          refine wpList_nil ?_
          refine gw_nx (hK533 _ _ ?_)
          refine gw_seq fun K550 hK550 => ?_
          refine gw_seq fun K551 hK551 => ?_
          refine wp_region_lit ?_
          refine gw_ev HF549 (want_none rfl) rfl (by decide) (op_move rfl (HF549.ev rfl)) ?_
          intro a552 HF553; clear HF549
          refine gw_ev HF553 (want_none rfl) rfl (by decide) (op_geq rfl (HF553.ev rfl) (ev_c _ _)) ?_
          intro a554 HF555; clear HF553
          refine gw_ev HF555 (want_none rfl) rfl (by decide) (op_move rfl (HF555.ev rfl)) ?_
          intro a556 HF557; clear HF555
          refine gw_evG HF557 rfl rfl rfl rfl (on_f _) rfl (by decide) (fun h_ => (op_move rfl (HF557.ev rfl))) ?_
          intro a558 HF559; clear HF557
          refine gw_evG HF559 rfl rfl rfl rfl (on_f _) rfl (by decide) (fun h_ => (op_lens Try.underlying9 rfl (ev_gv (HF559.ev rfl) h_))) ?_
          intro a560 HF561; clear HF559
          refine gw_evG HF561 rfl rfl rfl rfl (on_f _) rfl (by decide) (fun h_ => (op_gtr rfl (ev_gv (HF561.ev rfl) h_) (ev_c _ _))) ?_
          intro a562 HF563; clear HF561
          refine gw_ev HF563 (want_none rfl) rfl (by decide) (op_pick_or rfl (HF563.ev rfl) (ev_c _ _) (fun hp_ => (ev_gv (HF563.ev rfl) (not_t hp_)))) ?_
          intro a564 HF565; clear HF563
          refine wpList_nil ?_
          refine gw_nx (hK551 _ _ ?_)
          refine gw_cond HF565 rfl (fun hb566 => ?_) (fun hb566 => ?_)
          · skip
            have HF567 := HF565.subst_ (d := 47) (b := true) rfl hb566
            clear HF565
            (try simp only [Bool.and_eq_true, Bool.or_eq_true, Bool.and_eq_false_iff, Bool.or_eq_false_iff, Bool.not_and, Bool.not_or, Bool.not_not, decide_eq_true_eq, decide_eq_false_iff_not, Bool.not_eq_true', Bool.not_eq_false', Bool.not_eq_true, Bool.not_eq_false, ne_eq, Decidable.not_not, Int.not_lt, Int.not_le, not_true_eq_false, not_false_eq_true, bne_iff_ne, beq_iff_eq, bne_eq_false_iff_eq, beq_eq_false_iff_ne] at hb566)
            refine wp_exit ?_
            refine gw_thx ?_
            refine gw_out (by decide) ?_
            refine gw_thx ?_
            refine gw_thx ?_
            refine gw_in ?_
            refine gw_nx (hK511 _ _ ?_)
            refine gw_seq fun K568 hK568 => ?_
            refine wp_region_lit ?_
            refine gw_new HF567 HO524 (want_none rfl) rfl (by decide) (op_alloc gwzer4 rfl) ?_
            intro g569 a570 w571 HF572 HO573; clear HF567 HO524
            have HO574 : Own w w571 [Chunk.blk g569 (.cells #[.bool false] 4 (0, 0)), Chunk.row (Kd.int .u8) 5 w.heap.size Sb2 (.slice Ab2 bs2.length cb2) bs2, Chunk.blk g8 (.cells #[.slice A1 texts.length c1] 46 (0, 0)), Chunk.blk g2 (.cells #[.slice A0 nums.length c0] 45 (0, 0))] := HO573
            clear HO573
            have hbs : bs2 = (encNi nums 51 0 ++ encTi texts 51 0) := by have e0_ := et_out (ts := texts) hi2.1 hi2.2.2 (by omega); rw [e0_, List.append_nil] at he2; exact he2
            have hby : ByteL bs2 := by rw [hbs]; exact byteL_app (encNi_byte _ _ _) (encTi_byte _ _ _)
            refine gw_set 0 HF572 HO574 rfl (want_none rfl) rfl (op_store1 gwsiz4 rfl (HF572.ev rfl) (ev_c _ _) rfl (blk_at (HO574.get 0 rfl) rfl) (blkf (HO574.get 0 rfl))) ?_
            intro a575 w577 HF576 HO578; clear HF572 HO574
            have HO579 : Own w w577 [Chunk.blk g569 (.cells #[.bool true] 4 (0, 0)), Chunk.row (Kd.int .u8) 5 w.heap.size Sb2 (.slice Ab2 bs2.length cb2) bs2, Chunk.blk g8 (.cells #[.slice A1 texts.length c1] 46 (0, 0)), Chunk.blk g2 (.cells #[.slice A0 nums.length c0] 45 (0, 0))] := HO578
            clear HO578
            refine wpList_nil ?_
            refine gw_nx (hK568 _ _ ?_)
            refine gw_seq fun K580 hK580 => ?_
            refine wp_region_lit ?_
            refine gw_ev HF576 (want_none rfl) rfl (by decide) (op_func rfl (ar_cons (HF576.ev rfl) (ar_cons (HF576.ev rfl) (ar_cons (HF576.ev rfl) ar_nil)))) ?_
            intro a581 HF582; clear HF576
            refine gw_ev HF582 (want_none rfl) rfl (by decide) (op_assign rfl (HF582.ev rfl)) ?_
            intro a583 HF584; clear HF582
            refine wpList_nil ?_
            refine gw_nx (hK580 _ _ ?_)
            refine gw_seq fun K585 hK585 => ?_
            refine wp_region_lit ?_
            refine gw_ev HF584 (want_none rfl) rfl (by decide) (op_move rfl (HF584.ev rfl)) ?_
            intro a586 HF587; clear HF584
            refine gw_ev HF587 (want_none rfl) rfl (by decide) (op_move rfl (HF587.ev rfl)) ?_
            intro a588 HF589; clear HF587
            have HO596 : Own w _ [(Chunk.all [Chunk.row (Kd.int .u8) 5 w.heap.size Sb2 (.slice Ab2 bs2.length cb2) bs2]), Chunk.blk g2 (.cells #[.slice A0 nums.length c0] 45 (0, 0)), Chunk.blk g569 (.cells #[.bool true] 4 (0, 0)), Chunk.blk g8 (.cells #[.slice A1 texts.length c1] 46 (0, 0))] := Own.bundle (A := [Chunk.row (Kd.int .u8) 5 w.heap.size Sb2 (.slice Ab2 bs2.length cb2) bs2]) (L := [Chunk.blk g2 (.cells #[.slice A0 nums.length c0] 45 (0, 0)), Chunk.blk g569 (.cells #[.bool true] 4 (0, 0)), Chunk.blk g8 (.cells #[.slice A1 texts.length c1] 46 (0, 0))]) (HO579.sel [1, 3, 0, 2] (by decide))
            refine gw_call HF589 (want_none rfl) rfl (by decide) (op_callL Try.func31 (by kernel_rfl) rfl rfl (ar_cons (HF589.ev rfl) (ar_cons (HF589.ev rfl) ar_nil))) (GBack1_.back_read w _ (Chunk.all [Chunk.row (Kd.int .u8) 5 w.heap.size Sb2 (.slice Ab2 bs2.length cb2) bs2]) Ab2 cb2 bs2 (fun w_ h_ => (Kd.R_reads' ((Own.unbundle (A := [Chunk.row (Kd.int .u8) 5 w.heap.size Sb2 (.slice Ab2 bs2.length cb2) bs2]) (L := []) h_).get 0 rfl)).2.2) (row_cap (HO579.get 1 rfl)) (hby) g2 g569 g8 A0 c0 nums (fun w_ h_ => Kd.C_below hr0 h_.below) hc0 A1 c1 texts (fun w_ h_ => Kd.C_below hr1 h_.below) hc1 (some []) (fin1 hbs) (by omega) (by omega) hsz HO596) ?_
            rintro e590 w591 ⟨rfl, hb592⟩
            refine ⟨_, rfl, fun a593 HF594 => ?_⟩
            have HO595 : Own w w591 [Chunk.row (Kd.int .u8) 5 w.heap.size Sb2 (.slice Ab2 bs2.length cb2) bs2, Chunk.blk g2 (.cells #[.slice A0 nums.length c0] 45 (0, 0)), Chunk.blk g569 (.cells #[.bool true] 4 (0, 0)), Chunk.blk g8 (.cells #[.slice A1 texts.length c1] 46 (0, 0))] := Own.unbundle (A := [Chunk.row (Kd.int .u8) 5 w.heap.size Sb2 (.slice Ab2 bs2.length cb2) bs2]) (L := [Chunk.blk g2 (.cells #[.slice A0 nums.length c0] 45 (0, 0)), Chunk.blk g569 (.cells #[.bool true] 4 (0, 0)), Chunk.blk g8 (.cells #[.slice A1 texts.length c1] 46 (0, 0))]) (hb592.sel [0, 1, 2, 3] (by decide))
            clear HO596
            clear HF589 HO579 hb592
            have HO598 : Own w w591 [Chunk.row (Kd.int .u8) 5 w.heap.size Sb2 (.slice Ab2 bs2.length cb2) bs2, Chunk.blk g2 (.cells #[.slice A0 nums.length c0] 45 (0, 0)), Chunk.blk g569 (.cells #[.bool true] 4 (0, 0)), Chunk.blk g8 (.cells #[.slice A1 texts.length c1] 46 (0, 0))] := HO595
            clear HO595
            refine gw_ev HF594 (want_none rfl) rfl (by decide) (op_assign rfl (HF594.ev rfl)) ?_
            intro a599 HF600; clear HF594
            refine wpList_nil ?_
            refine gw_nx (hK585 _ _ ?_)
            refine gw_seq fun K601 hK601 => ?_
            refine wp_region_lit ?_
            refine gw_ev HF600 (want_none rfl) rfl (by decide) (op_move rfl (HF600.ev rfl)) ?_
            intro a602 HF603; clear HF600
            refine gw_lit (enc := Value.int .u8) (fun _ => rfl) (xs := [0]) (e := 5) HF603 HO598 (want_none rfl) rfl (by decide) (op_bslice (by kernel_rfl) rfl (pt_cons (ev_c _ _) pt_nil)) (by simp) ?_
            intro A604 S605 a606 w607 HF608 HO609; clear HF603 HO598
            have HO610 : Own w w607 [Chunk.row (Kd.int .u8) 5 w.heap.size S605 (.slice A604 (([0]).length) (([0]).length)) ([0]), Chunk.row (Kd.int .u8) 5 w.heap.size Sb2 (.slice Ab2 bs2.length cb2) bs2, Chunk.blk g2 (.cells #[.slice A0 nums.length c0] 45 (0, 0)), Chunk.blk g569 (.cells #[.bool true] 4 (0, 0)), Chunk.blk g8 (.cells #[.slice A1 texts.length c1] 46 (0, 0))] := HO609
            clear HO609
            refine gw_appendV 1 HF608 HO610 (want_none rfl) rfl (by decide) rfl Try.underlying22 gwinfo5 (by decide) rfl (HF608.ev rfl) (HF608.ev rfl) (Kd.R_reads' (HO610.get 0 rfl)).2.2 (by simp) HO610.below.size (by first | omega | (simp; omega)) ?_
            intro A611 c612 S613 a614 w615 HF616 HO617; clear HF608 HO610
            have HO618 : Own w w615 [Chunk.row (Kd.int .u8) 5 w.heap.size S605 (.slice A604 (([0]).length) (([0]).length)) ([0]), Chunk.two .u8 S613 A611 ((bs2 ++ [0]).length) c612 (bs2 ++ [0]) Ab2 bs2.length cb2 bs2, Chunk.blk g2 (.cells #[.slice A0 nums.length c0] 45 (0, 0)), Chunk.blk g569 (.cells #[.bool true] 4 (0, 0)), Chunk.blk g8 (.cells #[.slice A1 texts.length c1] 46 (0, 0))] := HO617
            clear HO617
            refine gw_ev HF616 (want_none rfl) rfl (by decide) (op_move rfl (HF616.ev rfl)) ?_
            intro a619 HF620; clear HF616
            have HO627 : Own w _ [(Chunk.all [Chunk.row (Kd.int .u8) 5 w.heap.size S605 (.slice A604 (([0]).length) (([0]).length)) ([0]), Chunk.two .u8 S613 A611 ((bs2 ++ [0]).length) c612 (bs2 ++ [0]) Ab2 bs2.length cb2 bs2]), Chunk.blk g2 (.cells #[.slice A0 nums.length c0] 45 (0, 0)), Chunk.blk g569 (.cells #[.bool true] 4 (0, 0)), Chunk.blk g8 (.cells #[.slice A1 texts.length c1] 46 (0, 0))] := Own.bundle (A := [Chunk.row (Kd.int .u8) 5 w.heap.size S605 (.slice A604 (([0]).length) (([0]).length)) ([0]), Chunk.two .u8 S613 A611 ((bs2 ++ [0]).length) c612 (bs2 ++ [0]) Ab2 bs2.length cb2 bs2]) (L := [Chunk.blk g2 (.cells #[.slice A0 nums.length c0] 45 (0, 0)), Chunk.blk g569 (.cells #[.bool true] 4 (0, 0)), Chunk.blk g8 (.cells #[.slice A1 texts.length c1] 46 (0, 0))]) (HO618.sel [0, 1, 2, 3, 4] (by decide))
            refine gw_call HF620 (want_none rfl) rfl (by decide) (op_callL Try.func31 (by kernel_rfl) rfl rfl (ar_cons (HF620.ev rfl) (ar_cons (HF620.ev rfl) ar_nil))) (GBack1_.back_read w _ (Chunk.all [Chunk.row (Kd.int .u8) 5 w.heap.size S605 (.slice A604 (([0]).length) (([0]).length)) ([0]), Chunk.two .u8 S613 A611 ((bs2 ++ [0]).length) c612 (bs2 ++ [0]) Ab2 bs2.length cb2 bs2]) A611 c612 (bs2 ++ [0]) (fun w_ h_ => ((Own.unbundle (A := [Chunk.row (Kd.int .u8) 5 w.heap.size S605 (.slice A604 (([0]).length) (([0]).length)) ([0]), Chunk.two .u8 S613 A611 ((bs2 ++ [0]).length) c612 (bs2 ++ [0]) Ab2 bs2.length cb2 bs2]) (L := []) h_).get 1 rfl).1.1) (HO618.get 1 rfl).1.2.1 (byteL_app hby (fun x hx => by simp at hx; omega)) g2 g569 g8 A0 c0 nums (fun w_ h_ => Kd.C_below hr0 h_.below) hc0 A1 c1 texts (fun w_ h_ => Kd.C_below hr1 h_.below) hc1 (some [0]) (fin2 hbs) (by omega) (by omega) hsz HO627) ?_
            rintro e621 w622 ⟨rfl, hb623⟩
            refine ⟨_, rfl, fun a624 HF625 => ?_⟩
            have HO626 : Own w w622 [Chunk.row (Kd.int .u8) 5 w.heap.size S605 (.slice A604 (([0]).length) (([0]).length)) ([0]), Chunk.two .u8 S613 A611 ((bs2 ++ [0]).length) c612 (bs2 ++ [0]) Ab2 bs2.length cb2 bs2, Chunk.blk g2 (.cells #[.slice A0 nums.length c0] 45 (0, 0)), Chunk.blk g569 (.cells #[.bool true] 4 (0, 0)), Chunk.blk g8 (.cells #[.slice A1 texts.length c1] 46 (0, 0))] := Own.unbundle (A := [Chunk.row (Kd.int .u8) 5 w.heap.size S605 (.slice A604 (([0]).length) (([0]).length)) ([0]), Chunk.two .u8 S613 A611 ((bs2 ++ [0]).length) c612 (bs2 ++ [0]) Ab2 bs2.length cb2 bs2]) (L := [Chunk.blk g2 (.cells #[.slice A0 nums.length c0] 45 (0, 0)), Chunk.blk g569 (.cells #[.bool true] 4 (0, 0)), Chunk.blk g8 (.cells #[.slice A1 texts.length c1] 46 (0, 0))]) (hb623.sel [0, 1, 2, 3] (by decide))
            clear HO627
            clear HF620 HO618 hb623
            have HO629 : Own w w622 [Chunk.row (Kd.int .u8) 5 w.heap.size S605 (.slice A604 (([0]).length) (([0]).length)) ([0]), Chunk.two .u8 S613 A611 ((bs2 ++ [0]).length) c612 (bs2 ++ [0]) Ab2 bs2.length cb2 bs2, Chunk.blk g2 (.cells #[.slice A0 nums.length c0] 45 (0, 0)), Chunk.blk g569 (.cells #[.bool true] 4 (0, 0)), Chunk.blk g8 (.cells #[.slice A1 texts.length c1] 46 (0, 0))] := HO626
            clear HO626
            refine gw_ev HF625 (want_none rfl) rfl (by decide) (op_assign rfl (HF625.ev rfl)) ?_
            intro a630 HF631; clear HF625
            refine wpList_nil ?_
            refine gw_nx (hK601 _ _ ?_)
            refine gw_seq fun K632 hK632 => ?_
            refine gw_seq fun K633 hK633 => ?_
            refine wp_region_lit ?_
            refine gw_ev HF631 (want_none rfl) rfl (by decide) (op_move rfl (HF631.ev rfl)) ?_
            intro a634 HF635; clear HF631
            refine gw_ev HF635 (want_none rfl) rfl (by decide) (op_len Try.underlying22 rfl (HF635.ev rfl)) ?_
            intro a636 HF637; clear HF635
            refine gw_ev HF637 (want_none rfl) rfl (by decide) (op_eqi rfl (HF637.ev rfl) (ev_c _ _)) ?_
            intro a638 HF639; clear HF637
            refine wpList_nil ?_
            refine gw_nx (hK633 _ _ ?_)
            refine gw_cond HF639 rfl (fun hb640 => ?_) (fun hb640 => ?_)
            · skip
              have HF641 := HF639.subst_ (d := 63) (b := true) rfl hb640
              clear HF639
              (try simp only [Bool.and_eq_true, Bool.or_eq_true, Bool.and_eq_false_iff, Bool.or_eq_false_iff, Bool.not_and, Bool.not_or, Bool.not_not, decide_eq_true_eq, decide_eq_false_iff_not, Bool.not_eq_true', Bool.not_eq_false', Bool.not_eq_true, Bool.not_eq_false, ne_eq, Decidable.not_not, Int.not_lt, Int.not_le, not_true_eq_false, not_false_eq_true, bne_iff_ne, beq_iff_eq, bne_eq_false_iff_eq, beq_eq_false_iff_ne] at hb640)
              refine gw_seq fun K642 hK642 => ?_
              refine wp_region_lit ?_
              refine gw_ev HF641 (want_none rfl) rfl (by decide) (op_load1 gwagg4 rfl (HF641.ev rfl) (blk_at (HO629.get 3 rfl) rfl)) ?_
              intro a643 HF644; clear HF641
              refine gw_ev HF644 (want_none rfl) rfl (by decide) (op_move rfl (HF644.ev rfl)) ?_
              intro a645 HF646; clear HF644
              refine gw_ev HF646 (want_yes HF646 rfl rfl rfl rfl) rfl (by decide) (op_move rfl (HF646.ev rfl)) ?_
              intro a647 HF648; clear HF646
              refine gw_ev HF648 (want_yes HF648 rfl rfl rfl rfl) rfl (by decide) (op_eqi rfl (HF648.ev rfl) (ev_c _ _)) ?_
              intro a649 HF650; clear HF648
              have HF651 := HF650.lit (b := true) (by decide)
              clear HF650
              refine gw_ev HF651 (want_none rfl) rfl (by decide) (op_pick_t rfl (HF651.ev rfl) (HF651.ev rfl)) ?_
              intro a652 HF653; clear HF651
              refine gw_ev HF653 (want_none rfl) rfl (by decide) (op_move rfl (HF653.ev rfl)) ?_
              intro a654 HF655; clear HF653
              refine gw_ev HF655 (want_yes HF655 rfl rfl rfl rfl) rfl (by decide) (op_move rfl (HF655.ev rfl)) ?_
              intro a656 HF657; clear HF655
              refine gw_ev HF657 (want_yes HF657 rfl rfl rfl rfl) rfl (by decide) (op_eqi rfl (HF657.ev rfl) (ev_c _ _)) ?_
              intro a658 HF659; clear HF657
              have HF660 := HF659.lit (b := true) (by decide)
              clear HF659
              refine gw_ev HF660 (want_none rfl) rfl (by decide) (op_pick_t rfl (HF660.ev rfl) (HF660.ev rfl)) ?_
              intro a661 HF662; clear HF660
              refine gw_ev HF662 (want_none rfl) rfl (by decide) (op_assign rfl (HF662.ev rfl)) ?_
              intro a663 HF664; clear HF662
              refine wpList_nil ?_
              refine gw_nx (hK642 _ _ ?_)
              refine wp_ret ?_
              refine gw_thr ?_
              refine gw_ret1 HF664 rfl rfl ?_
              exact ⟨rfl, HO629.below⟩
            · skip
              have HF665 := HF639.subst_ (d := 63) (b := false) rfl hb640
              clear HF639
              (try simp only [Bool.and_eq_true, Bool.or_eq_true, Bool.and_eq_false_iff, Bool.or_eq_false_iff, Bool.not_and, Bool.not_or, Bool.not_not, decide_eq_true_eq, decide_eq_false_iff_not, Bool.not_eq_true', Bool.not_eq_false', Bool.not_eq_true, Bool.not_eq_false, ne_eq, Decidable.not_not, Int.not_lt, Int.not_le, not_true_eq_false, not_false_eq_true, bne_iff_ne, beq_iff_eq, bne_eq_false_iff_eq, beq_eq_false_iff_ne] at hb640)
              refine wp_skip ?_
              refine gw_nx (hK632 _ _ ?_)
              refine gw_seq fun K666 hK666 => ?_
              refine wp_region_lit ?_
              refine gw_ev HF665 (want_none rfl) rfl (by decide) (op_move rfl (HF665.ev rfl)) ?_
              intro a667 HF668; clear HF665
              refine gw_ev HF668 (want_none rfl) rfl (by decide) (op_move rfl (HF668.ev rfl)) ?_
              intro a669 HF670; clear HF668
              refine gw_ev HF670 (want_none rfl) rfl (by decide) (op_len Try.underlying22 rfl (HF670.ev rfl)) ?_
              intro a671 HF672; clear HF670
              refine gw_ev HF672 (want_none rfl) rfl (by decide) (op_sub rfl (HF672.ev rfl) (ev_c _ _) (by omega)) ?_
              intro a673 HF674; clear HF672
              obtain ⟨hr675, hc676, hC677⟩ := cut_hi (P := Try.prog) (d := (Kd.int .u8)) (t := 22) (e := 5) Try.underlying22 gwsiz5 Ab2 cb2 bs2 (HO629.get 1 rfl).2.2.1 ((bs2.length : Int) - 1) (by omega) (by omega)
              refine gw_ev HF674 (want_none rfl) rfl (by decide) (op_cut Try.underlying22 hr675 rfl (HF674.ev rfl) rfl (some_ev (HF674.ev rfl))) ?_
              intro a678 HF679; clear HF674
              refine gw_ev HF679 (want_none rfl) rfl (by decide) (op_move rfl (HF679.ev rfl)) ?_
              intro a680 HF681; clear HF679
              have HO688 : Own w _ [(Chunk.all [Chunk.row (Kd.int .u8) 5 w.heap.size S605 (.slice A604 (([0]).length) (([0]).length)) ([0]), Chunk.two .u8 S613 A611 ((bs2 ++ [0]).length) c612 (bs2 ++ [0]) Ab2 bs2.length cb2 bs2]), Chunk.blk g2 (.cells #[.slice A0 nums.length c0] 45 (0, 0)), Chunk.blk g569 (.cells #[.bool true] 4 (0, 0)), Chunk.blk g8 (.cells #[.slice A1 texts.length c1] 46 (0, 0))] := Own.bundle (A := [Chunk.row (Kd.int .u8) 5 w.heap.size S605 (.slice A604 (([0]).length) (([0]).length)) ([0]), Chunk.two .u8 S613 A611 ((bs2 ++ [0]).length) c612 (bs2 ++ [0]) Ab2 bs2.length cb2 bs2]) (L := [Chunk.blk g2 (.cells #[.slice A0 nums.length c0] 45 (0, 0)), Chunk.blk g569 (.cells #[.bool true] 4 (0, 0)), Chunk.blk g8 (.cells #[.slice A1 texts.length c1] 46 (0, 0))]) (HO629.sel [0, 1, 2, 3, 4] (by decide))
              refine gw_call HF681 (want_none rfl) rfl (by decide) (op_callL Try.func31 (by kernel_rfl) rfl rfl (ar_cons (HF681.ev rfl) (ar_cons (HF681.ev rfl) ar_nil))) (GBack1_.back_read w _ (Chunk.all [Chunk.row (Kd.int .u8) 5 w.heap.size S605 (.slice A604 (([0]).length) (([0]).length)) ([0]), Chunk.two .u8 S613 A611 ((bs2 ++ [0]).length) c612 (bs2 ++ [0]) Ab2 bs2.length cb2 bs2]) Ab2 cb2 (bs2.take ((bs2.length : Int) - 1).toNat) (fun w_ h_ => (hC677 _ ((Own.unbundle (A := [Chunk.row (Kd.int .u8) 5 w.heap.size S605 (.slice A604 (([0]).length) (([0]).length)) ([0]), Chunk.two .u8 S613 A611 ((bs2 ++ [0]).length) c612 (bs2 ++ [0]) Ab2 bs2.length cb2 bs2]) (L := []) h_).get 1 rfl).2.1)) hc676 ((fun x hx => hby x (List.mem_of_mem_take hx))) g2 g569 g8 A0 c0 nums (fun w_ h_ => Kd.C_below hr0 h_.below) hc0 A1 c1 texts (fun w_ h_ => Kd.C_below hr1 h_.below) hc1 none (fin3 hbs (by omega)) (by omega) (by omega) hsz HO688) ?_
              rintro e682 w683 ⟨rfl, hb684⟩
              refine ⟨_, rfl, fun a685 HF686 => ?_⟩
              have HO687 : Own w w683 [Chunk.row (Kd.int .u8) 5 w.heap.size S605 (.slice A604 (([0]).length) (([0]).length)) ([0]), Chunk.two .u8 S613 A611 ((bs2 ++ [0]).length) c612 (bs2 ++ [0]) Ab2 bs2.length cb2 bs2, Chunk.blk g2 (.cells #[.slice A0 nums.length c0] 45 (0, 0)), Chunk.blk g569 (.cells #[.bool true] 4 (0, 0)), Chunk.blk g8 (.cells #[.slice A1 texts.length c1] 46 (0, 0))] := Own.unbundle (A := [Chunk.row (Kd.int .u8) 5 w.heap.size S605 (.slice A604 (([0]).length) (([0]).length)) ([0]), Chunk.two .u8 S613 A611 ((bs2 ++ [0]).length) c612 (bs2 ++ [0]) Ab2 bs2.length cb2 bs2]) (L := [Chunk.blk g2 (.cells #[.slice A0 nums.length c0] 45 (0, 0)), Chunk.blk g569 (.cells #[.bool true] 4 (0, 0)), Chunk.blk g8 (.cells #[.slice A1 texts.length c1] 46 (0, 0))]) (hb684.sel [0, 1, 2, 3] (by decide))
              clear HO688
              clear HF681 HO629 hb684
              have HO690 : Own w w683 [Chunk.row (Kd.int .u8) 5 w.heap.size S605 (.slice A604 (([0]).length) (([0]).length)) ([0]), Chunk.two .u8 S613 A611 ((bs2 ++ [0]).length) c612 (bs2 ++ [0]) Ab2 bs2.length cb2 bs2, Chunk.blk g2 (.cells #[.slice A0 nums.length c0] 45 (0, 0)), Chunk.blk g569 (.cells #[.bool true] 4 (0, 0)), Chunk.blk g8 (.cells #[.slice A1 texts.length c1] 46 (0, 0))] := HO687
              clear HO687
              refine gw_ev HF686 (want_none rfl) rfl (by decide) (op_assign rfl (HF686.ev rfl)) ?_
              intro a691 HF692; clear HF686
              refine wpList_nil ?_
              refine gw_nx (hK666 _ _ ?_)
              refine gw_seq fun K693 hK693 => ?_
              refine wp_region_lit ?_
              refine gw_ev HF692 (want_none rfl) rfl (by decide) (op_load1 gwagg4 rfl (HF692.ev rfl) (blk_at (HO690.get 3 rfl) rfl)) ?_
              intro a694 HF695; clear HF692
              refine gw_ev HF695 (want_none rfl) rfl (by decide) (op_move rfl (HF695.ev rfl)) ?_
              intro a696 HF697; clear HF695
              refine gw_ev HF697 (want_yes HF697 rfl rfl rfl rfl) rfl (by decide) (op_move rfl (HF697.ev rfl)) ?_
              intro a698 HF699; clear HF697
              refine gw_ev HF699 (want_yes HF699 rfl rfl rfl rfl) rfl (by decide) (op_eqi rfl (HF699.ev rfl) (ev_c _ _)) ?_
              intro a700 HF701; clear HF699
              have HF702 := HF701.lit (b := true) (by decide)
              clear HF701
              refine gw_ev HF702 (want_none rfl) rfl (by decide) (op_pick_t rfl (HF702.ev rfl) (HF702.ev rfl)) ?_
              intro a703 HF704; clear HF702
              refine gw_ev HF704 (want_none rfl) rfl (by decide) (op_move rfl (HF704.ev rfl)) ?_
              intro a705 HF706; clear HF704
              refine gw_ev HF706 (want_yes HF706 rfl rfl rfl rfl) rfl (by decide) (op_move rfl (HF706.ev rfl)) ?_
              intro a707 HF708; clear HF706
              refine gw_ev HF708 (want_yes HF708 rfl rfl rfl rfl) rfl (by decide) (op_eqi rfl (HF708.ev rfl) (ev_c _ _)) ?_
              intro a709 HF710; clear HF708
              have HF711 := HF710.lit (b := true) (by decide)
              clear HF710
              refine gw_ev HF711 (want_none rfl) rfl (by decide) (op_pick_t rfl (HF711.ev rfl) (HF711.ev rfl)) ?_
              intro a712 HF713; clear HF711
              refine gw_ev HF713 (want_none rfl) rfl (by decide) (op_move rfl (HF713.ev rfl)) ?_
              intro a714 HF715; clear HF713
              refine gw_ev HF715 (want_yes HF715 rfl rfl rfl rfl) rfl (by decide) (op_move rfl (HF715.ev rfl)) ?_
              intro a716 HF717; clear HF715
              refine gw_ev HF717 (want_yes HF717 rfl rfl rfl rfl) rfl (by decide) (op_eqi rfl (HF717.ev rfl) (ev_c _ _)) ?_
              intro a718 HF719; clear HF717
              have HF720 := HF719.lit (b := true) (by decide)
              clear HF719
              refine gw_ev HF720 (want_none rfl) rfl (by decide) (op_pick_t rfl (HF720.ev rfl) (HF720.ev rfl)) ?_
              intro a721 HF722; clear HF720
              refine gw_ev HF722 (want_none rfl) rfl (by decide) (op_assign rfl (HF722.ev rfl)) ?_
              intro a723 HF724; clear HF722
              refine wpList_nil ?_
              refine gw_nx (hK693 _ _ ?_)
              refine wp_ret ?_
              refine gw_ret1 HF724 rfl rfl ?_
              exact ⟨rfl, HO690.below⟩
          · skip
            have HF725 := HF565.subst_ (d := 47) (b := false) rfl hb566
            clear HF565
            (try simp only [Bool.and_eq_true, Bool.or_eq_true, Bool.and_eq_false_iff, Bool.or_eq_false_iff, Bool.not_and, Bool.not_or, Bool.not_not, decide_eq_true_eq, decide_eq_false_iff_not, Bool.not_eq_true', Bool.not_eq_false', Bool.not_eq_true, Bool.not_eq_false, ne_eq, Decidable.not_not, Int.not_lt, Int.not_le, not_true_eq_false, not_false_eq_true, bne_iff_ne, beq_iff_eq, bne_eq_false_iff_eq, beq_eq_false_iff_ne] at hb566)
            refine wp_skip ?_
            refine gw_nx (hK550 _ _ ?_)
            refine wp_region_lit ?_
            refine gw_ev HF725 (want_none rfl) rfl (by decide) (op_move rfl (HF725.ev rfl)) ?_
            intro a726 HF727; clear HF725
            refine gw_ev HF727 (want_none rfl) rfl (by decide) (op_move rfl (HF727.ev rfl)) ?_
            intro a728 HF729; clear HF727
            refine gw_call HF729 (want_none rfl) rfl (by decide) (op_callL Try.func20 (by kernel_rfl) rfl rfl (ar_cons (HF729.ev rfl) (ar_cons (HF729.ev rfl) ar_nil))) (text_own Ab2 cb2 bs2 (texts.getD k.toNat (⟨#[]⟩ : ByteArray)) _ (Kd.R_reads' (HO524.get 0 rfl)).2.2 (row_cap (HO524.get 0 rfl)) (by omega)) ?_
            rintro e733 w734 ⟨A730, c731, S732, rfl, hb735⟩
            refine ⟨_, rfl, fun a736 HF737 => ?_⟩
            have HO738 := HO524.fresh hb735
            have hbel739 := HO524.below
            clear HF729 HO524 hb735
            have HO740 := HO738.lowrow 0 rfl (base' := w.heap.size) (Below.size hbel739)
            have HO741 : Own w w734 [Chunk.row (Kd.int .u8) 5 w.heap.size S732 (.slice A730 ((bs2 ++ encT (texts.getD k.toNat (⟨#[]⟩ : ByteArray))).length) c731) (bs2 ++ encT (texts.getD k.toNat (⟨#[]⟩ : ByteArray))), Chunk.row (Kd.int .u8) 5 w.heap.size Sb2 (.slice Ab2 bs2.length cb2) bs2, Chunk.blk g8 (.cells #[.slice A1 texts.length c1] 46 (0, 0)), Chunk.blk g2 (.cells #[.slice A0 nums.length c0] 45 (0, 0))] := HO740
            clear HO740
            refine gw_ev HF737 (want_none rfl) rfl (by decide) (op_assign rfl (HF737.ev rfl)) ?_
            intro a742 HF743; clear HF737
            refine wpList_nil ?_
            refine gw_blk ?_
            refine gw_nx (hK532 _ _ ?_)
            refine wp_region_lit ?_
            refine gw_ev HF743 (want_none rfl) rfl (by decide) (op_add rfl (HF743.ev rfl) (ev_c _ _) (by omega)) ?_
            intro a744 HF745; clear HF743
            refine gw_ev HF745 (want_none rfl) rfl (by decide) (op_move rfl (HF745.ev rfl)) ?_
            intro a746 HF747; clear HF745
            refine wpList_nil ?_
            refine gw_nx ⟨_, ?_, k + 1, bs2 ++ encT (texts.getD k.toNat (⟨#[]⟩ : ByteArray)), A730, c731, _, (HF747.pick (t := 36) rfl (HF747.pick (t := 5) rfl (HF747.pick (t := 2) rfl (HF747.pick (t := 3) rfl (HF747.pick (t := 4) rfl (HF747.pick (t := 34) rfl (HF747.pick (t := 35) rfl HF747.nil))))))), HO741.sel [0, 2, 3] (by decide), ?_, ?_, ?_, rfl⟩
            · rw [hm525]; omega
            · omega
            · rw [List.append_assoc, ← et_in hi2.1 (by omega) (by omega) (by omega), he2]
            · have hx_ := encT_len (texts.getD k.toNat (⟨#[]⟩ : ByteArray)); simp only [List.length_append]; omega
        · skip
          have HF748 := HF528.subst_ (d := 37) (b := false) rfl hb530
          clear HF528
          (try simp only [Bool.and_eq_true, Bool.or_eq_true, Bool.and_eq_false_iff, Bool.or_eq_false_iff, Bool.not_and, Bool.not_or, Bool.not_not, decide_eq_true_eq, decide_eq_false_iff_not, Bool.not_eq_true', Bool.not_eq_false', Bool.not_eq_true, Bool.not_eq_false, ne_eq, Decidable.not_not, Int.not_lt, Int.not_le, not_true_eq_false, not_false_eq_true, bne_iff_ne, beq_iff_eq, bne_eq_false_iff_eq, beq_eq_false_iff_ne] at hb530)
          refine wp_exit ?_
          refine gw_thx ?_
          refine gw_thx ?_
          refine gw_in ?_
          refine gw_nx (hK511 _ _ ?_)
          refine gw_seq fun K749 hK749 => ?_
          refine wp_region_lit ?_
          refine gw_new HF748 HO524 (want_none rfl) rfl (by decide) (op_alloc gwzer4 rfl) ?_
          intro g750 a751 w752 HF753 HO754; clear HF748 HO524
          have HO755 : Own w w752 [Chunk.blk g750 (.cells #[.bool false] 4 (0, 0)), Chunk.row (Kd.int .u8) 5 w.heap.size Sb2 (.slice Ab2 bs2.length cb2) bs2, Chunk.blk g8 (.cells #[.slice A1 texts.length c1] 46 (0, 0)), Chunk.blk g2 (.cells #[.slice A0 nums.length c0] 45 (0, 0))] := HO754
          clear HO754
          have hbs : bs2 = (encNi nums 51 0 ++ encTi texts 51 0) := by have e0_ := et_out (ts := texts) hi2.1 hi2.2.2 (by omega); rw [e0_, List.append_nil] at he2; exact he2
          have hby : ByteL bs2 := by rw [hbs]; exact byteL_app (encNi_byte _ _ _) (encTi_byte _ _ _)
          refine gw_set 0 HF753 HO755 rfl (want_none rfl) rfl (op_store1 gwsiz4 rfl (HF753.ev rfl) (ev_c _ _) rfl (blk_at (HO755.get 0 rfl) rfl) (blkf (HO755.get 0 rfl))) ?_
          intro a756 w758 HF757 HO759; clear HF753 HO755
          have HO760 : Own w w758 [Chunk.blk g750 (.cells #[.bool true] 4 (0, 0)), Chunk.row (Kd.int .u8) 5 w.heap.size Sb2 (.slice Ab2 bs2.length cb2) bs2, Chunk.blk g8 (.cells #[.slice A1 texts.length c1] 46 (0, 0)), Chunk.blk g2 (.cells #[.slice A0 nums.length c0] 45 (0, 0))] := HO759
          clear HO759
          refine wpList_nil ?_
          refine gw_nx (hK749 _ _ ?_)
          refine gw_seq fun K761 hK761 => ?_
          refine wp_region_lit ?_
          refine gw_ev HF757 (want_none rfl) rfl (by decide) (op_func rfl (ar_cons (HF757.ev rfl) (ar_cons (HF757.ev rfl) (ar_cons (HF757.ev rfl) ar_nil)))) ?_
          intro a762 HF763; clear HF757
          refine gw_ev HF763 (want_none rfl) rfl (by decide) (op_assign rfl (HF763.ev rfl)) ?_
          intro a764 HF765; clear HF763
          refine wpList_nil ?_
          refine gw_nx (hK761 _ _ ?_)
          refine gw_seq fun K766 hK766 => ?_
          refine wp_region_lit ?_
          refine gw_ev HF765 (want_none rfl) rfl (by decide) (op_move rfl (HF765.ev rfl)) ?_
          intro a767 HF768; clear HF765
          refine gw_ev HF768 (want_none rfl) rfl (by decide) (op_move rfl (HF768.ev rfl)) ?_
          intro a769 HF770; clear HF768
          have HO777 : Own w _ [(Chunk.all [Chunk.row (Kd.int .u8) 5 w.heap.size Sb2 (.slice Ab2 bs2.length cb2) bs2]), Chunk.blk g2 (.cells #[.slice A0 nums.length c0] 45 (0, 0)), Chunk.blk g750 (.cells #[.bool true] 4 (0, 0)), Chunk.blk g8 (.cells #[.slice A1 texts.length c1] 46 (0, 0))] := Own.bundle (A := [Chunk.row (Kd.int .u8) 5 w.heap.size Sb2 (.slice Ab2 bs2.length cb2) bs2]) (L := [Chunk.blk g2 (.cells #[.slice A0 nums.length c0] 45 (0, 0)), Chunk.blk g750 (.cells #[.bool true] 4 (0, 0)), Chunk.blk g8 (.cells #[.slice A1 texts.length c1] 46 (0, 0))]) (HO760.sel [1, 3, 0, 2] (by decide))
          refine gw_call HF770 (want_none rfl) rfl (by decide) (op_callL Try.func31 (by kernel_rfl) rfl rfl (ar_cons (HF770.ev rfl) (ar_cons (HF770.ev rfl) ar_nil))) (GBack1_.back_read w _ (Chunk.all [Chunk.row (Kd.int .u8) 5 w.heap.size Sb2 (.slice Ab2 bs2.length cb2) bs2]) Ab2 cb2 bs2 (fun w_ h_ => (Kd.R_reads' ((Own.unbundle (A := [Chunk.row (Kd.int .u8) 5 w.heap.size Sb2 (.slice Ab2 bs2.length cb2) bs2]) (L := []) h_).get 0 rfl)).2.2) (row_cap (HO760.get 1 rfl)) (hby) g2 g750 g8 A0 c0 nums (fun w_ h_ => Kd.C_below hr0 h_.below) hc0 A1 c1 texts (fun w_ h_ => Kd.C_below hr1 h_.below) hc1 (some []) (fin1 hbs) (by omega) (by omega) hsz HO777) ?_
          rintro e771 w772 ⟨rfl, hb773⟩
          refine ⟨_, rfl, fun a774 HF775 => ?_⟩
          have HO776 : Own w w772 [Chunk.row (Kd.int .u8) 5 w.heap.size Sb2 (.slice Ab2 bs2.length cb2) bs2, Chunk.blk g2 (.cells #[.slice A0 nums.length c0] 45 (0, 0)), Chunk.blk g750 (.cells #[.bool true] 4 (0, 0)), Chunk.blk g8 (.cells #[.slice A1 texts.length c1] 46 (0, 0))] := Own.unbundle (A := [Chunk.row (Kd.int .u8) 5 w.heap.size Sb2 (.slice Ab2 bs2.length cb2) bs2]) (L := [Chunk.blk g2 (.cells #[.slice A0 nums.length c0] 45 (0, 0)), Chunk.blk g750 (.cells #[.bool true] 4 (0, 0)), Chunk.blk g8 (.cells #[.slice A1 texts.length c1] 46 (0, 0))]) (hb773.sel [0, 1, 2, 3] (by decide))
          clear HO777
          clear HF770 HO760 hb773
          have HO779 : Own w w772 [Chunk.row (Kd.int .u8) 5 w.heap.size Sb2 (.slice Ab2 bs2.length cb2) bs2, Chunk.blk g2 (.cells #[.slice A0 nums.length c0] 45 (0, 0)), Chunk.blk g750 (.cells #[.bool true] 4 (0, 0)), Chunk.blk g8 (.cells #[.slice A1 texts.length c1] 46 (0, 0))] := HO776
          clear HO776
          refine gw_ev HF775 (want_none rfl) rfl (by decide) (op_assign rfl (HF775.ev rfl)) ?_
          intro a780 HF781; clear HF775
          refine wpList_nil ?_
          refine gw_nx (hK766 _ _ ?_)
          refine gw_seq fun K782 hK782 => ?_
          refine wp_region_lit ?_
          refine gw_ev HF781 (want_none rfl) rfl (by decide) (op_move rfl (HF781.ev rfl)) ?_
          intro a783 HF784; clear HF781
          refine gw_lit (enc := Value.int .u8) (fun _ => rfl) (xs := [0]) (e := 5) HF784 HO779 (want_none rfl) rfl (by decide) (op_bslice (by kernel_rfl) rfl (pt_cons (ev_c _ _) pt_nil)) (by simp) ?_
          intro A785 S786 a787 w788 HF789 HO790; clear HF784 HO779
          have HO791 : Own w w788 [Chunk.row (Kd.int .u8) 5 w.heap.size S786 (.slice A785 (([0]).length) (([0]).length)) ([0]), Chunk.row (Kd.int .u8) 5 w.heap.size Sb2 (.slice Ab2 bs2.length cb2) bs2, Chunk.blk g2 (.cells #[.slice A0 nums.length c0] 45 (0, 0)), Chunk.blk g750 (.cells #[.bool true] 4 (0, 0)), Chunk.blk g8 (.cells #[.slice A1 texts.length c1] 46 (0, 0))] := HO790
          clear HO790
          refine gw_appendV 1 HF789 HO791 (want_none rfl) rfl (by decide) rfl Try.underlying22 gwinfo5 (by decide) rfl (HF789.ev rfl) (HF789.ev rfl) (Kd.R_reads' (HO791.get 0 rfl)).2.2 (by simp) HO791.below.size (by first | omega | (simp; omega)) ?_
          intro A792 c793 S794 a795 w796 HF797 HO798; clear HF789 HO791
          have HO799 : Own w w796 [Chunk.row (Kd.int .u8) 5 w.heap.size S786 (.slice A785 (([0]).length) (([0]).length)) ([0]), Chunk.two .u8 S794 A792 ((bs2 ++ [0]).length) c793 (bs2 ++ [0]) Ab2 bs2.length cb2 bs2, Chunk.blk g2 (.cells #[.slice A0 nums.length c0] 45 (0, 0)), Chunk.blk g750 (.cells #[.bool true] 4 (0, 0)), Chunk.blk g8 (.cells #[.slice A1 texts.length c1] 46 (0, 0))] := HO798
          clear HO798
          refine gw_ev HF797 (want_none rfl) rfl (by decide) (op_move rfl (HF797.ev rfl)) ?_
          intro a800 HF801; clear HF797
          have HO808 : Own w _ [(Chunk.all [Chunk.row (Kd.int .u8) 5 w.heap.size S786 (.slice A785 (([0]).length) (([0]).length)) ([0]), Chunk.two .u8 S794 A792 ((bs2 ++ [0]).length) c793 (bs2 ++ [0]) Ab2 bs2.length cb2 bs2]), Chunk.blk g2 (.cells #[.slice A0 nums.length c0] 45 (0, 0)), Chunk.blk g750 (.cells #[.bool true] 4 (0, 0)), Chunk.blk g8 (.cells #[.slice A1 texts.length c1] 46 (0, 0))] := Own.bundle (A := [Chunk.row (Kd.int .u8) 5 w.heap.size S786 (.slice A785 (([0]).length) (([0]).length)) ([0]), Chunk.two .u8 S794 A792 ((bs2 ++ [0]).length) c793 (bs2 ++ [0]) Ab2 bs2.length cb2 bs2]) (L := [Chunk.blk g2 (.cells #[.slice A0 nums.length c0] 45 (0, 0)), Chunk.blk g750 (.cells #[.bool true] 4 (0, 0)), Chunk.blk g8 (.cells #[.slice A1 texts.length c1] 46 (0, 0))]) (HO799.sel [0, 1, 2, 3, 4] (by decide))
          refine gw_call HF801 (want_none rfl) rfl (by decide) (op_callL Try.func31 (by kernel_rfl) rfl rfl (ar_cons (HF801.ev rfl) (ar_cons (HF801.ev rfl) ar_nil))) (GBack1_.back_read w _ (Chunk.all [Chunk.row (Kd.int .u8) 5 w.heap.size S786 (.slice A785 (([0]).length) (([0]).length)) ([0]), Chunk.two .u8 S794 A792 ((bs2 ++ [0]).length) c793 (bs2 ++ [0]) Ab2 bs2.length cb2 bs2]) A792 c793 (bs2 ++ [0]) (fun w_ h_ => ((Own.unbundle (A := [Chunk.row (Kd.int .u8) 5 w.heap.size S786 (.slice A785 (([0]).length) (([0]).length)) ([0]), Chunk.two .u8 S794 A792 ((bs2 ++ [0]).length) c793 (bs2 ++ [0]) Ab2 bs2.length cb2 bs2]) (L := []) h_).get 1 rfl).1.1) (HO799.get 1 rfl).1.2.1 (byteL_app hby (fun x hx => by simp at hx; omega)) g2 g750 g8 A0 c0 nums (fun w_ h_ => Kd.C_below hr0 h_.below) hc0 A1 c1 texts (fun w_ h_ => Kd.C_below hr1 h_.below) hc1 (some [0]) (fin2 hbs) (by omega) (by omega) hsz HO808) ?_
          rintro e802 w803 ⟨rfl, hb804⟩
          refine ⟨_, rfl, fun a805 HF806 => ?_⟩
          have HO807 : Own w w803 [Chunk.row (Kd.int .u8) 5 w.heap.size S786 (.slice A785 (([0]).length) (([0]).length)) ([0]), Chunk.two .u8 S794 A792 ((bs2 ++ [0]).length) c793 (bs2 ++ [0]) Ab2 bs2.length cb2 bs2, Chunk.blk g2 (.cells #[.slice A0 nums.length c0] 45 (0, 0)), Chunk.blk g750 (.cells #[.bool true] 4 (0, 0)), Chunk.blk g8 (.cells #[.slice A1 texts.length c1] 46 (0, 0))] := Own.unbundle (A := [Chunk.row (Kd.int .u8) 5 w.heap.size S786 (.slice A785 (([0]).length) (([0]).length)) ([0]), Chunk.two .u8 S794 A792 ((bs2 ++ [0]).length) c793 (bs2 ++ [0]) Ab2 bs2.length cb2 bs2]) (L := [Chunk.blk g2 (.cells #[.slice A0 nums.length c0] 45 (0, 0)), Chunk.blk g750 (.cells #[.bool true] 4 (0, 0)), Chunk.blk g8 (.cells #[.slice A1 texts.length c1] 46 (0, 0))]) (hb804.sel [0, 1, 2, 3] (by decide))
          clear HO808
          clear HF801 HO799 hb804
          have HO810 : Own w w803 [Chunk.row (Kd.int .u8) 5 w.heap.size S786 (.slice A785 (([0]).length) (([0]).length)) ([0]), Chunk.two .u8 S794 A792 ((bs2 ++ [0]).length) c793 (bs2 ++ [0]) Ab2 bs2.length cb2 bs2, Chunk.blk g2 (.cells #[.slice A0 nums.length c0] 45 (0, 0)), Chunk.blk g750 (.cells #[.bool true] 4 (0, 0)), Chunk.blk g8 (.cells #[.slice A1 texts.length c1] 46 (0, 0))] := HO807
          clear HO807
          refine gw_ev HF806 (want_none rfl) rfl (by decide) (op_assign rfl (HF806.ev rfl)) ?_
          intro a811 HF812; clear HF806
          refine wpList_nil ?_
          refine gw_nx (hK782 _ _ ?_)
          refine gw_seq fun K813 hK813 => ?_
          refine gw_seq fun K814 hK814 => ?_
          refine wp_region_lit ?_
          refine gw_ev HF812 (want_none rfl) rfl (by decide) (op_move rfl (HF812.ev rfl)) ?_
          intro a815 HF816; clear HF812
          refine gw_ev HF816 (want_none rfl) rfl (by decide) (op_len Try.underlying22 rfl (HF816.ev rfl)) ?_
          intro a817 HF818; clear HF816
          refine gw_ev HF818 (want_none rfl) rfl (by decide) (op_eqi rfl (HF818.ev rfl) (ev_c _ _)) ?_
          intro a819 HF820; clear HF818
          refine wpList_nil ?_
          refine gw_nx (hK814 _ _ ?_)
          refine gw_cond HF820 rfl (fun hb821 => ?_) (fun hb821 => ?_)
          · skip
            have HF822 := HF820.subst_ (d := 63) (b := true) rfl hb821
            clear HF820
            (try simp only [Bool.and_eq_true, Bool.or_eq_true, Bool.and_eq_false_iff, Bool.or_eq_false_iff, Bool.not_and, Bool.not_or, Bool.not_not, decide_eq_true_eq, decide_eq_false_iff_not, Bool.not_eq_true', Bool.not_eq_false', Bool.not_eq_true, Bool.not_eq_false, ne_eq, Decidable.not_not, Int.not_lt, Int.not_le, not_true_eq_false, not_false_eq_true, bne_iff_ne, beq_iff_eq, bne_eq_false_iff_eq, beq_eq_false_iff_ne] at hb821)
            refine gw_seq fun K823 hK823 => ?_
            refine wp_region_lit ?_
            refine gw_ev HF822 (want_none rfl) rfl (by decide) (op_load1 gwagg4 rfl (HF822.ev rfl) (blk_at (HO810.get 3 rfl) rfl)) ?_
            intro a824 HF825; clear HF822
            refine gw_ev HF825 (want_none rfl) rfl (by decide) (op_move rfl (HF825.ev rfl)) ?_
            intro a826 HF827; clear HF825
            refine gw_ev HF827 (want_yes HF827 rfl rfl rfl rfl) rfl (by decide) (op_move rfl (HF827.ev rfl)) ?_
            intro a828 HF829; clear HF827
            refine gw_ev HF829 (want_yes HF829 rfl rfl rfl rfl) rfl (by decide) (op_eqi rfl (HF829.ev rfl) (ev_c _ _)) ?_
            intro a830 HF831; clear HF829
            have HF832 := HF831.lit (b := true) (by decide)
            clear HF831
            refine gw_ev HF832 (want_none rfl) rfl (by decide) (op_pick_t rfl (HF832.ev rfl) (HF832.ev rfl)) ?_
            intro a833 HF834; clear HF832
            refine gw_ev HF834 (want_none rfl) rfl (by decide) (op_move rfl (HF834.ev rfl)) ?_
            intro a835 HF836; clear HF834
            refine gw_ev HF836 (want_yes HF836 rfl rfl rfl rfl) rfl (by decide) (op_move rfl (HF836.ev rfl)) ?_
            intro a837 HF838; clear HF836
            refine gw_ev HF838 (want_yes HF838 rfl rfl rfl rfl) rfl (by decide) (op_eqi rfl (HF838.ev rfl) (ev_c _ _)) ?_
            intro a839 HF840; clear HF838
            have HF841 := HF840.lit (b := true) (by decide)
            clear HF840
            refine gw_ev HF841 (want_none rfl) rfl (by decide) (op_pick_t rfl (HF841.ev rfl) (HF841.ev rfl)) ?_
            intro a842 HF843; clear HF841
            refine gw_ev HF843 (want_none rfl) rfl (by decide) (op_assign rfl (HF843.ev rfl)) ?_
            intro a844 HF845; clear HF843
            refine wpList_nil ?_
            refine gw_nx (hK823 _ _ ?_)
            refine wp_ret ?_
            refine gw_thr ?_
            refine gw_ret1 HF845 rfl rfl ?_
            exact ⟨rfl, HO810.below⟩
          · skip
            have HF846 := HF820.subst_ (d := 63) (b := false) rfl hb821
            clear HF820
            (try simp only [Bool.and_eq_true, Bool.or_eq_true, Bool.and_eq_false_iff, Bool.or_eq_false_iff, Bool.not_and, Bool.not_or, Bool.not_not, decide_eq_true_eq, decide_eq_false_iff_not, Bool.not_eq_true', Bool.not_eq_false', Bool.not_eq_true, Bool.not_eq_false, ne_eq, Decidable.not_not, Int.not_lt, Int.not_le, not_true_eq_false, not_false_eq_true, bne_iff_ne, beq_iff_eq, bne_eq_false_iff_eq, beq_eq_false_iff_ne] at hb821)
            refine wp_skip ?_
            refine gw_nx (hK813 _ _ ?_)
            refine gw_seq fun K847 hK847 => ?_
            refine wp_region_lit ?_
            refine gw_ev HF846 (want_none rfl) rfl (by decide) (op_move rfl (HF846.ev rfl)) ?_
            intro a848 HF849; clear HF846
            refine gw_ev HF849 (want_none rfl) rfl (by decide) (op_move rfl (HF849.ev rfl)) ?_
            intro a850 HF851; clear HF849
            refine gw_ev HF851 (want_none rfl) rfl (by decide) (op_len Try.underlying22 rfl (HF851.ev rfl)) ?_
            intro a852 HF853; clear HF851
            refine gw_ev HF853 (want_none rfl) rfl (by decide) (op_sub rfl (HF853.ev rfl) (ev_c _ _) (by omega)) ?_
            intro a854 HF855; clear HF853
            obtain ⟨hr856, hc857, hC858⟩ := cut_hi (P := Try.prog) (d := (Kd.int .u8)) (t := 22) (e := 5) Try.underlying22 gwsiz5 Ab2 cb2 bs2 (HO810.get 1 rfl).2.2.1 ((bs2.length : Int) - 1) (by omega) (by omega)
            refine gw_ev HF855 (want_none rfl) rfl (by decide) (op_cut Try.underlying22 hr856 rfl (HF855.ev rfl) rfl (some_ev (HF855.ev rfl))) ?_
            intro a859 HF860; clear HF855
            refine gw_ev HF860 (want_none rfl) rfl (by decide) (op_move rfl (HF860.ev rfl)) ?_
            intro a861 HF862; clear HF860
            have HO869 : Own w _ [(Chunk.all [Chunk.row (Kd.int .u8) 5 w.heap.size S786 (.slice A785 (([0]).length) (([0]).length)) ([0]), Chunk.two .u8 S794 A792 ((bs2 ++ [0]).length) c793 (bs2 ++ [0]) Ab2 bs2.length cb2 bs2]), Chunk.blk g2 (.cells #[.slice A0 nums.length c0] 45 (0, 0)), Chunk.blk g750 (.cells #[.bool true] 4 (0, 0)), Chunk.blk g8 (.cells #[.slice A1 texts.length c1] 46 (0, 0))] := Own.bundle (A := [Chunk.row (Kd.int .u8) 5 w.heap.size S786 (.slice A785 (([0]).length) (([0]).length)) ([0]), Chunk.two .u8 S794 A792 ((bs2 ++ [0]).length) c793 (bs2 ++ [0]) Ab2 bs2.length cb2 bs2]) (L := [Chunk.blk g2 (.cells #[.slice A0 nums.length c0] 45 (0, 0)), Chunk.blk g750 (.cells #[.bool true] 4 (0, 0)), Chunk.blk g8 (.cells #[.slice A1 texts.length c1] 46 (0, 0))]) (HO810.sel [0, 1, 2, 3, 4] (by decide))
            refine gw_call HF862 (want_none rfl) rfl (by decide) (op_callL Try.func31 (by kernel_rfl) rfl rfl (ar_cons (HF862.ev rfl) (ar_cons (HF862.ev rfl) ar_nil))) (GBack1_.back_read w _ (Chunk.all [Chunk.row (Kd.int .u8) 5 w.heap.size S786 (.slice A785 (([0]).length) (([0]).length)) ([0]), Chunk.two .u8 S794 A792 ((bs2 ++ [0]).length) c793 (bs2 ++ [0]) Ab2 bs2.length cb2 bs2]) Ab2 cb2 (bs2.take ((bs2.length : Int) - 1).toNat) (fun w_ h_ => (hC858 _ ((Own.unbundle (A := [Chunk.row (Kd.int .u8) 5 w.heap.size S786 (.slice A785 (([0]).length) (([0]).length)) ([0]), Chunk.two .u8 S794 A792 ((bs2 ++ [0]).length) c793 (bs2 ++ [0]) Ab2 bs2.length cb2 bs2]) (L := []) h_).get 1 rfl).2.1)) hc857 ((fun x hx => hby x (List.mem_of_mem_take hx))) g2 g750 g8 A0 c0 nums (fun w_ h_ => Kd.C_below hr0 h_.below) hc0 A1 c1 texts (fun w_ h_ => Kd.C_below hr1 h_.below) hc1 none (fin3 hbs (by omega)) (by omega) (by omega) hsz HO869) ?_
            rintro e863 w864 ⟨rfl, hb865⟩
            refine ⟨_, rfl, fun a866 HF867 => ?_⟩
            have HO868 : Own w w864 [Chunk.row (Kd.int .u8) 5 w.heap.size S786 (.slice A785 (([0]).length) (([0]).length)) ([0]), Chunk.two .u8 S794 A792 ((bs2 ++ [0]).length) c793 (bs2 ++ [0]) Ab2 bs2.length cb2 bs2, Chunk.blk g2 (.cells #[.slice A0 nums.length c0] 45 (0, 0)), Chunk.blk g750 (.cells #[.bool true] 4 (0, 0)), Chunk.blk g8 (.cells #[.slice A1 texts.length c1] 46 (0, 0))] := Own.unbundle (A := [Chunk.row (Kd.int .u8) 5 w.heap.size S786 (.slice A785 (([0]).length) (([0]).length)) ([0]), Chunk.two .u8 S794 A792 ((bs2 ++ [0]).length) c793 (bs2 ++ [0]) Ab2 bs2.length cb2 bs2]) (L := [Chunk.blk g2 (.cells #[.slice A0 nums.length c0] 45 (0, 0)), Chunk.blk g750 (.cells #[.bool true] 4 (0, 0)), Chunk.blk g8 (.cells #[.slice A1 texts.length c1] 46 (0, 0))]) (hb865.sel [0, 1, 2, 3] (by decide))
            clear HO869
            clear HF862 HO810 hb865
            have HO871 : Own w w864 [Chunk.row (Kd.int .u8) 5 w.heap.size S786 (.slice A785 (([0]).length) (([0]).length)) ([0]), Chunk.two .u8 S794 A792 ((bs2 ++ [0]).length) c793 (bs2 ++ [0]) Ab2 bs2.length cb2 bs2, Chunk.blk g2 (.cells #[.slice A0 nums.length c0] 45 (0, 0)), Chunk.blk g750 (.cells #[.bool true] 4 (0, 0)), Chunk.blk g8 (.cells #[.slice A1 texts.length c1] 46 (0, 0))] := HO868
            clear HO868
            refine gw_ev HF867 (want_none rfl) rfl (by decide) (op_assign rfl (HF867.ev rfl)) ?_
            intro a872 HF873; clear HF867
            refine wpList_nil ?_
            refine gw_nx (hK847 _ _ ?_)
            refine gw_seq fun K874 hK874 => ?_
            refine wp_region_lit ?_
            refine gw_ev HF873 (want_none rfl) rfl (by decide) (op_load1 gwagg4 rfl (HF873.ev rfl) (blk_at (HO871.get 3 rfl) rfl)) ?_
            intro a875 HF876; clear HF873
            refine gw_ev HF876 (want_none rfl) rfl (by decide) (op_move rfl (HF876.ev rfl)) ?_
            intro a877 HF878; clear HF876
            refine gw_ev HF878 (want_yes HF878 rfl rfl rfl rfl) rfl (by decide) (op_move rfl (HF878.ev rfl)) ?_
            intro a879 HF880; clear HF878
            refine gw_ev HF880 (want_yes HF880 rfl rfl rfl rfl) rfl (by decide) (op_eqi rfl (HF880.ev rfl) (ev_c _ _)) ?_
            intro a881 HF882; clear HF880
            have HF883 := HF882.lit (b := true) (by decide)
            clear HF882
            refine gw_ev HF883 (want_none rfl) rfl (by decide) (op_pick_t rfl (HF883.ev rfl) (HF883.ev rfl)) ?_
            intro a884 HF885; clear HF883
            refine gw_ev HF885 (want_none rfl) rfl (by decide) (op_move rfl (HF885.ev rfl)) ?_
            intro a886 HF887; clear HF885
            refine gw_ev HF887 (want_yes HF887 rfl rfl rfl rfl) rfl (by decide) (op_move rfl (HF887.ev rfl)) ?_
            intro a888 HF889; clear HF887
            refine gw_ev HF889 (want_yes HF889 rfl rfl rfl rfl) rfl (by decide) (op_eqi rfl (HF889.ev rfl) (ev_c _ _)) ?_
            intro a890 HF891; clear HF889
            have HF892 := HF891.lit (b := true) (by decide)
            clear HF891
            refine gw_ev HF892 (want_none rfl) rfl (by decide) (op_pick_t rfl (HF892.ev rfl) (HF892.ev rfl)) ?_
            intro a893 HF894; clear HF892
            refine gw_ev HF894 (want_none rfl) rfl (by decide) (op_move rfl (HF894.ev rfl)) ?_
            intro a895 HF896; clear HF894
            refine gw_ev HF896 (want_yes HF896 rfl rfl rfl rfl) rfl (by decide) (op_move rfl (HF896.ev rfl)) ?_
            intro a897 HF898; clear HF896
            refine gw_ev HF898 (want_yes HF898 rfl rfl rfl rfl) rfl (by decide) (op_eqi rfl (HF898.ev rfl) (ev_c _ _)) ?_
            intro a899 HF900; clear HF898
            have HF901 := HF900.lit (b := true) (by decide)
            clear HF900
            refine gw_ev HF901 (want_none rfl) rfl (by decide) (op_pick_t rfl (HF901.ev rfl) (HF901.ev rfl)) ?_
            intro a902 HF903; clear HF901
            refine gw_ev HF903 (want_none rfl) rfl (by decide) (op_assign rfl (HF903.ev rfl)) ?_
            intro a904 HF905; clear HF903
            refine wpList_nil ?_
            refine gw_nx (hK874 _ _ ?_)
            refine wp_ret ?_
            refine gw_ret1 HF905 rfl rfl ?_
            exact ⟨rfl, HO871.below⟩
end GPackBack_
open Classical in
noncomputable def colloquylaw08_PackBack.f (l0 : List Int) (l1 : List ByteArray) : Option Bool := if (l0.length ≤ 9223372036854775807) ∧ (l1.length ≤ 9223372036854775807) ∧ (∀ s ∈ l1, s.size ≤ 9223372036854775807) then some true else none
theorem colloquylaw08_PackBack.calls (A0 : Option Addr) (c0 : Nat) (l0 : List Int) (A1 : Option Addr) (c1 : Nat) (l1 : List ByteArray) (r : Bool) (w : World) (hr0 : Kd.C (Kd.int .i64) w A0 l0.length l0) (hc0 : l0.length ≤ c0) (hr1 : Kd.C Kd.string w A1 l1.length l1) (hc1 : l1.length ≤ c1) (h : colloquylaw08_PackBack.f l0 l1 = some r) :
    Calls Try.prog 9 #[(.slice A0 l0.length c0), (.slice A1 l1.length c1)] w fun e w' => e = .returned (.bool r) ∧ Below w.heap.size w w' := by
  unfold colloquylaw08_PackBack.f at h
  split at h
  · cases h; rename_i hh; exact GPackBack_.PackBack_calls A0 c0 l0 A1 c1 l1 w hr0 hc0 hr1 hc1 hh.1 hh.2.1 hh.2.2
  · cases h
end Go.Proofs.Ytmlemnfleicnfaa.PA
