/- Reading back. Printed by a program of this session; Lean checks it. -/
import Derived.Test.YtmlemnfleicnfaaHNum
namespace Go.Proofs.Ytmlemnfleicnfaa.PA
open Go.RowKit Go.Proofs.YtmlemnfleicnfaaW.PrintWords Go.Proofs.YtmlemnfleicnfaaW.PrintLast Go.Proofs.YtmlemnfleicnfaaW.PrintMore
set_option linter.unusedVariables false
set_option linter.unusedSimpArgs false
namespace GBack1_
theorem gwagg2 : ∀ w, (isAgg 2).run Try.prog w = .ok false w := fun _ => by kernel_rfl
theorem gwagg4 : ∀ w, (isAgg 4).run Try.prog w = .ok false w := fun _ => by kernel_rfl
theorem gwagg45 : ∀ w, (isAgg 45).run Try.prog w = .ok false w := fun _ => by kernel_rfl
theorem gwagg46 : ∀ w, (isAgg 46).run Try.prog w = .ok false w := fun _ => by kernel_rfl
theorem gwagg9 : ∀ w, (isAgg 9).run Try.prog w = .ok false w := fun _ => by kernel_rfl
theorem gwsiz2 : ∀ w, (sizeOf 2).run Try.prog w = .ok 1 w := fun _ => by kernel_rfl
theorem gwsiz4 : ∀ w, (sizeOf 4).run Try.prog w = .ok 1 w := fun _ => by kernel_rfl
theorem gwsiz9 : ∀ w, (sizeOf 9).run Try.prog w = .ok 1 w := fun _ => by kernel_rfl
set_option maxHeartbeats 4000000 in
set_option maxRecDepth 100000 in
theorem back1_calls (w0 w : World) (R : Chunk) (g : Nat) (A : Option Addr) (c : Nat) (xs : List Int) (hx : ∀ w_, Own w0 w_ [R] → Kd.C (Kd.int .u8) w_ A xs.length xs) (hc : xs.length ≤ c) (hb : ByteL xs) (pn pk pt : Nat) (An : Option Addr) (cn : Nat) (nums : List Int) (hnx : ∀ w_, Own w0 w_ [R] → Kd.C (Kd.int .i64) w_ An nums.length nums) (hnc : nums.length ≤ cn) (At : Option Addr) (ct : Nat) (texts : List ByteArray) (htx : ∀ w_, Own w0 w_ [R] → Kd.C Kd.string w_ At texts.length texts) (htc : texts.length ≤ ct) (r : Option (List Int)) (h : finNi nums texts 51 0 xs = some r) (hnl : nums.length ≤ 9223372036854775807) (htl : texts.length ≤ 9223372036854775807) (hsz : ∀ s ∈ texts, s.size ≤ 9223372036854775807) (HO : Own w0 w [R, Chunk.blk g (.cells #[.slice A xs.length c] 80 (0, 0)), Chunk.blk pn (.cells #[.slice An nums.length cn] 45 (0, 0)), Chunk.blk pk (.cells #[.bool true] 4 (0, 0)), Chunk.blk pt (.cells #[.slice At texts.length ct] 46 (0, 0))]) :
    Calls Try.prog 41 #[.pointer (some ⟨g, 0, none⟩), .pointer (some ⟨pn, 0, none⟩), .pointer (some ⟨pk, 0, none⟩), .pointer (some ⟨pt, 0, none⟩)] w fun e w' => (∃ q A' c', r = some q ∧ e = .returned (.tuple #[]) ∧ Own w0 w' [R, rblk g A' q.length c', Chunk.blk pn (.cells #[.slice An nums.length cn] 45 (0, 0)), Chunk.blk pk (.cells #[.bool true] 4 (0, 0)), Chunk.blk pt (.cells #[.slice At texts.length ct] 46 (0, 0))]) ∨ (r = none ∧ e = .panicked badE ∧ Own w0 w' [R, Chunk.blk pn (.cells #[.slice An nums.length cn] 45 (0, 0)), Chunk.blk pk (.cells #[.bool true] 4 (0, 0)), Chunk.blk pt (.cells #[.slice At texts.length ct] 46 (0, 0))]) := by
  refine gw_startO (N := 50) (vs := [.pointer (some ⟨g, 0, none⟩), .pointer (some ⟨pn, 0, none⟩), .pointer (some ⟨pk, 0, none⟩), .pointer (some ⟨pt, 0, none⟩)]) Try.func41 rfl rfl (by simp) fun a HF => ?_
  refine gw_seq fun K1 hK1 => ?_
  refine gw_seq fun K2 hK2 => ?_
  refine wp_region_lit ?_
  refine gw_ev HF (want_none rfl) rfl (by decide) (op_load1 gwagg45 rfl (HF.ev rfl) (blk_at (HO.get 2 rfl) rfl)) ?_
  intro a3 HF4; clear HF
  refine gw_ev HF4 (want_none rfl) rfl (by decide) (op_len Try.underlying45 rfl (HF4.ev rfl)) ?_
  intro a5 HF6; clear HF4
  refine gw_ev HF6 (want_none rfl) rfl (by decide) (op_move rfl (ev_c _ _)) ?_
  intro a7 HF8; clear HF6
  refine wpList_nil ?_
  refine gw_nx (hK2 _ _ ?_)
  refine wp_block ?_
  refine gw_loop (fun m_ a_ w_ => ∃ (i : Int) (xs' : List Int) (A' : Option Addr) (c' : Nat), Fr 50 a_ [(11, .int .i64 i), (0, .pointer (some ⟨g, 0, none⟩)), (2, .pointer (some ⟨pk, 0, none⟩)), (3, .pointer (some ⟨pt, 0, none⟩)), (9, .slice An nums.length cn), (10, .int .i64 (nums.length : Int))] ∧ Own w0 w_ [R, Chunk.blk g (.cells #[.slice A' xs'.length c'] 80 (0, 0)), Chunk.blk pn (.cells #[.slice An nums.length cn] 45 (0, 0)), Chunk.blk pk (.cells #[.bool true] 4 (0, 0)), Chunk.blk pt (.cells #[.slice At texts.length ct] 46 (0, 0))] ∧ (0 ≤ i ∧ i ≤ nums.length ∧ i ≤ 50) ∧ (finNi nums texts (51 - i.toNat) i.toNat xs' = some r) ∧ (∀ W, Kd.C (Kd.int .u8) W A xs.length xs → Kd.C (Kd.int .u8) W A' xs'.length xs') ∧ (xs'.length ≤ c') ∧ (ByteL xs') ∧ m_ = (51 - i.toNat)) ((51 - (0 : Int).toNat)) ?_ ?_
  · refine ⟨0, xs, A, c, (HF8.pick (t := 11) rfl (HF8.pick (t := 0) rfl (HF8.pick (t := 2) rfl (HF8.pick (t := 3) rfl (HF8.pick (t := 9) rfl (HF8.pick (t := 10) rfl HF8.nil)))))), HO.sel [0, 1, 2, 3, 4] (by decide), ?_, ?_, ?_, ?_, ?_, rfl⟩
    · omega
    · exact h
    · intro W h; exact h
    · exact hc
    · exact hb
  · rintro m10 a11 w12 ⟨i, xs', A', c', HF13, HO14, hi1, hfin1, hC1, hcap1, hbx1, hm15⟩
    refine gw_seq fun K16 hK16 => ?_
    refine wp_region_lit ?_
    refine gw_ev HF13 (want_none rfl) rfl (by decide) (op_lss rfl (HF13.ev rfl) (HF13.ev rfl)) ?_
    intro a17 HF18; clear HF13
    refine wpList_nil ?_
    refine gw_nx (hK16 _ _ ?_)
    refine gw_seq fun K19 hK19 => ?_
    refine gw_cond HF18 rfl (fun hb20 => ?_) (fun hb20 => ?_)
    · skip
      have HF21 := HF18.subst_ (d := 12) (b := true) rfl hb20
      clear HF18
      (try simp only [Bool.and_eq_true, Bool.or_eq_true, Bool.and_eq_false_iff, Bool.or_eq_false_iff, Bool.not_and, Bool.not_or, Bool.not_not, decide_eq_true_eq, decide_eq_false_iff_not, Bool.not_eq_true', Bool.not_eq_false', Bool.not_eq_true, Bool.not_eq_false, ne_eq, Decidable.not_not, Int.not_lt, Int.not_le, not_true_eq_false, not_false_eq_true, bne_iff_ne, beq_iff_eq, bne_eq_false_iff_eq, beq_eq_false_iff_ne] at hb20)
      refine wp_skip ?_
      refine gw_nx (hK19 _ _ ?_)
      refine gw_seq fun K22 hK22 => ?_
      refine wp_block ?_
      refine gw_seq fun K23 hK23 => ?_
      refine wp_region_lit ?_
      refine gw_ev HF21 (want_none rfl) rfl (by decide) (op_move rfl (HF21.ev rfl)) ?_
      intro a24 HF25; clear HF21
      obtain ⟨ad26, cs29, hA27, hl30, hK31, hc28⟩ := Kd.C_get (hnx _ (HO14.sel [0] (by decide))) (0 : Int) i (by omega) (by omega)
      obtain rfl := id hK31
      clear hl30
      refine gw_ev HF25 (want_none rfl) rfl (by decide) (op_index Try.underlying45 gwsiz2 rfl (HF25.ev rfl) (HF25.ev rfl) hA27 (⟨by omega, by omega⟩)) ?_
      intro a32 HF33; clear HF25
      refine gw_ev HF33 (want_none rfl) rfl (by decide) (op_load1 gwagg2 rfl (HF33.ev rfl) ((at0 hc28))) ?_
      intro a34 HF35; clear HF33
      refine gw_ev HF35 (want_none rfl) rfl (by decide) (op_assign rfl (HF35.ev rfl)) ?_
      intro a36 HF37; clear HF35
      refine gw_ev HF37 (want_none rfl) rfl (by decide) (op_assign rfl (HF37.ev rfl)) ?_
      intro a38 HF39; clear HF37
      refine wpList_nil ?_
      refine gw_nx (hK23 _ _ ?_)
      refine gw_seq fun K40 hK40 => ?_
      refine gw_seq fun K41 hK41 => ?_
      refine wp_region_lit ?_
      refine gw_ev HF39 (want_none rfl) rfl (by decide) (op_move rfl (HF39.ev rfl)) ?_
      intro a42 HF43; clear HF39
      refine gw_ev HF43 (want_none rfl) rfl (by decide) (op_geq rfl (HF43.ev rfl) (ev_c _ _)) ?_
      intro a44 HF45; clear HF43
      refine wpList_nil ?_
      refine gw_nx (hK41 _ _ ?_)
      refine gw_cond HF45 rfl (fun hb46 => ?_) (fun hb46 => ?_)
      · skip
        have HF47 := HF45.subst_ (d := 17) (b := true) rfl hb46
        clear HF45
        (try simp only [Bool.and_eq_true, Bool.or_eq_true, Bool.and_eq_false_iff, Bool.or_eq_false_iff, Bool.not_and, Bool.not_or, Bool.not_not, decide_eq_true_eq, decide_eq_false_iff_not, Bool.not_eq_true', Bool.not_eq_false', Bool.not_eq_true, Bool.not_eq_false, ne_eq, Decidable.not_not, Int.not_lt, Int.not_le, not_true_eq_false, not_false_eq_true, bne_iff_ne, beq_iff_eq, bne_eq_false_iff_eq, beq_eq_false_iff_ne] at hb46)
        refine wp_exit ?_
        refine gw_thx ?_
        refine gw_out (by decide) ?_
        refine gw_thx ?_
        refine gw_thx ?_
        refine gw_in ?_
        refine gw_nx (hK1 _ _ ?_)
        refine gw_seq fun K48 hK48 => ?_
        refine wp_region_lit ?_
        refine gw_ev HF47 (want_none rfl) rfl (by decide) (op_load1 gwagg46 rfl (HF47.ev rfl) (blk_at (HO14.get 4 rfl) rfl)) ?_
        intro a49 HF50; clear HF47
        refine gw_ev HF50 (want_none rfl) rfl (by decide) (op_len Try.underlying46 rfl (HF50.ev rfl)) ?_
        intro a51 HF52; clear HF50
        refine gw_ev HF52 (want_none rfl) rfl (by decide) (op_move rfl (ev_c _ _)) ?_
        intro a53 HF54; clear HF52
        refine wpList_nil ?_
        refine gw_nx (hK48 _ _ ?_)
        refine wp_block ?_
        refine gw_loop (fun m_ a_ w_ => ∃ (k : Int) (xs2 : List Int) (A2 : Option Addr) (c2 : Nat), Fr 50 a_ [(30, .int .i64 k), (0, .pointer (some ⟨g, 0, none⟩)), (2, .pointer (some ⟨pk, 0, none⟩)), (28, .slice At texts.length ct), (29, .int .i64 (texts.length : Int))] ∧ Own w0 w_ [R, Chunk.blk g (.cells #[.slice A2 xs2.length c2] 80 (0, 0)), Chunk.blk pn (.cells #[.slice An nums.length cn] 45 (0, 0)), Chunk.blk pk (.cells #[.bool true] 4 (0, 0)), Chunk.blk pt (.cells #[.slice At texts.length ct] 46 (0, 0))] ∧ (0 ≤ k ∧ k ≤ texts.length ∧ k ≤ 50) ∧ (finTi texts (51 - k.toNat) k.toNat xs2 = some r) ∧ (∀ W, Kd.C (Kd.int .u8) W A xs.length xs → Kd.C (Kd.int .u8) W A2 xs2.length xs2) ∧ (xs2.length ≤ c2) ∧ (ByteL xs2) ∧ m_ = (51 - k.toNat)) ((51 - (0 : Int).toNat)) ?_ ?_
        · refine ⟨0, xs', A', c', (HF54.pick (t := 30) rfl (HF54.pick (t := 0) rfl (HF54.pick (t := 2) rfl (HF54.pick (t := 28) rfl (HF54.pick (t := 29) rfl HF54.nil))))), HO14.sel [0, 1, 2, 3, 4] (by decide), ?_, ?_, ?_, ?_, ?_, rfl⟩
          · omega
          · exact fn_out hi1.1 hi1.2.2 hfin1 (by omega)
          · exact hC1
          · exact hcap1
          · exact hbx1
        · rintro m56 a57 w58 ⟨k, xs2, A2, c2, HF59, HO60, hi2, hfin2, hC2, hcap2, hbx2, hm61⟩
          refine gw_seq fun K62 hK62 => ?_
          refine wp_region_lit ?_
          refine gw_ev HF59 (want_none rfl) rfl (by decide) (op_lss rfl (HF59.ev rfl) (HF59.ev rfl)) ?_
          intro a63 HF64; clear HF59
          refine wpList_nil ?_
          refine gw_nx (hK62 _ _ ?_)
          refine gw_seq fun K65 hK65 => ?_
          refine gw_cond HF64 rfl (fun hb66 => ?_) (fun hb66 => ?_)
          · skip
            have HF67 := HF64.subst_ (d := 31) (b := true) rfl hb66
            clear HF64
            (try simp only [Bool.and_eq_true, Bool.or_eq_true, Bool.and_eq_false_iff, Bool.or_eq_false_iff, Bool.not_and, Bool.not_or, Bool.not_not, decide_eq_true_eq, decide_eq_false_iff_not, Bool.not_eq_true', Bool.not_eq_false', Bool.not_eq_true, Bool.not_eq_false, ne_eq, Decidable.not_not, Int.not_lt, Int.not_le, not_true_eq_false, not_false_eq_true, bne_iff_ne, beq_iff_eq, bne_eq_false_iff_eq, beq_eq_false_iff_ne] at hb66)
            refine wp_skip ?_
            refine gw_nx (hK65 _ _ ?_)
            refine gw_seq fun K68 hK68 => ?_
            refine wp_block ?_
            refine gw_seq fun K69 hK69 => ?_
            refine wp_region_lit ?_
            refine gw_ev HF67 (want_none rfl) rfl (by decide) (op_move rfl (HF67.ev rfl)) ?_
            intro a70 HF71; clear HF67
            obtain ⟨ad72, cs75, hA73, hl76, hK77, hc74⟩ := Kd.C_get (htx _ (HO60.sel [0] (by decide))) (⟨#[]⟩ : ByteArray) k (by omega) (by omega)
            obtain rfl := id hK77
            clear hl76
            refine gw_ev HF71 (want_none rfl) rfl (by decide) (op_index Try.underlying46 gwsiz9 rfl (HF71.ev rfl) (HF71.ev rfl) hA73 (⟨by omega, by omega⟩)) ?_
            intro a78 HF79; clear HF71
            refine gw_ev HF79 (want_none rfl) rfl (by decide) (op_load1 gwagg9 rfl (HF79.ev rfl) ((at0 hc74))) ?_
            intro a80 HF81; clear HF79
            refine gw_ev HF81 (want_none rfl) rfl (by decide) (op_assign rfl (HF81.ev rfl)) ?_
            intro a82 HF83; clear HF81
            refine gw_ev HF83 (want_none rfl) rfl (by decide) (op_assign rfl (HF83.ev rfl)) ?_
            intro a84 HF85; clear HF83
            refine wpList_nil ?_
            refine gw_nx (hK69 _ _ ?_)
            refine gw_seq fun K86 hK86 => ?_
            refine gw_seq fun K87 hK87 => ?_
            refine wp_region_lit ?_
            refine gw_ev HF85 (want_none rfl) rfl (by decide) (op_move rfl (HF85.ev rfl)) ?_
            intro a88 HF89; clear HF85
            refine gw_ev HF89 (want_none rfl) rfl (by decide) (op_geq rfl (HF89.ev rfl) (ev_c _ _)) ?_
            intro a90 HF91; clear HF89
            refine gw_ev HF91 (want_none rfl) rfl (by decide) (op_move rfl (HF91.ev rfl)) ?_
            intro a92 HF93; clear HF91
            refine gw_evG HF93 rfl rfl rfl rfl (on_f _) rfl (by decide) (fun h_ => (op_move rfl (HF93.ev rfl))) ?_
            intro a94 HF95; clear HF93
            refine gw_evG HF95 rfl rfl rfl rfl (on_f _) rfl (by decide) (fun h_ => (op_lens Try.underlying9 rfl (ev_gv (HF95.ev rfl) h_))) ?_
            intro a96 HF97; clear HF95
            refine gw_evG HF97 rfl rfl rfl rfl (on_f _) rfl (by decide) (fun h_ => (op_gtr rfl (ev_gv (HF97.ev rfl) h_) (ev_c _ _))) ?_
            intro a98 HF99; clear HF97
            refine gw_ev HF99 (want_none rfl) rfl (by decide) (op_pick_or rfl (HF99.ev rfl) (ev_c _ _) (fun hp_ => (ev_gv (HF99.ev rfl) (not_t hp_)))) ?_
            intro a100 HF101; clear HF99
            refine wpList_nil ?_
            refine gw_nx (hK87 _ _ ?_)
            refine gw_cond HF101 rfl (fun hb102 => ?_) (fun hb102 => ?_)
            · skip
              have HF103 := HF101.subst_ (d := 41) (b := true) rfl hb102
              clear HF101
              (try simp only [Bool.and_eq_true, Bool.or_eq_true, Bool.and_eq_false_iff, Bool.or_eq_false_iff, Bool.not_and, Bool.not_or, Bool.not_not, decide_eq_true_eq, decide_eq_false_iff_not, Bool.not_eq_true', Bool.not_eq_false', Bool.not_eq_true, Bool.not_eq_false, ne_eq, Decidable.not_not, Int.not_lt, Int.not_le, not_true_eq_false, not_false_eq_true, bne_iff_ne, beq_iff_eq, bne_eq_false_iff_eq, beq_eq_false_iff_ne] at hb102)
              refine wp_exit ?_
              refine gw_thx ?_
              refine gw_out (by decide) ?_
              refine gw_thx ?_
              refine gw_thx ?_
              refine gw_in ?_
              refine gw_end0 HF103 rfl ?_
              exact .inl ⟨_, _, _, ft_out hi2.1 hi2.2.2 hfin2 (by omega), rfl, HO60.sel [0, 1, 2, 3, 4] (by decide)⟩
            · skip
              have HF104 := HF101.subst_ (d := 41) (b := false) rfl hb102
              clear HF101
              (try simp only [Bool.and_eq_true, Bool.or_eq_true, Bool.and_eq_false_iff, Bool.or_eq_false_iff, Bool.not_and, Bool.not_or, Bool.not_not, decide_eq_true_eq, decide_eq_false_iff_not, Bool.not_eq_true', Bool.not_eq_false', Bool.not_eq_true, Bool.not_eq_false, ne_eq, Decidable.not_not, Int.not_lt, Int.not_le, not_true_eq_false, not_false_eq_true, bne_iff_ne, beq_iff_eq, bne_eq_false_iff_eq, beq_eq_false_iff_ne] at hb102)
              refine wp_skip ?_
              refine gw_nx (hK86 _ _ ?_)
              refine wp_region_lit ?_
              refine gw_ev HF104 (want_none rfl) rfl (by decide) (op_load1 gwagg4 rfl (HF104.ev rfl) (blk_at (HO60.get 3 rfl) rfl)) ?_
              intro a105 HF106; clear HF104
              refine gw_ev HF106 (want_none rfl) rfl (by decide) (op_move rfl (HF106.ev rfl)) ?_
              intro a107 HF108; clear HF106
              refine gw_ev HF108 (want_yes HF108 rfl rfl rfl rfl) rfl (by decide) (op_move rfl (HF108.ev rfl)) ?_
              intro a109 HF110; clear HF108
              have HO126 : Own w0 _ [(Chunk.all [R, Chunk.blk pn (.cells #[.slice An nums.length cn] 45 (0, 0)), Chunk.blk pk (.cells #[.bool true] 4 (0, 0)), Chunk.blk pt (.cells #[.slice At texts.length ct] 46 (0, 0))]), Chunk.blk g (.cells #[.slice A2 xs2.length c2] 80 (0, 0))] := Own.bundle (A := [R, Chunk.blk pn (.cells #[.slice An nums.length cn] 45 (0, 0)), Chunk.blk pk (.cells #[.bool true] 4 (0, 0)), Chunk.blk pt (.cells #[.slice At texts.length ct] 46 (0, 0))]) (L := [Chunk.blk g (.cells #[.slice A2 xs2.length c2] 80 (0, 0))]) (HO60.sel [0, 2, 3, 4, 1] (by decide))
              refine gw_callP HF110 (want_yes HF110 rfl rfl rfl rfl) rfl (by decide) (op_callL Try.func37 (by kernel_rfl) rfl rfl (ar_cons (HF110.ev rfl) (ar_cons (ev_c _ _) ar_nil))) (GRead_.text_calls w0 _ (Chunk.all [R, Chunk.blk pn (.cells #[.slice An nums.length cn] 45 (0, 0)), Chunk.blk pk (.cells #[.bool true] 4 (0, 0)), Chunk.blk pt (.cells #[.slice At texts.length ct] 46 (0, 0))]) g A2 c2 xs2 (fun w_ h_ => (hC2 _ (hx _ ((Own.unbundle (A := [R, Chunk.blk pn (.cells #[.slice An nums.length cn] 45 (0, 0)), Chunk.blk pk (.cells #[.bool true] 4 (0, 0)), Chunk.blk pt (.cells #[.slice At texts.length ct] 46 (0, 0))]) (L := []) h_).sel [0] (by decide))))) hcap2 (by first | exact hbx2 | exact hbx1) 500 HO126) ?_
              rintro e120 w121 (⟨n111, k112, A113, c114, hg115, rfl, hC116, hc117, hb122⟩ | ⟨hg115, rfl, hb122⟩)
              rotate_left
              · skip
                refine .inr ⟨_, rfl, ?_⟩
                have HO127 : Own w0 w121 [R, Chunk.blk pn (.cells #[.slice An nums.length cn] 45 (0, 0)), Chunk.blk pk (.cells #[.bool true] 4 (0, 0)), Chunk.blk pt (.cells #[.slice At texts.length ct] 46 (0, 0))] := Own.unbundle (A := [R, Chunk.blk pn (.cells #[.slice An nums.length cn] 45 (0, 0)), Chunk.blk pk (.cells #[.bool true] 4 (0, 0)), Chunk.blk pt (.cells #[.slice At texts.length ct] 46 (0, 0))]) (L := []) hb122
                refine gw_blp ?_
                refine gw_thp ?_
                refine gw_thp ?_
                refine gw_blp ?_
                refine gw_pan HF110 ?_
                exact .inr ⟨ft_pan hi2.1 hfin2 (by omega) (by omega) (by omega) hg115, rfl, HO127.sel [0, 1, 2, 3] (by decide)⟩
              refine .inl ⟨_, rfl, fun a123 HF124 => ?_⟩
              have HO125 : Own w0 w121 [R, Chunk.blk pn (.cells #[.slice An nums.length cn] 45 (0, 0)), Chunk.blk pk (.cells #[.bool true] 4 (0, 0)), Chunk.blk pt (.cells #[.slice At texts.length ct] 46 (0, 0)), Chunk.blk g (.cells #[.slice A113 ((xs2.drop k112).length) c114] 80 (0, 0))] := Own.unbundle (A := [R, Chunk.blk pn (.cells #[.slice An nums.length cn] 45 (0, 0)), Chunk.blk pk (.cells #[.bool true] 4 (0, 0)), Chunk.blk pt (.cells #[.slice At texts.length ct] 46 (0, 0))]) (L := [Chunk.blk g (.cells #[.slice A113 ((xs2.drop k112).length) c114] 80 (0, 0))]) (hb122.sel [0, 1] (by decide))
              clear HO126
              clear HF110 HO60 hb122
              have HO129 : Own w0 w121 [R, Chunk.blk pn (.cells #[.slice An nums.length cn] 45 (0, 0)), Chunk.blk pk (.cells #[.bool true] 4 (0, 0)), Chunk.blk pt (.cells #[.slice At texts.length ct] 46 (0, 0)), Chunk.blk g (.cells #[.slice A113 ((xs2.drop k112).length) c114] 80 (0, 0))] := HO125
              clear HO125
              have hgs119 := gtext_some hg115
              have hst := ft_text hi2.1 hfin2 (by omega) (by omega) (by omega) hg115
              refine gw_ev HF124 (want_yes HF124 rfl rfl rfl rfl) rfl (by decide) (op_move rfl (HF124.ev rfl)) ?_
              intro a130 HF131; clear HF124
              refine gw_ev HF131 (want_yes HF131 rfl rfl rfl rfl) rfl (by decide) (op_eqs rfl (HF131.ev rfl) (HF131.ev rfl)) ?_
              intro a132 HF133; clear HF131
              have HF134 := HF133.lit (b := true) (by rw [hst.1]; simp)
              clear HF133
              refine gw_ev HF134 (want_none rfl) rfl (by decide) (op_pick_t rfl (HF134.ev rfl) (HF134.ev rfl)) ?_
              intro a135 HF136; clear HF134
              refine gw_set 2 HF136 HO129 rfl (want_none rfl) rfl (op_store1 gwsiz4 rfl (HF136.ev rfl) (HF136.ev rfl) rfl (blk_at (HO129.get 2 rfl) rfl) (blkf (HO129.get 2 rfl))) ?_
              intro a137 w139 HF138 HO140; clear HF136 HO129
              have HO141 : Own w0 w139 [R, Chunk.blk pn (.cells #[.slice An nums.length cn] 45 (0, 0)), Chunk.blk pk (.cells #[.bool true] 4 (0, 0)), Chunk.blk pt (.cells #[.slice At texts.length ct] 46 (0, 0)), Chunk.blk g (.cells #[.slice A113 ((xs2.drop k112).length) c114] 80 (0, 0))] := HO140
              clear HO140
              refine wpList_nil ?_
              refine gw_blk ?_
              refine gw_nx (hK68 _ _ ?_)
              refine wp_region_lit ?_
              refine gw_ev HF138 (want_none rfl) rfl (by decide) (op_add rfl (HF138.ev rfl) (ev_c _ _) (by omega)) ?_
              intro a142 HF143; clear HF138
              refine gw_ev HF143 (want_none rfl) rfl (by decide) (op_move rfl (HF143.ev rfl)) ?_
              intro a144 HF145; clear HF143
              refine wpList_nil ?_
              refine gw_nx ⟨_, ?_, k + 1, (xs2.drop k112), A113, c114, (HF145.pick (t := 30) rfl (HF145.pick (t := 0) rfl (HF145.pick (t := 2) rfl (HF145.pick (t := 28) rfl (HF145.pick (t := 29) rfl HF145.nil))))), HO141.sel [0, 4, 1, 2, 3] (by decide), ?_, ?_, ?_, ?_, ?_, rfl⟩
              · rw [hm61]; omega
              · omega
              · exact hst.2
              · intro W h; exact hC116 W (hC2 W h)
              · exact hc117
              · exact hbx2.drop _
          · skip
            have HF146 := HF64.subst_ (d := 31) (b := false) rfl hb66
            clear HF64
            (try simp only [Bool.and_eq_true, Bool.or_eq_true, Bool.and_eq_false_iff, Bool.or_eq_false_iff, Bool.not_and, Bool.not_or, Bool.not_not, decide_eq_true_eq, decide_eq_false_iff_not, Bool.not_eq_true', Bool.not_eq_false', Bool.not_eq_true, Bool.not_eq_false, ne_eq, Decidable.not_not, Int.not_lt, Int.not_le, not_true_eq_false, not_false_eq_true, bne_iff_ne, beq_iff_eq, bne_eq_false_iff_eq, beq_eq_false_iff_ne] at hb66)
            refine wp_exit ?_
            refine gw_thx ?_
            refine gw_thx ?_
            refine gw_in ?_
            refine gw_end0 HF146 rfl ?_
            exact .inl ⟨_, _, _, ft_out hi2.1 hi2.2.2 hfin2 (by omega), rfl, HO60.sel [0, 1, 2, 3, 4] (by decide)⟩
      · skip
        have HF147 := HF45.subst_ (d := 17) (b := false) rfl hb46
        clear HF45
        (try simp only [Bool.and_eq_true, Bool.or_eq_true, Bool.and_eq_false_iff, Bool.or_eq_false_iff, Bool.not_and, Bool.not_or, Bool.not_not, decide_eq_true_eq, decide_eq_false_iff_not, Bool.not_eq_true', Bool.not_eq_false', Bool.not_eq_true, Bool.not_eq_false, ne_eq, Decidable.not_not, Int.not_lt, Int.not_le, not_true_eq_false, not_false_eq_true, bne_iff_ne, beq_iff_eq, bne_eq_false_iff_eq, beq_eq_false_iff_ne] at hb46)
        refine wp_skip ?_
        refine gw_nx (hK40 _ _ ?_)
        refine wp_region_lit ?_
        refine gw_ev HF147 (want_none rfl) rfl (by decide) (op_load1 gwagg4 rfl (HF147.ev rfl) (blk_at (HO14.get 3 rfl) rfl)) ?_
        intro a148 HF149; clear HF147
        refine gw_ev HF149 (want_none rfl) rfl (by decide) (op_move rfl (HF149.ev rfl)) ?_
        intro a150 HF151; clear HF149
        refine gw_ev HF151 (want_yes HF151 rfl rfl rfl rfl) rfl (by decide) (op_move rfl (HF151.ev rfl)) ?_
        intro a152 HF153; clear HF151
        have HO169 : Own w0 _ [(Chunk.all [R, Chunk.blk pn (.cells #[.slice An nums.length cn] 45 (0, 0)), Chunk.blk pk (.cells #[.bool true] 4 (0, 0)), Chunk.blk pt (.cells #[.slice At texts.length ct] 46 (0, 0))]), Chunk.blk g (.cells #[.slice A' xs'.length c'] 80 (0, 0))] := Own.bundle (A := [R, Chunk.blk pn (.cells #[.slice An nums.length cn] 45 (0, 0)), Chunk.blk pk (.cells #[.bool true] 4 (0, 0)), Chunk.blk pt (.cells #[.slice At texts.length ct] 46 (0, 0))]) (L := [Chunk.blk g (.cells #[.slice A' xs'.length c'] 80 (0, 0))]) (HO14.sel [0, 2, 3, 4, 1] (by decide))
        refine gw_callP HF153 (want_yes HF153 rfl rfl rfl rfl) rfl (by decide) (op_callL Try.func35 (by kernel_rfl) rfl rfl (ar_cons (HF153.ev rfl) ar_nil)) (GRead_.num_calls w0 _ (Chunk.all [R, Chunk.blk pn (.cells #[.slice An nums.length cn] 45 (0, 0)), Chunk.blk pk (.cells #[.bool true] 4 (0, 0)), Chunk.blk pt (.cells #[.slice At texts.length ct] 46 (0, 0))]) g A' c' xs' (fun w_ h_ => (hC1 _ (hx _ ((Own.unbundle (A := [R, Chunk.blk pn (.cells #[.slice An nums.length cn] 45 (0, 0)), Chunk.blk pk (.cells #[.bool true] 4 (0, 0)), Chunk.blk pt (.cells #[.slice At texts.length ct] 46 (0, 0))]) (L := []) h_).sel [0] (by decide))))) hcap1 (by first | exact hbx2 | exact hbx1) HO169) ?_
        rintro e163 w164 (⟨n154, k155, A156, c157, hg158, rfl, hC159, hc160, hb165⟩ | ⟨hg158, rfl, hb165⟩)
        rotate_left
        · skip
          refine .inr ⟨_, rfl, ?_⟩
          have HO170 : Own w0 w164 [R, Chunk.blk pn (.cells #[.slice An nums.length cn] 45 (0, 0)), Chunk.blk pk (.cells #[.bool true] 4 (0, 0)), Chunk.blk pt (.cells #[.slice At texts.length ct] 46 (0, 0))] := Own.unbundle (A := [R, Chunk.blk pn (.cells #[.slice An nums.length cn] 45 (0, 0)), Chunk.blk pk (.cells #[.bool true] 4 (0, 0)), Chunk.blk pt (.cells #[.slice At texts.length ct] 46 (0, 0))]) (L := []) hb165
          refine gw_blp ?_
          refine gw_thp ?_
          refine gw_thp ?_
          refine gw_blp ?_
          refine gw_thp ?_
          refine gw_pan HF153 ?_
          exact .inr ⟨fn_pan hi1.1 hfin1 (by omega) (by omega) hg158, rfl, HO170.sel [0, 1, 2, 3] (by decide)⟩
        refine .inl ⟨_, rfl, fun a166 HF167 => ?_⟩
        have HO168 : Own w0 w164 [R, Chunk.blk pn (.cells #[.slice An nums.length cn] 45 (0, 0)), Chunk.blk pk (.cells #[.bool true] 4 (0, 0)), Chunk.blk pt (.cells #[.slice At texts.length ct] 46 (0, 0)), Chunk.blk g (.cells #[.slice A156 ((xs'.drop k155).length) c157] 80 (0, 0))] := Own.unbundle (A := [R, Chunk.blk pn (.cells #[.slice An nums.length cn] 45 (0, 0)), Chunk.blk pk (.cells #[.bool true] 4 (0, 0)), Chunk.blk pt (.cells #[.slice At texts.length ct] 46 (0, 0))]) (L := [Chunk.blk g (.cells #[.slice A156 ((xs'.drop k155).length) c157] 80 (0, 0))]) (hb165.sel [0, 1] (by decide))
        clear HO169
        clear HF153 HO14 hb165
        have HO172 : Own w0 w164 [R, Chunk.blk pn (.cells #[.slice An nums.length cn] 45 (0, 0)), Chunk.blk pk (.cells #[.bool true] 4 (0, 0)), Chunk.blk pt (.cells #[.slice At texts.length ct] 46 (0, 0)), Chunk.blk g (.cells #[.slice A156 ((xs'.drop k155).length) c157] 80 (0, 0))] := HO168
        clear HO168
        have hgs162 := gnum_some hg158
        have hst := fn_num hi1.1 hfin1 (by omega) (by omega) hg158
        refine gw_ev HF167 (want_yes HF167 rfl rfl rfl rfl) rfl (by decide) (op_move rfl (HF167.ev rfl)) ?_
        intro a173 HF174; clear HF167
        refine gw_ev HF174 (want_yes HF174 rfl rfl rfl rfl) rfl (by decide) (op_max rfl (HF174.ev rfl) (ev_c _ _)) ?_
        intro a175 HF176; clear HF174
        refine gw_ev HF176 (want_yes HF176 rfl rfl rfl rfl) rfl (by decide) (op_min rfl (HF176.ev rfl) (ev_c _ _)) ?_
        intro a177 HF178; clear HF176
        refine gw_ev HF178 (want_yes HF178 rfl rfl rfl rfl) rfl (by decide) (op_eqi rfl (HF178.ev rfl) (HF178.ev rfl)) ?_
        intro a179 HF180; clear HF178
        have HF181 := HF180.lit (b := true) (by rw [decide_eq_true_eq]; exact hst.1)
        clear HF180
        refine gw_ev HF181 (want_none rfl) rfl (by decide) (op_pick_t rfl (HF181.ev rfl) (HF181.ev rfl)) ?_
        intro a182 HF183; clear HF181
        refine gw_set 2 HF183 HO172 rfl (want_none rfl) rfl (op_store1 gwsiz4 rfl (HF183.ev rfl) (HF183.ev rfl) rfl (blk_at (HO172.get 2 rfl) rfl) (blkf (HO172.get 2 rfl))) ?_
        intro a184 w186 HF185 HO187; clear HF183 HO172
        have HO188 : Own w0 w186 [R, Chunk.blk pn (.cells #[.slice An nums.length cn] 45 (0, 0)), Chunk.blk pk (.cells #[.bool true] 4 (0, 0)), Chunk.blk pt (.cells #[.slice At texts.length ct] 46 (0, 0)), Chunk.blk g (.cells #[.slice A156 ((xs'.drop k155).length) c157] 80 (0, 0))] := HO187
        clear HO187
        refine wpList_nil ?_
        refine gw_blk ?_
        refine gw_nx (hK22 _ _ ?_)
        refine wp_region_lit ?_
        refine gw_ev HF185 (want_none rfl) rfl (by decide) (op_add rfl (HF185.ev rfl) (ev_c _ _) (by omega)) ?_
        intro a189 HF190; clear HF185
        refine gw_ev HF190 (want_none rfl) rfl (by decide) (op_move rfl (HF190.ev rfl)) ?_
        intro a191 HF192; clear HF190
        refine wpList_nil ?_
        refine gw_nx ⟨_, ?_, i + 1, (xs'.drop k155), A156, c157, (HF192.pick (t := 11) rfl (HF192.pick (t := 0) rfl (HF192.pick (t := 2) rfl (HF192.pick (t := 3) rfl (HF192.pick (t := 9) rfl (HF192.pick (t := 10) rfl HF192.nil)))))), HO188.sel [0, 4, 1, 2, 3] (by decide), ?_, ?_, ?_, ?_, ?_, rfl⟩
        · rw [hm15]; omega
        · omega
        · exact hst.2
        · intro W h; exact hC159 W (hC1 W h)
        · exact hc160
        · exact hbx1.drop _
    · skip
      have HF193 := HF18.subst_ (d := 12) (b := false) rfl hb20
      clear HF18
      (try simp only [Bool.and_eq_true, Bool.or_eq_true, Bool.and_eq_false_iff, Bool.or_eq_false_iff, Bool.not_and, Bool.not_or, Bool.not_not, decide_eq_true_eq, decide_eq_false_iff_not, Bool.not_eq_true', Bool.not_eq_false', Bool.not_eq_true, Bool.not_eq_false, ne_eq, Decidable.not_not, Int.not_lt, Int.not_le, not_true_eq_false, not_false_eq_true, bne_iff_ne, beq_iff_eq, bne_eq_false_iff_eq, beq_eq_false_iff_ne] at hb20)
      refine wp_exit ?_
      refine gw_thx ?_
      refine gw_thx ?_
      refine gw_in ?_
      refine gw_nx (hK1 _ _ ?_)
      refine gw_seq fun K194 hK194 => ?_
      refine wp_region_lit ?_
      refine gw_ev HF193 (want_none rfl) rfl (by decide) (op_load1 gwagg46 rfl (HF193.ev rfl) (blk_at (HO14.get 4 rfl) rfl)) ?_
      intro a195 HF196; clear HF193
      refine gw_ev HF196 (want_none rfl) rfl (by decide) (op_len Try.underlying46 rfl (HF196.ev rfl)) ?_
      intro a197 HF198; clear HF196
      refine gw_ev HF198 (want_none rfl) rfl (by decide) (op_move rfl (ev_c _ _)) ?_
      intro a199 HF200; clear HF198
      refine wpList_nil ?_
      refine gw_nx (hK194 _ _ ?_)
      refine wp_block ?_
      refine gw_loop (fun m_ a_ w_ => ∃ (k : Int) (xs2 : List Int) (A2 : Option Addr) (c2 : Nat), Fr 50 a_ [(30, .int .i64 k), (0, .pointer (some ⟨g, 0, none⟩)), (2, .pointer (some ⟨pk, 0, none⟩)), (28, .slice At texts.length ct), (29, .int .i64 (texts.length : Int))] ∧ Own w0 w_ [R, Chunk.blk g (.cells #[.slice A2 xs2.length c2] 80 (0, 0)), Chunk.blk pn (.cells #[.slice An nums.length cn] 45 (0, 0)), Chunk.blk pk (.cells #[.bool true] 4 (0, 0)), Chunk.blk pt (.cells #[.slice At texts.length ct] 46 (0, 0))] ∧ (0 ≤ k ∧ k ≤ texts.length ∧ k ≤ 50) ∧ (finTi texts (51 - k.toNat) k.toNat xs2 = some r) ∧ (∀ W, Kd.C (Kd.int .u8) W A xs.length xs → Kd.C (Kd.int .u8) W A2 xs2.length xs2) ∧ (xs2.length ≤ c2) ∧ (ByteL xs2) ∧ m_ = (51 - k.toNat)) ((51 - (0 : Int).toNat)) ?_ ?_
      · refine ⟨0, xs', A', c', (HF200.pick (t := 30) rfl (HF200.pick (t := 0) rfl (HF200.pick (t := 2) rfl (HF200.pick (t := 28) rfl (HF200.pick (t := 29) rfl HF200.nil))))), HO14.sel [0, 1, 2, 3, 4] (by decide), ?_, ?_, ?_, ?_, ?_, rfl⟩
        · omega
        · exact fn_out hi1.1 hi1.2.2 hfin1 (by omega)
        · exact hC1
        · exact hcap1
        · exact hbx1
      · rintro m202 a203 w204 ⟨k, xs2, A2, c2, HF205, HO206, hi2, hfin2, hC2, hcap2, hbx2, hm207⟩
        refine gw_seq fun K208 hK208 => ?_
        refine wp_region_lit ?_
        refine gw_ev HF205 (want_none rfl) rfl (by decide) (op_lss rfl (HF205.ev rfl) (HF205.ev rfl)) ?_
        intro a209 HF210; clear HF205
        refine wpList_nil ?_
        refine gw_nx (hK208 _ _ ?_)
        refine gw_seq fun K211 hK211 => ?_
        refine gw_cond HF210 rfl (fun hb212 => ?_) (fun hb212 => ?_)
        · skip
          have HF213 := HF210.subst_ (d := 31) (b := true) rfl hb212
          clear HF210
          (try simp only [Bool.and_eq_true, Bool.or_eq_true, Bool.and_eq_false_iff, Bool.or_eq_false_iff, Bool.not_and, Bool.not_or, Bool.not_not, decide_eq_true_eq, decide_eq_false_iff_not, Bool.not_eq_true', Bool.not_eq_false', Bool.not_eq_true, Bool.not_eq_false, ne_eq, Decidable.not_not, Int.not_lt, Int.not_le, not_true_eq_false, not_false_eq_true, bne_iff_ne, beq_iff_eq, bne_eq_false_iff_eq, beq_eq_false_iff_ne] at hb212)
          refine wp_skip ?_
          refine gw_nx (hK211 _ _ ?_)
          refine gw_seq fun K214 hK214 => ?_
          refine wp_block ?_
          refine gw_seq fun K215 hK215 => ?_
          refine wp_region_lit ?_
          refine gw_ev HF213 (want_none rfl) rfl (by decide) (op_move rfl (HF213.ev rfl)) ?_
          intro a216 HF217; clear HF213
          obtain ⟨ad218, cs221, hA219, hl222, hK223, hc220⟩ := Kd.C_get (htx _ (HO206.sel [0] (by decide))) (⟨#[]⟩ : ByteArray) k (by omega) (by omega)
          obtain rfl := id hK223
          clear hl222
          refine gw_ev HF217 (want_none rfl) rfl (by decide) (op_index Try.underlying46 gwsiz9 rfl (HF217.ev rfl) (HF217.ev rfl) hA219 (⟨by omega, by omega⟩)) ?_
          intro a224 HF225; clear HF217
          refine gw_ev HF225 (want_none rfl) rfl (by decide) (op_load1 gwagg9 rfl (HF225.ev rfl) ((at0 hc220))) ?_
          intro a226 HF227; clear HF225
          refine gw_ev HF227 (want_none rfl) rfl (by decide) (op_assign rfl (HF227.ev rfl)) ?_
          intro a228 HF229; clear HF227
          refine gw_ev HF229 (want_none rfl) rfl (by decide) (op_assign rfl (HF229.ev rfl)) ?_
          intro a230 HF231; clear HF229
          refine wpList_nil ?_
          refine gw_nx (hK215 _ _ ?_)
          refine gw_seq fun K232 hK232 => ?_
          refine gw_seq fun K233 hK233 => ?_
          refine wp_region_lit ?_
          refine gw_ev HF231 (want_none rfl) rfl (by decide) (op_move rfl (HF231.ev rfl)) ?_
          intro a234 HF235; clear HF231
          refine gw_ev HF235 (want_none rfl) rfl (by decide) (op_geq rfl (HF235.ev rfl) (ev_c _ _)) ?_
          intro a236 HF237; clear HF235
          refine gw_ev HF237 (want_none rfl) rfl (by decide) (op_move rfl (HF237.ev rfl)) ?_
          intro a238 HF239; clear HF237
          refine gw_evG HF239 rfl rfl rfl rfl (on_f _) rfl (by decide) (fun h_ => (op_move rfl (HF239.ev rfl))) ?_
          intro a240 HF241; clear HF239
          refine gw_evG HF241 rfl rfl rfl rfl (on_f _) rfl (by decide) (fun h_ => (op_lens Try.underlying9 rfl (ev_gv (HF241.ev rfl) h_))) ?_
          intro a242 HF243; clear HF241
          refine gw_evG HF243 rfl rfl rfl rfl (on_f _) rfl (by decide) (fun h_ => (op_gtr rfl (ev_gv (HF243.ev rfl) h_) (ev_c _ _))) ?_
          intro a244 HF245; clear HF243
          refine gw_ev HF245 (want_none rfl) rfl (by decide) (op_pick_or rfl (HF245.ev rfl) (ev_c _ _) (fun hp_ => (ev_gv (HF245.ev rfl) (not_t hp_)))) ?_
          intro a246 HF247; clear HF245
          refine wpList_nil ?_
          refine gw_nx (hK233 _ _ ?_)
          refine gw_cond HF247 rfl (fun hb248 => ?_) (fun hb248 => ?_)
          · skip
            have HF249 := HF247.subst_ (d := 41) (b := true) rfl hb248
            clear HF247
            (try simp only [Bool.and_eq_true, Bool.or_eq_true, Bool.and_eq_false_iff, Bool.or_eq_false_iff, Bool.not_and, Bool.not_or, Bool.not_not, decide_eq_true_eq, decide_eq_false_iff_not, Bool.not_eq_true', Bool.not_eq_false', Bool.not_eq_true, Bool.not_eq_false, ne_eq, Decidable.not_not, Int.not_lt, Int.not_le, not_true_eq_false, not_false_eq_true, bne_iff_ne, beq_iff_eq, bne_eq_false_iff_eq, beq_eq_false_iff_ne] at hb248)
            refine wp_exit ?_
            refine gw_thx ?_
            refine gw_out (by decide) ?_
            refine gw_thx ?_
            refine gw_thx ?_
            refine gw_in ?_
            refine gw_end0 HF249 rfl ?_
            exact .inl ⟨_, _, _, ft_out hi2.1 hi2.2.2 hfin2 (by omega), rfl, HO206.sel [0, 1, 2, 3, 4] (by decide)⟩
          · skip
            have HF250 := HF247.subst_ (d := 41) (b := false) rfl hb248
            clear HF247
            (try simp only [Bool.and_eq_true, Bool.or_eq_true, Bool.and_eq_false_iff, Bool.or_eq_false_iff, Bool.not_and, Bool.not_or, Bool.not_not, decide_eq_true_eq, decide_eq_false_iff_not, Bool.not_eq_true', Bool.not_eq_false', Bool.not_eq_true, Bool.not_eq_false, ne_eq, Decidable.not_not, Int.not_lt, Int.not_le, not_true_eq_false, not_false_eq_true, bne_iff_ne, beq_iff_eq, bne_eq_false_iff_eq, beq_eq_false_iff_ne] at hb248)
            refine wp_skip ?_
            refine gw_nx (hK232 _ _ ?_)
            refine wp_region_lit ?_
            refine gw_ev HF250 (want_none rfl) rfl (by decide) (op_load1 gwagg4 rfl (HF250.ev rfl) (blk_at (HO206.get 3 rfl) rfl)) ?_
            intro a251 HF252; clear HF250
            refine gw_ev HF252 (want_none rfl) rfl (by decide) (op_move rfl (HF252.ev rfl)) ?_
            intro a253 HF254; clear HF252
            refine gw_ev HF254 (want_yes HF254 rfl rfl rfl rfl) rfl (by decide) (op_move rfl (HF254.ev rfl)) ?_
            intro a255 HF256; clear HF254
            have HO272 : Own w0 _ [(Chunk.all [R, Chunk.blk pn (.cells #[.slice An nums.length cn] 45 (0, 0)), Chunk.blk pk (.cells #[.bool true] 4 (0, 0)), Chunk.blk pt (.cells #[.slice At texts.length ct] 46 (0, 0))]), Chunk.blk g (.cells #[.slice A2 xs2.length c2] 80 (0, 0))] := Own.bundle (A := [R, Chunk.blk pn (.cells #[.slice An nums.length cn] 45 (0, 0)), Chunk.blk pk (.cells #[.bool true] 4 (0, 0)), Chunk.blk pt (.cells #[.slice At texts.length ct] 46 (0, 0))]) (L := [Chunk.blk g (.cells #[.slice A2 xs2.length c2] 80 (0, 0))]) (HO206.sel [0, 2, 3, 4, 1] (by decide))
            refine gw_callP HF256 (want_yes HF256 rfl rfl rfl rfl) rfl (by decide) (op_callL Try.func37 (by kernel_rfl) rfl rfl (ar_cons (HF256.ev rfl) (ar_cons (ev_c _ _) ar_nil))) (GRead_.text_calls w0 _ (Chunk.all [R, Chunk.blk pn (.cells #[.slice An nums.length cn] 45 (0, 0)), Chunk.blk pk (.cells #[.bool true] 4 (0, 0)), Chunk.blk pt (.cells #[.slice At texts.length ct] 46 (0, 0))]) g A2 c2 xs2 (fun w_ h_ => (hC2 _ (hx _ ((Own.unbundle (A := [R, Chunk.blk pn (.cells #[.slice An nums.length cn] 45 (0, 0)), Chunk.blk pk (.cells #[.bool true] 4 (0, 0)), Chunk.blk pt (.cells #[.slice At texts.length ct] 46 (0, 0))]) (L := []) h_).sel [0] (by decide))))) hcap2 (by first | exact hbx2 | exact hbx1) 500 HO272) ?_
            rintro e266 w267 (⟨n257, k258, A259, c260, hg261, rfl, hC262, hc263, hb268⟩ | ⟨hg261, rfl, hb268⟩)
            rotate_left
            · skip
              refine .inr ⟨_, rfl, ?_⟩
              have HO273 : Own w0 w267 [R, Chunk.blk pn (.cells #[.slice An nums.length cn] 45 (0, 0)), Chunk.blk pk (.cells #[.bool true] 4 (0, 0)), Chunk.blk pt (.cells #[.slice At texts.length ct] 46 (0, 0))] := Own.unbundle (A := [R, Chunk.blk pn (.cells #[.slice An nums.length cn] 45 (0, 0)), Chunk.blk pk (.cells #[.bool true] 4 (0, 0)), Chunk.blk pt (.cells #[.slice At texts.length ct] 46 (0, 0))]) (L := []) hb268
              refine gw_blp ?_
              refine gw_thp ?_
              refine gw_thp ?_
              refine gw_blp ?_
              refine gw_pan HF256 ?_
              exact .inr ⟨ft_pan hi2.1 hfin2 (by omega) (by omega) (by omega) hg261, rfl, HO273.sel [0, 1, 2, 3] (by decide)⟩
            refine .inl ⟨_, rfl, fun a269 HF270 => ?_⟩
            have HO271 : Own w0 w267 [R, Chunk.blk pn (.cells #[.slice An nums.length cn] 45 (0, 0)), Chunk.blk pk (.cells #[.bool true] 4 (0, 0)), Chunk.blk pt (.cells #[.slice At texts.length ct] 46 (0, 0)), Chunk.blk g (.cells #[.slice A259 ((xs2.drop k258).length) c260] 80 (0, 0))] := Own.unbundle (A := [R, Chunk.blk pn (.cells #[.slice An nums.length cn] 45 (0, 0)), Chunk.blk pk (.cells #[.bool true] 4 (0, 0)), Chunk.blk pt (.cells #[.slice At texts.length ct] 46 (0, 0))]) (L := [Chunk.blk g (.cells #[.slice A259 ((xs2.drop k258).length) c260] 80 (0, 0))]) (hb268.sel [0, 1] (by decide))
            clear HO272
            clear HF256 HO206 hb268
            have HO275 : Own w0 w267 [R, Chunk.blk pn (.cells #[.slice An nums.length cn] 45 (0, 0)), Chunk.blk pk (.cells #[.bool true] 4 (0, 0)), Chunk.blk pt (.cells #[.slice At texts.length ct] 46 (0, 0)), Chunk.blk g (.cells #[.slice A259 ((xs2.drop k258).length) c260] 80 (0, 0))] := HO271
            clear HO271
            have hgs265 := gtext_some hg261
            have hst := ft_text hi2.1 hfin2 (by omega) (by omega) (by omega) hg261
            refine gw_ev HF270 (want_yes HF270 rfl rfl rfl rfl) rfl (by decide) (op_move rfl (HF270.ev rfl)) ?_
            intro a276 HF277; clear HF270
            refine gw_ev HF277 (want_yes HF277 rfl rfl rfl rfl) rfl (by decide) (op_eqs rfl (HF277.ev rfl) (HF277.ev rfl)) ?_
            intro a278 HF279; clear HF277
            have HF280 := HF279.lit (b := true) (by rw [hst.1]; simp)
            clear HF279
            refine gw_ev HF280 (want_none rfl) rfl (by decide) (op_pick_t rfl (HF280.ev rfl) (HF280.ev rfl)) ?_
            intro a281 HF282; clear HF280
            refine gw_set 2 HF282 HO275 rfl (want_none rfl) rfl (op_store1 gwsiz4 rfl (HF282.ev rfl) (HF282.ev rfl) rfl (blk_at (HO275.get 2 rfl) rfl) (blkf (HO275.get 2 rfl))) ?_
            intro a283 w285 HF284 HO286; clear HF282 HO275
            have HO287 : Own w0 w285 [R, Chunk.blk pn (.cells #[.slice An nums.length cn] 45 (0, 0)), Chunk.blk pk (.cells #[.bool true] 4 (0, 0)), Chunk.blk pt (.cells #[.slice At texts.length ct] 46 (0, 0)), Chunk.blk g (.cells #[.slice A259 ((xs2.drop k258).length) c260] 80 (0, 0))] := HO286
            clear HO286
            refine wpList_nil ?_
            refine gw_blk ?_
            refine gw_nx (hK214 _ _ ?_)
            refine wp_region_lit ?_
            refine gw_ev HF284 (want_none rfl) rfl (by decide) (op_add rfl (HF284.ev rfl) (ev_c _ _) (by omega)) ?_
            intro a288 HF289; clear HF284
            refine gw_ev HF289 (want_none rfl) rfl (by decide) (op_move rfl (HF289.ev rfl)) ?_
            intro a290 HF291; clear HF289
            refine wpList_nil ?_
            refine gw_nx ⟨_, ?_, k + 1, (xs2.drop k258), A259, c260, (HF291.pick (t := 30) rfl (HF291.pick (t := 0) rfl (HF291.pick (t := 2) rfl (HF291.pick (t := 28) rfl (HF291.pick (t := 29) rfl HF291.nil))))), HO287.sel [0, 4, 1, 2, 3] (by decide), ?_, ?_, ?_, ?_, ?_, rfl⟩
            · rw [hm207]; omega
            · omega
            · exact hst.2
            · intro W h; exact hC262 W (hC2 W h)
            · exact hc263
            · exact hbx2.drop _
        · skip
          have HF292 := HF210.subst_ (d := 31) (b := false) rfl hb212
          clear HF210
          (try simp only [Bool.and_eq_true, Bool.or_eq_true, Bool.and_eq_false_iff, Bool.or_eq_false_iff, Bool.not_and, Bool.not_or, Bool.not_not, decide_eq_true_eq, decide_eq_false_iff_not, Bool.not_eq_true', Bool.not_eq_false', Bool.not_eq_true, Bool.not_eq_false, ne_eq, Decidable.not_not, Int.not_lt, Int.not_le, not_true_eq_false, not_false_eq_true, bne_iff_ne, beq_iff_eq, bne_eq_false_iff_eq, beq_eq_false_iff_ne] at hb212)
          refine wp_exit ?_
          refine gw_thx ?_
          refine gw_thx ?_
          refine gw_in ?_
          refine gw_end0 HF292 rfl ?_
          exact .inl ⟨_, _, _, ft_out hi2.1 hi2.2.2 hfin2 (by omega), rfl, HO206.sel [0, 1, 2, 3, 4] (by decide)⟩
theorem back_read (w0 w : World) (R : Chunk) (A : Option Addr) (c : Nat) (xs : List Int) (hx : ∀ w_, Own w0 w_ [R] → Kd.C (Kd.int .u8) w_ A xs.length xs) (hc : xs.length ≤ c) (hb : ByteL xs) (pn pk pt : Nat) (An : Option Addr) (cn : Nat) (nums : List Int) (hnx : ∀ w_, Own w0 w_ [R] → Kd.C (Kd.int .i64) w_ An nums.length nums) (hnc : nums.length ≤ cn) (At : Option Addr) (ct : Nat) (texts : List ByteArray) (htx : ∀ w_, Own w0 w_ [R] → Kd.C Kd.string w_ At texts.length texts) (htc : texts.length ≤ ct) (r : Option (List Int)) (h : finNi nums texts 51 0 xs = some r) (hnl : nums.length ≤ 9223372036854775807) (htl : texts.length ≤ 9223372036854775807) (hsz : ∀ s ∈ texts, s.size ≤ 9223372036854775807) (HO : Own w0 w (R :: [Chunk.blk pn (.cells #[.slice An nums.length cn] 45 (0, 0)), Chunk.blk pk (.cells #[.bool true] 4 (0, 0)), Chunk.blk pt (.cells #[.slice At texts.length ct] 46 (0, 0))])) :
    Calls Try.prog 31 #[.slice A xs.length c, .func (.func 41) #[] #[.pointer (some ⟨pn, 0, none⟩), .pointer (some ⟨pk, 0, none⟩), .pointer (some ⟨pt, 0, none⟩)]] w fun e w' => e = .returned (.int .i64 (ecOf r)) ∧ Own w0 w' [R, Chunk.blk pn (.cells #[.slice An nums.length cn] 45 (0, 0)), Chunk.blk pk (.cells #[.bool true] 4 (0, 0)), Chunk.blk pt (.cells #[.slice At texts.length ct] 46 (0, 0))] := by
  refine (read_list w0 w R [Chunk.blk pn (.cells #[.slice An nums.length cn] 45 (0, 0)), Chunk.blk pk (.cells #[.bool true] 4 (0, 0)), Chunk.blk pt (.cells #[.slice At texts.length ct] 46 (0, 0))] A c xs 41 _ [.pointer (some ⟨pn, 0, none⟩), .pointer (some ⟨pk, 0, none⟩), .pointer (some ⟨pt, 0, none⟩)] (fun n qs => ∃ q, r = some q ∧ n = q.length ∧ qs = [Chunk.blk pn (.cells #[.slice An nums.length cn] 45 (0, 0)), Chunk.blk pk (.cells #[.bool true] 4 (0, 0)), Chunk.blk pt (.cells #[.slice At texts.length ct] 46 (0, 0))]) (fun qs => r = none ∧ qs = [Chunk.blk pn (.cells #[.slice An nums.length cn] 45 (0, 0)), Chunk.blk pk (.cells #[.bool true] 4 (0, 0)), Chunk.blk pt (.cells #[.slice At texts.length ct] 46 (0, 0))]) (fun _ => False) Try.func41 (by kernel_rfl) rfl ?_ HO).mono ?_
  · intro R' g w1 hR hO
    refine (back1_calls w0 w1 R' g A c xs (fun w_ h_ => hx w_ (hR w_ h_)) hc hb pn pk pt An cn nums (fun w_ h_ => hnx w_ (hR w_ h_)) hnc At ct texts (fun w_ h_ => htx w_ (hR w_ h_)) htc r h hnl htl hsz hO).mono ?_
    rintro e w2 (⟨q, A', c', h1, rfl, h⟩ | ⟨h1, rfl, h⟩)
    · exact .inl ⟨A', q.length, c', _, rfl, ⟨q, h1, rfl, rfl⟩, h⟩
    · exact .inr (.inl ⟨_, rfl, ⟨h1, rfl⟩, h⟩)
  · rintro e w2 (⟨n', qs, rfl, ⟨q, rfl, rfl, rfl⟩, h⟩ | ⟨qs, rfl, ⟨rfl, rfl⟩, h⟩ | ⟨_, _, h, _⟩)
    · exact ⟨rfl, h⟩
    · exact ⟨rfl, h⟩
    · exact h.elim

end GBack1_
end Go.Proofs.Ytmlemnfleicnfaa.PA
