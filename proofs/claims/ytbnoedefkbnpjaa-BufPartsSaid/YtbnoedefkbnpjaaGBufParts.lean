/- BufParts. Printed by a program of this session; Lean checks it. -/
import Derived.Test.YtbnoedefkbnpjaaGBufAlive
import Derived.Test.YtbnoedefkbnpjaaHBufPure
namespace Go.Proofs.Ytbnoedefkbnpjaa.PA
open Go.RowKit Go.Proofs.YtbnoedefkbnpjaaW.PrintWords Go.Proofs.YtbnoedefkbnpjaaW.PrintLast Go.Proofs.YtbnoedefkbnpjaaW.PrintMore
set_option linter.unusedVariables false
set_option linter.unusedSimpArgs false
namespace GBufParts_
theorem gwagg26 : ∀ w, (isAgg 26).run Try.prog w = .ok false w := fun _ => by kernel_rfl
theorem gwinfo5 : (Try.prog.info? 5).map (fun i => (i.zero, i.size, i.bytes)) = some (some (.int .u8 0), 1, 1) := by kernel_rfl
theorem gwsiz26 : ∀ w, (sizeOf 26).run Try.prog w = .ok 1 w := fun _ => by kernel_rfl
theorem gwsiz5 : ∀ w, (sizeOf 5).run Try.prog w = .ok 1 w := fun _ => by kernel_rfl
set_option maxHeartbeats 4000000 in
set_option maxRecDepth 100000 in
theorem BufParts_calls (most : Int) (A0 : Option Addr) (c0 : Nat) (l : List (List Int)) (take : Int) (w : World) (hr0 : Kd.C (Kd.slice 5 (Kd.int .u8)) w A0 l.length l) (hc0 : l.length ≤ c0) (hl : l.length ≤ 9223372036854775807) :
    Calls Try.prog 4 #[.int .i64 most, .slice A0 l.length c0, .int .i64 take] w fun e w' => e = .returned (.bool true) ∧ Below w.heap.size w w' := by
  have hm : 1 ≤ mn (mx most 1) 2000 ∧ mn (mx most 1) 2000 ≤ 2000 := by unfold mn mx; (repeat' split) <;> omega
  refine gw_start (N := 123) (vs := [.int .i64 most, .slice A0 l.length c0, .int .i64 take]) Try.func4 rfl rfl (by simp) fun a HF HO => ?_
  replace HO : Own w w [] := HO
  refine gw_seq fun K1 hK1 => ?_
  refine wp_region_lit ?_
  refine gw_ev HF (want_none rfl) rfl (by decide) (op_assign rfl (ev_c _ _)) ?_
  intro a2 HF3; clear HF
  refine wpList_nil ?_
  refine gw_nx (hK1 _ _ ?_)
  refine gw_seq fun K4 hK4 => ?_
  refine wp_region_lit ?_
  refine gw_ev HF3 (want_none rfl) rfl (by decide) (op_move rfl (HF3.ev rfl)) ?_
  intro a5 HF6; clear HF3
  refine gw_call HF6 (want_none rfl) rfl (by decide) (op_callL Try.func11 (by kernel_rfl) rfl rfl (ar_cons (HF6.ev rfl) ar_nil)) (buf_new0 w.heap.size most _ HO.below.size) ?_
  rintro e9 w10 ⟨g7, S8, rfl, hb11⟩
  refine ⟨_, rfl, fun a12 HF13 => ?_⟩
  have HO14 := HO.fresh hb11
  clear HF6 HO hb11
  have HO16 : Own w w10 [Chunk.buf w.heap.size g7 S8 (mn (mx most 1) 2000) ([]) 0] := HO14
  clear HO14
  refine gw_ev HF13 (want_none rfl) rfl (by decide) (op_move rfl (HF13.ev rfl)) ?_
  intro a17 HF18; clear HF13
  refine gw_call HF18 (want_none rfl) rfl (by decide) (op_callL Try.func11 (by kernel_rfl) rfl rfl (ar_cons (HF18.ev rfl) ar_nil)) (buf_new0 w.heap.size most _ HO16.below.size) ?_
  rintro e21 w22 ⟨g19, S20, rfl, hb23⟩
  refine ⟨_, rfl, fun a24 HF25 => ?_⟩
  have HO26 := HO16.fresh hb23
  clear HF18 HO16 hb23
  have HO28 : Own w w22 [Chunk.buf w.heap.size g19 S20 (mn (mx most 1) 2000) ([]) 0, Chunk.buf w.heap.size g7 S8 (mn (mx most 1) 2000) ([]) 0] := HO26
  clear HO26
  refine gw_ev HF25 (want_none rfl) rfl (by decide) (op_assign rfl (HF25.ev rfl)) ?_
  intro a29 HF30; clear HF25
  refine gw_ev HF30 (want_none rfl) rfl (by decide) (op_assign rfl (HF30.ev rfl)) ?_
  intro a31 HF32; clear HF30
  refine wpList_nil ?_
  refine gw_nx (hK4 _ _ ?_)
  refine gw_seq fun K33 hK33 => ?_
  refine gw_seq fun K34 hK34 => ?_
  refine wp_region_lit ?_
  refine gw_ev HF32 (want_none rfl) rfl (by decide) (op_move rfl (HF32.ev rfl)) ?_
  intro a35 HF36; clear HF32
  refine gw_ev HF36 (want_none rfl) rfl (by decide) (op_eqp_nil Try.underlying23 rfl (HF36.ev rfl)) ?_
  intro a37 HF38; clear HF36
  refine gw_ev HF38 (want_none rfl) rfl (by decide) (op_move rfl (HF38.ev rfl)) ?_
  intro a39 HF40; clear HF38
  refine gw_ev HF40 (want_yes HF40 rfl rfl rfl rfl) rfl (by decide) (op_move rfl (HF40.ev rfl)) ?_
  intro a41 HF42; clear HF40
  refine gw_ev HF42 (want_yes HF42 rfl rfl rfl rfl) rfl (by decide) (op_eqp_nil Try.underlying23 rfl (HF42.ev rfl)) ?_
  intro a43 HF44; clear HF42
  refine gw_ev HF44 (want_none rfl) rfl (by decide) (op_pick_f rfl (HF44.ev rfl) (HF44.ev rfl)) ?_
  intro a45 HF46; clear HF44
  refine gw_ev HF46 (want_none rfl) rfl (by decide) (op_move rfl (HF46.ev rfl)) ?_
  intro a47 HF48; clear HF46
  refine gw_call HF48 (want_yes HF48 rfl rfl rfl rfl) rfl (by decide) (op_callL Try.func12 (by kernel_rfl) rfl rfl ar_nil) (GBufAlive_.alive_calls _) ?_
  rintro e49 w50 ⟨rfl, hb51⟩
  refine ⟨_, rfl, fun a52 HF53 => ?_⟩
  have HO54 := HO28.after hb51
  clear HF48 HO28 hb51
  refine gw_ev HF53 (want_yes HF53 rfl rfl rfl rfl) rfl (by decide) (op_not rfl (HF53.ev rfl)) ?_
  intro a56 HF57; clear HF53
  refine gw_ev HF57 (want_none rfl) rfl (by decide) (op_pick_f rfl (HF57.ev rfl) (HF57.ev rfl)) ?_
  intro a58 HF59; clear HF57
  refine wpList_nil ?_
  refine gw_nx (hK34 _ _ ?_)
  refine gw_cond HF59 rfl (fun hb60 => ?_) (fun hb60 => ?_)
  skip
  · cases hb60
  refine wp_skip ?_
  refine gw_nx (hK33 _ _ ?_)
  refine gw_seq fun K61 hK61 => ?_
  refine wp_region_lit ?_
  refine gw_lit (enc := Value.int .u8) (fun _ => rfl) (xs := ([] : List Int)) (e := 5) HF59 HO54 (want_none rfl) rfl (by decide) (op_bslice (by kernel_rfl) rfl pt_nil) (by simp) ?_
  intro A62 S63 a64 w65 HF66 HO67; clear HF59 HO54
  have HO68 : Own w w65 [Chunk.row (Kd.int .u8) 5 w.heap.size S63 (.slice A62 ((([] : List Int)).length) ((([] : List Int)).length)) ([] : List Int), Chunk.buf w.heap.size g19 S20 (mn (mx most 1) 2000) ([]) 0, Chunk.buf w.heap.size g7 S8 (mn (mx most 1) 2000) ([]) 0] := HO67
  clear HO67
  refine gw_ev HF66 (want_none rfl) rfl (by decide) (op_assign rfl (HF66.ev rfl)) ?_
  intro a69 HF70; clear HF66
  refine wpList_nil ?_
  refine gw_nx (hK61 _ _ ?_)
  refine gw_seq fun K71 hK71 => ?_
  refine wp_region_lit ?_
  refine gw_ev HF70 (want_none rfl) rfl (by decide) (op_assign rfl (ev_c _ _)) ?_
  intro a72 HF73; clear HF70
  have HF74 := HF73.conv (v' := .int .i64 (ovN (mn (mx most 1) 2000) 0 ([] : List Int).length : Int)) (congrArg (Value.int .i64) (ovN_nil _).symm)
  clear HF73
  refine wpList_nil ?_
  refine gw_nx (hK71 _ _ ?_)
  refine gw_seq fun K75 hK75 => ?_
  refine gw_seq fun K76 hK76 => ?_
  refine wp_region_lit ?_
  refine gw_ev HF74 (want_none rfl) rfl (by decide) (op_move rfl (HF74.ev rfl)) ?_
  intro a77 HF78; clear HF74
  refine gw_ev HF78 (want_none rfl) rfl (by decide) (op_len Try.underlying42 rfl (HF78.ev rfl)) ?_
  intro a79 HF80; clear HF78
  refine gw_ev HF80 (want_none rfl) rfl (by decide) (op_move rfl (ev_c _ _)) ?_
  intro a81 HF82; clear HF80
  refine wpList_nil ?_
  refine gw_nx (hK76 _ _ ?_)
  refine wp_block ?_
  have HO84 : Own w w65 [Chunk.row (Kd.int .u8) 5 w.heap.size S63 (.slice A62 ((([] : List Int)).length) ((([] : List Int)).length)) ([] : List Int), Chunk.buf w.heap.size g19 S20 (mn (mx most 1) 2000) ([]) 0, Chunk.buf w.heap.size g7 S8 (mn (mx most 1) 2000) (putL (mn (mx most 1) 2000) [] ([] : List Int)) (ovN (mn (mx most 1) 2000) 0 ([] : List Int).length : Int)] := by rw [putL_nil, ovN_nil]; exact HO68
  clear HO68
  refine gw_loop (fun m_ a_ w_ => ∃ (i : Int) (all : List Int) (Sa : Nat → Prop) (Aa : Option Addr) (ca : Nat) (Sr : Nat → Prop), Fr 123 a_ [(34, .int .i64 i), (10, .int .i64 (ovN (mn (mx most 1) 2000) 0 all.length : Int)), (9, .slice Aa all.length ca), (2, .int .i64 take), (6, .bool false), (7, .pointer (some ⟨g7, 0, none⟩)), (8, .pointer (some ⟨g19, 0, none⟩)), (32, .slice A0 l.length c0), (33, .int .i64 (l.length : Int))] ∧ Own w w_ [Chunk.row (Kd.int .u8) 5 w.heap.size Sr (.slice Aa all.length ca) all, Chunk.buf w.heap.size g19 S20 (mn (mx most 1) 2000) ([]) 0, Chunk.buf w.heap.size g7 Sa (mn (mx most 1) 2000) (putL (mn (mx most 1) 2000) [] all) (ovN (mn (mx most 1) 2000) 0 all.length : Int)] ∧ (0 ≤ i ∧ i ≤ l.length) ∧ ((all.length : Int) ≤ 3000 * i ∧ all.length ≤ 90000) ∧ m_ = (l.length - i.toNat)) ((l.length - (0 : Int).toNat)) ?_ ?_
  · refine ⟨0, [], S8, A62, _, _, (HF82.pick (t := 34) rfl (HF82.pick (t := 10) rfl (HF82.pick (t := 9) rfl (HF82.pick (t := 2) rfl (HF82.pick (t := 6) rfl (HF82.pick (t := 7) rfl (HF82.pick (t := 8) rfl (HF82.pick (t := 32) rfl (HF82.pick (t := 33) rfl HF82.nil))))))))), HO84.sel [0, 1, 2] (by decide), ?_, ?_, rfl⟩
    · omega
    · simp
  · rintro m85 a86 w87 ⟨i, all, Sa, Aa, ca, Sr, HF88, HO89, hi, hal, hm90⟩
    refine gw_seq fun K91 hK91 => ?_
    refine wp_region_lit ?_
    refine gw_ev HF88 (want_none rfl) rfl (by decide) (op_lss rfl (HF88.ev rfl) (HF88.ev rfl)) ?_
    intro a92 HF93; clear HF88
    refine wpList_nil ?_
    refine gw_nx (hK91 _ _ ?_)
    refine gw_seq fun K94 hK94 => ?_
    refine gw_cond HF93 rfl (fun hb95 => ?_) (fun hb95 => ?_)
    · skip
      have HF96 := HF93.subst_ (d := 35) (b := true) rfl hb95
      clear HF93
      (try simp only [decide_eq_true_eq, decide_eq_false_iff_not, Bool.not_eq_true', Bool.not_eq_false', Bool.not_eq_true, Bool.not_eq_false, ne_eq, Decidable.not_not, Int.not_lt, Int.not_le, not_true_eq_false, not_false_eq_true, bne_iff_ne, beq_iff_eq, bne_eq_false_iff_eq, beq_eq_false_iff_ne] at hb95)
      refine wp_skip ?_
      refine gw_nx (hK94 _ _ ?_)
      refine gw_seq fun K97 hK97 => ?_
      refine wp_block ?_
      refine gw_seq fun K98 hK98 => ?_
      refine wp_region_lit ?_
      refine gw_ev HF96 (want_none rfl) rfl (by decide) (op_move rfl (HF96.ev rfl)) ?_
      intro a99 HF100; clear HF96
      obtain ⟨ad101, cs104, hA102, hl105, hK106, hc103⟩ := Kd.C_get hr0 ([] : List Int) i (by (first | omega | ((try have h1_ := putL_len (mn (mx most 1) 2000) (by (first | omega)) all); (try have h2_ := ov_add (mn (mx most 1) 2000) all); (try have h3_ := ovN_le (mn (mx most 1) 2000) 0 all.length); (try have h4_ := ovN_le (mn (mx most 1) 2000) (putL (mn (mx most 1) 2000) [] all).length (l.getD i.toNat []).length); (try have h5_ := ovN_le (mn (mx most 1) 2000) 0 ([] : List Int).length); first | omega | (simp only [List.length_append, List.length_take, List.length_drop, List.length_nil]; omega)))) (by (first | omega | ((try have h1_ := putL_len (mn (mx most 1) 2000) (by (first | omega)) all); (try have h2_ := ov_add (mn (mx most 1) 2000) all); (try have h3_ := ovN_le (mn (mx most 1) 2000) 0 all.length); (try have h4_ := ovN_le (mn (mx most 1) 2000) (putL (mn (mx most 1) 2000) [] all).length (l.getD i.toNat []).length); (try have h5_ := ovN_le (mn (mx most 1) 2000) 0 ([] : List Int).length); first | omega | (simp only [List.length_append, List.length_take, List.length_drop, List.length_nil]; omega))))
      obtain ⟨A107, c108, rfl, hl109, hC110⟩ := id hK106
      clear hl105
      refine gw_ev HF100 (want_none rfl) rfl (by decide) (op_index Try.underlying42 gwsiz26 rfl (HF100.ev rfl) (HF100.ev rfl) hA102 (⟨by (first | omega | ((try have h1_ := putL_len (mn (mx most 1) 2000) (by (first | omega)) all); (try have h2_ := ov_add (mn (mx most 1) 2000) all); (try have h3_ := ovN_le (mn (mx most 1) 2000) 0 all.length); (try have h4_ := ovN_le (mn (mx most 1) 2000) (putL (mn (mx most 1) 2000) [] all).length (l.getD i.toNat []).length); (try have h5_ := ovN_le (mn (mx most 1) 2000) 0 ([] : List Int).length); first | omega | (simp only [List.length_append, List.length_take, List.length_drop, List.length_nil]; omega))), by (first | omega | ((try have h1_ := putL_len (mn (mx most 1) 2000) (by (first | omega)) all); (try have h2_ := ov_add (mn (mx most 1) 2000) all); (try have h3_ := ovN_le (mn (mx most 1) 2000) 0 all.length); (try have h4_ := ovN_le (mn (mx most 1) 2000) (putL (mn (mx most 1) 2000) [] all).length (l.getD i.toNat []).length); (try have h5_ := ovN_le (mn (mx most 1) 2000) 0 ([] : List Int).length); first | omega | (simp only [List.length_append, List.length_take, List.length_drop, List.length_nil]; omega)))⟩)) ?_
      intro a111 HF112; clear HF100
      refine gw_ev HF112 (want_none rfl) rfl (by decide) (op_load1 gwagg26 rfl (HF112.ev rfl) (HO89.cell0 (at0 hc103))) ?_
      intro a113 HF114; clear HF112
      refine gw_ev HF114 (want_none rfl) rfl (by decide) (op_assign rfl (HF114.ev rfl)) ?_
      intro a115 HF116; clear HF114
      refine gw_ev HF116 (want_none rfl) rfl (by decide) (op_assign rfl (HF116.ev rfl)) ?_
      intro a117 HF118; clear HF116
      refine wpList_nil ?_
      refine gw_nx (hK98 _ _ ?_)
      refine gw_seq fun K119 hK119 => ?_
      refine gw_seq fun K120 hK120 => ?_
      refine wp_region_lit ?_
      refine gw_ev HF118 (want_none rfl) rfl (by decide) (op_move rfl (HF118.ev rfl)) ?_
      intro a121 HF122; clear HF118
      refine gw_ev HF122 (want_none rfl) rfl (by decide) (op_geq rfl (HF122.ev rfl) (ev_c _ _)) ?_
      intro a123 HF124; clear HF122
      refine gw_ev HF124 (want_none rfl) rfl (by decide) (op_move rfl (HF124.ev rfl)) ?_
      intro a125 HF126; clear HF124
      rcases Bool.eq_false_or_eq_true (decide (30 ≤ i)) with hb127 | hb127
      · skip
        have HF128 := HF126.subst_ (d := 41) (b := true) rfl hb127
        clear HF126
        (try simp only [decide_eq_true_eq, decide_eq_false_iff_not, Bool.not_eq_true', Bool.not_eq_false', Bool.not_eq_true, Bool.not_eq_false, ne_eq, Decidable.not_not, Int.not_lt, Int.not_le, not_true_eq_false, not_false_eq_true, bne_iff_ne, beq_iff_eq, bne_eq_false_iff_eq, beq_eq_false_iff_ne] at hb127)
        refine gw_off HF128 (want_no HF128 rfl rfl rfl rfl (by decide)) rfl (by decide) ?_
        intro a129 HF130; clear HF128
        refine gw_off HF130 (want_no HF130 rfl rfl rfl rfl (by decide)) rfl (by decide) ?_
        intro a131 HF132; clear HF130
        refine gw_off HF132 (want_no HF132 rfl rfl rfl rfl (by decide)) rfl (by decide) ?_
        intro a133 HF134; clear HF132
        refine gw_ev HF134 (want_none rfl) rfl (by decide) (op_pick_t rfl (HF134.ev rfl) (ev_c _ _)) ?_
        intro a135 HF136; clear HF134
        refine wpList_nil ?_
        refine gw_nx (hK120 _ _ ?_)
        refine gw_cond HF136 rfl (fun hb137 => ?_) (fun hb137 => ?_)
        rotate_left
        · cases hb137
        refine wp_exit ?_
        refine gw_thx ?_
        refine gw_in ?_
        refine gw_nx (hK97 _ _ ?_)
        refine wp_region_lit ?_
        refine gw_ev HF136 (want_none rfl) rfl (by decide) (op_add rfl (HF136.ev rfl) (ev_c _ _) (by (first | omega | ((try have h1_ := putL_len (mn (mx most 1) 2000) (by (first | omega)) all); (try have h2_ := ov_add (mn (mx most 1) 2000) all); (try have h3_ := ovN_le (mn (mx most 1) 2000) 0 all.length); (try have h4_ := ovN_le (mn (mx most 1) 2000) (putL (mn (mx most 1) 2000) [] all).length (l.getD i.toNat []).length); (try have h5_ := ovN_le (mn (mx most 1) 2000) 0 ([] : List Int).length); first | omega | (simp only [List.length_append, List.length_take, List.length_drop, List.length_nil]; omega))))) ?_
        intro a138 HF139; clear HF136
        refine gw_ev HF139 (want_none rfl) rfl (by decide) (op_move rfl (HF139.ev rfl)) ?_
        intro a140 HF141; clear HF139
        refine wpList_nil ?_
        refine gw_nx ⟨_, ?_, i + 1, all, Sa, Aa, _, _, (HF141.pick (t := 34) rfl (HF141.pick (t := 10) rfl (HF141.pick (t := 9) rfl (HF141.pick (t := 2) rfl (HF141.pick (t := 6) rfl (HF141.pick (t := 7) rfl (HF141.pick (t := 8) rfl (HF141.pick (t := 32) rfl (HF141.pick (t := 33) rfl HF141.nil))))))))), HO89.sel [0, 1, 2] (by decide), ?_, ?_, rfl⟩
        · rw [hm90]; omega
        · omega
        · (try simp only [List.length_append]); omega
      · skip
        have HF142 := HF126.subst_ (d := 41) (b := false) rfl hb127
        clear HF126
        (try simp only [decide_eq_true_eq, decide_eq_false_iff_not, Bool.not_eq_true', Bool.not_eq_false', Bool.not_eq_true, Bool.not_eq_false, ne_eq, Decidable.not_not, Int.not_lt, Int.not_le, not_true_eq_false, not_false_eq_true, bne_iff_ne, beq_iff_eq, bne_eq_false_iff_eq, beq_eq_false_iff_ne] at hb127)
        refine gw_ev HF142 (want_yes HF142 rfl rfl rfl rfl) rfl (by decide) (op_move rfl (HF142.ev rfl)) ?_
        intro a143 HF144; clear HF142
        refine gw_ev HF144 (want_yes HF144 rfl rfl rfl rfl) rfl (by decide) (op_len Try.underlying26 rfl (HF144.ev rfl)) ?_
        intro a145 HF146; clear HF144
        refine gw_ev HF146 (want_yes HF146 rfl rfl rfl rfl) rfl (by decide) (op_gtr rfl (HF146.ev rfl) (ev_c _ _)) ?_
        intro a147 HF148; clear HF146
        refine gw_ev HF148 (want_none rfl) rfl (by decide) (op_pick_f rfl (HF148.ev rfl) (HF148.ev rfl)) ?_
        intro a149 HF150; clear HF148
        refine wpList_nil ?_
        refine gw_nx (hK120 _ _ ?_)
        refine gw_cond HF150 rfl (fun hb151 => ?_) (fun hb151 => ?_)
        · skip
          have HF152 := HF150.subst_ (d := 45) (b := true) rfl hb151
          clear HF150
          (try simp only [decide_eq_true_eq, decide_eq_false_iff_not, Bool.not_eq_true', Bool.not_eq_false', Bool.not_eq_true, Bool.not_eq_false, ne_eq, Decidable.not_not, Int.not_lt, Int.not_le, not_true_eq_false, not_false_eq_true, bne_iff_ne, beq_iff_eq, bne_eq_false_iff_eq, beq_eq_false_iff_ne] at hb151)
          refine wp_exit ?_
          refine gw_thx ?_
          refine gw_in ?_
          refine gw_nx (hK97 _ _ ?_)
          refine wp_region_lit ?_
          refine gw_ev HF152 (want_none rfl) rfl (by decide) (op_add rfl (HF152.ev rfl) (ev_c _ _) (by (first | omega | ((try have h1_ := putL_len (mn (mx most 1) 2000) (by (first | omega)) all); (try have h2_ := ov_add (mn (mx most 1) 2000) all); (try have h3_ := ovN_le (mn (mx most 1) 2000) 0 all.length); (try have h4_ := ovN_le (mn (mx most 1) 2000) (putL (mn (mx most 1) 2000) [] all).length (l.getD i.toNat []).length); (try have h5_ := ovN_le (mn (mx most 1) 2000) 0 ([] : List Int).length); first | omega | (simp only [List.length_append, List.length_take, List.length_drop, List.length_nil]; omega))))) ?_
          intro a153 HF154; clear HF152
          refine gw_ev HF154 (want_none rfl) rfl (by decide) (op_move rfl (HF154.ev rfl)) ?_
          intro a155 HF156; clear HF154
          refine wpList_nil ?_
          refine gw_nx ⟨_, ?_, i + 1, all, Sa, Aa, _, _, (HF156.pick (t := 34) rfl (HF156.pick (t := 10) rfl (HF156.pick (t := 9) rfl (HF156.pick (t := 2) rfl (HF156.pick (t := 6) rfl (HF156.pick (t := 7) rfl (HF156.pick (t := 8) rfl (HF156.pick (t := 32) rfl (HF156.pick (t := 33) rfl HF156.nil))))))))), HO89.sel [0, 1, 2] (by decide), ?_, ?_, rfl⟩
          · rw [hm90]; omega
          · omega
          · (try simp only [List.length_append]); omega
        · skip
          have HF157 := HF150.subst_ (d := 45) (b := false) rfl hb151
          clear HF150
          (try simp only [decide_eq_true_eq, decide_eq_false_iff_not, Bool.not_eq_true', Bool.not_eq_false', Bool.not_eq_true, Bool.not_eq_false, ne_eq, Decidable.not_not, Int.not_lt, Int.not_le, not_true_eq_false, not_false_eq_true, bne_iff_ne, beq_iff_eq, bne_eq_false_iff_eq, beq_eq_false_iff_ne] at hb151)
          refine wp_skip ?_
          refine gw_nx (hK119 _ _ ?_)
          refine gw_seq fun K158 hK158 => ?_
          refine wp_region_lit ?_
          refine gw_ev HF157 (want_none rfl) rfl (by decide) (op_move rfl (HF157.ev rfl)) ?_
          intro a159 HF160; clear HF157
          refine gw_ev HF160 (want_none rfl) rfl (by decide) (op_move rfl (HF160.ev rfl)) ?_
          intro a161 HF162; clear HF160
          refine gw_ev HF162 (want_none rfl) rfl (by decide) (op_move rfl (HF162.ev rfl)) ?_
          intro a163 HF164; clear HF162
          refine gw_call HF164 (want_none rfl) rfl (by decide) (op_callL Try.func14 (by kernel_rfl) rfl rfl (ar_cons (HF164.ev rfl) (ar_cons (HF164.ev rfl) ar_nil))) (buf_put w.heap.size g7 Sa (mn (mx most 1) 2000) (putL (mn (mx most 1) 2000) [] all) (ovN (mn (mx most 1) 2000) 0 all.length : Int) A107 c108 (l.getD i.toNat ([] : List Int)) _ (HO89.get 2 rfl) (fun k hk => (HO89.lt 2 rfl hk).2) HO89.below.size (Kd.C_below hC110 HO89.below) hl109 (arg_out HO89 hC110 2 rfl) (by first | omega | (have := putL_len (mn (mx most 1) 2000) (by (first | omega | ((try have h1_ := putL_len (mn (mx most 1) 2000) (by (first | omega)) all); (try have h2_ := ov_add (mn (mx most 1) 2000) all); (try have h3_ := ovN_le (mn (mx most 1) 2000) 0 all.length); (try have h4_ := ovN_le (mn (mx most 1) 2000) (putL (mn (mx most 1) 2000) [] all).length (l.getD i.toNat []).length); (try have h5_ := ovN_le (mn (mx most 1) 2000) 0 ([] : List Int).length); first | omega | (simp only [List.length_append, List.length_take, List.length_drop, List.length_nil]; omega)))) all; have := ovN_le (mn (mx most 1) 2000) 0 all.length; first | omega | (simp; omega))) (by first | omega | (have := putL_len (mn (mx most 1) 2000) (by (first | omega | ((try have h1_ := putL_len (mn (mx most 1) 2000) (by (first | omega)) all); (try have h2_ := ov_add (mn (mx most 1) 2000) all); (try have h3_ := ovN_le (mn (mx most 1) 2000) 0 all.length); (try have h4_ := ovN_le (mn (mx most 1) 2000) (putL (mn (mx most 1) 2000) [] all).length (l.getD i.toNat []).length); (try have h5_ := ovN_le (mn (mx most 1) 2000) 0 ([] : List Int).length); first | omega | (simp only [List.length_append, List.length_take, List.length_drop, List.length_nil]; omega)))) all; have := ovN_le (mn (mx most 1) 2000) 0 all.length; first | omega | (simp; omega))) (by first | omega | (have := putL_len (mn (mx most 1) 2000) (by (first | omega | ((try have h1_ := putL_len (mn (mx most 1) 2000) (by (first | omega)) all); (try have h2_ := ov_add (mn (mx most 1) 2000) all); (try have h3_ := ovN_le (mn (mx most 1) 2000) 0 all.length); (try have h4_ := ovN_le (mn (mx most 1) 2000) (putL (mn (mx most 1) 2000) [] all).length (l.getD i.toNat []).length); (try have h5_ := ovN_le (mn (mx most 1) 2000) 0 ([] : List Int).length); first | omega | (simp only [List.length_append, List.length_take, List.length_drop, List.length_nil]; omega)))) all; have := ovN_le (mn (mx most 1) 2000) 0 all.length; first | omega | (simp; omega))) (by first | omega | (have := putL_len (mn (mx most 1) 2000) (by (first | omega | ((try have h1_ := putL_len (mn (mx most 1) 2000) (by (first | omega)) all); (try have h2_ := ov_add (mn (mx most 1) 2000) all); (try have h3_ := ovN_le (mn (mx most 1) 2000) 0 all.length); (try have h4_ := ovN_le (mn (mx most 1) 2000) (putL (mn (mx most 1) 2000) [] all).length (l.getD i.toNat []).length); (try have h5_ := ovN_le (mn (mx most 1) 2000) 0 ([] : List Int).length); first | omega | (simp only [List.length_append, List.length_take, List.length_drop, List.length_nil]; omega)))) all; have := ovN_le (mn (mx most 1) 2000) 0 all.length; first | omega | (simp; omega)))) ?_
          rintro e166 w167 ⟨S165, rfl, hb168⟩
          refine ⟨_, rfl, fun a169 HF170 => ?_⟩
          have HO171 := HO89.calls 2 rfl hb168
          clear HF164 HO89 hb168
          have HO173 : Own w w167 [Chunk.row (Kd.int .u8) 5 w.heap.size Sr (.slice Aa all.length ca) all, Chunk.buf w.heap.size g19 S20 (mn (mx most 1) 2000) ([]) 0, Chunk.buf w.heap.size g7 S165 (mn (mx most 1) 2000) (putL (mn (mx most 1) 2000) (putL (mn (mx most 1) 2000) [] all) (l.getD i.toNat ([] : List Int))) ((ovN (mn (mx most 1) 2000) 0 all.length : Int) + (ovN (mn (mx most 1) 2000) (putL (mn (mx most 1) 2000) [] all).length (l.getD i.toNat ([] : List Int)).length : Int))] := HO171
          clear HO171
          have HO174 := HO173
          rw [putL_putL _ (by (first | omega | ((try have h1_ := putL_len (mn (mx most 1) 2000) (by (first | omega)) all); (try have h2_ := ov_add (mn (mx most 1) 2000) all); (try have h3_ := ovN_le (mn (mx most 1) 2000) 0 all.length); (try have h4_ := ovN_le (mn (mx most 1) 2000) (putL (mn (mx most 1) 2000) [] all).length (l.getD i.toNat []).length); (try have h5_ := ovN_le (mn (mx most 1) 2000) 0 ([] : List Int).length); first | omega | (simp only [List.length_append, List.length_take, List.length_drop, List.length_nil]; omega)))), ovN_ovN _ (by (first | omega | ((try have h1_ := putL_len (mn (mx most 1) 2000) (by (first | omega)) all); (try have h2_ := ov_add (mn (mx most 1) 2000) all); (try have h3_ := ovN_le (mn (mx most 1) 2000) 0 all.length); (try have h4_ := ovN_le (mn (mx most 1) 2000) (putL (mn (mx most 1) 2000) [] all).length (l.getD i.toNat []).length); (try have h5_ := ovN_le (mn (mx most 1) 2000) 0 ([] : List Int).length); first | omega | (simp only [List.length_append, List.length_take, List.length_drop, List.length_nil]; omega))))] at HO174
          clear HO173
          have HO175 : Own w w167 [Chunk.row (Kd.int .u8) 5 w.heap.size Sr (.slice Aa all.length ca) all, Chunk.buf w.heap.size g19 S20 (mn (mx most 1) 2000) ([]) 0, Chunk.buf w.heap.size g7 S165 (mn (mx most 1) 2000) (putL (mn (mx most 1) 2000) [] (all ++ (l.getD i.toNat ([] : List Int)))) (ovN (mn (mx most 1) 2000) 0 (all ++ (l.getD i.toNat ([] : List Int))).length : Int)] := HO174
          clear HO174
          refine gw_ev HF170 (want_none rfl) rfl (by decide) (op_add rfl (HF170.ev rfl) (HF170.ev rfl) (by have := ovN_le (mn (mx most 1) 2000) 0 all.length; have := ovN_le (mn (mx most 1) 2000) (putL (mn (mx most 1) 2000) [] all).length (l.getD i.toNat []).length; have := putL_len (mn (mx most 1) 2000) (by (first | omega | ((try have h1_ := putL_len (mn (mx most 1) 2000) (by (first | omega)) all); (try have h2_ := ov_add (mn (mx most 1) 2000) all); (try have h3_ := ovN_le (mn (mx most 1) 2000) 0 all.length); (try have h4_ := ovN_le (mn (mx most 1) 2000) (putL (mn (mx most 1) 2000) [] all).length (l.getD i.toNat []).length); (try have h5_ := ovN_le (mn (mx most 1) 2000) 0 ([] : List Int).length); first | omega | (simp only [List.length_append, List.length_take, List.length_drop, List.length_nil]; omega)))) all; omega)) ?_
          intro a176 HF177; clear HF170
          have HF178 := HF177.conv (v' := .int .i64 (ovN (mn (mx most 1) 2000) 0 ((all ++ (l.getD i.toNat ([] : List Int)))).length : Int)) (congrArg (Value.int .i64) (ovN_ovN _ (by (first | omega | ((try have h1_ := putL_len (mn (mx most 1) 2000) (by (first | omega)) all); (try have h2_ := ov_add (mn (mx most 1) 2000) all); (try have h3_ := ovN_le (mn (mx most 1) 2000) 0 all.length); (try have h4_ := ovN_le (mn (mx most 1) 2000) (putL (mn (mx most 1) 2000) [] all).length (l.getD i.toNat []).length); (try have h5_ := ovN_le (mn (mx most 1) 2000) 0 ([] : List Int).length); first | omega | (simp only [List.length_append, List.length_take, List.length_drop, List.length_nil]; omega))))))
          clear HF177
          refine gw_ev HF178 (want_none rfl) rfl (by decide) (op_assign rfl (HF178.ev rfl)) ?_
          intro a179 HF180; clear HF178
          refine wpList_nil ?_
          refine gw_nx (hK158 _ _ ?_)
          refine wp_region_lit ?_
          refine gw_ev HF180 (want_none rfl) rfl (by decide) (op_move rfl (HF180.ev rfl)) ?_
          intro a181 HF182; clear HF180
          refine gw_ev HF182 (want_none rfl) rfl (by decide) (op_move rfl (HF182.ev rfl)) ?_
          intro a183 HF184; clear HF182
          refine gw_append (Kd.int .u8) 0 HF184 HO175 (want_none rfl) rfl (by decide) rfl Try.underlying26 gwinfo5 rfl (by decide) (by decide) rfl (HF184.ev rfl) (HF184.ev rfl) (Kd.C_below hC110 HO175.below) (fun _ _ h => h) HO175.below.size (by (first | omega | ((try have h1_ := putL_len (mn (mx most 1) 2000) (by (first | omega)) all); (try have h2_ := ov_add (mn (mx most 1) 2000) all); (try have h3_ := ovN_le (mn (mx most 1) 2000) 0 all.length); (try have h4_ := ovN_le (mn (mx most 1) 2000) (putL (mn (mx most 1) 2000) [] all).length (l.getD i.toNat []).length); (try have h5_ := ovN_le (mn (mx most 1) 2000) 0 ([] : List Int).length); first | omega | (simp only [List.length_append, List.length_take, List.length_drop, List.length_nil]; omega)))) ?_
          intro A185 c186 S187 a188 w189 HF190 HO191; clear HF184 HO175
          have HO192 : Own w w189 [Chunk.row (Kd.int .u8) 5 w.heap.size S187 (.slice A185 ((all ++ (l.getD i.toNat ([] : List Int))).length) c186) (all ++ (l.getD i.toNat ([] : List Int))), Chunk.buf w.heap.size g19 S20 (mn (mx most 1) 2000) ([]) 0, Chunk.buf w.heap.size g7 S165 (mn (mx most 1) 2000) (putL (mn (mx most 1) 2000) [] (all ++ (l.getD i.toNat ([] : List Int)))) (ovN (mn (mx most 1) 2000) 0 (all ++ (l.getD i.toNat ([] : List Int))).length : Int)] := HO191
          clear HO191
          refine gw_ev HF190 (want_none rfl) rfl (by decide) (op_assign rfl (HF190.ev rfl)) ?_
          intro a193 HF194; clear HF190
          refine wpList_nil ?_
          refine gw_blk ?_
          refine gw_nx (hK97 _ _ ?_)
          refine wp_region_lit ?_
          refine gw_ev HF194 (want_none rfl) rfl (by decide) (op_add rfl (HF194.ev rfl) (ev_c _ _) (by (first | omega | ((try have h1_ := putL_len (mn (mx most 1) 2000) (by (first | omega)) all); (try have h2_ := ov_add (mn (mx most 1) 2000) all); (try have h3_ := ovN_le (mn (mx most 1) 2000) 0 all.length); (try have h4_ := ovN_le (mn (mx most 1) 2000) (putL (mn (mx most 1) 2000) [] all).length (l.getD i.toNat []).length); (try have h5_ := ovN_le (mn (mx most 1) 2000) 0 ([] : List Int).length); first | omega | (simp only [List.length_append, List.length_take, List.length_drop, List.length_nil]; omega))))) ?_
          intro a195 HF196; clear HF194
          refine gw_ev HF196 (want_none rfl) rfl (by decide) (op_move rfl (HF196.ev rfl)) ?_
          intro a197 HF198; clear HF196
          refine wpList_nil ?_
          refine gw_nx ⟨_, ?_, i + 1, (all ++ (l.getD i.toNat ([] : List Int))), S165, A185, _, _, (HF198.pick (t := 34) rfl (HF198.pick (t := 10) rfl (HF198.pick (t := 9) rfl (HF198.pick (t := 2) rfl (HF198.pick (t := 6) rfl (HF198.pick (t := 7) rfl (HF198.pick (t := 8) rfl (HF198.pick (t := 32) rfl (HF198.pick (t := 33) rfl HF198.nil))))))))), HO192.sel [0, 1, 2] (by decide), ?_, ?_, rfl⟩
          · rw [hm90]; omega
          · omega
          · (try simp only [List.length_append]); omega
    · skip
      have HF199 := HF93.subst_ (d := 35) (b := false) rfl hb95
      clear HF93
      (try simp only [decide_eq_true_eq, decide_eq_false_iff_not, Bool.not_eq_true', Bool.not_eq_false', Bool.not_eq_true, Bool.not_eq_false, ne_eq, Decidable.not_not, Int.not_lt, Int.not_le, not_true_eq_false, not_false_eq_true, bne_iff_ne, beq_iff_eq, bne_eq_false_iff_eq, beq_eq_false_iff_ne] at hb95)
      refine wp_exit ?_
      refine gw_thx ?_
      refine gw_thx ?_
      refine gw_in ?_
      refine gw_nx (hK75 _ _ ?_)
      refine gw_seq fun K200 hK200 => ?_
      refine gw_seq fun K201 hK201 => ?_
      refine wp_region_lit ?_
      refine gw_ev HF199 (want_none rfl) rfl (by decide) (op_move rfl (HF199.ev rfl)) ?_
      intro a202 HF203; clear HF199
      refine gw_ev HF203 (want_none rfl) rfl (by decide) (op_move rfl (HF203.ev rfl)) ?_
      intro a204 HF205; clear HF203
      refine gw_call HF205 (want_none rfl) rfl (by decide) (op_callL Try.func14 (by kernel_rfl) rfl rfl (ar_cons (HF205.ev rfl) (ar_cons (HF205.ev rfl) ar_nil))) (buf_put w.heap.size g19 S20 (mn (mx most 1) 2000) ([]) 0 Aa ca all _ (HO89.get 1 rfl) (fun k hk => (HO89.lt 1 rfl hk).2) HO89.below.size (Kd.R_reads' (HO89.get 0 rfl)).2.2 (row_cap (HO89.get 0 rfl)) (fun _ ad e hk => HO89.apart_at 0 1 (by decide) rfl rfl _ (row_in (HO89.get 0 rfl) e) hk) (by first | omega | (have := putL_len (mn (mx most 1) 2000) (by (first | omega | ((try have h1_ := putL_len (mn (mx most 1) 2000) (by (first | omega)) all); (try have h2_ := ov_add (mn (mx most 1) 2000) all); (try have h3_ := ovN_le (mn (mx most 1) 2000) 0 all.length); (try have h4_ := ovN_le (mn (mx most 1) 2000) (putL (mn (mx most 1) 2000) [] all).length (l.getD i.toNat []).length); (try have h5_ := ovN_le (mn (mx most 1) 2000) 0 ([] : List Int).length); first | omega | (simp only [List.length_append, List.length_take, List.length_drop, List.length_nil]; omega)))) all; have := ovN_le (mn (mx most 1) 2000) 0 all.length; first | omega | (simp; omega))) (by first | omega | (have := putL_len (mn (mx most 1) 2000) (by (first | omega | ((try have h1_ := putL_len (mn (mx most 1) 2000) (by (first | omega)) all); (try have h2_ := ov_add (mn (mx most 1) 2000) all); (try have h3_ := ovN_le (mn (mx most 1) 2000) 0 all.length); (try have h4_ := ovN_le (mn (mx most 1) 2000) (putL (mn (mx most 1) 2000) [] all).length (l.getD i.toNat []).length); (try have h5_ := ovN_le (mn (mx most 1) 2000) 0 ([] : List Int).length); first | omega | (simp only [List.length_append, List.length_take, List.length_drop, List.length_nil]; omega)))) all; have := ovN_le (mn (mx most 1) 2000) 0 all.length; first | omega | (simp; omega))) (by first | omega | (have := putL_len (mn (mx most 1) 2000) (by (first | omega | ((try have h1_ := putL_len (mn (mx most 1) 2000) (by (first | omega)) all); (try have h2_ := ov_add (mn (mx most 1) 2000) all); (try have h3_ := ovN_le (mn (mx most 1) 2000) 0 all.length); (try have h4_ := ovN_le (mn (mx most 1) 2000) (putL (mn (mx most 1) 2000) [] all).length (l.getD i.toNat []).length); (try have h5_ := ovN_le (mn (mx most 1) 2000) 0 ([] : List Int).length); first | omega | (simp only [List.length_append, List.length_take, List.length_drop, List.length_nil]; omega)))) all; have := ovN_le (mn (mx most 1) 2000) 0 all.length; first | omega | (simp; omega))) (by first | omega | (have := putL_len (mn (mx most 1) 2000) (by (first | omega | ((try have h1_ := putL_len (mn (mx most 1) 2000) (by (first | omega)) all); (try have h2_ := ov_add (mn (mx most 1) 2000) all); (try have h3_ := ovN_le (mn (mx most 1) 2000) 0 all.length); (try have h4_ := ovN_le (mn (mx most 1) 2000) (putL (mn (mx most 1) 2000) [] all).length (l.getD i.toNat []).length); (try have h5_ := ovN_le (mn (mx most 1) 2000) 0 ([] : List Int).length); first | omega | (simp only [List.length_append, List.length_take, List.length_drop, List.length_nil]; omega)))) all; have := ovN_le (mn (mx most 1) 2000) 0 all.length; first | omega | (simp; omega)))) ?_
      rintro e207 w208 ⟨S206, rfl, hb209⟩
      refine ⟨_, rfl, fun a210 HF211 => ?_⟩
      have HO212 := HO89.calls 1 rfl hb209
      clear HF205 HO89 hb209
      have HO214 : Own w w208 [Chunk.row (Kd.int .u8) 5 w.heap.size Sr (.slice Aa all.length ca) all, Chunk.buf w.heap.size g19 S206 (mn (mx most 1) 2000) (putL (mn (mx most 1) 2000) ([]) all) (0 + (ovN (mn (mx most 1) 2000) ([]).length all.length : Int)), Chunk.buf w.heap.size g7 Sa (mn (mx most 1) 2000) (putL (mn (mx most 1) 2000) [] all) (ovN (mn (mx most 1) 2000) 0 all.length : Int)] := HO212
      clear HO212
      refine gw_ev HF211 (want_none rfl) rfl (by decide) (op_move rfl (HF211.ev rfl)) ?_
      intro a215 HF216; clear HF211
      refine gw_ev HF216 (want_none rfl) rfl (by decide) (op_nei rfl (HF216.ev rfl) (HF216.ev rfl)) ?_
      intro a217 HF218; clear HF216
      have HF219 := HF218.lit (b := false) (by simp)
      clear HF218
      refine gw_ev HF219 (want_none rfl) rfl (by decide) (op_move rfl (HF219.ev rfl)) ?_
      intro a220 HF221; clear HF219
      refine gw_ev HF221 (want_yes HF221 rfl rfl rfl rfl) rfl (by decide) (op_move rfl (HF221.ev rfl)) ?_
      intro a222 HF223; clear HF221
      refine gw_call HF223 (want_yes HF223 rfl rfl rfl rfl) rfl (by decide) (op_callL Try.func21 (by kernel_rfl) rfl rfl (ar_cons (HF223.ev rfl) ar_nil)) (buf_gone w.heap.size g7 Sa (mn (mx most 1) 2000) (putL (mn (mx most 1) 2000) [] all) (ovN (mn (mx most 1) 2000) 0 all.length : Int) _ (HO214.get 2 rfl)) ?_
      rintro e224 w225 ⟨rfl, hb226⟩
      refine ⟨_, rfl, fun a227 HF228 => ?_⟩
      have HO229 := HO214.after hb226
      clear HF223 HO214 hb226
      refine gw_ev HF228 (want_yes HF228 rfl rfl rfl rfl) rfl (by decide) (op_move rfl (HF228.ev rfl)) ?_
      intro a231 HF232; clear HF228
      refine gw_ev HF232 (want_yes HF232 rfl rfl rfl rfl) rfl (by decide) (op_nei rfl (HF232.ev rfl) (HF232.ev rfl)) ?_
      intro a233 HF234; clear HF232
      have HF235 := HF234.lit (b := false) (by simp)
      clear HF234
      refine gw_ev HF235 (want_none rfl) rfl (by decide) (op_pick_f rfl (HF235.ev rfl) (HF235.ev rfl)) ?_
      intro a236 HF237; clear HF235
      refine wpList_nil ?_
      refine gw_nx (hK201 _ _ ?_)
      refine gw_cond HF237 rfl (fun hb238 => ?_) (fun hb238 => ?_)
      skip
      · cases hb238
      refine wp_skip ?_
      refine gw_nx (hK200 _ _ ?_)
      refine gw_seq fun K239 hK239 => ?_
      refine wp_region_lit ?_
      refine gw_ev HF237 (want_none rfl) rfl (by decide) (op_move rfl (HF237.ev rfl)) ?_
      intro a240 HF241; clear HF237
      refine gw_call HF241 (want_none rfl) rfl (by decide) (op_callL Try.func19 (by kernel_rfl) rfl rfl (ar_cons (HF241.ev rfl) ar_nil)) (buf_bytes0 w.heap.size g7 Sa (mn (mx most 1) 2000) (putL (mn (mx most 1) 2000) [] all) (ovN (mn (mx most 1) 2000) 0 all.length : Int) _ (HO229.get 2 rfl) (by first | omega | (have := putL_len (mn (mx most 1) 2000) (by (first | omega | ((try have h1_ := putL_len (mn (mx most 1) 2000) (by (first | omega)) all); (try have h2_ := ov_add (mn (mx most 1) 2000) all); (try have h3_ := ovN_le (mn (mx most 1) 2000) 0 all.length); (try have h4_ := ovN_le (mn (mx most 1) 2000) (putL (mn (mx most 1) 2000) [] all).length (l.getD i.toNat []).length); (try have h5_ := ovN_le (mn (mx most 1) 2000) 0 ([] : List Int).length); first | omega | (simp only [List.length_append, List.length_take, List.length_drop, List.length_nil]; omega)))) all; have := ovN_le (mn (mx most 1) 2000) 0 all.length; first | omega | (simp; omega)))) ?_
      rintro e245 w246 ⟨A242, c243, S244, rfl, hb247⟩
      refine ⟨_, rfl, fun a248 HF249 => ?_⟩
      have HO250 := HO229.fresh hb247
      have hbel251 := HO229.below
      clear HF241 HO229 hb247
      have HO252 := HO250.lowrow 0 rfl (base' := w.heap.size) (Below.size hbel251)
      have HO253 : Own w w246 [Chunk.row (Kd.int .u8) 5 w.heap.size S244 (.slice A242 ((putL (mn (mx most 1) 2000) [] all).length) c243) (putL (mn (mx most 1) 2000) [] all), Chunk.row (Kd.int .u8) 5 w.heap.size Sr (.slice Aa all.length ca) all, Chunk.buf w.heap.size g19 S206 (mn (mx most 1) 2000) (putL (mn (mx most 1) 2000) ([]) all) (0 + (ovN (mn (mx most 1) 2000) ([]).length all.length : Int)), Chunk.buf w.heap.size g7 Sa (mn (mx most 1) 2000) (putL (mn (mx most 1) 2000) [] all) (ovN (mn (mx most 1) 2000) 0 all.length : Int)] := HO252
      clear HO252
      refine gw_ev HF249 (want_none rfl) rfl (by decide) (op_move rfl (HF249.ev rfl)) ?_
      intro a254 HF255; clear HF249
      refine gw_call HF255 (want_none rfl) rfl (by decide) (op_callL Try.func19 (by kernel_rfl) rfl rfl (ar_cons (HF255.ev rfl) ar_nil)) (buf_bytes0 w.heap.size g19 S206 (mn (mx most 1) 2000) (putL (mn (mx most 1) 2000) ([]) all) (0 + (ovN (mn (mx most 1) 2000) ([]).length all.length : Int)) _ (HO253.get 2 rfl) (by first | omega | (have := putL_len (mn (mx most 1) 2000) (by (first | omega | ((try have h1_ := putL_len (mn (mx most 1) 2000) (by (first | omega)) all); (try have h2_ := ov_add (mn (mx most 1) 2000) all); (try have h3_ := ovN_le (mn (mx most 1) 2000) 0 all.length); (try have h4_ := ovN_le (mn (mx most 1) 2000) (putL (mn (mx most 1) 2000) [] all).length (l.getD i.toNat []).length); (try have h5_ := ovN_le (mn (mx most 1) 2000) 0 ([] : List Int).length); first | omega | (simp only [List.length_append, List.length_take, List.length_drop, List.length_nil]; omega)))) all; have := ovN_le (mn (mx most 1) 2000) 0 all.length; first | omega | (simp; omega)))) ?_
      rintro e259 w260 ⟨A256, c257, S258, rfl, hb261⟩
      refine ⟨_, rfl, fun a262 HF263 => ?_⟩
      have HO264 := HO253.fresh hb261
      have hbel265 := HO253.below
      clear HF255 HO253 hb261
      have HO266 := HO264.lowrow 0 rfl (base' := w.heap.size) (Below.size hbel265)
      have HO267 : Own w w260 [Chunk.row (Kd.int .u8) 5 w.heap.size S258 (.slice A256 ((putL (mn (mx most 1) 2000) ([]) all).length) c257) (putL (mn (mx most 1) 2000) ([]) all), Chunk.row (Kd.int .u8) 5 w.heap.size S244 (.slice A242 ((putL (mn (mx most 1) 2000) [] all).length) c243) (putL (mn (mx most 1) 2000) [] all), Chunk.row (Kd.int .u8) 5 w.heap.size Sr (.slice Aa all.length ca) all, Chunk.buf w.heap.size g19 S206 (mn (mx most 1) 2000) (putL (mn (mx most 1) 2000) ([]) all) (0 + (ovN (mn (mx most 1) 2000) ([]).length all.length : Int)), Chunk.buf w.heap.size g7 Sa (mn (mx most 1) 2000) (putL (mn (mx most 1) 2000) [] all) (ovN (mn (mx most 1) 2000) 0 all.length : Int)] := HO266
      clear HO266
      refine gw_ev HF263 (want_none rfl) rfl (by decide) (op_assign rfl (HF263.ev rfl)) ?_
      intro a268 HF269; clear HF263
      refine gw_ev HF269 (want_none rfl) rfl (by decide) (op_assign rfl (HF269.ev rfl)) ?_
      intro a270 HF271; clear HF269
      refine wpList_nil ?_
      refine gw_nx (hK239 _ _ ?_)
      refine gw_seq fun K272 hK272 => ?_
      refine gw_seq fun K273 hK273 => ?_
      refine wp_region_lit ?_
      refine gw_ev HF271 (want_none rfl) rfl (by decide) (op_move rfl (HF271.ev rfl)) ?_
      intro a274 HF275; clear HF271
      refine gw_ev HF275 (want_none rfl) rfl (by decide) (op_move rfl (HF275.ev rfl)) ?_
      intro a276 HF277; clear HF275
      refine gw_call HF277 (want_none rfl) rfl (by decide) (op_callL Try.func18 (by kernel_rfl) rfl rfl (ar_cons (HF277.ev rfl) (ar_cons (HF277.ev rfl) ar_nil))) (same_calls A242 c243 (putL (mn (mx most 1) 2000) [] all) A256 c257 (putL (mn (mx most 1) 2000) ([]) all) _ (Kd.R_reads' (HO267.get 1 rfl)).2.2 (row_cap (HO267.get 1 rfl)) (Kd.R_reads' (HO267.get 0 rfl)).2.2 (row_cap (HO267.get 0 rfl)) (by (first | omega | ((try have h1_ := putL_len (mn (mx most 1) 2000) (by (first | omega)) all); (try have h2_ := ov_add (mn (mx most 1) 2000) all); (try have h3_ := ovN_le (mn (mx most 1) 2000) 0 all.length); (try have h4_ := ovN_le (mn (mx most 1) 2000) (putL (mn (mx most 1) 2000) [] all).length (l.getD i.toNat []).length); (try have h5_ := ovN_le (mn (mx most 1) 2000) 0 ([] : List Int).length); first | omega | (simp only [List.length_append, List.length_take, List.length_drop, List.length_nil]; omega))))) ?_
      rintro e278 w279 ⟨rfl, hb280⟩
      refine ⟨_, rfl, fun a281 HF282 => ?_⟩
      have HO283 := HO267.after hb280
      clear HF277 HO267 hb280
      refine gw_ev HF282 (want_none rfl) rfl (by decide) (op_not rfl (HF282.ev rfl)) ?_
      intro a285 HF286; clear HF282
      have HF287 := HF286.lit (b := false) (by simp)
      clear HF286
      refine gw_ev HF287 (want_none rfl) rfl (by decide) (op_move rfl (HF287.ev rfl)) ?_
      intro a288 HF289; clear HF287
      refine gw_ev HF289 (want_yes HF289 rfl rfl rfl rfl) rfl (by decide) (op_move rfl (HF289.ev rfl)) ?_
      intro a290 HF291; clear HF289
      refine gw_ev HF291 (want_yes HF291 rfl rfl rfl rfl) rfl (by decide) (op_move rfl (HF291.ev rfl)) ?_
      intro a292 HF293; clear HF291
      refine gw_ev HF293 (want_yes HF293 rfl rfl rfl rfl) rfl (by decide) (op_len Try.underlying26 rfl (HF293.ev rfl)) ?_
      intro a294 HF295; clear HF293
      refine gw_ev HF295 (want_yes HF295 rfl rfl rfl rfl) rfl (by decide) (op_add rfl (HF295.ev rfl) (HF295.ev rfl) (by (first | omega | ((try have h1_ := putL_len (mn (mx most 1) 2000) (by (first | omega)) all); (try have h2_ := ov_add (mn (mx most 1) 2000) all); (try have h3_ := ovN_le (mn (mx most 1) 2000) 0 all.length); (try have h4_ := ovN_le (mn (mx most 1) 2000) (putL (mn (mx most 1) 2000) [] all).length (l.getD i.toNat []).length); (try have h5_ := ovN_le (mn (mx most 1) 2000) 0 ([] : List Int).length); first | omega | (simp only [List.length_append, List.length_take, List.length_drop, List.length_nil]; omega))))) ?_
      intro a296 HF297; clear HF295
      refine gw_ev HF297 (want_yes HF297 rfl rfl rfl rfl) rfl (by decide) (op_move rfl (HF297.ev rfl)) ?_
      intro a298 HF299; clear HF297
      refine gw_ev HF299 (want_yes HF299 rfl rfl rfl rfl) rfl (by decide) (op_len Try.underlying26 rfl (HF299.ev rfl)) ?_
      intro a300 HF301; clear HF299
      refine gw_ev HF301 (want_yes HF301 rfl rfl rfl rfl) rfl (by decide) (op_nei rfl (HF301.ev rfl) (HF301.ev rfl)) ?_
      intro a302 HF303; clear HF301
      have HF304 := HF303.lit (b := false) (by rw [ov_add]; simp)
      clear HF303
      refine gw_ev HF304 (want_none rfl) rfl (by decide) (op_pick_f rfl (HF304.ev rfl) (HF304.ev rfl)) ?_
      intro a305 HF306; clear HF304
      refine gw_ev HF306 (want_none rfl) rfl (by decide) (op_move rfl (HF306.ev rfl)) ?_
      intro a307 HF308; clear HF306
      refine gw_ev HF308 (want_yes HF308 rfl rfl rfl rfl) rfl (by decide) (op_move rfl (HF308.ev rfl)) ?_
      intro a309 HF310; clear HF308
      refine gw_ev HF310 (want_yes HF310 rfl rfl rfl rfl) rfl (by decide) (op_move rfl (HF310.ev rfl)) ?_
      intro a311 HF312; clear HF310
      refine gw_ev HF312 (want_yes HF312 rfl rfl rfl rfl) rfl (by decide) (op_move rfl (HF312.ev rfl)) ?_
      intro a313 HF314; clear HF312
      obtain ⟨A315, c316, hr317, hc318, hC319, hA320⟩ := cut_lo (P := Try.prog) (d := (Kd.int .u8)) (t := 26) (e := 5) Try.underlying26 gwsiz5 Aa ca all (row_cap (HO283.get 2 rfl)) (ovN (mn (mx most 1) 2000) 0 all.length : Int) (by (first | omega | ((try have h1_ := putL_len (mn (mx most 1) 2000) (by (first | omega)) all); (try have h2_ := ov_add (mn (mx most 1) 2000) all); (try have h3_ := ovN_le (mn (mx most 1) 2000) 0 all.length); (try have h4_ := ovN_le (mn (mx most 1) 2000) (putL (mn (mx most 1) 2000) [] all).length (l.getD i.toNat []).length); (try have h5_ := ovN_le (mn (mx most 1) 2000) 0 ([] : List Int).length); first | omega | (simp only [List.length_append, List.length_take, List.length_drop, List.length_nil]; omega)))) (by (first | omega | ((try have h1_ := putL_len (mn (mx most 1) 2000) (by (first | omega)) all); (try have h2_ := ov_add (mn (mx most 1) 2000) all); (try have h3_ := ovN_le (mn (mx most 1) 2000) 0 all.length); (try have h4_ := ovN_le (mn (mx most 1) 2000) (putL (mn (mx most 1) 2000) [] all).length (l.getD i.toNat []).length); (try have h5_ := ovN_le (mn (mx most 1) 2000) 0 ([] : List Int).length); first | omega | (simp only [List.length_append, List.length_take, List.length_drop, List.length_nil]; omega))))
      refine gw_ev HF314 (want_yes HF314 rfl rfl rfl rfl) rfl (by decide) (op_cut Try.underlying26 hr317 rfl (HF314.ev rfl) (some_ev (HF314.ev rfl)) rfl) ?_
      intro a321 HF322; clear HF314
      refine gw_call HF322 (want_yes HF322 rfl rfl rfl rfl) rfl (by decide) (op_callL Try.func18 (by kernel_rfl) rfl rfl (ar_cons (HF322.ev rfl) (ar_cons (HF322.ev rfl) ar_nil))) (same_calls A242 c243 (putL (mn (mx most 1) 2000) [] all) A315 c316 (all.drop (ovN (mn (mx most 1) 2000) 0 all.length : Int).toNat) _ (Kd.R_reads' (HO283.get 1 rfl)).2.2 (row_cap (HO283.get 1 rfl)) (hC319 _ (Kd.R_reads' (HO283.get 2 rfl)).2.2) hc318 (by (first | omega | ((try have h1_ := putL_len (mn (mx most 1) 2000) (by (first | omega)) all); (try have h2_ := ov_add (mn (mx most 1) 2000) all); (try have h3_ := ovN_le (mn (mx most 1) 2000) 0 all.length); (try have h4_ := ovN_le (mn (mx most 1) 2000) (putL (mn (mx most 1) 2000) [] all).length (l.getD i.toNat []).length); (try have h5_ := ovN_le (mn (mx most 1) 2000) 0 ([] : List Int).length); first | omega | (simp only [List.length_append, List.length_take, List.length_drop, List.length_nil]; omega))))) ?_
      rintro e323 w324 ⟨rfl, hb325⟩
      refine ⟨_, rfl, fun a326 HF327 => ?_⟩
      have HO328 := HO283.after hb325
      clear HF322 HO283 hb325
      refine gw_ev HF327 (want_yes HF327 rfl rfl rfl rfl) rfl (by decide) (op_not rfl (HF327.ev rfl)) ?_
      intro a330 HF331; clear HF327
      have HF332 := HF331.lit (b := false) (by simp [putL])
      clear HF331
      refine gw_ev HF332 (want_none rfl) rfl (by decide) (op_pick_f rfl (HF332.ev rfl) (HF332.ev rfl)) ?_
      intro a333 HF334; clear HF332
      refine wpList_nil ?_
      refine gw_nx (hK273 _ _ ?_)
      refine gw_cond HF334 rfl (fun hb335 => ?_) (fun hb335 => ?_)
      skip
      · cases hb335
      refine wp_skip ?_
      refine gw_nx (hK272 _ _ ?_)
      refine gw_seq fun K336 hK336 => ?_
      refine wp_region_lit ?_
      refine gw_ev HF334 (want_none rfl) rfl (by decide) (op_move rfl (HF334.ev rfl)) ?_
      intro a337 HF338; clear HF334
      refine gw_ev HF338 (want_none rfl) rfl (by decide) (op_move rfl (HF338.ev rfl)) ?_
      intro a339 HF340; clear HF338
      refine gw_call HF340 (want_none rfl) rfl (by decide) (op_callL Try.func16 (by kernel_rfl) rfl rfl (ar_cons (HF340.ev rfl) (ar_cons (HF340.ev rfl) ar_nil))) (buf_take0 w.heap.size g7 Sa (mn (mx most 1) 2000) (putL (mn (mx most 1) 2000) [] all) (ovN (mn (mx most 1) 2000) 0 all.length : Int) take _ (HO328.get 4 rfl) (by first | omega | (have := putL_len (mn (mx most 1) 2000) (by (first | omega | ((try have h1_ := putL_len (mn (mx most 1) 2000) (by (first | omega)) all); (try have h2_ := ov_add (mn (mx most 1) 2000) all); (try have h3_ := ovN_le (mn (mx most 1) 2000) 0 all.length); (try have h4_ := ovN_le (mn (mx most 1) 2000) (putL (mn (mx most 1) 2000) [] all).length (l.getD i.toNat []).length); (try have h5_ := ovN_le (mn (mx most 1) 2000) 0 ([] : List Int).length); first | omega | (simp only [List.length_append, List.length_take, List.length_drop, List.length_nil]; omega)))) all; have := ovN_le (mn (mx most 1) 2000) 0 all.length; first | omega | (simp; omega))) (fun k hk => (HO328.lt 4 rfl hk).2)) ?_
      rintro e345 w346 ⟨A341, c342, S344, rfl, hb347⟩
      refine ⟨_, rfl, fun a348 HF349 => ?_⟩
      have HO350 := HO328.calls 4 rfl hb347
      have hbel351 := HO328.below
      clear HF340 HO328 hb347
      have HO352 := HO350.lowrow 0 rfl (base' := w.heap.size) (Below.size hbel351)
      have HO353 : Own w w346 [Chunk.row (Kd.int .u8) 5 w.heap.size S344 (.slice A341 (((putL (mn (mx most 1) 2000) [] all).take (mn (mx take 0) (putL (mn (mx most 1) 2000) [] all).length).toNat).length) c342) ((putL (mn (mx most 1) 2000) [] all).take (mn (mx take 0) (putL (mn (mx most 1) 2000) [] all).length).toNat), Chunk.row (Kd.int .u8) 5 w.heap.size S258 (.slice A256 ((putL (mn (mx most 1) 2000) ([]) all).length) c257) (putL (mn (mx most 1) 2000) ([]) all), Chunk.row (Kd.int .u8) 5 w.heap.size S244 (.slice A242 ((putL (mn (mx most 1) 2000) [] all).length) c243) (putL (mn (mx most 1) 2000) [] all), Chunk.row (Kd.int .u8) 5 w.heap.size Sr (.slice Aa all.length ca) all, Chunk.buf w.heap.size g19 S206 (mn (mx most 1) 2000) (putL (mn (mx most 1) 2000) ([]) all) (0 + (ovN (mn (mx most 1) 2000) ([]).length all.length : Int)), Chunk.buf w.heap.size g7 Sa (mn (mx most 1) 2000) ((putL (mn (mx most 1) 2000) [] all).drop (mn (mx take 0) (putL (mn (mx most 1) 2000) [] all).length).toNat) (ovN (mn (mx most 1) 2000) 0 all.length : Int)] := HO352
      clear HO352
      refine gw_ev HF349 (want_none rfl) rfl (by decide) (op_assign rfl (HF349.ev rfl)) ?_
      intro a354 HF355; clear HF349
      refine wpList_nil ?_
      refine gw_nx (hK336 _ _ ?_)
      refine gw_seq fun K356 hK356 => ?_
      refine wp_region_lit ?_
      refine gw_ev HF355 (want_none rfl) rfl (by decide) (op_move rfl (HF355.ev rfl)) ?_
      intro a357 HF358; clear HF355
      refine gw_call HF358 (want_none rfl) rfl (by decide) (op_callL Try.func19 (by kernel_rfl) rfl rfl (ar_cons (HF358.ev rfl) ar_nil)) (buf_bytes0 w.heap.size g7 Sa (mn (mx most 1) 2000) ((putL (mn (mx most 1) 2000) [] all).drop (mn (mx take 0) (putL (mn (mx most 1) 2000) [] all).length).toNat) (ovN (mn (mx most 1) 2000) 0 all.length : Int) _ (HO353.get 5 rfl) (by first | omega | (have := putL_len (mn (mx most 1) 2000) (by (first | omega | ((try have h1_ := putL_len (mn (mx most 1) 2000) (by (first | omega)) all); (try have h2_ := ov_add (mn (mx most 1) 2000) all); (try have h3_ := ovN_le (mn (mx most 1) 2000) 0 all.length); (try have h4_ := ovN_le (mn (mx most 1) 2000) (putL (mn (mx most 1) 2000) [] all).length (l.getD i.toNat []).length); (try have h5_ := ovN_le (mn (mx most 1) 2000) 0 ([] : List Int).length); first | omega | (simp only [List.length_append, List.length_take, List.length_drop, List.length_nil]; omega)))) all; have := ovN_le (mn (mx most 1) 2000) 0 all.length; first | omega | (simp; omega)))) ?_
      rintro e362 w363 ⟨A359, c360, S361, rfl, hb364⟩
      refine ⟨_, rfl, fun a365 HF366 => ?_⟩
      have HO367 := HO353.fresh hb364
      have hbel368 := HO353.below
      clear HF358 HO353 hb364
      have HO369 := HO367.lowrow 0 rfl (base' := w.heap.size) (Below.size hbel368)
      have HO370 : Own w w363 [Chunk.row (Kd.int .u8) 5 w.heap.size S361 (.slice A359 (((putL (mn (mx most 1) 2000) [] all).drop (mn (mx take 0) (putL (mn (mx most 1) 2000) [] all).length).toNat).length) c360) ((putL (mn (mx most 1) 2000) [] all).drop (mn (mx take 0) (putL (mn (mx most 1) 2000) [] all).length).toNat), Chunk.row (Kd.int .u8) 5 w.heap.size S344 (.slice A341 (((putL (mn (mx most 1) 2000) [] all).take (mn (mx take 0) (putL (mn (mx most 1) 2000) [] all).length).toNat).length) c342) ((putL (mn (mx most 1) 2000) [] all).take (mn (mx take 0) (putL (mn (mx most 1) 2000) [] all).length).toNat), Chunk.row (Kd.int .u8) 5 w.heap.size S258 (.slice A256 ((putL (mn (mx most 1) 2000) ([]) all).length) c257) (putL (mn (mx most 1) 2000) ([]) all), Chunk.row (Kd.int .u8) 5 w.heap.size S244 (.slice A242 ((putL (mn (mx most 1) 2000) [] all).length) c243) (putL (mn (mx most 1) 2000) [] all), Chunk.row (Kd.int .u8) 5 w.heap.size Sr (.slice Aa all.length ca) all, Chunk.buf w.heap.size g19 S206 (mn (mx most 1) 2000) (putL (mn (mx most 1) 2000) ([]) all) (0 + (ovN (mn (mx most 1) 2000) ([]).length all.length : Int)), Chunk.buf w.heap.size g7 Sa (mn (mx most 1) 2000) ((putL (mn (mx most 1) 2000) [] all).drop (mn (mx take 0) (putL (mn (mx most 1) 2000) [] all).length).toNat) (ovN (mn (mx most 1) 2000) 0 all.length : Int)] := HO369
      clear HO369
      refine gw_ev HF366 (want_none rfl) rfl (by decide) (op_assign rfl (HF366.ev rfl)) ?_
      intro a371 HF372; clear HF366
      refine wpList_nil ?_
      refine gw_nx (hK356 _ _ ?_)
      refine gw_seq fun K373 hK373 => ?_
      refine wp_region_lit ?_
      refine gw_ev HF372 (want_none rfl) rfl (by decide) (op_move rfl (HF372.ev rfl)) ?_
      intro a374 HF375; clear HF372
      refine gw_ev HF375 (want_none rfl) rfl (by decide) (op_len Try.underlying26 rfl (HF375.ev rfl)) ?_
      intro a376 HF377; clear HF375
      refine gw_ev HF377 (want_none rfl) rfl (by decide) (op_move rfl (HF377.ev rfl)) ?_
      intro a378 HF379; clear HF377
      refine gw_ev HF379 (want_none rfl) rfl (by decide) (op_len Try.underlying26 rfl (HF379.ev rfl)) ?_
      intro a380 HF381; clear HF379
      refine gw_ev HF381 (want_none rfl) rfl (by decide) (op_add rfl (HF381.ev rfl) (HF381.ev rfl) (by (first | omega | ((try have h1_ := putL_len (mn (mx most 1) 2000) (by (first | omega)) all); (try have h2_ := ov_add (mn (mx most 1) 2000) all); (try have h3_ := ovN_le (mn (mx most 1) 2000) 0 all.length); (try have h4_ := ovN_le (mn (mx most 1) 2000) (putL (mn (mx most 1) 2000) [] all).length (l.getD i.toNat []).length); (try have h5_ := ovN_le (mn (mx most 1) 2000) 0 ([] : List Int).length); first | omega | (simp only [List.length_append, List.length_take, List.length_drop, List.length_nil]; omega))))) ?_
      intro a382 HF383; clear HF381
      refine gw_ev HF383 (want_none rfl) rfl (by decide) (op_move rfl (HF383.ev rfl)) ?_
      intro a384 HF385; clear HF383
      refine gw_ev HF385 (want_none rfl) rfl (by decide) (op_len Try.underlying26 rfl (HF385.ev rfl)) ?_
      intro a386 HF387; clear HF385
      refine gw_ev HF387 (want_none rfl) rfl (by decide) (op_eqi rfl (HF387.ev rfl) (HF387.ev rfl)) ?_
      intro a388 HF389; clear HF387
      have HF390 := HF389.lit (b := true) (by rw [decide_eq_true_eq, List.length_take, List.length_drop]; omega)
      clear HF389
      refine gw_ev HF390 (want_none rfl) rfl (by decide) (op_move rfl (HF390.ev rfl)) ?_
      intro a391 HF392; clear HF390
      refine gw_lit (enc := Value.int .u8) (fun _ => rfl) (xs := ([] : List Int)) (e := 5) HF392 HO370 (want_yes HF392 rfl rfl rfl rfl) rfl (by decide) (op_bslice (by kernel_rfl) rfl pt_nil) (by simp) ?_
      intro A393 S394 a395 w396 HF397 HO398; clear HF392 HO370
      have HO399 : Own w w396 [Chunk.row (Kd.int .u8) 5 w.heap.size S394 (.slice A393 ((([] : List Int)).length) ((([] : List Int)).length)) ([] : List Int), Chunk.row (Kd.int .u8) 5 w.heap.size S361 (.slice A359 (((putL (mn (mx most 1) 2000) [] all).drop (mn (mx take 0) (putL (mn (mx most 1) 2000) [] all).length).toNat).length) c360) ((putL (mn (mx most 1) 2000) [] all).drop (mn (mx take 0) (putL (mn (mx most 1) 2000) [] all).length).toNat), Chunk.row (Kd.int .u8) 5 w.heap.size S344 (.slice A341 (((putL (mn (mx most 1) 2000) [] all).take (mn (mx take 0) (putL (mn (mx most 1) 2000) [] all).length).toNat).length) c342) ((putL (mn (mx most 1) 2000) [] all).take (mn (mx take 0) (putL (mn (mx most 1) 2000) [] all).length).toNat), Chunk.row (Kd.int .u8) 5 w.heap.size S258 (.slice A256 ((putL (mn (mx most 1) 2000) ([]) all).length) c257) (putL (mn (mx most 1) 2000) ([]) all), Chunk.row (Kd.int .u8) 5 w.heap.size S244 (.slice A242 ((putL (mn (mx most 1) 2000) [] all).length) c243) (putL (mn (mx most 1) 2000) [] all), Chunk.row (Kd.int .u8) 5 w.heap.size Sr (.slice Aa all.length ca) all, Chunk.buf w.heap.size g19 S206 (mn (mx most 1) 2000) (putL (mn (mx most 1) 2000) ([]) all) (0 + (ovN (mn (mx most 1) 2000) ([]).length all.length : Int)), Chunk.buf w.heap.size g7 Sa (mn (mx most 1) 2000) ((putL (mn (mx most 1) 2000) [] all).drop (mn (mx take 0) (putL (mn (mx most 1) 2000) [] all).length).toNat) (ovN (mn (mx most 1) 2000) 0 all.length : Int)] := HO398
      clear HO398
      refine gw_ev HF397 (want_yes HF397 rfl rfl rfl rfl) rfl (by decide) (op_move rfl (HF397.ev rfl)) ?_
      intro a400 HF401; clear HF397
      refine gw_append (Kd.int .u8) 0 HF401 HO399 (want_yes HF401 rfl rfl rfl rfl) rfl (by decide) rfl Try.underlying26 gwinfo5 rfl (by decide) (by decide) rfl (HF401.ev rfl) (HF401.ev rfl) (Kd.R_reads' (HO399.get 2 rfl)).2.2 (fun _ _ h => h) HO399.below.size (by (first | omega | ((try have h1_ := putL_len (mn (mx most 1) 2000) (by (first | omega)) all); (try have h2_ := ov_add (mn (mx most 1) 2000) all); (try have h3_ := ovN_le (mn (mx most 1) 2000) 0 all.length); (try have h4_ := ovN_le (mn (mx most 1) 2000) (putL (mn (mx most 1) 2000) [] all).length (l.getD i.toNat []).length); (try have h5_ := ovN_le (mn (mx most 1) 2000) 0 ([] : List Int).length); first | omega | (simp only [List.length_append, List.length_take, List.length_drop, List.length_nil]; omega)))) ?_
      intro A402 c403 S404 a405 w406 HF407 HO408; clear HF401 HO399
      have HO409 : Own w w406 [Chunk.row (Kd.int .u8) 5 w.heap.size S404 (.slice A402 ((([] : List Int) ++ ((putL (mn (mx most 1) 2000) [] all).take (mn (mx take 0) (putL (mn (mx most 1) 2000) [] all).length).toNat)).length) c403) (([] : List Int) ++ ((putL (mn (mx most 1) 2000) [] all).take (mn (mx take 0) (putL (mn (mx most 1) 2000) [] all).length).toNat)), Chunk.row (Kd.int .u8) 5 w.heap.size S361 (.slice A359 (((putL (mn (mx most 1) 2000) [] all).drop (mn (mx take 0) (putL (mn (mx most 1) 2000) [] all).length).toNat).length) c360) ((putL (mn (mx most 1) 2000) [] all).drop (mn (mx take 0) (putL (mn (mx most 1) 2000) [] all).length).toNat), Chunk.row (Kd.int .u8) 5 w.heap.size S344 (.slice A341 (((putL (mn (mx most 1) 2000) [] all).take (mn (mx take 0) (putL (mn (mx most 1) 2000) [] all).length).toNat).length) c342) ((putL (mn (mx most 1) 2000) [] all).take (mn (mx take 0) (putL (mn (mx most 1) 2000) [] all).length).toNat), Chunk.row (Kd.int .u8) 5 w.heap.size S258 (.slice A256 ((putL (mn (mx most 1) 2000) ([]) all).length) c257) (putL (mn (mx most 1) 2000) ([]) all), Chunk.row (Kd.int .u8) 5 w.heap.size S244 (.slice A242 ((putL (mn (mx most 1) 2000) [] all).length) c243) (putL (mn (mx most 1) 2000) [] all), Chunk.row (Kd.int .u8) 5 w.heap.size Sr (.slice Aa all.length ca) all, Chunk.buf w.heap.size g19 S206 (mn (mx most 1) 2000) (putL (mn (mx most 1) 2000) ([]) all) (0 + (ovN (mn (mx most 1) 2000) ([]).length all.length : Int)), Chunk.buf w.heap.size g7 Sa (mn (mx most 1) 2000) ((putL (mn (mx most 1) 2000) [] all).drop (mn (mx take 0) (putL (mn (mx most 1) 2000) [] all).length).toNat) (ovN (mn (mx most 1) 2000) 0 all.length : Int)] := HO408
      clear HO408
      refine gw_ev HF407 (want_yes HF407 rfl rfl rfl rfl) rfl (by decide) (op_move rfl (HF407.ev rfl)) ?_
      intro a410 HF411; clear HF407
      refine gw_append (Kd.int .u8) 0 HF411 HO409 (want_yes HF411 rfl rfl rfl rfl) rfl (by decide) rfl Try.underlying26 gwinfo5 rfl (by decide) (by decide) rfl (HF411.ev rfl) (HF411.ev rfl) (Kd.R_reads' (HO409.get 1 rfl)).2.2 (fun _ _ h => h) HO409.below.size (by (first | omega | ((try have h1_ := putL_len (mn (mx most 1) 2000) (by (first | omega)) all); (try have h2_ := ov_add (mn (mx most 1) 2000) all); (try have h3_ := ovN_le (mn (mx most 1) 2000) 0 all.length); (try have h4_ := ovN_le (mn (mx most 1) 2000) (putL (mn (mx most 1) 2000) [] all).length (l.getD i.toNat []).length); (try have h5_ := ovN_le (mn (mx most 1) 2000) 0 ([] : List Int).length); first | omega | (simp only [List.length_append, List.length_take, List.length_drop, List.length_nil]; omega)))) ?_
      intro A412 c413 S414 a415 w416 HF417 HO418; clear HF411 HO409
      have HO419 : Own w w416 [Chunk.row (Kd.int .u8) 5 w.heap.size S414 (.slice A412 (((([] : List Int) ++ ((putL (mn (mx most 1) 2000) [] all).take (mn (mx take 0) (putL (mn (mx most 1) 2000) [] all).length).toNat)) ++ ((putL (mn (mx most 1) 2000) [] all).drop (mn (mx take 0) (putL (mn (mx most 1) 2000) [] all).length).toNat)).length) c413) ((([] : List Int) ++ ((putL (mn (mx most 1) 2000) [] all).take (mn (mx take 0) (putL (mn (mx most 1) 2000) [] all).length).toNat)) ++ ((putL (mn (mx most 1) 2000) [] all).drop (mn (mx take 0) (putL (mn (mx most 1) 2000) [] all).length).toNat)), Chunk.row (Kd.int .u8) 5 w.heap.size S361 (.slice A359 (((putL (mn (mx most 1) 2000) [] all).drop (mn (mx take 0) (putL (mn (mx most 1) 2000) [] all).length).toNat).length) c360) ((putL (mn (mx most 1) 2000) [] all).drop (mn (mx take 0) (putL (mn (mx most 1) 2000) [] all).length).toNat), Chunk.row (Kd.int .u8) 5 w.heap.size S344 (.slice A341 (((putL (mn (mx most 1) 2000) [] all).take (mn (mx take 0) (putL (mn (mx most 1) 2000) [] all).length).toNat).length) c342) ((putL (mn (mx most 1) 2000) [] all).take (mn (mx take 0) (putL (mn (mx most 1) 2000) [] all).length).toNat), Chunk.row (Kd.int .u8) 5 w.heap.size S258 (.slice A256 ((putL (mn (mx most 1) 2000) ([]) all).length) c257) (putL (mn (mx most 1) 2000) ([]) all), Chunk.row (Kd.int .u8) 5 w.heap.size S244 (.slice A242 ((putL (mn (mx most 1) 2000) [] all).length) c243) (putL (mn (mx most 1) 2000) [] all), Chunk.row (Kd.int .u8) 5 w.heap.size Sr (.slice Aa all.length ca) all, Chunk.buf w.heap.size g19 S206 (mn (mx most 1) 2000) (putL (mn (mx most 1) 2000) ([]) all) (0 + (ovN (mn (mx most 1) 2000) ([]).length all.length : Int)), Chunk.buf w.heap.size g7 Sa (mn (mx most 1) 2000) ((putL (mn (mx most 1) 2000) [] all).drop (mn (mx take 0) (putL (mn (mx most 1) 2000) [] all).length).toNat) (ovN (mn (mx most 1) 2000) 0 all.length : Int)] := HO418
      clear HO418
      refine gw_ev HF417 (want_yes HF417 rfl rfl rfl rfl) rfl (by decide) (op_move rfl (HF417.ev rfl)) ?_
      intro a420 HF421; clear HF417
      refine gw_call HF421 (want_yes HF421 rfl rfl rfl rfl) rfl (by decide) (op_callL Try.func18 (by kernel_rfl) rfl rfl (ar_cons (HF421.ev rfl) (ar_cons (HF421.ev rfl) ar_nil))) (same_calls A412 c413 ((([] : List Int) ++ ((putL (mn (mx most 1) 2000) [] all).take (mn (mx take 0) (putL (mn (mx most 1) 2000) [] all).length).toNat)) ++ ((putL (mn (mx most 1) 2000) [] all).drop (mn (mx take 0) (putL (mn (mx most 1) 2000) [] all).length).toNat)) A242 c243 (putL (mn (mx most 1) 2000) [] all) _ (Kd.R_reads' (HO419.get 0 rfl)).2.2 (row_cap (HO419.get 0 rfl)) (Kd.R_reads' (HO419.get 4 rfl)).2.2 (row_cap (HO419.get 4 rfl)) (by (first | omega | ((try have h1_ := putL_len (mn (mx most 1) 2000) (by (first | omega)) all); (try have h2_ := ov_add (mn (mx most 1) 2000) all); (try have h3_ := ovN_le (mn (mx most 1) 2000) 0 all.length); (try have h4_ := ovN_le (mn (mx most 1) 2000) (putL (mn (mx most 1) 2000) [] all).length (l.getD i.toNat []).length); (try have h5_ := ovN_le (mn (mx most 1) 2000) 0 ([] : List Int).length); first | omega | (simp only [List.length_append, List.length_take, List.length_drop, List.length_nil]; omega))))) ?_
      rintro e422 w423 ⟨rfl, hb424⟩
      refine ⟨_, rfl, fun a425 HF426 => ?_⟩
      have HO427 := HO419.after hb424
      clear HF421 HO419 hb424
      have HF429 := HF426.lit (b := true) (by simp)
      clear HF426
      refine gw_ev HF429 (want_none rfl) rfl (by decide) (op_pick_t rfl (HF429.ev rfl) (HF429.ev rfl)) ?_
      intro a430 HF431; clear HF429
      refine gw_ev HF431 (want_none rfl) rfl (by decide) (op_move rfl (HF431.ev rfl)) ?_
      intro a432 HF433; clear HF431
      refine gw_ev HF433 (want_yes HF433 rfl rfl rfl rfl) rfl (by decide) (op_move rfl (HF433.ev rfl)) ?_
      intro a434 HF435; clear HF433
      refine gw_ev HF435 (want_yes HF435 rfl rfl rfl rfl) rfl (by decide) (op_len Try.underlying26 rfl (HF435.ev rfl)) ?_
      intro a436 HF437; clear HF435
      refine gw_ev HF437 (want_yes HF437 rfl rfl rfl rfl) rfl (by decide) (op_move rfl (HF437.ev rfl)) ?_
      intro a438 HF439; clear HF437
      refine gw_ev HF439 (want_yes HF439 rfl rfl rfl rfl) rfl (by decide) (op_max rfl (HF439.ev rfl) (ev_c _ _)) ?_
      intro a440 HF441; clear HF439
      refine gw_ev HF441 (want_yes HF441 rfl rfl rfl rfl) rfl (by decide) (op_move rfl (HF441.ev rfl)) ?_
      intro a442 HF443; clear HF441
      refine gw_ev HF443 (want_yes HF443 rfl rfl rfl rfl) rfl (by decide) (op_len Try.underlying26 rfl (HF443.ev rfl)) ?_
      intro a444 HF445; clear HF443
      refine gw_ev HF445 (want_yes HF445 rfl rfl rfl rfl) rfl (by decide) (op_min rfl (HF445.ev rfl) (HF445.ev rfl)) ?_
      intro a446 HF447; clear HF445
      refine gw_ev HF447 (want_yes HF447 rfl rfl rfl rfl) rfl (by decide) (op_eqi rfl (HF447.ev rfl) (HF447.ev rfl)) ?_
      intro a448 HF449; clear HF447
      have HF450 := HF449.lit (b := true) (by rw [decide_eq_true_eq, List.length_take]; unfold mn mx; (repeat' split) <;> omega)
      clear HF449
      refine gw_ev HF450 (want_none rfl) rfl (by decide) (op_pick_t rfl (HF450.ev rfl) (HF450.ev rfl)) ?_
      intro a451 HF452; clear HF450
      refine gw_ev HF452 (want_none rfl) rfl (by decide) (op_assign rfl (HF452.ev rfl)) ?_
      intro a453 HF454; clear HF452
      refine wpList_nil ?_
      refine gw_nx (hK373 _ _ ?_)
      refine wp_ret ?_
      refine gw_ret1 HF454 rfl rfl ?_
      exact ⟨rfl, HO427.below⟩
end GBufParts_
def colloquylaw11_BufParts.f (a0 : Int) (l1 : List (List Int)) (a2 : Int) : Option Bool := if l1.length ≤ 9223372036854775807 then some true else none
theorem colloquylaw11_BufParts.calls (a0 : Int) (A1 : Option Addr) (c1 : Nat) (l1 : List (List Int)) (a2 : Int) (r : Bool) (w : World) (hr1 : Kd.C (Kd.slice 5 (Kd.int .u8)) w A1 l1.length l1) (hc1 : l1.length ≤ c1) (h : colloquylaw11_BufParts.f a0 l1 a2 = some r) :
    Calls Try.prog 4 #[(.int .i64 a0), (.slice A1 l1.length c1), (.int .i64 a2)] w fun e w' => e = .returned (.bool r) ∧ Below w.heap.size w w' := by
  unfold colloquylaw11_BufParts.f at h
  split at h
  · cases h; exact GBufParts_.BufParts_calls a0 A1 c1 l1 a2 w hr1 hc1 (by assumption)
  · cases h
end Go.Proofs.Ytbnoedefkbnpjaa.PA
