/- BufTakes. Printed by a program of this session; Lean checks it. -/
import Derived.Test.YtbnoedefkbnpjaaGBufAlive
import Derived.Test.YtbnoedefkbnpjaaHBufPure
import Derived.Test.YtbnoedefkbnpjaaHGw2
namespace Go.Proofs.Ytbnoedefkbnpjaa.PA
open Go.RowKit Go.Proofs.YtbnoedefkbnpjaaW.PrintWords Go.Proofs.YtbnoedefkbnpjaaW.PrintLast Go.Proofs.YtbnoedefkbnpjaaW.PrintMore
set_option linter.unusedVariables false
set_option linter.unusedSimpArgs false
namespace GBufTakes_
theorem gwagg3 : ∀ w, (isAgg 3).run Try.prog w = .ok false w := fun _ => by kernel_rfl
theorem gwinfo5 : (Try.prog.info? 5).map (fun i => (i.zero, i.size, i.bytes)) = some (some (.int .u8 0), 1, 1) := by kernel_rfl
theorem gwsiz3 : ∀ w, (sizeOf 3).run Try.prog w = .ok 1 w := fun _ => by kernel_rfl
set_option maxHeartbeats 4000000 in
set_option maxRecDepth 100000 in
theorem BufTakes_calls (most : Int) (A1 : Option Addr) (c1 : Nat) (x : List Int) (A2 : Option Addr) (c2 : Nat) (pieces : List Int) (w : World) (hr1 : Kd.C (Kd.int .u8) w A1 x.length x) (hc1 : x.length ≤ c1) (hr2 : Kd.C (Kd.int .i64) w A2 pieces.length pieces) (hc2 : pieces.length ≤ c2) (hl : pieces.length ≤ 9223372036854775807) :
    Calls Try.prog 5 #[.int .i64 most, .slice A1 x.length c1, .slice A2 pieces.length c2] w fun e w' => e = .returned (.bool true) ∧ Below w.heap.size w w' := by
  have hm : 1 ≤ mn (mx most 1) 2000 ∧ mn (mx most 1) 2000 ≤ 2000 := by unfold mn mx; (repeat' split) <;> omega
  have hd : ∀ R : List Int, R.length ≤ 2000 → (mn (mx 9999 0) R.length).toNat = R.length := by intro R h; have e : mx 9999 0 = (9999 : Int) := rfl; rw [e]; unfold mn; split <;> omega
  refine gw_start (N := 86) (vs := [.int .i64 most, .slice A1 x.length c1, .slice A2 pieces.length c2]) Try.func5 rfl rfl (by simp) fun a HF HO => ?_
  replace HO : Own w w [] := HO
  refine gw_seq fun K1 hK1 => ?_
  refine wp_region_lit ?_
  refine gw_ev HF (want_none rfl) rfl (by decide) (op_assign rfl (ev_c _ _)) ?_
  intro a2 HF3; clear HF
  refine wpList_nil ?_
  refine gw_nx (hK1 _ _ ?_)
  refine gw_seq fun K4 hK4 => ?_
  refine wp_region_lit ?_
  refine gw_ev HF3 (want_none rfl) rfl (by decide) (op_move rfl (HF3.ev rfl)) ?_
  intro a5 HF6; clear HF3
  refine gw_call HF6 (want_none rfl) rfl (by decide) (op_callL Try.func11 (by kernel_rfl) rfl rfl (ar_cons (HF6.ev rfl) ar_nil)) (buf_new0 w.heap.size most _ HO.below.size) ?_
  rintro e9 w10 ⟨g7, S8, rfl, hb11⟩
  refine ⟨_, rfl, fun a12 HF13 => ?_⟩
  have HO14 := HO.fresh hb11
  clear HF6 HO hb11
  have HO16 : Own w w10 [Chunk.buf w.heap.size g7 S8 (mn (mx most 1) 2000) ([] : List Int) 0] := HO14
  clear HO14
  refine gw_ev HF13 (want_none rfl) rfl (by decide) (op_move rfl (HF13.ev rfl)) ?_
  intro a17 HF18; clear HF13
  refine gw_call HF18 (want_none rfl) rfl (by decide) (op_callL Try.func11 (by kernel_rfl) rfl rfl (ar_cons (HF18.ev rfl) ar_nil)) (buf_new0 w.heap.size most _ HO16.below.size) ?_
  rintro e21 w22 ⟨g19, S20, rfl, hb23⟩
  refine ⟨_, rfl, fun a24 HF25 => ?_⟩
  have HO26 := HO16.fresh hb23
  clear HF18 HO16 hb23
  have HO28 : Own w w22 [Chunk.buf w.heap.size g19 S20 (mn (mx most 1) 2000) ([] : List Int) 0, Chunk.buf w.heap.size g7 S8 (mn (mx most 1) 2000) ([] : List Int) 0] := HO26
  clear HO26
  refine gw_ev HF25 (want_none rfl) rfl (by decide) (op_assign rfl (HF25.ev rfl)) ?_
  intro a29 HF30; clear HF25
  refine gw_ev HF30 (want_none rfl) rfl (by decide) (op_assign rfl (HF30.ev rfl)) ?_
  intro a31 HF32; clear HF30
  refine wpList_nil ?_
  refine gw_nx (hK4 _ _ ?_)
  refine gw_seq fun K33 hK33 => ?_
  refine gw_seq fun K34 hK34 => ?_
  refine wp_region_lit ?_
  refine gw_ev HF32 (want_none rfl) rfl (by decide) (op_move rfl (HF32.ev rfl)) ?_
  intro a35 HF36; clear HF32
  refine gw_ev HF36 (want_none rfl) rfl (by decide) (op_eqp_nil Try.underlying23 rfl (HF36.ev rfl)) ?_
  intro a37 HF38; clear HF36
  refine gw_ev HF38 (want_none rfl) rfl (by decide) (op_move rfl (HF38.ev rfl)) ?_
  intro a39 HF40; clear HF38
  refine gw_ev HF40 (want_yes HF40 rfl rfl rfl rfl) rfl (by decide) (op_move rfl (HF40.ev rfl)) ?_
  intro a41 HF42; clear HF40
  refine gw_ev HF42 (want_yes HF42 rfl rfl rfl rfl) rfl (by decide) (op_eqp_nil Try.underlying23 rfl (HF42.ev rfl)) ?_
  intro a43 HF44; clear HF42
  refine gw_ev HF44 (want_none rfl) rfl (by decide) (op_pick_f rfl (HF44.ev rfl) (HF44.ev rfl)) ?_
  intro a45 HF46; clear HF44
  refine gw_ev HF46 (want_none rfl) rfl (by decide) (op_move rfl (HF46.ev rfl)) ?_
  intro a47 HF48; clear HF46
  refine gw_call HF48 (want_yes HF48 rfl rfl rfl rfl) rfl (by decide) (op_callL Try.func12 (by kernel_rfl) rfl rfl ar_nil) (GBufAlive_.alive_calls _) ?_
  rintro e49 w50 ⟨rfl, hb51⟩
  refine ⟨_, rfl, fun a52 HF53 => ?_⟩
  have HO54 := HO28.after hb51
  clear HF48 HO28 hb51
  refine gw_ev HF53 (want_yes HF53 rfl rfl rfl rfl) rfl (by decide) (op_not rfl (HF53.ev rfl)) ?_
  intro a56 HF57; clear HF53
  refine gw_ev HF57 (want_none rfl) rfl (by decide) (op_pick_f rfl (HF57.ev rfl) (HF57.ev rfl)) ?_
  intro a58 HF59; clear HF57
  refine wpList_nil ?_
  refine gw_nx (hK34 _ _ ?_)
  refine gw_cond HF59 rfl (fun hb60 => ?_) (fun hb60 => ?_)
  skip
  · cases hb60
  refine wp_skip ?_
  refine gw_nx (hK33 _ _ ?_)
  refine gw_seq fun K61 hK61 => ?_
  refine gw_seq fun K62 hK62 => ?_
  refine wp_region_lit ?_
  refine gw_ev HF59 (want_none rfl) rfl (by decide) (op_move rfl (HF59.ev rfl)) ?_
  intro a63 HF64; clear HF59
  refine gw_ev HF64 (want_none rfl) rfl (by decide) (op_len Try.underlying26 rfl (HF64.ev rfl)) ?_
  intro a65 HF66; clear HF64
  refine gw_ev HF66 (want_none rfl) rfl (by decide) (op_gtr rfl (HF66.ev rfl) (ev_c _ _)) ?_
  intro a67 HF68; clear HF66
  refine wpList_nil ?_
  refine gw_nx (hK62 _ _ ?_)
  refine gw_cond HF68 rfl (fun hb69 => ?_) (fun hb69 => ?_)
  · skip
    have HF70 := HF68.subst_ (d := 29) (b := true) rfl hb69
    clear HF68
    (try simp only [decide_eq_true_eq, decide_eq_false_iff_not, Bool.not_eq_true', Bool.not_eq_false', Bool.not_eq_true, Bool.not_eq_false, ne_eq, Decidable.not_not, Int.not_lt, Int.not_le, not_true_eq_false, not_false_eq_true, bne_iff_ne, beq_iff_eq, bne_eq_false_iff_eq, beq_eq_false_iff_ne] at hb69)
    refine gw_seq fun K71 hK71 => ?_
    refine wp_region_lit ?_
    refine gw_ev HF70 (want_none rfl) rfl (by decide) (op_assign rfl (ev_c _ _)) ?_
    intro a72 HF73; clear HF70
    refine wpList_nil ?_
    refine gw_nx (hK71 _ _ ?_)
    refine wp_ret ?_
    refine gw_thr ?_
    refine gw_ret1 HF73 rfl rfl ?_
    exact ⟨rfl, HO54.below⟩
  · skip
    have HF74 := HF68.subst_ (d := 29) (b := false) rfl hb69
    clear HF68
    (try simp only [decide_eq_true_eq, decide_eq_false_iff_not, Bool.not_eq_true', Bool.not_eq_false', Bool.not_eq_true, Bool.not_eq_false, ne_eq, Decidable.not_not, Int.not_lt, Int.not_le, not_true_eq_false, not_false_eq_true, bne_iff_ne, beq_iff_eq, bne_eq_false_iff_eq, beq_eq_false_iff_ne] at hb69)
    refine wp_skip ?_
    refine gw_nx (hK61 _ _ ?_)
    refine gw_seq fun K75 hK75 => ?_
    refine wp_region_lit ?_
    refine gw_ev HF74 (want_none rfl) rfl (by decide) (op_move rfl (HF74.ev rfl)) ?_
    intro a76 HF77; clear HF74
    refine gw_ev HF77 (want_none rfl) rfl (by decide) (op_move rfl (HF77.ev rfl)) ?_
    intro a78 HF79; clear HF77
    refine gw_call HF79 (want_none rfl) rfl (by decide) (op_callL Try.func14 (by kernel_rfl) rfl rfl (ar_cons (HF79.ev rfl) (ar_cons (HF79.ev rfl) ar_nil))) (buf_put w.heap.size g7 S8 (mn (mx most 1) 2000) ([] : List Int) 0 A1 c1 x _ (HO54.get 1 rfl) (fun k hk => (HO54.lt 1 rfl hk).2) HO54.below.size (Kd.C_below hr1 HO54.below) hc1 (arg_out HO54 hr1 1 rfl) (by (first | omega | ((try have h1_ := putL_len (mn (mx most 1) 2000) (by (first | omega)) x); (try have h2_ := ovN_le (mn (mx most 1) 2000) 0 x.length); (try have h3_ := ovN_le (mn (mx most 1) 2000) ([] : List Int).length x.length); first | omega | (simp only [List.length_append, List.length_take, List.length_drop, List.length_nil]; omega)))) (by (first | omega | ((try have h1_ := putL_len (mn (mx most 1) 2000) (by (first | omega)) x); (try have h2_ := ovN_le (mn (mx most 1) 2000) 0 x.length); (try have h3_ := ovN_le (mn (mx most 1) 2000) ([] : List Int).length x.length); first | omega | (simp only [List.length_append, List.length_take, List.length_drop, List.length_nil]; omega)))) (by (first | omega | ((try have h1_ := putL_len (mn (mx most 1) 2000) (by (first | omega)) x); (try have h2_ := ovN_le (mn (mx most 1) 2000) 0 x.length); (try have h3_ := ovN_le (mn (mx most 1) 2000) ([] : List Int).length x.length); first | omega | (simp only [List.length_append, List.length_take, List.length_drop, List.length_nil]; omega)))) (by (first | omega | ((try have h1_ := putL_len (mn (mx most 1) 2000) (by (first | omega)) x); (try have h2_ := ovN_le (mn (mx most 1) 2000) 0 x.length); (try have h3_ := ovN_le (mn (mx most 1) 2000) ([] : List Int).length x.length); first | omega | (simp only [List.length_append, List.length_take, List.length_drop, List.length_nil]; omega))))) ?_
    rintro e81 w82 ⟨S80, rfl, hb83⟩
    refine ⟨_, rfl, fun a84 HF85 => ?_⟩
    have HO86 := HO54.calls 1 rfl hb83
    clear HF79 HO54 hb83
    have HO88 : Own w w82 [Chunk.buf w.heap.size g19 S20 (mn (mx most 1) 2000) ([] : List Int) 0, Chunk.buf w.heap.size g7 S80 (mn (mx most 1) 2000) (putL (mn (mx most 1) 2000) ([] : List Int) x) (0 + (ovN (mn (mx most 1) 2000) ([] : List Int).length x.length : Int))] := HO86
    clear HO86
    refine wpList_nil ?_
    refine gw_nx (hK75 _ _ ?_)
    refine gw_seq fun K89 hK89 => ?_
    refine wp_region_lit ?_
    refine gw_ev HF85 (want_none rfl) rfl (by decide) (op_move rfl (HF85.ev rfl)) ?_
    intro a90 HF91; clear HF85
    refine gw_ev HF91 (want_none rfl) rfl (by decide) (op_move rfl (HF91.ev rfl)) ?_
    intro a92 HF93; clear HF91
    refine gw_call HF93 (want_none rfl) rfl (by decide) (op_callL Try.func14 (by kernel_rfl) rfl rfl (ar_cons (HF93.ev rfl) (ar_cons (HF93.ev rfl) ar_nil))) (buf_put w.heap.size g19 S20 (mn (mx most 1) 2000) ([] : List Int) 0 A1 c1 x _ (HO88.get 0 rfl) (fun k hk => (HO88.lt 0 rfl hk).2) HO88.below.size (Kd.C_below hr1 HO88.below) hc1 (arg_out HO88 hr1 0 rfl) (by (first | omega | ((try have h1_ := putL_len (mn (mx most 1) 2000) (by (first | omega)) x); (try have h2_ := ovN_le (mn (mx most 1) 2000) 0 x.length); (try have h3_ := ovN_le (mn (mx most 1) 2000) ([] : List Int).length x.length); first | omega | (simp only [List.length_append, List.length_take, List.length_drop, List.length_nil]; omega)))) (by (first | omega | ((try have h1_ := putL_len (mn (mx most 1) 2000) (by (first | omega)) x); (try have h2_ := ovN_le (mn (mx most 1) 2000) 0 x.length); (try have h3_ := ovN_le (mn (mx most 1) 2000) ([] : List Int).length x.length); first | omega | (simp only [List.length_append, List.length_take, List.length_drop, List.length_nil]; omega)))) (by (first | omega | ((try have h1_ := putL_len (mn (mx most 1) 2000) (by (first | omega)) x); (try have h2_ := ovN_le (mn (mx most 1) 2000) 0 x.length); (try have h3_ := ovN_le (mn (mx most 1) 2000) ([] : List Int).length x.length); first | omega | (simp only [List.length_append, List.length_take, List.length_drop, List.length_nil]; omega)))) (by (first | omega | ((try have h1_ := putL_len (mn (mx most 1) 2000) (by (first | omega)) x); (try have h2_ := ovN_le (mn (mx most 1) 2000) 0 x.length); (try have h3_ := ovN_le (mn (mx most 1) 2000) ([] : List Int).length x.length); first | omega | (simp only [List.length_append, List.length_take, List.length_drop, List.length_nil]; omega))))) ?_
    rintro e95 w96 ⟨S94, rfl, hb97⟩
    refine ⟨_, rfl, fun a98 HF99 => ?_⟩
    have HO100 := HO88.calls 0 rfl hb97
    clear HF93 HO88 hb97
    have HO102 : Own w w96 [Chunk.buf w.heap.size g19 S94 (mn (mx most 1) 2000) (putL (mn (mx most 1) 2000) ([] : List Int) x) (0 + (ovN (mn (mx most 1) 2000) ([] : List Int).length x.length : Int)), Chunk.buf w.heap.size g7 S80 (mn (mx most 1) 2000) (putL (mn (mx most 1) 2000) ([] : List Int) x) (0 + (ovN (mn (mx most 1) 2000) ([] : List Int).length x.length : Int))] := HO100
    clear HO100
    refine wpList_nil ?_
    refine gw_nx (hK89 _ _ ?_)
    refine gw_seq fun K103 hK103 => ?_
    refine wp_region_lit ?_
    refine gw_lit (enc := Value.int .u8) (fun _ => rfl) (xs := ([] : List Int)) (e := 5) HF99 HO102 (want_none rfl) rfl (by decide) (op_bslice (by kernel_rfl) rfl pt_nil) (by simp) ?_
    intro A104 S105 a106 w107 HF108 HO109; clear HF99 HO102
    have HO110 : Own w w107 [Chunk.row (Kd.int .u8) 5 w.heap.size S105 (.slice A104 ((([] : List Int)).length) ((([] : List Int)).length)) ([] : List Int), Chunk.buf w.heap.size g19 S94 (mn (mx most 1) 2000) (putL (mn (mx most 1) 2000) ([] : List Int) x) (0 + (ovN (mn (mx most 1) 2000) ([] : List Int).length x.length : Int)), Chunk.buf w.heap.size g7 S80 (mn (mx most 1) 2000) (putL (mn (mx most 1) 2000) ([] : List Int) x) (0 + (ovN (mn (mx most 1) 2000) ([] : List Int).length x.length : Int))] := HO109
    clear HO109
    refine gw_ev HF108 (want_none rfl) rfl (by decide) (op_assign rfl (HF108.ev rfl)) ?_
    intro a111 HF112; clear HF108
    refine wpList_nil ?_
    refine gw_nx (hK103 _ _ ?_)
    refine gw_seq fun K113 hK113 => ?_
    refine gw_seq fun K114 hK114 => ?_
    refine wp_region_lit ?_
    refine gw_ev HF112 (want_none rfl) rfl (by decide) (op_move rfl (HF112.ev rfl)) ?_
    intro a115 HF116; clear HF112
    refine gw_ev HF116 (want_none rfl) rfl (by decide) (op_len Try.underlying44 rfl (HF116.ev rfl)) ?_
    intro a117 HF118; clear HF116
    refine gw_ev HF118 (want_none rfl) rfl (by decide) (op_move rfl (ev_c _ _)) ?_
    intro a119 HF120; clear HF118
    refine wpList_nil ?_
    refine gw_nx (hK114 _ _ ?_)
    refine wp_block ?_
    refine gw_loop (fun m_ a_ w_ => ∃ (i : Int) (G : List Int) (R : List Int) (Sa : Nat → Prop) (Aa : Option Addr) (ca : Nat) (Sr : Nat → Prop), Fr 86 a_ [(39, .int .i64 i), (9, .slice Aa G.length ca), (6, .bool false), (7, .pointer (some ⟨g7, 0, none⟩)), (8, .pointer (some ⟨g19, 0, none⟩)), (37, .slice A2 pieces.length c2), (38, .int .i64 (pieces.length : Int))] ∧ Own w w_ [Chunk.row (Kd.int .u8) 5 w.heap.size Sr (.slice Aa G.length ca) G, Chunk.buf w.heap.size g19 S94 (mn (mx most 1) 2000) (putL (mn (mx most 1) 2000) ([] : List Int) x) (0 + (ovN (mn (mx most 1) 2000) ([] : List Int).length x.length : Int)), Chunk.buf w.heap.size g7 Sa (mn (mx most 1) 2000) R (0 + (ovN (mn (mx most 1) 2000) ([] : List Int).length x.length : Int))] ∧ (0 ≤ i ∧ i ≤ pieces.length) ∧ (G ++ R = putL (mn (mx most 1) 2000) [] x) ∧ m_ = (pieces.length - i.toNat)) ((pieces.length - (0 : Int).toNat)) ?_ ?_
    · refine ⟨0, [], putL (mn (mx most 1) 2000) ([] : List Int) x, S80, A104, _, _, (HF120.pick (t := 39) rfl (HF120.pick (t := 9) rfl (HF120.pick (t := 6) rfl (HF120.pick (t := 7) rfl (HF120.pick (t := 8) rfl (HF120.pick (t := 37) rfl (HF120.pick (t := 38) rfl HF120.nil))))))), HO110.sel [0, 1, 2] (by decide), ?_, ?_, rfl⟩
      · omega
      · rfl
    · rintro m122 a123 w124 ⟨i, G, R, Sa, Aa, ca, Sr, HF125, HO126, hi, hGR, hm127⟩
      have hlen : G.length + R.length = (putL (mn (mx most 1) 2000) [] x).length := by rw [← hGR, List.length_append]
      refine gw_seq fun K128 hK128 => ?_
      refine wp_region_lit ?_
      refine gw_ev HF125 (want_none rfl) rfl (by decide) (op_lss rfl (HF125.ev rfl) (HF125.ev rfl)) ?_
      intro a129 HF130; clear HF125
      refine wpList_nil ?_
      refine gw_nx (hK128 _ _ ?_)
      refine gw_seq fun K131 hK131 => ?_
      refine gw_cond HF130 rfl (fun hb132 => ?_) (fun hb132 => ?_)
      · skip
        have HF133 := HF130.subst_ (d := 40) (b := true) rfl hb132
        clear HF130
        (try simp only [decide_eq_true_eq, decide_eq_false_iff_not, Bool.not_eq_true', Bool.not_eq_false', Bool.not_eq_true, Bool.not_eq_false, ne_eq, Decidable.not_not, Int.not_lt, Int.not_le, not_true_eq_false, not_false_eq_true, bne_iff_ne, beq_iff_eq, bne_eq_false_iff_eq, beq_eq_false_iff_ne] at hb132)
        refine wp_skip ?_
        refine gw_nx (hK131 _ _ ?_)
        refine gw_seq fun K134 hK134 => ?_
        refine wp_block ?_
        refine gw_seq fun K135 hK135 => ?_
        refine wp_region_lit ?_
        refine gw_ev HF133 (want_none rfl) rfl (by decide) (op_move rfl (HF133.ev rfl)) ?_
        intro a136 HF137; clear HF133
        obtain ⟨ad138, cs141, hA139, hl142, hK143, hc140⟩ := Kd.C_get hr2 (0 : Int) i (by (first | omega | ((try have h1_ := putL_len (mn (mx most 1) 2000) (by (first | omega)) x); (try have h2_ := ovN_le (mn (mx most 1) 2000) 0 x.length); (try have h3_ := ovN_le (mn (mx most 1) 2000) ([] : List Int).length x.length); first | omega | (simp only [List.length_append, List.length_take, List.length_drop, List.length_nil]; omega)))) (by (first | omega | ((try have h1_ := putL_len (mn (mx most 1) 2000) (by (first | omega)) x); (try have h2_ := ovN_le (mn (mx most 1) 2000) 0 x.length); (try have h3_ := ovN_le (mn (mx most 1) 2000) ([] : List Int).length x.length); first | omega | (simp only [List.length_append, List.length_take, List.length_drop, List.length_nil]; omega))))
        obtain rfl := id hK143
        clear hl142
        refine gw_ev HF137 (want_none rfl) rfl (by decide) (op_index Try.underlying44 gwsiz3 rfl (HF137.ev rfl) (HF137.ev rfl) hA139 (⟨by (first | omega | ((try have h1_ := putL_len (mn (mx most 1) 2000) (by (first | omega)) x); (try have h2_ := ovN_le (mn (mx most 1) 2000) 0 x.length); (try have h3_ := ovN_le (mn (mx most 1) 2000) ([] : List Int).length x.length); first | omega | (simp only [List.length_append, List.length_take, List.length_drop, List.length_nil]; omega))), by (first | omega | ((try have h1_ := putL_len (mn (mx most 1) 2000) (by (first | omega)) x); (try have h2_ := ovN_le (mn (mx most 1) 2000) 0 x.length); (try have h3_ := ovN_le (mn (mx most 1) 2000) ([] : List Int).length x.length); first | omega | (simp only [List.length_append, List.length_take, List.length_drop, List.length_nil]; omega)))⟩)) ?_
        intro a144 HF145; clear HF137
        refine gw_ev HF145 (want_none rfl) rfl (by decide) (op_load1 gwagg3 rfl (HF145.ev rfl) (HO126.cell0 (at0 hc140))) ?_
        intro a146 HF147; clear HF145
        refine gw_ev HF147 (want_none rfl) rfl (by decide) (op_assign rfl (HF147.ev rfl)) ?_
        intro a148 HF149; clear HF147
        refine gw_ev HF149 (want_none rfl) rfl (by decide) (op_assign rfl (HF149.ev rfl)) ?_
        intro a150 HF151; clear HF149
        refine wpList_nil ?_
        refine gw_nx (hK135 _ _ ?_)
        refine gw_seq fun K152 hK152 => ?_
        refine wp_region_lit ?_
        refine gw_ev HF151 (want_none rfl) rfl (by decide) (op_move rfl (HF151.ev rfl)) ?_
        intro a153 HF154; clear HF151
        refine gw_ev HF154 (want_none rfl) rfl (by decide) (op_lss rfl (HF154.ev rfl) (ev_c _ _)) ?_
        intro a155 HF156; clear HF154
        refine wpList_nil ?_
        refine gw_nx (hK152 _ _ ?_)
        refine gw_cond HF156 rfl (fun hb157 => ?_) (fun hb157 => ?_)
        · skip
          have HF158 := HF156.subst_ (d := 45) (b := true) rfl hb157
          clear HF156
          (try simp only [decide_eq_true_eq, decide_eq_false_iff_not, Bool.not_eq_true', Bool.not_eq_false', Bool.not_eq_true, Bool.not_eq_false, ne_eq, Decidable.not_not, Int.not_lt, Int.not_le, not_true_eq_false, not_false_eq_true, bne_iff_ne, beq_iff_eq, bne_eq_false_iff_eq, beq_eq_false_iff_ne] at hb157)
          refine wp_region_lit ?_
          refine gw_ev HF158 (want_none rfl) rfl (by decide) (op_move rfl (HF158.ev rfl)) ?_
          intro a159 HF160; clear HF158
          refine gw_ev HF160 (want_none rfl) rfl (by decide) (op_move rfl (HF160.ev rfl)) ?_
          intro a161 HF162; clear HF160
          refine gw_ev HF162 (want_none rfl) rfl (by decide) (op_move rfl (HF162.ev rfl)) ?_
          intro a163 HF164; clear HF162
          refine gw_ev HF164 (want_none rfl) rfl (by decide) (op_and rfl (HF164.ev rfl) (ev_c _ _)) ?_
          intro a165 HF166; clear HF164
          refine gw_call HF166 (want_none rfl) rfl (by decide) (op_callL Try.func16 (by kernel_rfl) rfl rfl (ar_cons (HF166.ev rfl) (ar_cons (HF166.ev rfl) ar_nil))) (buf_take0 w.heap.size g7 Sa (mn (mx most 1) 2000) R (0 + (ovN (mn (mx most 1) 2000) ([] : List Int).length x.length : Int)) (bits .and .i64 (pieces.getD i.toNat (0 : Int)) 15) _ (HO126.get 2 rfl) (by (first | omega | ((try have h1_ := putL_len (mn (mx most 1) 2000) (by (first | omega)) x); (try have h2_ := ovN_le (mn (mx most 1) 2000) 0 x.length); (try have h3_ := ovN_le (mn (mx most 1) 2000) ([] : List Int).length x.length); first | omega | (simp only [List.length_append, List.length_take, List.length_drop, List.length_nil]; omega)))) (fun k hk => (HO126.lt 2 rfl hk).2)) ?_
          rintro e171 w172 ⟨A167, c168, S170, rfl, hb173⟩
          refine ⟨_, rfl, fun a174 HF175 => ?_⟩
          have HO176 := HO126.calls 2 rfl hb173
          have hbel177 := HO126.below
          clear HF166 HO126 hb173
          have HO178 := HO176.lowrow 0 rfl (base' := w.heap.size) (Below.size hbel177)
          have HO179 : Own w w172 [Chunk.row (Kd.int .u8) 5 w.heap.size S170 (.slice A167 ((R.take (mn (mx (bits .and .i64 (pieces.getD i.toNat (0 : Int)) 15) 0) R.length).toNat).length) c168) (R.take (mn (mx (bits .and .i64 (pieces.getD i.toNat (0 : Int)) 15) 0) R.length).toNat), Chunk.row (Kd.int .u8) 5 w.heap.size Sr (.slice Aa G.length ca) G, Chunk.buf w.heap.size g19 S94 (mn (mx most 1) 2000) (putL (mn (mx most 1) 2000) ([] : List Int) x) (0 + (ovN (mn (mx most 1) 2000) ([] : List Int).length x.length : Int)), Chunk.buf w.heap.size g7 Sa (mn (mx most 1) 2000) (R.drop (mn (mx (bits .and .i64 (pieces.getD i.toNat (0 : Int)) 15) 0) R.length).toNat) (0 + (ovN (mn (mx most 1) 2000) ([] : List Int).length x.length : Int))] := HO178
          clear HO178
          refine gw_append (Kd.int .u8) 1 HF175 HO179 (want_none rfl) rfl (by decide) rfl Try.underlying26 gwinfo5 rfl (by decide) (by decide) rfl (HF175.ev rfl) (HF175.ev rfl) (Kd.R_reads' (HO179.get 0 rfl)).2.2 (fun _ _ h => h) HO179.below.size (by (first | omega | ((try have h1_ := putL_len (mn (mx most 1) 2000) (by (first | omega)) x); (try have h2_ := ovN_le (mn (mx most 1) 2000) 0 x.length); (try have h3_ := ovN_le (mn (mx most 1) 2000) ([] : List Int).length x.length); first | omega | (simp only [List.length_append, List.length_take, List.length_drop, List.length_nil]; omega)))) ?_
          intro A180 c181 S182 a183 w184 HF185 HO186; clear HF175 HO179
          have HO187 : Own w w184 [Chunk.row (Kd.int .u8) 5 w.heap.size S170 (.slice A167 ((R.take (mn (mx (bits .and .i64 (pieces.getD i.toNat (0 : Int)) 15) 0) R.length).toNat).length) c168) (R.take (mn (mx (bits .and .i64 (pieces.getD i.toNat (0 : Int)) 15) 0) R.length).toNat), Chunk.row (Kd.int .u8) 5 w.heap.size S182 (.slice A180 ((G ++ (R.take (mn (mx (bits .and .i64 (pieces.getD i.toNat (0 : Int)) 15) 0) R.length).toNat)).length) c181) (G ++ (R.take (mn (mx (bits .and .i64 (pieces.getD i.toNat (0 : Int)) 15) 0) R.length).toNat)), Chunk.buf w.heap.size g19 S94 (mn (mx most 1) 2000) (putL (mn (mx most 1) 2000) ([] : List Int) x) (0 + (ovN (mn (mx most 1) 2000) ([] : List Int).length x.length : Int)), Chunk.buf w.heap.size g7 Sa (mn (mx most 1) 2000) (R.drop (mn (mx (bits .and .i64 (pieces.getD i.toNat (0 : Int)) 15) 0) R.length).toNat) (0 + (ovN (mn (mx most 1) 2000) ([] : List Int).length x.length : Int))] := HO186
          clear HO186
          refine gw_ev HF185 (want_none rfl) rfl (by decide) (op_assign rfl (HF185.ev rfl)) ?_
          intro a188 HF189; clear HF185
          refine wpList_nil ?_
          refine gw_blk ?_
          refine gw_nx (hK134 _ _ ?_)
          refine wp_region_lit ?_
          refine gw_ev HF189 (want_none rfl) rfl (by decide) (op_add rfl (HF189.ev rfl) (ev_c _ _) (by (first | omega | ((try have h1_ := putL_len (mn (mx most 1) 2000) (by (first | omega)) x); (try have h2_ := ovN_le (mn (mx most 1) 2000) 0 x.length); (try have h3_ := ovN_le (mn (mx most 1) 2000) ([] : List Int).length x.length); first | omega | (simp only [List.length_append, List.length_take, List.length_drop, List.length_nil]; omega))))) ?_
          intro a190 HF191; clear HF189
          refine gw_ev HF191 (want_none rfl) rfl (by decide) (op_move rfl (HF191.ev rfl)) ?_
          intro a192 HF193; clear HF191
          refine wpList_nil ?_
          refine gw_nx ⟨_, ?_, i + 1, (G ++ (R.take (mn (mx (bits .and .i64 (pieces.getD i.toNat (0 : Int)) 15) 0) R.length).toNat)), (R.drop (mn (mx (bits .and .i64 (pieces.getD i.toNat (0 : Int)) 15) 0) R.length).toNat), Sa, A180, _, _, (HF193.pick (t := 39) rfl (HF193.pick (t := 9) rfl (HF193.pick (t := 6) rfl (HF193.pick (t := 7) rfl (HF193.pick (t := 8) rfl (HF193.pick (t := 37) rfl (HF193.pick (t := 38) rfl HF193.nil))))))), HO187.sel [1, 2, 3] (by decide), ?_, ?_, rfl⟩
          · rw [hm127]; omega
          · omega
          · first | exact hGR | (rw [List.append_assoc, List.take_append_drop]; exact hGR)
        · skip
          have HF194 := HF156.subst_ (d := 45) (b := false) rfl hb157
          clear HF156
          (try simp only [decide_eq_true_eq, decide_eq_false_iff_not, Bool.not_eq_true', Bool.not_eq_false', Bool.not_eq_true, Bool.not_eq_false, ne_eq, Decidable.not_not, Int.not_lt, Int.not_le, not_true_eq_false, not_false_eq_true, bne_iff_ne, beq_iff_eq, bne_eq_false_iff_eq, beq_eq_false_iff_ne] at hb157)
          refine wp_skip ?_
          refine gw_blk ?_
          refine gw_nx (hK134 _ _ ?_)
          refine wp_region_lit ?_
          refine gw_ev HF194 (want_none rfl) rfl (by decide) (op_add rfl (HF194.ev rfl) (ev_c _ _) (by (first | omega | ((try have h1_ := putL_len (mn (mx most 1) 2000) (by (first | omega)) x); (try have h2_ := ovN_le (mn (mx most 1) 2000) 0 x.length); (try have h3_ := ovN_le (mn (mx most 1) 2000) ([] : List Int).length x.length); first | omega | (simp only [List.length_append, List.length_take, List.length_drop, List.length_nil]; omega))))) ?_
          intro a195 HF196; clear HF194
          refine gw_ev HF196 (want_none rfl) rfl (by decide) (op_move rfl (HF196.ev rfl)) ?_
          intro a197 HF198; clear HF196
          refine wpList_nil ?_
          refine gw_nx ⟨_, ?_, i + 1, G, R, Sa, Aa, _, _, (HF198.pick (t := 39) rfl (HF198.pick (t := 9) rfl (HF198.pick (t := 6) rfl (HF198.pick (t := 7) rfl (HF198.pick (t := 8) rfl (HF198.pick (t := 37) rfl (HF198.pick (t := 38) rfl HF198.nil))))))), HO126.sel [0, 1, 2] (by decide), ?_, ?_, rfl⟩
          · rw [hm127]; omega
          · omega
          · first | exact hGR | (rw [List.append_assoc, List.take_append_drop]; exact hGR)
      · skip
        have HF199 := HF130.subst_ (d := 40) (b := false) rfl hb132
        clear HF130
        (try simp only [decide_eq_true_eq, decide_eq_false_iff_not, Bool.not_eq_true', Bool.not_eq_false', Bool.not_eq_true, Bool.not_eq_false, ne_eq, Decidable.not_not, Int.not_lt, Int.not_le, not_true_eq_false, not_false_eq_true, bne_iff_ne, beq_iff_eq, bne_eq_false_iff_eq, beq_eq_false_iff_ne] at hb132)
        refine wp_exit ?_
        refine gw_thx ?_
        refine gw_thx ?_
        refine gw_in ?_
        refine gw_nx (hK113 _ _ ?_)
        refine gw_seq fun K200 hK200 => ?_
        refine wp_region_lit ?_
        refine gw_ev HF199 (want_none rfl) rfl (by decide) (op_move rfl (HF199.ev rfl)) ?_
        intro a201 HF202; clear HF199
        refine gw_ev HF202 (want_none rfl) rfl (by decide) (op_move rfl (HF202.ev rfl)) ?_
        intro a203 HF204; clear HF202
        refine gw_call HF204 (want_none rfl) rfl (by decide) (op_callL Try.func16 (by kernel_rfl) rfl rfl (ar_cons (HF204.ev rfl) (ar_cons (ev_c _ _) ar_nil))) (buf_take0 w.heap.size g7 Sa (mn (mx most 1) 2000) R (0 + (ovN (mn (mx most 1) 2000) ([] : List Int).length x.length : Int)) 9999 _ (HO126.get 2 rfl) (by (first | omega | ((try have h1_ := putL_len (mn (mx most 1) 2000) (by (first | omega)) x); (try have h2_ := ovN_le (mn (mx most 1) 2000) 0 x.length); (try have h3_ := ovN_le (mn (mx most 1) 2000) ([] : List Int).length x.length); first | omega | (simp only [List.length_append, List.length_take, List.length_drop, List.length_nil]; omega)))) (fun k hk => (HO126.lt 2 rfl hk).2)) ?_
        rintro e209 w210 ⟨A205, c206, S208, rfl, hb211⟩
        refine ⟨_, rfl, fun a212 HF213 => ?_⟩
        have HO214 := HO126.calls 2 rfl hb211
        have hbel215 := HO126.below
        clear HF204 HO126 hb211
        have HO216 := HO214.lowrow 0 rfl (base' := w.heap.size) (Below.size hbel215)
        have HO217 : Own w w210 [Chunk.row (Kd.int .u8) 5 w.heap.size S208 (.slice A205 ((R.take (mn (mx 9999 0) R.length).toNat).length) c206) (R.take (mn (mx 9999 0) R.length).toNat), Chunk.row (Kd.int .u8) 5 w.heap.size Sr (.slice Aa G.length ca) G, Chunk.buf w.heap.size g19 S94 (mn (mx most 1) 2000) (putL (mn (mx most 1) 2000) ([] : List Int) x) (0 + (ovN (mn (mx most 1) 2000) ([] : List Int).length x.length : Int)), Chunk.buf w.heap.size g7 Sa (mn (mx most 1) 2000) (R.drop (mn (mx 9999 0) R.length).toNat) (0 + (ovN (mn (mx most 1) 2000) ([] : List Int).length x.length : Int))] := HO216
        clear HO216
        refine gw_append (Kd.int .u8) 1 HF213 HO217 (want_none rfl) rfl (by decide) rfl Try.underlying26 gwinfo5 rfl (by decide) (by decide) rfl (HF213.ev rfl) (HF213.ev rfl) (Kd.R_reads' (HO217.get 0 rfl)).2.2 (fun _ _ h => h) HO217.below.size (by (first | omega | ((try have h1_ := putL_len (mn (mx most 1) 2000) (by (first | omega)) x); (try have h2_ := ovN_le (mn (mx most 1) 2000) 0 x.length); (try have h3_ := ovN_le (mn (mx most 1) 2000) ([] : List Int).length x.length); first | omega | (simp only [List.length_append, List.length_take, List.length_drop, List.length_nil]; omega)))) ?_
        intro A218 c219 S220 a221 w222 HF223 HO224; clear HF213 HO217
        have HO225 : Own w w222 [Chunk.row (Kd.int .u8) 5 w.heap.size S208 (.slice A205 ((R.take (mn (mx 9999 0) R.length).toNat).length) c206) (R.take (mn (mx 9999 0) R.length).toNat), Chunk.row (Kd.int .u8) 5 w.heap.size S220 (.slice A218 ((G ++ (R.take (mn (mx 9999 0) R.length).toNat)).length) c219) (G ++ (R.take (mn (mx 9999 0) R.length).toNat)), Chunk.buf w.heap.size g19 S94 (mn (mx most 1) 2000) (putL (mn (mx most 1) 2000) ([] : List Int) x) (0 + (ovN (mn (mx most 1) 2000) ([] : List Int).length x.length : Int)), Chunk.buf w.heap.size g7 Sa (mn (mx most 1) 2000) (R.drop (mn (mx 9999 0) R.length).toNat) (0 + (ovN (mn (mx most 1) 2000) ([] : List Int).length x.length : Int))] := HO224
        clear HO224
        refine gw_ev HF223 (want_none rfl) rfl (by decide) (op_assign rfl (HF223.ev rfl)) ?_
        intro a226 HF227; clear HF223
        refine wpList_nil ?_
        refine gw_nx (hK200 _ _ ?_)
        refine gw_seq fun K228 hK228 => ?_
        refine wp_region_lit ?_
        refine gw_ev HF227 (want_none rfl) rfl (by decide) (op_move rfl (HF227.ev rfl)) ?_
        intro a229 HF230; clear HF227
        refine gw_call HF230 (want_none rfl) rfl (by decide) (op_callL Try.func16 (by kernel_rfl) rfl rfl (ar_cons (HF230.ev rfl) (ar_cons (ev_c _ _) ar_nil))) (buf_take0 w.heap.size g19 S94 (mn (mx most 1) 2000) (putL (mn (mx most 1) 2000) ([] : List Int) x) (0 + (ovN (mn (mx most 1) 2000) ([] : List Int).length x.length : Int)) 9999 _ (HO225.get 2 rfl) (by (first | omega | ((try have h1_ := putL_len (mn (mx most 1) 2000) (by (first | omega)) x); (try have h2_ := ovN_le (mn (mx most 1) 2000) 0 x.length); (try have h3_ := ovN_le (mn (mx most 1) 2000) ([] : List Int).length x.length); first | omega | (simp only [List.length_append, List.length_take, List.length_drop, List.length_nil]; omega)))) (fun k hk => (HO225.lt 2 rfl hk).2)) ?_
        rintro e235 w236 ⟨A231, c232, S234, rfl, hb237⟩
        refine ⟨_, rfl, fun a238 HF239 => ?_⟩
        have HO240 := HO225.calls 2 rfl hb237
        have hbel241 := HO225.below
        clear HF230 HO225 hb237
        have HO242 := HO240.lowrow 0 rfl (base' := w.heap.size) (Below.size hbel241)
        have HO243 : Own w w236 [Chunk.row (Kd.int .u8) 5 w.heap.size S234 (.slice A231 (((putL (mn (mx most 1) 2000) ([] : List Int) x).take (mn (mx 9999 0) (putL (mn (mx most 1) 2000) ([] : List Int) x).length).toNat).length) c232) ((putL (mn (mx most 1) 2000) ([] : List Int) x).take (mn (mx 9999 0) (putL (mn (mx most 1) 2000) ([] : List Int) x).length).toNat), Chunk.row (Kd.int .u8) 5 w.heap.size S208 (.slice A205 ((R.take (mn (mx 9999 0) R.length).toNat).length) c206) (R.take (mn (mx 9999 0) R.length).toNat), Chunk.row (Kd.int .u8) 5 w.heap.size S220 (.slice A218 ((G ++ (R.take (mn (mx 9999 0) R.length).toNat)).length) c219) (G ++ (R.take (mn (mx 9999 0) R.length).toNat)), Chunk.buf w.heap.size g19 S94 (mn (mx most 1) 2000) ((putL (mn (mx most 1) 2000) ([] : List Int) x).drop (mn (mx 9999 0) (putL (mn (mx most 1) 2000) ([] : List Int) x).length).toNat) (0 + (ovN (mn (mx most 1) 2000) ([] : List Int).length x.length : Int)), Chunk.buf w.heap.size g7 Sa (mn (mx most 1) 2000) (R.drop (mn (mx 9999 0) R.length).toNat) (0 + (ovN (mn (mx most 1) 2000) ([] : List Int).length x.length : Int))] := HO242
        clear HO242
        refine gw_ev HF239 (want_none rfl) rfl (by decide) (op_assign rfl (HF239.ev rfl)) ?_
        intro a244 HF245; clear HF239
        refine wpList_nil ?_
        refine gw_nx (hK228 _ _ ?_)
        refine gw_seq fun K246 hK246 => ?_
        refine wp_region_lit ?_
        refine gw_ev HF245 (want_none rfl) rfl (by decide) (op_move rfl (HF245.ev rfl)) ?_
        intro a247 HF248; clear HF245
        refine gw_ev HF248 (want_none rfl) rfl (by decide) (op_move rfl (HF248.ev rfl)) ?_
        intro a249 HF250; clear HF248
        refine gw_call HF250 (want_none rfl) rfl (by decide) (op_callL Try.func18 (by kernel_rfl) rfl rfl (ar_cons (HF250.ev rfl) (ar_cons (HF250.ev rfl) ar_nil))) (same_calls A218 c219 (G ++ (R.take (mn (mx 9999 0) R.length).toNat)) A231 c232 ((putL (mn (mx most 1) 2000) ([] : List Int) x).take (mn (mx 9999 0) (putL (mn (mx most 1) 2000) ([] : List Int) x).length).toNat) _ (Kd.R_reads' (HO243.get 2 rfl)).2.2 (row_cap (HO243.get 2 rfl)) (Kd.R_reads' (HO243.get 0 rfl)).2.2 (row_cap (HO243.get 0 rfl)) (by (first | omega | ((try have h1_ := putL_len (mn (mx most 1) 2000) (by (first | omega)) x); (try have h2_ := ovN_le (mn (mx most 1) 2000) 0 x.length); (try have h3_ := ovN_le (mn (mx most 1) 2000) ([] : List Int).length x.length); first | omega | (simp only [List.length_append, List.length_take, List.length_drop, List.length_nil]; omega))))) ?_
        rintro e251 w252 ⟨rfl, hb253⟩
        refine ⟨_, rfl, fun a254 HF255 => ?_⟩
        have HO256 := HO243.after hb253
        clear HF250 HO243 hb253
        have HF258 := HF255.lit (b := true) (by have h1_ := putL_len (mn (mx most 1) 2000) (by (first | omega | ((try have h1_ := putL_len (mn (mx most 1) 2000) (by (first | omega)) x); (try have h2_ := ovN_le (mn (mx most 1) 2000) 0 x.length); (try have h3_ := ovN_le (mn (mx most 1) 2000) ([] : List Int).length x.length); first | omega | (simp only [List.length_append, List.length_take, List.length_drop, List.length_nil]; omega)))) x; rw [hd R (by (first | omega | ((try have h1_ := putL_len (mn (mx most 1) 2000) (by (first | omega)) x); (try have h2_ := ovN_le (mn (mx most 1) 2000) 0 x.length); (try have h3_ := ovN_le (mn (mx most 1) 2000) ([] : List Int).length x.length); first | omega | (simp only [List.length_append, List.length_take, List.length_drop, List.length_nil]; omega)))), hd _ (by (first | omega | ((try have h1_ := putL_len (mn (mx most 1) 2000) (by (first | omega)) x); (try have h2_ := ovN_le (mn (mx most 1) 2000) 0 x.length); (try have h3_ := ovN_le (mn (mx most 1) 2000) ([] : List Int).length x.length); first | omega | (simp only [List.length_append, List.length_take, List.length_drop, List.length_nil]; omega)))), List.take_length, List.take_length, hGR]; simp)
        clear HF255
        refine gw_ev HF258 (want_none rfl) rfl (by decide) (op_move rfl (HF258.ev rfl)) ?_
        intro a259 HF260; clear HF258
        refine gw_ev HF260 (want_yes HF260 rfl rfl rfl rfl) rfl (by decide) (op_move rfl (HF260.ev rfl)) ?_
        intro a261 HF262; clear HF260
        refine gw_call HF262 (want_yes HF262 rfl rfl rfl rfl) rfl (by decide) (op_callL Try.func19 (by kernel_rfl) rfl rfl (ar_cons (HF262.ev rfl) ar_nil)) (buf_bytes0 w.heap.size g7 Sa (mn (mx most 1) 2000) (R.drop (mn (mx 9999 0) R.length).toNat) (0 + (ovN (mn (mx most 1) 2000) ([] : List Int).length x.length : Int)) _ (HO256.get 4 rfl) (by (first | omega | ((try have h1_ := putL_len (mn (mx most 1) 2000) (by (first | omega)) x); (try have h2_ := ovN_le (mn (mx most 1) 2000) 0 x.length); (try have h3_ := ovN_le (mn (mx most 1) 2000) ([] : List Int).length x.length); first | omega | (simp only [List.length_append, List.length_take, List.length_drop, List.length_nil]; omega))))) ?_
        rintro e266 w267 ⟨A263, c264, S265, rfl, hb268⟩
        refine ⟨_, rfl, fun a269 HF270 => ?_⟩
        have HO271 := HO256.fresh hb268
        have hbel272 := HO256.below
        clear HF262 HO256 hb268
        have HO273 := HO271.lowrow 0 rfl (base' := w.heap.size) (Below.size hbel272)
        have HO274 : Own w w267 [Chunk.row (Kd.int .u8) 5 w.heap.size S265 (.slice A263 ((R.drop (mn (mx 9999 0) R.length).toNat).length) c264) (R.drop (mn (mx 9999 0) R.length).toNat), Chunk.row (Kd.int .u8) 5 w.heap.size S234 (.slice A231 (((putL (mn (mx most 1) 2000) ([] : List Int) x).take (mn (mx 9999 0) (putL (mn (mx most 1) 2000) ([] : List Int) x).length).toNat).length) c232) ((putL (mn (mx most 1) 2000) ([] : List Int) x).take (mn (mx 9999 0) (putL (mn (mx most 1) 2000) ([] : List Int) x).length).toNat), Chunk.row (Kd.int .u8) 5 w.heap.size S208 (.slice A205 ((R.take (mn (mx 9999 0) R.length).toNat).length) c206) (R.take (mn (mx 9999 0) R.length).toNat), Chunk.row (Kd.int .u8) 5 w.heap.size S220 (.slice A218 ((G ++ (R.take (mn (mx 9999 0) R.length).toNat)).length) c219) (G ++ (R.take (mn (mx 9999 0) R.length).toNat)), Chunk.buf w.heap.size g19 S94 (mn (mx most 1) 2000) ((putL (mn (mx most 1) 2000) ([] : List Int) x).drop (mn (mx 9999 0) (putL (mn (mx most 1) 2000) ([] : List Int) x).length).toNat) (0 + (ovN (mn (mx most 1) 2000) ([] : List Int).length x.length : Int)), Chunk.buf w.heap.size g7 Sa (mn (mx most 1) 2000) (R.drop (mn (mx 9999 0) R.length).toNat) (0 + (ovN (mn (mx most 1) 2000) ([] : List Int).length x.length : Int))] := HO273
        clear HO273
        refine gw_ev HF270 (want_yes HF270 rfl rfl rfl rfl) rfl (by decide) (op_len Try.underlying26 rfl (HF270.ev rfl)) ?_
        intro a275 HF276; clear HF270
        refine gw_ev HF276 (want_yes HF276 rfl rfl rfl rfl) rfl (by decide) (op_eqi rfl (HF276.ev rfl) (ev_c _ _)) ?_
        intro a277 HF278; clear HF276
        have HF279 := HF278.lit (b := true) (by have h1_ := putL_len (mn (mx most 1) 2000) (by (first | omega | ((try have h1_ := putL_len (mn (mx most 1) 2000) (by (first | omega)) x); (try have h2_ := ovN_le (mn (mx most 1) 2000) 0 x.length); (try have h3_ := ovN_le (mn (mx most 1) 2000) ([] : List Int).length x.length); first | omega | (simp only [List.length_append, List.length_take, List.length_drop, List.length_nil]; omega)))) x; rw [hd R (by (first | omega | ((try have h1_ := putL_len (mn (mx most 1) 2000) (by (first | omega)) x); (try have h2_ := ovN_le (mn (mx most 1) 2000) 0 x.length); (try have h3_ := ovN_le (mn (mx most 1) 2000) ([] : List Int).length x.length); first | omega | (simp only [List.length_append, List.length_take, List.length_drop, List.length_nil]; omega))))]; simp)
        clear HF278
        refine gw_ev HF279 (want_none rfl) rfl (by decide) (op_pick_t rfl (HF279.ev rfl) (HF279.ev rfl)) ?_
        intro a280 HF281; clear HF279
        refine gw_ev HF281 (want_none rfl) rfl (by decide) (op_move rfl (HF281.ev rfl)) ?_
        intro a282 HF283; clear HF281
        refine gw_ev HF283 (want_yes HF283 rfl rfl rfl rfl) rfl (by decide) (op_move rfl (HF283.ev rfl)) ?_
        intro a284 HF285; clear HF283
        refine gw_call HF285 (want_yes HF285 rfl rfl rfl rfl) rfl (by decide) (op_callL Try.func19 (by kernel_rfl) rfl rfl (ar_cons (HF285.ev rfl) ar_nil)) (buf_bytes0 w.heap.size g19 S94 (mn (mx most 1) 2000) ((putL (mn (mx most 1) 2000) ([] : List Int) x).drop (mn (mx 9999 0) (putL (mn (mx most 1) 2000) ([] : List Int) x).length).toNat) (0 + (ovN (mn (mx most 1) 2000) ([] : List Int).length x.length : Int)) _ (HO274.get 4 rfl) (by (first | omega | ((try have h1_ := putL_len (mn (mx most 1) 2000) (by (first | omega)) x); (try have h2_ := ovN_le (mn (mx most 1) 2000) 0 x.length); (try have h3_ := ovN_le (mn (mx most 1) 2000) ([] : List Int).length x.length); first | omega | (simp only [List.length_append, List.length_take, List.length_drop, List.length_nil]; omega))))) ?_
        rintro e289 w290 ⟨A286, c287, S288, rfl, hb291⟩
        refine ⟨_, rfl, fun a292 HF293 => ?_⟩
        have HO294 := HO274.fresh hb291
        have hbel295 := HO274.below
        clear HF285 HO274 hb291
        have HO296 := HO294.lowrow 0 rfl (base' := w.heap.size) (Below.size hbel295)
        have HO297 : Own w w290 [Chunk.row (Kd.int .u8) 5 w.heap.size S288 (.slice A286 (((putL (mn (mx most 1) 2000) ([] : List Int) x).drop (mn (mx 9999 0) (putL (mn (mx most 1) 2000) ([] : List Int) x).length).toNat).length) c287) ((putL (mn (mx most 1) 2000) ([] : List Int) x).drop (mn (mx 9999 0) (putL (mn (mx most 1) 2000) ([] : List Int) x).length).toNat), Chunk.row (Kd.int .u8) 5 w.heap.size S265 (.slice A263 ((R.drop (mn (mx 9999 0) R.length).toNat).length) c264) (R.drop (mn (mx 9999 0) R.length).toNat), Chunk.row (Kd.int .u8) 5 w.heap.size S234 (.slice A231 (((putL (mn (mx most 1) 2000) ([] : List Int) x).take (mn (mx 9999 0) (putL (mn (mx most 1) 2000) ([] : List Int) x).length).toNat).length) c232) ((putL (mn (mx most 1) 2000) ([] : List Int) x).take (mn (mx 9999 0) (putL (mn (mx most 1) 2000) ([] : List Int) x).length).toNat), Chunk.row (Kd.int .u8) 5 w.heap.size S208 (.slice A205 ((R.take (mn (mx 9999 0) R.length).toNat).length) c206) (R.take (mn (mx 9999 0) R.length).toNat), Chunk.row (Kd.int .u8) 5 w.heap.size S220 (.slice A218 ((G ++ (R.take (mn (mx 9999 0) R.length).toNat)).length) c219) (G ++ (R.take (mn (mx 9999 0) R.length).toNat)), Chunk.buf w.heap.size g19 S94 (mn (mx most 1) 2000) ((putL (mn (mx most 1) 2000) ([] : List Int) x).drop (mn (mx 9999 0) (putL (mn (mx most 1) 2000) ([] : List Int) x).length).toNat) (0 + (ovN (mn (mx most 1) 2000) ([] : List Int).length x.length : Int)), Chunk.buf w.heap.size g7 Sa (mn (mx most 1) 2000) (R.drop (mn (mx 9999 0) R.length).toNat) (0 + (ovN (mn (mx most 1) 2000) ([] : List Int).length x.length : Int))] := HO296
        clear HO296
        refine gw_ev HF293 (want_yes HF293 rfl rfl rfl rfl) rfl (by decide) (op_len Try.underlying26 rfl (HF293.ev rfl)) ?_
        intro a298 HF299; clear HF293
        refine gw_ev HF299 (want_yes HF299 rfl rfl rfl rfl) rfl (by decide) (op_eqi rfl (HF299.ev rfl) (ev_c _ _)) ?_
        intro a300 HF301; clear HF299
        have HF302 := HF301.lit (b := true) (by have h1_ := putL_len (mn (mx most 1) 2000) (by (first | omega | ((try have h1_ := putL_len (mn (mx most 1) 2000) (by (first | omega)) x); (try have h2_ := ovN_le (mn (mx most 1) 2000) 0 x.length); (try have h3_ := ovN_le (mn (mx most 1) 2000) ([] : List Int).length x.length); first | omega | (simp only [List.length_append, List.length_take, List.length_drop, List.length_nil]; omega)))) x; rw [hd _ (by (first | omega | ((try have h1_ := putL_len (mn (mx most 1) 2000) (by (first | omega)) x); (try have h2_ := ovN_le (mn (mx most 1) 2000) 0 x.length); (try have h3_ := ovN_le (mn (mx most 1) 2000) ([] : List Int).length x.length); first | omega | (simp only [List.length_append, List.length_take, List.length_drop, List.length_nil]; omega))))]; simp)
        clear HF301
        refine gw_ev HF302 (want_none rfl) rfl (by decide) (op_pick_t rfl (HF302.ev rfl) (HF302.ev rfl)) ?_
        intro a303 HF304; clear HF302
        refine gw_ev HF304 (want_none rfl) rfl (by decide) (op_move rfl (HF304.ev rfl)) ?_
        intro a305 HF306; clear HF304
        refine gw_ev HF306 (want_yes HF306 rfl rfl rfl rfl) rfl (by decide) (op_move rfl (HF306.ev rfl)) ?_
        intro a307 HF308; clear HF306
        refine gw_call HF308 (want_yes HF308 rfl rfl rfl rfl) rfl (by decide) (op_callL Try.func21 (by kernel_rfl) rfl rfl (ar_cons (HF308.ev rfl) ar_nil)) (buf_gone w.heap.size g7 Sa (mn (mx most 1) 2000) (R.drop (mn (mx 9999 0) R.length).toNat) (0 + (ovN (mn (mx most 1) 2000) ([] : List Int).length x.length : Int)) _ (HO297.get 6 rfl)) ?_
        rintro e309 w310 ⟨rfl, hb311⟩
        refine ⟨_, rfl, fun a312 HF313 => ?_⟩
        have HO314 := HO297.after hb311
        clear HF308 HO297 hb311
        refine gw_ev HF313 (want_yes HF313 rfl rfl rfl rfl) rfl (by decide) (op_move rfl (HF313.ev rfl)) ?_
        intro a316 HF317; clear HF313
        refine gw_call HF317 (want_yes HF317 rfl rfl rfl rfl) rfl (by decide) (op_callL Try.func21 (by kernel_rfl) rfl rfl (ar_cons (HF317.ev rfl) ar_nil)) (buf_gone w.heap.size g19 S94 (mn (mx most 1) 2000) ((putL (mn (mx most 1) 2000) ([] : List Int) x).drop (mn (mx 9999 0) (putL (mn (mx most 1) 2000) ([] : List Int) x).length).toNat) (0 + (ovN (mn (mx most 1) 2000) ([] : List Int).length x.length : Int)) _ (HO314.get 5 rfl)) ?_
        rintro e318 w319 ⟨rfl, hb320⟩
        refine ⟨_, rfl, fun a321 HF322 => ?_⟩
        have HO323 := HO314.after hb320
        clear HF317 HO314 hb320
        refine gw_ev HF322 (want_yes HF322 rfl rfl rfl rfl) rfl (by decide) (op_eqi rfl (HF322.ev rfl) (HF322.ev rfl)) ?_
        intro a325 HF326; clear HF322
        have HF327 := HF326.lit (b := true) (by simp)
        clear HF326
        refine gw_ev HF327 (want_none rfl) rfl (by decide) (op_pick_t rfl (HF327.ev rfl) (HF327.ev rfl)) ?_
        intro a328 HF329; clear HF327
        refine gw_ev HF329 (want_none rfl) rfl (by decide) (op_move rfl (HF329.ev rfl)) ?_
        intro a330 HF331; clear HF329
        refine gw_ev HF331 (want_yes HF331 rfl rfl rfl rfl) rfl (by decide) (op_move rfl (HF331.ev rfl)) ?_
        intro a332 HF333; clear HF331
        refine gw_call HF333 (want_yes HF333 rfl rfl rfl rfl) rfl (by decide) (op_callL Try.func20 (by kernel_rfl) rfl rfl (ar_cons (HF333.ev rfl) ar_nil)) (buf_full0 w.heap.size g7 Sa (mn (mx most 1) 2000) (R.drop (mn (mx 9999 0) R.length).toNat) (0 + (ovN (mn (mx most 1) 2000) ([] : List Int).length x.length : Int)) _ (HO323.get 6 rfl)) ?_
        rintro e334 w335 ⟨rfl, hb336⟩
        refine ⟨_, rfl, fun a337 HF338 => ?_⟩
        have HO339 := HO323.after hb336
        clear HF333 HO323 hb336
        have HF341 := HF338.lit (b := false) (by have h1_ := putL_len (mn (mx most 1) 2000) (by (first | omega | ((try have h1_ := putL_len (mn (mx most 1) 2000) (by (first | omega)) x); (try have h2_ := ovN_le (mn (mx most 1) 2000) 0 x.length); (try have h3_ := ovN_le (mn (mx most 1) 2000) ([] : List Int).length x.length); first | omega | (simp only [List.length_append, List.length_take, List.length_drop, List.length_nil]; omega)))) x; rw [hd R (by (first | omega | ((try have h1_ := putL_len (mn (mx most 1) 2000) (by (first | omega)) x); (try have h2_ := ovN_le (mn (mx most 1) 2000) 0 x.length); (try have h3_ := ovN_le (mn (mx most 1) 2000) ([] : List Int).length x.length); first | omega | (simp only [List.length_append, List.length_take, List.length_drop, List.length_nil]; omega))))]; simp; omega)
        clear HF338
        refine gw_ev HF341 (want_yes HF341 rfl rfl rfl rfl) rfl (by decide) (op_not rfl (HF341.ev rfl)) ?_
        intro a342 HF343; clear HF341
        refine gw_ev HF343 (want_none rfl) rfl (by decide) (op_pick_t rfl (HF343.ev rfl) (HF343.ev rfl)) ?_
        intro a344 HF345; clear HF343
        refine gw_ev HF345 (want_none rfl) rfl (by decide) (op_assign rfl (HF345.ev rfl)) ?_
        intro a346 HF347; clear HF345
        refine wpList_nil ?_
        refine gw_nx (hK246 _ _ ?_)
        refine wp_ret ?_
        refine gw_ret1 HF347 rfl rfl ?_
        exact ⟨rfl, HO339.below⟩
end GBufTakes_
def colloquylaw11_BufTakes.f (a0 : Int) (l1 : List Int) (l2 : List Int) : Option Bool := if l2.length ≤ 9223372036854775807 then some true else none
theorem colloquylaw11_BufTakes.calls (a0 : Int) (A1 : Option Addr) (c1 : Nat) (l1 : List Int) (A2 : Option Addr) (c2 : Nat) (l2 : List Int) (r : Bool) (w : World) (hr1 : Kd.C (Kd.int .u8) w A1 l1.length l1) (hc1 : l1.length ≤ c1) (hr2 : Kd.C (Kd.int .i64) w A2 l2.length l2) (hc2 : l2.length ≤ c2) (h : colloquylaw11_BufTakes.f a0 l1 l2 = some r) :
    Calls Try.prog 5 #[(.int .i64 a0), (.slice A1 l1.length c1), (.slice A2 l2.length c2)] w fun e w' => e = .returned (.bool r) ∧ Below w.heap.size w w' := by
  unfold colloquylaw11_BufTakes.f at h
  split at h
  · cases h; exact GBufTakes_.BufTakes_calls a0 A1 c1 l1 A2 c2 l2 w hr1 hc1 hr2 hc2 (by assumption)
  · cases h
end Go.Proofs.Ytbnoedefkbnpjaa.PA
