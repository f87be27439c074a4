/- Conditions: of a board's properties of one name the first counts. Printed by a program of this session; Lean checks it. -/
import Derived.Test.YtjndcgochnaodaaGCond5
import Derived.Test.YtjndcgochnaodaaHCondF
namespace Go.Proofs.Ytjndcgochnaodaa.PA
open Go.RowKit Go.Proofs.YtjndcgochnaodaaW.PrintWords Go.Proofs.YtjndcgochnaodaaW.PrintLast Go.Proofs.YtjndcgochnaodaaW.PrintMore
set_option linter.unusedVariables false
set_option linter.unusedSimpArgs false
namespace GCond6_
theorem gwagg24 : ∀ w, (isAgg 24).run Try.prog w = .ok true w := fun _ => by kernel_rfl
theorem gwagg27 : ∀ w, (isAgg 27).run Try.prog w = .ok true w := fun _ => by kernel_rfl
theorem gwsiz24 : ∀ w, (sizeOf 24).run Try.prog w = .ok 4 w := fun _ => by kernel_rfl
theorem gwsiz27 : ∀ w, (sizeOf 27).run Try.prog w = .ok 2 w := fun _ => by kernel_rfl
theorem gwzer24 : ∀ w, (zeroValue 24).run Try.prog w = .ok (.agg #[.int .i64 0, .string (⟨#[]⟩ : ByteArray), .string (⟨#[]⟩ : ByteArray), .slice none 0 0]) w := fun _ => by kernel_rfl
theorem gwzer27 : ∀ w, (zeroValue 27).run Try.prog w = .ok (.agg #[.string (⟨#[]⟩ : ByteArray), .slice none 0 0]) w := fun _ => by kernel_rfl
set_option maxHeartbeats 4000000 in
set_option maxRecDepth 100000 in
theorem CondFirst_walk (name va vb : ByteArray) (w : World) (hm : name.size ≤ 281474976710656) :
    Calls Try.prog 7 #[.string name, .string va, .string vb] w fun e w' => e = .returned (.bool true) ∧ Below w.heap.size w w' := by
  obtain ⟨n, hn⟩ := word_ev name hm
  refine gw_start (N := 85) (vs := [.string name, .string va, .string vb]) Try.func7 rfl rfl (by simp) fun a HF HO => ?_
  replace HO : Own w w [] := HO
  refine gw_seq fun K1 hK1 => ?_
  refine wp_region_lit ?_
  refine gw_ev HF (want_none rfl) rfl (by decide) (op_assign rfl (ev_c _ _)) ?_
  intro a2 HF3; clear HF
  refine wpList_nil ?_
  refine gw_nx (hK1 _ _ ?_)
  refine gw_seq fun K4 hK4 => ?_
  refine gw_seq fun K5 hK5 => ?_
  refine wp_region_lit ?_
  refine gw_call HF3 (want_none rfl) rfl (by decide) (op_callL Try.func9 (by kernel_rfl) rfl rfl ar_nil) (alive_calls _) ?_
  rintro e6 w7 ⟨rfl, hb8⟩
  refine ⟨_, rfl, fun a9 HF10 => ?_⟩
  have HO11 := HO.after hb8
  clear HF3 HO hb8
  refine gw_ev HF10 (want_none rfl) rfl (by decide) (op_not rfl (HF10.ev rfl)) ?_
  intro a13 HF14; clear HF10
  refine wpList_nil ?_
  refine gw_nx (hK5 _ _ ?_)
  refine gw_cond HF14 rfl (fun hb15 => ?_) (fun hb15 => ?_)
  skip
  · cases hb15
  refine wp_skip ?_
  refine gw_nx (hK4 _ _ ?_)
  refine gw_seq fun K16 hK16 => ?_
  refine wp_region_lit ?_
  refine gw_ev HF14 (want_none rfl) rfl (by decide) (op_move rfl (HF14.ev rfl)) ?_
  intro a17 HF18; clear HF14
  refine gw_ev HF18 (want_none rfl) rfl (by decide) (op_move rfl (HF18.ev rfl)) ?_
  intro a19 HF20; clear HF18
  refine gw_call HF20 (want_none rfl) rfl (by decide) (op_callL Try.func20 (by kernel_rfl) rfl rfl (ar_cons (HF20.ev rfl) (ar_cons (HF20.ev rfl) ar_nil))) (is_calls name va _) ?_
  rintro e21 w22 ⟨rfl, hb23⟩
  refine ⟨_, rfl, fun a24 HF25 => ?_⟩
  have HO26 := HO11.after hb23
  clear HF20 HO11 hb23
  refine gw_new HF25 HO26 (want_none rfl) rfl (by decide) (op_alloc gwzer24 rfl) ?_
  intro g28 a29 w30 HF31 HO32; clear HF25 HO26
  have HO33 : Own w w30 [Chunk.blk g28 (.cells #[.int .i64 0, .string (⟨#[]⟩ : ByteArray), .string (⟨#[]⟩ : ByteArray), .slice none 0 0] 24 (0, 0))] := HO32
  clear HO32
  refine gw_setn 0 HF31 HO33 rfl (want_none rfl) rfl (op_storen gwsiz24 rfl (HF31.ev rfl) (HF31.ev rfl) (HO33.get 0 rfl) rfl (by simp) (by simp [Value.oneCell'])) ?_
  intro a34 w36 HF35 HO37; clear HF31 HO33
  have HO38 : Own w w36 [Chunk.blk g28 (.cells #[.int .i64 1, .string name, .string va, .slice none 0 0] 24 (0, 0))] := HO37
  clear HO37
  refine wpList_nil ?_
  refine gw_nx (hK16 _ _ ?_)
  refine gw_seq fun K39 hK39 => ?_
  refine gw_seq fun K40 hK40 => ?_
  refine wp_region_lit ?_
  refine gw_ev HF35 (want_none rfl) rfl (by decide) (op_loadn gwagg24 gwsiz24 rfl (HF35.ev rfl) (HO38.get 0 rfl) rfl rfl) ?_
  intro a41 HF42; clear HF35
  refine gw_call HF42 (want_none rfl) rfl (by decide) (op_callL Try.func11 (by kernel_rfl) rfl rfl (ar_cons (HF42.ev rfl) ar_nil)) (cond_Right.calls (n + 6) 1 name va none 0 [] (wordB name) _ (Kd.C_nil _ _) (Nat.le_refl _) (fi_right hn 1 (.inl rfl) va)) ?_
  rintro e43 w44 ⟨rfl, hb45⟩
  refine ⟨_, rfl, fun a46 HF47 => ?_⟩
  have HO48 := HO38.after hb45
  clear HF42 HO38 hb45
  refine gw_ev HF47 (want_none rfl) rfl (by decide) (op_not rfl (HF47.ev rfl)) ?_
  intro a50 HF51; clear HF47
  refine wpList_nil ?_
  refine gw_nx (hK40 _ _ ?_)
  refine gw_cond HF51 rfl (fun hb52 => ?_) (fun hb52 => ?_)
  · skip
    have HF53 := HF51.subst_ (d := 18) (b := true) rfl hb52
    clear HF51
    (try simp only [Bool.and_eq_true, Bool.or_eq_true, Bool.and_eq_false_iff, Bool.or_eq_false_iff, Bool.not_and, Bool.not_or, Bool.not_not, decide_eq_true_eq, decide_eq_false_iff_not, Bool.not_eq_true', Bool.not_eq_false', Bool.not_eq_true, Bool.not_eq_false, ne_eq, Decidable.not_not, Int.not_lt, Int.not_le, not_true_eq_false, not_false_eq_true, bne_iff_ne, beq_iff_eq, bne_eq_false_iff_eq, beq_eq_false_iff_ne] at hb52)
    refine gw_seq fun K54 hK54 => ?_
    refine wp_region_lit ?_
    refine gw_ev HF53 (want_none rfl) rfl (by decide) (op_loadn gwagg24 gwsiz24 rfl (HF53.ev rfl) (HO48.get 0 rfl) rfl rfl) ?_
    intro a55 HF56; clear HF53
    refine gw_ev HF56 (want_none rfl) rfl (by decide) (op_move rfl (HF56.ev rfl)) ?_
    intro a57 HF58; clear HF56
    refine gw_ev HF58 (want_none rfl) rfl (by decide) (op_move rfl (HF58.ev rfl)) ?_
    intro a59 HF60; clear HF58
    refine gw_ev HF60 (want_none rfl) rfl (by decide) (op_build (cells := #[.string name, .string va]) rfl (pt_cons (HF60.ev rfl) (pt_cons (HF60.ev rfl) pt_nil)) (by kernel_rfl)) ?_
    intro a61 HF62; clear HF60
    refine gw_news (O := .cells #[.string name, .string va] 36 (0, 0)) (n := 1) HF62 HO48 (want_none rfl) rfl (by decide) (op_bslice (by kernel_rfl) rfl (pt_cons (HF62.ev rfl) pt_nil)) ?_
    intro g63 a64 w65 HF66 HO67; clear HF62 HO48
    have HO68 : Own w w65 [Chunk.blk g63 (.cells #[.string name, .string va] 36 (0, 0)), Chunk.blk g28 (.cells #[.int .i64 1, .string name, .string va, .slice none 0 0] 24 (0, 0))] := HO67
    clear HO67
    refine gw_ev HF66 (want_none rfl) rfl (by decide) (op_build (cells := #[.string (⟨#[]⟩ : ByteArray), .slice (some ⟨g63, 0, none⟩) 1 1]) rfl (pt_cons (HF66.ev rfl) pt_nil) (by kernel_rfl)) ?_
    intro a69 HF70; clear HF66
    refine gw_call HF70 (want_none rfl) rfl (by decide) (op_callL Try.func12 (by kernel_rfl) rfl rfl (ar_cons (HF70.ev rfl) (ar_cons (HF70.ev rfl) ar_nil))) (cond_Holds.calls (n + 6) 1 name va none 0 [] (⟨#[]⟩ : ByteArray) (some ⟨g63, 0, none⟩) 1 ([(⟨name, va⟩ : S36)]) (wordB name && hasB ([(⟨name, va⟩ : S36)]) name va) _ (Kd.C_nil _ _) (Nat.le_refl _) (Cg_lit (cs := [.string name, .string va]) (HO68.get 0 rfl) (reps_more (k36_mk _ (⟨name, va⟩ : S36)) rfl reps_none) (by simp [maxLen])) (Nat.le_refl _) (fi_is hn va (⟨#[]⟩ : ByteArray) ([(⟨name, va⟩ : S36)]))) ?_
    rintro e71 w72 ⟨rfl, hb73⟩
    refine ⟨_, rfl, fun a74 HF75 => ?_⟩
    have HO76 := HO68.after hb73
    clear HF70 HO68 hb73
    refine gw_ev HF75 (want_none rfl) rfl (by decide) (op_not rfl (HF75.ev rfl)) ?_
    intro a78 HF79; clear HF75
    refine gw_ev HF79 (want_none rfl) rfl (by decide) (op_assign rfl (HF79.ev rfl)) ?_
    intro a80 HF81; clear HF79
    refine wpList_nil ?_
    refine gw_nx (hK54 _ _ ?_)
    refine wp_ret ?_
    refine gw_thr ?_
    refine gw_ret1 HF81 rfl rfl ?_
    have hc_ : (vb.toList == va.toList) = (va.toList == vb.toList) := BEq.comm
    exact ⟨by congr 2; simp [has_first, has_none, hc_, *], HO76.below⟩
  · skip
    have HF82 := HF51.subst_ (d := 18) (b := false) rfl hb52
    clear HF51
    (try simp only [Bool.and_eq_true, Bool.or_eq_true, Bool.and_eq_false_iff, Bool.or_eq_false_iff, Bool.not_and, Bool.not_or, Bool.not_not, decide_eq_true_eq, decide_eq_false_iff_not, Bool.not_eq_true', Bool.not_eq_false', Bool.not_eq_true, Bool.not_eq_false, ne_eq, Decidable.not_not, Int.not_lt, Int.not_le, not_true_eq_false, not_false_eq_true, bne_iff_ne, beq_iff_eq, bne_eq_false_iff_eq, beq_eq_false_iff_ne] at hb52)
    refine wp_skip ?_
    refine gw_nx (hK39 _ _ ?_)
    refine gw_seq fun K83 hK83 => ?_
    refine wp_region_lit ?_
    refine gw_ev HF82 (want_none rfl) rfl (by decide) (op_move rfl (HF82.ev rfl)) ?_
    intro a84 HF85; clear HF82
    refine gw_ev HF85 (want_none rfl) rfl (by decide) (op_move rfl (HF85.ev rfl)) ?_
    intro a86 HF87; clear HF85
    refine gw_ev HF87 (want_none rfl) rfl (by decide) (op_build (cells := #[.string name, .string vb]) rfl (pt_cons (HF87.ev rfl) (pt_cons (HF87.ev rfl) pt_nil)) (by kernel_rfl)) ?_
    intro a88 HF89; clear HF87
    refine gw_ev HF89 (want_none rfl) rfl (by decide) (op_move rfl (HF89.ev rfl)) ?_
    intro a90 HF91; clear HF89
    refine gw_ev HF91 (want_none rfl) rfl (by decide) (op_move rfl (HF91.ev rfl)) ?_
    intro a92 HF93; clear HF91
    refine gw_ev HF93 (want_none rfl) rfl (by decide) (op_build (cells := #[.string name, .string va]) rfl (pt_cons (HF93.ev rfl) (pt_cons (HF93.ev rfl) pt_nil)) (by kernel_rfl)) ?_
    intro a94 HF95; clear HF93
    refine gw_news (O := .cells #[.string name, .string vb, .string name, .string va] 36 (0, 0)) (n := 2) HF95 HO48 (want_none rfl) rfl (by decide) (op_bslice (by kernel_rfl) rfl (pt_cons (HF95.ev rfl) (pt_cons (HF95.ev rfl) pt_nil))) ?_
    intro g96 a97 w98 HF99 HO100; clear HF95 HO48
    have HO101 : Own w w98 [Chunk.blk g96 (.cells #[.string name, .string vb, .string name, .string va] 36 (0, 0)), Chunk.blk g28 (.cells #[.int .i64 1, .string name, .string va, .slice none 0 0] 24 (0, 0))] := HO100
    clear HO100
    refine gw_ev HF99 (want_none rfl) rfl (by decide) (op_build (cells := #[.string (⟨#[]⟩ : ByteArray), .slice (some ⟨g96, 0, none⟩) (([(⟨name, vb⟩ : S36), (⟨name, va⟩ : S36)]).length) (([(⟨name, vb⟩ : S36), (⟨name, va⟩ : S36)]).length)]) rfl (pt_cons (HF99.ev rfl) pt_nil) (by kernel_rfl)) ?_
    intro a102 HF103; clear HF99
    refine gw_new HF103 HO101 (want_none rfl) rfl (by decide) (op_alloc gwzer27 rfl) ?_
    intro g104 a105 w106 HF107 HO108; clear HF103 HO101
    have HO109 : Own w w106 [Chunk.blk g104 (.cells #[.string (⟨#[]⟩ : ByteArray), .slice none 0 0] 27 (0, 0)), Chunk.blk g96 (.cells #[.string name, .string vb, .string name, .string va] 36 (0, 0)), Chunk.blk g28 (.cells #[.int .i64 1, .string name, .string va, .slice none 0 0] 24 (0, 0))] := HO108
    clear HO108
    refine gw_setn 0 HF107 HO109 rfl (want_none rfl) rfl (op_storen gwsiz27 rfl (HF107.ev rfl) (HF107.ev rfl) (HO109.get 0 rfl) rfl (by simp) (by simp [Value.oneCell'])) ?_
    intro a110 w112 HF111 HO113; clear HF107 HO109
    have HO114 : Own w w112 [Chunk.blk g104 (.cells #[.string (⟨#[]⟩ : ByteArray), .slice (some ⟨g96, 0, none⟩) (([(⟨name, vb⟩ : S36), (⟨name, va⟩ : S36)]).length) (([(⟨name, vb⟩ : S36), (⟨name, va⟩ : S36)]).length)] 27 (0, 0)), Chunk.blk g96 (.cells #[.string name, .string vb, .string name, .string va] 36 (0, 0)), Chunk.blk g28 (.cells #[.int .i64 1, .string name, .string va, .slice none 0 0] 24 (0, 0))] := HO113
    clear HO113
    refine wpList_nil ?_
    refine gw_nx (hK83 _ _ ?_)
    refine gw_seq fun K115 hK115 => ?_
    refine wp_region_lit ?_
    refine gw_ev HF111 (want_none rfl) rfl (by decide) (op_move rfl (HF111.ev rfl)) ?_
    intro a116 HF117; clear HF111
    refine gw_ev HF117 (want_none rfl) rfl (by decide) (op_move rfl (HF117.ev rfl)) ?_
    intro a118 HF119; clear HF117
    refine gw_ev HF119 (want_none rfl) rfl (by decide) (op_build (cells := #[.string name, .string va]) rfl (pt_cons (HF119.ev rfl) (pt_cons (HF119.ev rfl) pt_nil)) (by kernel_rfl)) ?_
    intro a120 HF121; clear HF119
    refine gw_ev HF121 (want_none rfl) rfl (by decide) (op_move rfl (HF121.ev rfl)) ?_
    intro a122 HF123; clear HF121
    refine gw_ev HF123 (want_none rfl) rfl (by decide) (op_move rfl (HF123.ev rfl)) ?_
    intro a124 HF125; clear HF123
    refine gw_ev HF125 (want_none rfl) rfl (by decide) (op_build (cells := #[.string name, .string vb]) rfl (pt_cons (HF125.ev rfl) (pt_cons (HF125.ev rfl) pt_nil)) (by kernel_rfl)) ?_
    intro a126 HF127; clear HF125
    refine gw_news (O := .cells #[.string name, .string va, .string name, .string vb] 36 (0, 0)) (n := 2) HF127 HO114 (want_none rfl) rfl (by decide) (op_bslice (by kernel_rfl) rfl (pt_cons (HF127.ev rfl) (pt_cons (HF127.ev rfl) pt_nil))) ?_
    intro g128 a129 w130 HF131 HO132; clear HF127 HO114
    have HO133 : Own w w130 [Chunk.blk g128 (.cells #[.string name, .string va, .string name, .string vb] 36 (0, 0)), Chunk.blk g104 (.cells #[.string (⟨#[]⟩ : ByteArray), .slice (some ⟨g96, 0, none⟩) (([(⟨name, vb⟩ : S36), (⟨name, va⟩ : S36)]).length) (([(⟨name, vb⟩ : S36), (⟨name, va⟩ : S36)]).length)] 27 (0, 0)), Chunk.blk g96 (.cells #[.string name, .string vb, .string name, .string va] 36 (0, 0)), Chunk.blk g28 (.cells #[.int .i64 1, .string name, .string va, .slice none 0 0] 24 (0, 0))] := HO132
    clear HO132
    refine gw_ev HF131 (want_none rfl) rfl (by decide) (op_build (cells := #[.string (⟨#[]⟩ : ByteArray), .slice (some ⟨g128, 0, none⟩) (([(⟨name, va⟩ : S36), (⟨name, vb⟩ : S36)]).length) (([(⟨name, va⟩ : S36), (⟨name, vb⟩ : S36)]).length)]) rfl (pt_cons (HF131.ev rfl) pt_nil) (by kernel_rfl)) ?_
    intro a134 HF135; clear HF131
    refine gw_new HF135 HO133 (want_none rfl) rfl (by decide) (op_alloc gwzer27 rfl) ?_
    intro g136 a137 w138 HF139 HO140; clear HF135 HO133
    have HO141 : Own w w138 [Chunk.blk g136 (.cells #[.string (⟨#[]⟩ : ByteArray), .slice none 0 0] 27 (0, 0)), Chunk.blk g128 (.cells #[.string name, .string va, .string name, .string vb] 36 (0, 0)), Chunk.blk g104 (.cells #[.string (⟨#[]⟩ : ByteArray), .slice (some ⟨g96, 0, none⟩) (([(⟨name, vb⟩ : S36), (⟨name, va⟩ : S36)]).length) (([(⟨name, vb⟩ : S36), (⟨name, va⟩ : S36)]).length)] 27 (0, 0)), Chunk.blk g96 (.cells #[.string name, .string vb, .string name, .string va] 36 (0, 0)), Chunk.blk g28 (.cells #[.int .i64 1, .string name, .string va, .slice none 0 0] 24 (0, 0))] := HO140
    clear HO140
    refine gw_setn 0 HF139 HO141 rfl (want_none rfl) rfl (op_storen gwsiz27 rfl (HF139.ev rfl) (HF139.ev rfl) (HO141.get 0 rfl) rfl (by simp) (by simp [Value.oneCell'])) ?_
    intro a142 w144 HF143 HO145; clear HF139 HO141
    have HO146 : Own w w144 [Chunk.blk g136 (.cells #[.string (⟨#[]⟩ : ByteArray), .slice (some ⟨g128, 0, none⟩) (([(⟨name, va⟩ : S36), (⟨name, vb⟩ : S36)]).length) (([(⟨name, va⟩ : S36), (⟨name, vb⟩ : S36)]).length)] 27 (0, 0)), Chunk.blk g128 (.cells #[.string name, .string va, .string name, .string vb] 36 (0, 0)), Chunk.blk g104 (.cells #[.string (⟨#[]⟩ : ByteArray), .slice (some ⟨g96, 0, none⟩) (([(⟨name, vb⟩ : S36), (⟨name, va⟩ : S36)]).length) (([(⟨name, vb⟩ : S36), (⟨name, va⟩ : S36)]).length)] 27 (0, 0)), Chunk.blk g96 (.cells #[.string name, .string vb, .string name, .string va] 36 (0, 0)), Chunk.blk g28 (.cells #[.int .i64 1, .string name, .string va, .slice none 0 0] 24 (0, 0))] := HO145
    clear HO145
    refine wpList_nil ?_
    refine gw_nx (hK115 _ _ ?_)
    refine gw_seq fun K147 hK147 => ?_
    refine wp_region_lit ?_
    refine gw_ev HF143 (want_none rfl) rfl (by decide) (op_move rfl (HF143.ev rfl)) ?_
    intro a148 HF149; clear HF143
    refine gw_ev HF149 (want_none rfl) rfl (by decide) (op_move rfl (HF149.ev rfl)) ?_
    intro a150 HF151; clear HF149
    refine gw_ev HF151 (want_none rfl) rfl (by decide) (op_build (cells := #[.int .i64 2, .string name, .string va, .slice none 0 0]) rfl (pt_cons (ev_c _ _) (pt_cons (HF151.ev rfl) (pt_cons (HF151.ev rfl) pt_nil))) (by kernel_rfl)) ?_
    intro a152 HF153; clear HF151
    refine gw_new HF153 HO146 (want_none rfl) rfl (by decide) (op_alloc gwzer24 rfl) ?_
    intro g154 a155 w156 HF157 HO158; clear HF153 HO146
    have HO159 : Own w w156 [Chunk.blk g154 (.cells #[.int .i64 0, .string (⟨#[]⟩ : ByteArray), .string (⟨#[]⟩ : ByteArray), .slice none 0 0] 24 (0, 0)), Chunk.blk g136 (.cells #[.string (⟨#[]⟩ : ByteArray), .slice (some ⟨g128, 0, none⟩) (([(⟨name, va⟩ : S36), (⟨name, vb⟩ : S36)]).length) (([(⟨name, va⟩ : S36), (⟨name, vb⟩ : S36)]).length)] 27 (0, 0)), Chunk.blk g128 (.cells #[.string name, .string va, .string name, .string vb] 36 (0, 0)), Chunk.blk g104 (.cells #[.string (⟨#[]⟩ : ByteArray), .slice (some ⟨g96, 0, none⟩) (([(⟨name, vb⟩ : S36), (⟨name, va⟩ : S36)]).length) (([(⟨name, vb⟩ : S36), (⟨name, va⟩ : S36)]).length)] 27 (0, 0)), Chunk.blk g96 (.cells #[.string name, .string vb, .string name, .string va] 36 (0, 0)), Chunk.blk g28 (.cells #[.int .i64 1, .string name, .string va, .slice none 0 0] 24 (0, 0))] := HO158
    clear HO158
    refine gw_setn 0 HF157 HO159 rfl (want_none rfl) rfl (op_storen gwsiz24 rfl (HF157.ev rfl) (HF157.ev rfl) (HO159.get 0 rfl) rfl (by simp) (by simp [Value.oneCell'])) ?_
    intro a160 w162 HF161 HO163; clear HF157 HO159
    have HO164 : Own w w162 [Chunk.blk g154 (.cells #[.int .i64 2, .string name, .string va, .slice none 0 0] 24 (0, 0)), Chunk.blk g136 (.cells #[.string (⟨#[]⟩ : ByteArray), .slice (some ⟨g128, 0, none⟩) (([(⟨name, va⟩ : S36), (⟨name, vb⟩ : S36)]).length) (([(⟨name, va⟩ : S36), (⟨name, vb⟩ : S36)]).length)] 27 (0, 0)), Chunk.blk g128 (.cells #[.string name, .string va, .string name, .string vb] 36 (0, 0)), Chunk.blk g104 (.cells #[.string (⟨#[]⟩ : ByteArray), .slice (some ⟨g96, 0, none⟩) (([(⟨name, vb⟩ : S36), (⟨name, va⟩ : S36)]).length) (([(⟨name, vb⟩ : S36), (⟨name, va⟩ : S36)]).length)] 27 (0, 0)), Chunk.blk g96 (.cells #[.string name, .string vb, .string name, .string va] 36 (0, 0)), Chunk.blk g28 (.cells #[.int .i64 1, .string name, .string va, .slice none 0 0] 24 (0, 0))] := HO163
    clear HO163
    refine wpList_nil ?_
    refine gw_nx (hK147 _ _ ?_)
    refine gw_seq fun K165 hK165 => ?_
    refine wp_region_lit ?_
    refine gw_ev HF161 (want_none rfl) rfl (by decide) (op_loadn gwagg24 gwsiz24 rfl (HF161.ev rfl) (HO164.get 5 rfl) rfl rfl) ?_
    intro a166 HF167; clear HF161
    refine gw_ev HF167 (want_none rfl) rfl (by decide) (op_loadn gwagg27 gwsiz27 rfl (HF167.ev rfl) (HO164.get 3 rfl) rfl rfl) ?_
    intro a168 HF169; clear HF167
    refine gw_call HF169 (want_none rfl) rfl (by decide) (op_callL Try.func12 (by kernel_rfl) rfl rfl (ar_cons (HF169.ev rfl) (ar_cons (HF169.ev rfl) ar_nil))) (cond_Holds.calls (n + 6) 1 name va none 0 [] (⟨#[]⟩ : ByteArray) (some ⟨g96, 0, none⟩) (([(⟨name, vb⟩ : S36), (⟨name, va⟩ : S36)]).length) ([(⟨name, vb⟩ : S36), (⟨name, va⟩ : S36)]) (wordB name && hasB ([(⟨name, vb⟩ : S36), (⟨name, va⟩ : S36)]) name va) _ (Kd.C_nil _ _) (Nat.le_refl _) (Cg_lit (cs := [.string name, .string vb, .string name, .string va]) (HO164.get 4 rfl) (reps_more (k36_mk _ (⟨name, vb⟩ : S36)) rfl (reps_more (k36_mk _ (⟨name, va⟩ : S36)) rfl reps_none)) (by simp [maxLen])) (Nat.le_refl _) (fi_is hn va (⟨#[]⟩ : ByteArray) ([(⟨name, vb⟩ : S36), (⟨name, va⟩ : S36)]))) ?_
    rintro e170 w171 ⟨rfl, hb172⟩
    refine ⟨_, rfl, fun a173 HF174 => ?_⟩
    have HO175 := HO164.after hb172
    clear HF169 HO164 hb172
    refine gw_ev HF174 (want_none rfl) rfl (by decide) (op_move rfl (HF174.ev rfl)) ?_
    intro a177 HF178; clear HF174
    refine gw_ev HF178 (want_none rfl) rfl (by decide) (op_move rfl (HF178.ev rfl)) ?_
    intro a179 HF180; clear HF178
    refine gw_ev HF180 (want_none rfl) rfl (by decide) (op_eqs rfl (HF180.ev rfl) (HF180.ev rfl)) ?_
    intro a181 HF182; clear HF180
    refine gw_ev HF182 (want_none rfl) rfl (by decide) (op_eqb Try.underlying4 rfl (HF182.ev rfl) (HF182.ev rfl)) ?_
    intro a183 HF184; clear HF182
    refine gw_ev HF184 (want_none rfl) rfl (by decide) (op_move rfl (HF184.ev rfl)) ?_
    intro a185 HF186; clear HF184
    refine gw_evG HF186 rfl rfl rfl rfl (on_t _) rfl (by decide) (fun h_ => (op_loadn gwagg24 gwsiz24 rfl (HF186.ev rfl) (HO175.get 5 rfl) rfl rfl)) ?_
    intro a187 HF188; clear HF186
    refine gw_evG HF188 rfl rfl rfl rfl (on_t _) rfl (by decide) (fun h_ => (op_loadn gwagg27 gwsiz27 rfl (HF188.ev rfl) (HO175.get 1 rfl) rfl rfl)) ?_
    intro a189 HF190; clear HF188
    refine gw_callG HF190 rfl rfl rfl rfl (on_t _) rfl (by decide) (fun h_ => (op_callL Try.func12 (by kernel_rfl) rfl rfl (ar_cons (ev_gv (HF190.ev rfl) h_) (ar_cons (ev_gv (HF190.ev rfl) h_) ar_nil)))) (fun h_ => cond_Holds.calls (n + 6) 1 name va none 0 [] (⟨#[]⟩ : ByteArray) (some ⟨g128, 0, none⟩) (([(⟨name, va⟩ : S36), (⟨name, vb⟩ : S36)]).length) ([(⟨name, va⟩ : S36), (⟨name, vb⟩ : S36)]) (wordB name && hasB ([(⟨name, va⟩ : S36), (⟨name, vb⟩ : S36)]) name va) _ (Kd.C_nil _ _) (Nat.le_refl _) (Cg_lit (cs := [.string name, .string va, .string name, .string vb]) (HO175.get 2 rfl) (reps_more (k36_mk _ (⟨name, va⟩ : S36)) rfl (reps_more (k36_mk _ (⟨name, vb⟩ : S36)) rfl reps_none)) (by simp [maxLen])) (Nat.le_refl _) (fi_is hn va (⟨#[]⟩ : ByteArray) ([(⟨name, va⟩ : S36), (⟨name, vb⟩ : S36)]))) ?_
    intro a191 w193 hb194 HF192
    have HO195 := HO175.after hb194; clear HF190 HO175 hb194
    refine gw_ev HF192 (want_none rfl) rfl (by decide) (op_pick_and rfl (HF192.ev rfl) (fun hp_ => (ev_gv (HF192.ev rfl) hp_)) (ev_c _ _)) ?_
    intro a196 HF197; clear HF192
    refine gw_ev HF197 (want_none rfl) rfl (by decide) (op_move rfl (HF197.ev rfl)) ?_
    intro a198 HF199; clear HF197
    refine gw_evG HF199 rfl rfl rfl rfl (on_t _) rfl (by decide) (fun h_ => (op_loadn gwagg24 gwsiz24 rfl (HF199.ev rfl) (HO195.get 0 rfl) rfl rfl)) ?_
    intro a200 HF201; clear HF199
    refine gw_evG HF201 rfl rfl rfl rfl (on_t _) rfl (by decide) (fun h_ => (op_loadn gwagg27 gwsiz27 rfl (HF201.ev rfl) (HO195.get 3 rfl) rfl rfl)) ?_
    intro a202 HF203; clear HF201
    refine gw_callG HF203 rfl rfl rfl rfl (on_t _) rfl (by decide) (fun h_ => (op_callL Try.func12 (by kernel_rfl) rfl rfl (ar_cons (ev_gv (HF203.ev rfl) h_) (ar_cons (ev_gv (HF203.ev rfl) h_) ar_nil)))) (fun h_ => cond_Holds.calls (n + 6) 2 name va none 0 [] (⟨#[]⟩ : ByteArray) (some ⟨g96, 0, none⟩) (([(⟨name, vb⟩ : S36), (⟨name, va⟩ : S36)]).length) ([(⟨name, vb⟩ : S36), (⟨name, va⟩ : S36)]) (wordB name && !hasB ([(⟨name, vb⟩ : S36), (⟨name, va⟩ : S36)]) name va) _ (Kd.C_nil _ _) (Nat.le_refl _) (Cg_lit (cs := [.string name, .string vb, .string name, .string va]) (HO195.get 4 rfl) (reps_more (k36_mk _ (⟨name, vb⟩ : S36)) rfl (reps_more (k36_mk _ (⟨name, va⟩ : S36)) rfl reps_none)) (by simp [maxLen])) (Nat.le_refl _) (fi_isnt hn va (⟨#[]⟩ : ByteArray) ([(⟨name, vb⟩ : S36), (⟨name, va⟩ : S36)]))) ?_
    intro a204 w206 hb207 HF205
    have HO208 := HO195.after hb207; clear HF203 HO195 hb207
    refine gw_evG HF205 rfl rfl rfl rfl (on_t _) rfl (by decide) (fun h_ => (op_move rfl (HF205.ev rfl))) ?_
    intro a209 HF210; clear HF205
    refine gw_evG HF210 rfl rfl rfl rfl (on_t _) rfl (by decide) (fun h_ => (op_move rfl (HF210.ev rfl))) ?_
    intro a211 HF212; clear HF210
    refine gw_evG HF212 rfl rfl rfl rfl (on_t _) rfl (by decide) (fun h_ => (op_nes rfl (ev_gv (HF212.ev rfl) h_) (ev_gv (HF212.ev rfl) h_))) ?_
    intro a213 HF214; clear HF212
    refine gw_evG HF214 rfl rfl rfl rfl (on_t _) rfl (by decide) (fun h_ => (op_eqb Try.underlying4 rfl (ev_gv (HF214.ev rfl) h_) (ev_gv (HF214.ev rfl) h_))) ?_
    intro a215 HF216; clear HF214
    refine gw_ev HF216 (want_none rfl) rfl (by decide) (op_pick_and rfl (HF216.ev rfl) (fun hp_ => (ev_gv (HF216.ev rfl) hp_)) (ev_c _ _)) ?_
    intro a217 HF218; clear HF216
    refine gw_ev HF218 (want_none rfl) rfl (by decide) (op_move rfl (HF218.ev rfl)) ?_
    intro a219 HF220; clear HF218
    refine gw_evG HF220 rfl rfl rfl rfl (on_t _) rfl (by decide) (fun h_ => (op_loadn gwagg24 gwsiz24 rfl (HF220.ev rfl) (HO208.get 5 rfl) rfl rfl)) ?_
    intro a221 HF222; clear HF220
    refine gw_evG HF222 rfl rfl rfl rfl (on_t _) rfl (by decide) (fun h_ => (op_build (cells := #[.string (⟨#[]⟩ : ByteArray), .slice none 0 0]) rfl pt_nil (by kernel_rfl))) ?_
    intro a223 HF224; clear HF222
    refine gw_callG HF224 rfl rfl rfl rfl (on_t _) rfl (by decide) (fun h_ => (op_callL Try.func12 (by kernel_rfl) rfl rfl (ar_cons (ev_gv (HF224.ev rfl) h_) (ar_cons (ev_gv (HF224.ev rfl) h_) ar_nil)))) (fun h_ => cond_Holds.calls (n + 6) 1 name va none 0 [] (⟨#[]⟩ : ByteArray) none 0 [] (wordB name && hasB [] name va) _ (Kd.C_nil _ _) (Nat.le_refl _) (Kd.C_nil _ _) (Nat.le_refl _) (fi_is hn va (⟨#[]⟩ : ByteArray) [])) ?_
    intro a225 w227 hb228 HF226
    have HO229 := HO208.after hb228; clear HF224 HO208 hb228
    refine gw_evG HF226 rfl rfl rfl rfl (on_t _) rfl (by decide) (fun h_ => (op_not rfl (ev_gv (HF226.ev rfl) h_))) ?_
    intro a230 HF231; clear HF226
    refine gw_ev HF231 (want_none rfl) rfl (by decide) (op_pick_and rfl (HF231.ev rfl) (fun hp_ => (ev_gv (HF231.ev rfl) hp_)) (ev_c _ _)) ?_
    intro a232 HF233; clear HF231
    refine gw_ev HF233 (want_none rfl) rfl (by decide) (op_move rfl (HF233.ev rfl)) ?_
    intro a234 HF235; clear HF233
    refine gw_evG HF235 rfl rfl rfl rfl (on_t _) rfl (by decide) (fun h_ => (op_loadn gwagg24 gwsiz24 rfl (HF235.ev rfl) (HO229.get 0 rfl) rfl rfl)) ?_
    intro a236 HF237; clear HF235
    refine gw_evG HF237 rfl rfl rfl rfl (on_t _) rfl (by decide) (fun h_ => (op_build (cells := #[.string (⟨#[]⟩ : ByteArray), .slice none 0 0]) rfl pt_nil (by kernel_rfl))) ?_
    intro a238 HF239; clear HF237
    refine gw_callG HF239 rfl rfl rfl rfl (on_t _) rfl (by decide) (fun h_ => (op_callL Try.func12 (by kernel_rfl) rfl rfl (ar_cons (ev_gv (HF239.ev rfl) h_) (ar_cons (ev_gv (HF239.ev rfl) h_) ar_nil)))) (fun h_ => cond_Holds.calls (n + 6) 2 name va none 0 [] (⟨#[]⟩ : ByteArray) none 0 [] (wordB name && !hasB [] name va) _ (Kd.C_nil _ _) (Nat.le_refl _) (Kd.C_nil _ _) (Nat.le_refl _) (fi_isnt hn va (⟨#[]⟩ : ByteArray) [])) ?_
    intro a240 w242 hb243 HF241
    have HO244 := HO229.after hb243; clear HF239 HO229 hb243
    refine gw_ev HF241 (want_none rfl) rfl (by decide) (op_pick_and rfl (HF241.ev rfl) (fun hp_ => (ev_gv (HF241.ev rfl) hp_)) (ev_c _ _)) ?_
    intro a245 HF246; clear HF241
    refine gw_ev HF246 (want_none rfl) rfl (by decide) (op_move rfl (HF246.ev rfl)) ?_
    intro a247 HF248; clear HF246
    refine gw_evG HF248 rfl rfl rfl rfl (on_t _) rfl (by decide) (fun h_ => (op_move rfl (HF248.ev rfl))) ?_
    intro a249 HF250; clear HF248
    refine gw_callG HF250 rfl rfl rfl rfl (on_t _) rfl (by decide) (fun h_ => (op_callL Try.func20 (by kernel_rfl) rfl rfl (ar_cons (ev_gv (HF250.ev rfl) h_) (ar_cons (ev_c _ _) ar_nil)))) (fun h_ => is_calls name (⟨#[]⟩ : ByteArray) _) ?_
    intro a251 w253 hb254 HF252
    have HO255 := HO244.after hb254; clear HF250 HO244 hb254
    refine gw_evG HF252 rfl rfl rfl rfl (on_t _) rfl (by decide) (fun h_ => (op_build (cells := #[.string (⟨#[]⟩ : ByteArray), .slice none 0 0]) rfl pt_nil (by kernel_rfl))) ?_
    intro a256 HF257; clear HF252
    refine gw_callG HF257 rfl rfl rfl rfl (on_t _) rfl (by decide) (fun h_ => (op_callL Try.func12 (by kernel_rfl) rfl rfl (ar_cons (ev_gv (HF257.ev rfl) h_) (ar_cons (ev_gv (HF257.ev rfl) h_) ar_nil)))) (fun h_ => cond_Holds.calls (n + 6) 1 name (⟨#[]⟩ : ByteArray) none 0 [] (⟨#[]⟩ : ByteArray) none 0 [] (wordB name && hasB [] name (⟨#[]⟩ : ByteArray)) _ (Kd.C_nil _ _) (Nat.le_refl _) (Kd.C_nil _ _) (Nat.le_refl _) (fi_is hn (⟨#[]⟩ : ByteArray) (⟨#[]⟩ : ByteArray) [])) ?_
    intro a258 w260 hb261 HF259
    have HO262 := HO255.after hb261; clear HF257 HO255 hb261
    refine gw_evG HF259 rfl rfl rfl rfl (on_t _) rfl (by decide) (fun h_ => (op_not rfl (ev_gv (HF259.ev rfl) h_))) ?_
    intro a263 HF264; clear HF259
    refine gw_ev HF264 (want_none rfl) rfl (by decide) (op_pick_and rfl (HF264.ev rfl) (fun hp_ => (ev_gv (HF264.ev rfl) hp_)) (ev_c _ _)) ?_
    intro a265 HF266; clear HF264
    refine gw_ev HF266 (want_none rfl) rfl (by decide) (op_assign rfl (HF266.ev rfl)) ?_
    intro a267 HF268; clear HF266
    refine wpList_nil ?_
    refine gw_nx (hK165 _ _ ?_)
    refine wp_ret ?_
    refine gw_ret1 HF268 rfl rfl ?_
    have hc_ : (vb.toList == va.toList) = (va.toList == vb.toList) := BEq.comm
    exact ⟨by congr 2; simp [has_first, has_none, hc_, *], HO262.below⟩
end GCond6_
export GCond6_ (CondFirst_walk)
open Classical in
noncomputable def colloquylaw12_CondFirst.f (a0 : ByteArray) (a1 : ByteArray) (a2 : ByteArray) : Option Bool := if (a0.size ≤ 281474976710656) then some true else none
theorem colloquylaw12_CondFirst.calls (a0 : ByteArray) (a1 : ByteArray) (a2 : ByteArray) (r : Bool) (w : World)  (h : colloquylaw12_CondFirst.f a0 a1 a2 = some r) :
    Calls Try.prog 7 #[(.string a0), (.string a1), (.string a2)] w fun e w' => e = .returned (.bool r) ∧ Below w.heap.size w w' := by
  unfold colloquylaw12_CondFirst.f at h
  split at h
  · cases h; rename_i hh; exact CondFirst_walk a0 a1 a2 w  hh
  · cases h
end Go.Proofs.Ytjndcgochnaodaa.PA
