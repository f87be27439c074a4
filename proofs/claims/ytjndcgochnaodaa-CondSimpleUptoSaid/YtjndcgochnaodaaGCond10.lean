/- Conditions: the simple form, as the document says. Printed by a program of this session; Lean checks it. -/
import Derived.Test.YtjndcgochnaodaaGCond5
import Derived.Test.YtjndcgochnaodaaHCondW
namespace Go.Proofs.Ytjndcgochnaodaa.PA
open Go.RowKit Go.Proofs.YtjndcgochnaodaaW.PrintWords Go.Proofs.YtjndcgochnaodaaW.PrintLast Go.Proofs.YtjndcgochnaodaaW.PrintMore
set_option linter.unusedVariables false
set_option linter.unusedSimpArgs false
namespace GCond10_
theorem gwagg24 : ∀ w, (isAgg 24).run Try.prog w = .ok true w := fun _ => by kernel_rfl
theorem gwagg27 : ∀ w, (isAgg 27).run Try.prog w = .ok true w := fun _ => by kernel_rfl
theorem gwsiz24 : ∀ w, (sizeOf 24).run Try.prog w = .ok 4 w := fun _ => by kernel_rfl
theorem gwsiz27 : ∀ w, (sizeOf 27).run Try.prog w = .ok 2 w := fun _ => by kernel_rfl
theorem gwzer24 : ∀ w, (zeroValue 24).run Try.prog w = .ok (.agg #[.int .i64 0, .string (⟨#[]⟩ : ByteArray), .string (⟨#[]⟩ : ByteArray), .slice none 0 0]) w := fun _ => by kernel_rfl
theorem N_out {α : Type} {d : Kd α} {e : Nat} {w w' : World} {xs : List α} {v : Value} (h : Kd.N d e w' w.heap.size (fun k => w.heap.size ≤ k) v xs) (hb : Below w.heap.size w w') : ∃ A c S, v = .slice A xs.length c ∧ Out w w' (fun _ => False) [Chunk.view d S A xs.length c xs] := by
  obtain ⟨A, c, rfl⟩ := Kd.N_slice h
  refine ⟨A, c, (fun k => w.heap.size ≤ k ∧ k < w'.heap.size), rfl, ?_⟩
  have ho := (Own.start w).fresh (cs := [Chunk.nrow d e w.heap.size (fun k => w.heap.size ≤ k ∧ k < w'.heap.size) (.slice A xs.length c) xs]) (Out.one (Out.of_below hb _) (Kd.N_bound h) (fun k hk => ⟨.inr hk.1, hk.2⟩))
  exact (ho.nrow_view 0 rfl).out
theorem refSimple_own (k : Nat) (kd : Int) (nm vl : ByteArray) (A3 : Option Addr) (c3 : Nat) (kids : List S24) (fl : Bool) (r : CondR) (w : World) (hr3 : Kd.C k24 w A3 kids.length kids) (hc3 : kids.length ≤ c3) (h : colloquyref12_Simple.f k kd nm vl kids fl = some r) : Calls Try.prog 19 #[(.agg #[.int .i64 kd, .string nm, .string vl, .slice A3 kids.length c3] : Value), .bool fl] w fun e w' => ∃ A c S, e = .returned (.agg #[.int .i64 r.1, .string r.2.1, .string r.2.2.1, .slice A r.2.2.2.length c]) ∧ Out w w' (fun _ => False) [Chunk.view k24 S A r.2.2.2.length c r.2.2.2] :=
  (colloquyref12_Simple.calls k kd nm vl A3 c3 kids fl r.1 r.2.1 r.2.2.1 r.2.2.2 w hr3 hc3 h).mono fun e w' h_ => by
    obtain ⟨v, rfl, hN, hb⟩ := h_
    obtain ⟨A, c, S, rfl, ho⟩ := N_out hN hb
    exact ⟨A, c, S, rfl, ho⟩

set_option maxHeartbeats 4000000 in
set_option maxRecDepth 100000 in
theorem CondSimple_walk (kd : Int) (nm vl : ByteArray) (A3 : Option Addr) (c3 : Nat) (kids : List S24) (b : ByteArray) (Ap : Option Addr) (cp : Nat) (ps : List S36) (w : World) (hr3 : Kd.C k24 w A3 kids.length kids) (hc3 : kids.length ≤ c3) (hrp : Kd.C k36 w Ap ps.length ps) (hcp : ps.length ≤ cp) (hs : smallN 20 ⟨kd, nm, vl, kids⟩) (hw : wtN 21 ⟨kd, nm, vl, kids⟩ ≤ 1048576) :
    Calls Try.prog 5 #[.agg #[.int .i64 kd, .string nm, .string vl, .slice A3 kids.length c3], .agg #[.string b, .slice Ap ps.length cp]] w fun e w' => e = .returned (.bool true) ∧ Below w.heap.size w w' := by
  obtain ⟨n, t, r, fa1, fa2, fa3, fa4⟩ := facts_simple (⟨kd, nm, vl, kids⟩ : S24) b ps hs hw
  refine gw_start (N := 39) (vs := [.agg #[.int .i64 kd, .string nm, .string vl, .slice A3 kids.length c3], .agg #[.string b, .slice Ap ps.length cp]]) Try.func5 rfl rfl (by simp) fun a HF HO => ?_
  replace HO : Own w w [] := HO
  refine gw_seq fun K1 hK1 => ?_
  refine wp_region_lit ?_
  refine gw_new HF HO (want_none rfl) rfl (by decide) (op_box rfl (HF.ev rfl)) ?_
  intro g2 a3 w4 HF5 HO6; clear HF HO
  have HO7 : Own w w4 [Chunk.blk g2 (.cells #[.int .i64 kd, .string nm, .string vl, .slice A3 kids.length c3] 24 (0, 0))] := HO6
  clear HO6
  refine gw_new HF5 HO7 (want_none rfl) rfl (by decide) (op_box rfl (HF5.ev rfl)) ?_
  intro g8 a9 w10 HF11 HO12; clear HF5 HO7
  have HO13 : Own w w10 [Chunk.blk g8 (.cells #[.string b, .slice Ap ps.length cp] 27 (0, 0)), Chunk.blk g2 (.cells #[.int .i64 kd, .string nm, .string vl, .slice A3 kids.length c3] 24 (0, 0))] := HO12
  clear HO12
  refine gw_ev HF11 (want_none rfl) rfl (by decide) (op_assign rfl (ev_c _ _)) ?_
  intro a14 HF15; clear HF11
  refine wpList_nil ?_
  refine gw_nx (hK1 _ _ ?_)
  refine gw_seq fun K16 hK16 => ?_
  refine gw_seq fun K17 hK17 => ?_
  refine wp_region_lit ?_
  refine gw_call HF15 (want_none rfl) rfl (by decide) (op_callL Try.func9 (by kernel_rfl) rfl rfl ar_nil) (alive_calls _) ?_
  rintro e18 w19 ⟨rfl, hb20⟩
  refine ⟨_, rfl, fun a21 HF22 => ?_⟩
  have HO23 := HO13.after hb20
  clear HF15 HO13 hb20
  refine gw_ev HF22 (want_none rfl) rfl (by decide) (op_not rfl (HF22.ev rfl)) ?_
  intro a25 HF26; clear HF22
  refine wpList_nil ?_
  refine gw_nx (hK17 _ _ ?_)
  refine gw_cond HF26 rfl (fun hb27 => ?_) (fun hb27 => ?_)
  skip
  · cases hb27
  refine wp_skip ?_
  refine gw_nx (hK16 _ _ ?_)
  refine gw_seq fun K28 hK28 => ?_
  refine wp_region_lit ?_
  refine gw_ev HF26 (want_none rfl) rfl (by decide) (op_loadn gwagg24 gwsiz24 rfl (HF26.ev rfl) (HO23.get 1 rfl) rfl rfl) ?_
  intro a29 HF30; clear HF26
  refine gw_call HF30 (want_none rfl) rfl (by decide) (op_callL Try.func17 (by kernel_rfl) rfl rfl (ar_cons (HF30.ev rfl) ar_nil)) (Simple_walk n kd nm vl A3 c3 kids r _ (Kd.C_below hr3 HO23.below) hc3 fa1) ?_
  rintro e34 w35 ⟨A31, c32, S33, rfl, hb36⟩
  refine ⟨_, rfl, fun a37 HF38 => ?_⟩
  have HO39 := HO23.fresh hb36
  clear HF30 HO23 hb36
  have HO41 : Own w w35 [Chunk.view k24 S33 A31 r.2.2.2.length c32 r.2.2.2, Chunk.blk g8 (.cells #[.string b, .slice Ap ps.length cp] 27 (0, 0)), Chunk.blk g2 (.cells #[.int .i64 kd, .string nm, .string vl, .slice A3 kids.length c3] 24 (0, 0))] := HO39
  clear HO39
  refine gw_new HF38 HO41 (want_none rfl) rfl (by decide) (op_alloc gwzer24 rfl) ?_
  intro g42 a43 w44 HF45 HO46; clear HF38 HO41
  have HO47 : Own w w44 [Chunk.blk g42 (.cells #[.int .i64 0, .string (⟨#[]⟩ : ByteArray), .string (⟨#[]⟩ : ByteArray), .slice none 0 0] 24 (0, 0)), Chunk.view k24 S33 A31 r.2.2.2.length c32 r.2.2.2, Chunk.blk g8 (.cells #[.string b, .slice Ap ps.length cp] 27 (0, 0)), Chunk.blk g2 (.cells #[.int .i64 kd, .string nm, .string vl, .slice A3 kids.length c3] 24 (0, 0))] := HO46
  clear HO46
  refine gw_setn 0 HF45 HO47 rfl (want_none rfl) rfl (op_storen gwsiz24 rfl (HF45.ev rfl) (HF45.ev rfl) (HO47.get 0 rfl) rfl (by simp) (by simp [Value.oneCell'])) ?_
  intro a48 w50 HF49 HO51; clear HF45 HO47
  have HO52 : Own w w50 [Chunk.blk g42 (.cells #[.int .i64 r.1, .string r.2.1, .string r.2.2.1, .slice A31 r.2.2.2.length c32] 24 (0, 0)), Chunk.view k24 S33 A31 r.2.2.2.length c32 r.2.2.2, Chunk.blk g8 (.cells #[.string b, .slice Ap ps.length cp] 27 (0, 0)), Chunk.blk g2 (.cells #[.int .i64 kd, .string nm, .string vl, .slice A3 kids.length c3] 24 (0, 0))] := HO51
  clear HO51
  refine wpList_nil ?_
  refine gw_nx (hK28 _ _ ?_)
  refine gw_seq fun K53 hK53 => ?_
  refine gw_seq fun K54 hK54 => ?_
  refine wp_region_lit ?_
  refine gw_ev HF49 (want_none rfl) rfl (by decide) (op_loadn gwagg24 gwsiz24 rfl (HF49.ev rfl) (HO52.get 3 rfl) rfl rfl) ?_
  intro a55 HF56; clear HF49
  refine gw_call HF56 (want_none rfl) rfl (by decide) (op_callL Try.func10 (by kernel_rfl) rfl rfl (ar_cons (HF56.ev rfl) (ar_cons (ev_c _ _) ar_nil))) (colloquyref12_Right.calls n kd nm vl A3 c3 kids 20 t _ (Kd.C_below hr3 HO52.below) hc3 fa2) ?_
  rintro e57 w58 ⟨rfl, hb59⟩
  refine ⟨_, rfl, fun a60 HF61 => ?_⟩
  have HO62 := HO52.after hb59
  clear HF56 HO52 hb59
  refine gw_ev HF61 (want_none rfl) rfl (by decide) (op_not rfl (HF61.ev rfl)) ?_
  intro a64 HF65; clear HF61
  refine wpList_nil ?_
  refine gw_nx (hK54 _ _ ?_)
  refine gw_cond HF65 rfl (fun hb66 => ?_) (fun hb66 => ?_)
  · skip
    have HF67 := HF65.subst_ (d := 12) (b := true) rfl hb66
    clear HF65
    (try simp only [Bool.and_eq_true, Bool.or_eq_true, Bool.and_eq_false_iff, Bool.or_eq_false_iff, Bool.not_and, Bool.not_or, Bool.not_not, decide_eq_true_eq, decide_eq_false_iff_not, Bool.not_eq_true', Bool.not_eq_false', Bool.not_eq_true, Bool.not_eq_false, ne_eq, Decidable.not_not, Int.not_lt, Int.not_le, not_true_eq_false, not_false_eq_true, bne_iff_ne, beq_iff_eq, bne_eq_false_iff_eq, beq_eq_false_iff_ne] at hb66)
    have fa5 := fa3 hb66
    refine gw_seq fun K68 hK68 => ?_
    refine wp_region_lit ?_
    refine gw_ev HF67 (want_none rfl) rfl (by decide) (op_loadn gwagg24 gwsiz24 rfl (HF67.ev rfl) (HO62.get 0 rfl) rfl rfl) ?_
    intro a69 HF70; clear HF67
    refine gw_ev HF70 (want_none rfl) rfl (by decide) (op_build (cells := #[.int .i64 0, .string (⟨#[]⟩ : ByteArray), .string (⟨#[]⟩ : ByteArray), .slice none 0 0]) rfl pt_nil (by kernel_rfl)) ?_
    intro a71 HF72; clear HF70
    refine gw_call HF72 (want_none rfl) rfl (by decide) (op_callL Try.func18 (by kernel_rfl) rfl rfl (ar_cons (HF72.ev rfl) (ar_cons (HF72.ev rfl) ar_nil))) (colloquyref12_Same.calls n r.1 r.2.1 r.2.2.1 A31 c32 r.2.2.2 0 (⟨#[]⟩ : ByteArray) (⟨#[]⟩ : ByteArray) none 0 ([]) true _ (view_C (HO62.get 1 rfl)) (view_le (HO62.get 1 rfl)) (Kd.C_nil _ _) (Nat.le_refl _) fa5) ?_
    rintro e73 w74 ⟨rfl, hb75⟩
    refine ⟨_, rfl, fun a76 HF77 => ?_⟩
    have HO78 := HO62.after hb75
    clear HF72 HO62 hb75
    refine gw_ev HF77 (want_none rfl) rfl (by decide) (op_assign rfl (HF77.ev rfl)) ?_
    intro a80 HF81; clear HF77
    refine wpList_nil ?_
    refine gw_nx (hK68 _ _ ?_)
    refine wp_ret ?_
    refine gw_thr ?_
    refine gw_ret1 HF81 rfl rfl ?_
    exact ⟨by first | rfl | (congr 2; simp), HO78.below⟩
  · skip
    have HF82 := HF65.subst_ (d := 12) (b := false) rfl hb66
    clear HF65
    (try simp only [Bool.and_eq_true, Bool.or_eq_true, Bool.and_eq_false_iff, Bool.or_eq_false_iff, Bool.not_and, Bool.not_or, Bool.not_not, decide_eq_true_eq, decide_eq_false_iff_not, Bool.not_eq_true', Bool.not_eq_false', Bool.not_eq_true, Bool.not_eq_false, ne_eq, Decidable.not_not, Int.not_lt, Int.not_le, not_true_eq_false, not_false_eq_true, bne_iff_ne, beq_iff_eq, bne_eq_false_iff_eq, beq_eq_false_iff_ne] at hb66)
    obtain ⟨hv, fa6, fa7, fa8, fa9, fa10, fa11⟩ := fa4 hb66
    refine wp_skip ?_
    refine gw_nx (hK53 _ _ ?_)
    refine gw_seq fun K83 hK83 => ?_
    have HO84 := HO62.pin 1 rfl
    clear HO62
    have HO85 : Own w w58 [Chunk.blk g42 (.cells #[.int .i64 r.1, .string r.2.1, .string r.2.2.1, .slice A31 r.2.2.2.length c32] 24 (0, 0)), Chunk.viewAt w58 k24 S33 A31 r.2.2.2.length c32 r.2.2.2, Chunk.blk g8 (.cells #[.string b, .slice Ap ps.length cp] 27 (0, 0)), Chunk.blk g2 (.cells #[.int .i64 kd, .string nm, .string vl, .slice A3 kids.length c3] 24 (0, 0))] := HO84
    clear HO84
    refine gx_draw (M := [Chunk.blk g42 (.cells #[.int .i64 r.1, .string r.2.1, .string r.2.2.1, .slice A31 r.2.2.2.length c32] 24 (0, 0)), Chunk.viewAt w58 k24 S33 A31 r.2.2.2.length c32 r.2.2.2, Chunk.blk g8 (.cells #[.string b, .slice Ap ps.length cp] 27 (0, 0)), Chunk.blk g2 (.cells #[.int .i64 kd, .string nm, .string vl, .slice A3 kids.length c3] 24 (0, 0))]) (fun j_ => false) HO85 (by kernel_rfl) fun w86 HO87 => ?_
    clear HO85
    refine gx_take 0 rfl (by kernel_rfl) HF82 (by exact HO87.sel [0, 1, 2, 3] (by decide)) (want_none rfl) rfl (by decide) (fun wq HO => (op_loadn gwagg24 gwsiz24 rfl (HF82.ev rfl) (HO.get 0 rfl) rfl rfl)) ?_
    intro a88 HF89; clear HF82
    refine gx_take 1 rfl (by kernel_rfl) HF89 (by exact HO87.sel [0, 1, 2, 3] (by decide)) (want_none rfl) rfl (by decide) (fun wq HO => (op_loadn gwagg24 gwsiz24 rfl (HF89.ev rfl) (HO.get 3 rfl) rfl rfl)) ?_
    intro a90 HF91; clear HF89
    refine gx_step 2 rfl (by kernel_rfl) ?_
    refine gw_call HF91 (want_none rfl) rfl (by decide) (op_callL Try.func19 (by kernel_rfl) rfl rfl (ar_cons (HF91.ev rfl) (ar_cons (ev_c _ _) ar_nil))) (refSimple_own n kd nm vl A3 c3 kids false r _ (Kd.C_below hr3 HO87.below) hc3 fa6) ?_
    rintro e95 w96 ⟨A92, c93, S94, rfl, hb97⟩
    refine ⟨_, rfl, fun a98 HF99 => ?_⟩
    have HO100 := HO87.fresh hb97
    clear HF91 HO87 hb97
    have HO102 : Own w w96 [Chunk.view k24 S94 A92 r.2.2.2.length c93 r.2.2.2, Chunk.blk g42 (.cells #[.int .i64 r.1, .string r.2.1, .string r.2.2.1, .slice A31 r.2.2.2.length c32] 24 (0, 0)), Chunk.viewAt w58 k24 S33 A31 r.2.2.2.length c32 r.2.2.2, Chunk.blk g8 (.cells #[.string b, .slice Ap ps.length cp] 27 (0, 0)), Chunk.blk g2 (.cells #[.int .i64 kd, .string nm, .string vl, .slice A3 kids.length c3] 24 (0, 0))] := HO100
    clear HO100
    refine gx_on (i := 2) (B := (fun j_ => false)) (M := [Chunk.blk g42 (.cells #[.int .i64 r.1, .string r.2.1, .string r.2.2.1, .slice A31 r.2.2.2.length c32] 24 (0, 0)), Chunk.viewAt w58 k24 S33 A31 r.2.2.2.length c32 r.2.2.2, Chunk.blk g8 (.cells #[.string b, .slice Ap ps.length cp] 27 (0, 0)), Chunk.blk g2 (.cells #[.int .i64 kd, .string nm, .string vl, .slice A3 kids.length c3] 24 (0, 0))]) (fun _ => (by exact HO102.sel [1, 2, 3, 4] (by decide))) ?_
    refine gx_step 3 rfl (by kernel_rfl) ?_
    refine gw_call HF99 (want_none rfl) rfl (by decide) (op_callL Try.func18 (by kernel_rfl) rfl rfl (ar_cons (HF99.ev rfl) (ar_cons (HF99.ev rfl) ar_nil))) (colloquyref12_Same.calls n r.1 r.2.1 r.2.2.1 A31 c32 r.2.2.2 r.1 r.2.1 r.2.2.1 A92 c93 r.2.2.2 true _ (viewAt_C (HO102.get 2 rfl)) (viewAt_le (HO102.get 2 rfl)) (view_C (HO102.get 0 rfl)) (view_le (HO102.get 0 rfl)) fa7) ?_
    rintro e103 w104 ⟨rfl, hb105⟩
    refine ⟨_, rfl, fun a106 HF107 => ?_⟩
    have HO108 := HO102.after hb105
    clear HF99 HO102 hb105
    refine gx_on (i := 3) (B := (fun j_ => false)) (M := [Chunk.blk g42 (.cells #[.int .i64 r.1, .string r.2.1, .string r.2.2.1, .slice A31 r.2.2.2.length c32] 24 (0, 0)), Chunk.viewAt w58 k24 S33 A31 r.2.2.2.length c32 r.2.2.2, Chunk.blk g8 (.cells #[.string b, .slice Ap ps.length cp] 27 (0, 0)), Chunk.blk g2 (.cells #[.int .i64 kd, .string nm, .string vl, .slice A3 kids.length c3] 24 (0, 0))]) (fun _ => (by exact HO108.sel [1, 2, 3, 4] (by decide))) ?_
    refine gx_take 4 rfl (by kernel_rfl) HF107 (by exact HO108.sel [1, 2, 3, 4] (by decide)) (want_none rfl) rfl (by decide) (fun wq HO => (op_move rfl (HF107.ev rfl))) ?_
    intro a110 HF111; clear HF107
    refine gx_take 5 rfl (by kernel_rfl) HF111 (by exact HO108.sel [1, 2, 3, 4] (by decide)) (want_yes HF111 rfl rfl rfl rfl) rfl (by decide) (fun wq HO => (op_loadn gwagg24 gwsiz24 rfl (HF111.ev rfl) (HO.get 0 rfl) rfl rfl)) ?_
    intro a112 HF113; clear HF111
    refine gx_step 6 rfl (by kernel_rfl) ?_
    refine gw_call HF113 (want_yes HF113 rfl rfl rfl rfl) rfl (by decide) (op_callL Try.func11 (by kernel_rfl) rfl rfl (ar_cons (HF113.ev rfl) ar_nil)) (cond_Right.calls n r.1 r.2.1 r.2.2.1 A31 c32 r.2.2.2 true _ (viewAt_C (HO108.get 2 rfl)) (viewAt_le (HO108.get 2 rfl)) fa8) ?_
    rintro e114 w115 ⟨rfl, hb116⟩
    refine ⟨_, rfl, fun a117 HF118 => ?_⟩
    have HO119 := HO108.after hb116
    clear HF113 HO108 hb116
    refine gx_on (i := 6) (B := (fun j_ => false)) (M := [Chunk.blk g42 (.cells #[.int .i64 r.1, .string r.2.1, .string r.2.2.1, .slice A31 r.2.2.2.length c32] 24 (0, 0)), Chunk.viewAt w58 k24 S33 A31 r.2.2.2.length c32 r.2.2.2, Chunk.blk g8 (.cells #[.string b, .slice Ap ps.length cp] 27 (0, 0)), Chunk.blk g2 (.cells #[.int .i64 kd, .string nm, .string vl, .slice A3 kids.length c3] 24 (0, 0))]) (fun _ => (by exact HO119.sel [1, 2, 3, 4] (by decide))) ?_
    refine gx_take 7 rfl (by kernel_rfl) HF118 (by exact HO119.sel [1, 2, 3, 4] (by decide)) (want_none rfl) rfl (by decide) (fun wq HO => (op_pick_t rfl (HF118.ev rfl) (HF118.ev rfl))) ?_
    intro a121 HF122; clear HF118
    refine gx_take 8 rfl (by kernel_rfl) HF122 (by exact HO119.sel [1, 2, 3, 4] (by decide)) (want_none rfl) rfl (by decide) (fun wq HO => (op_move rfl (HF122.ev rfl))) ?_
    intro a123 HF124; clear HF122
    refine gx_take 9 rfl (by kernel_rfl) HF124 (by exact HO119.sel [1, 2, 3, 4] (by decide)) (want_yes HF124 rfl rfl rfl rfl) rfl (by decide) (fun wq HO => (op_loadn gwagg24 gwsiz24 rfl (HF124.ev rfl) (HO.get 0 rfl) rfl rfl)) ?_
    intro a125 HF126; clear HF124
    refine gx_take 10 rfl (by kernel_rfl) HF126 (by exact HO119.sel [1, 2, 3, 4] (by decide)) (want_yes HF126 rfl rfl rfl rfl) rfl (by decide) (fun wq HO => (op_loadn gwagg27 gwsiz27 rfl (HF126.ev rfl) (HO.get 2 rfl) rfl rfl)) ?_
    intro a127 HF128; clear HF126
    refine gx_take 12 rfl (by kernel_rfl) HF128 (by exact HO119.sel [1, 2, 3, 4] (by decide)) (want_yes HF128 rfl rfl rfl rfl) rfl (by decide) (fun wq HO => (op_loadn gwagg24 gwsiz24 rfl (HF128.ev rfl) (HO.get 3 rfl) rfl rfl)) ?_
    intro a129 HF130; clear HF128
    refine gx_take 13 rfl (by kernel_rfl) HF130 (by exact HO119.sel [1, 2, 3, 4] (by decide)) (want_yes HF130 rfl rfl rfl rfl) rfl (by decide) (fun wq HO => (op_loadn gwagg27 gwsiz27 rfl (HF130.ev rfl) (HO.get 2 rfl) rfl rfl)) ?_
    intro a131 HF132; clear HF130
    refine gx_step 11 rfl (by kernel_rfl) ?_
    refine gw_call HF132 (want_yes HF132 rfl rfl rfl rfl) rfl (by decide) (op_callL Try.func12 (by kernel_rfl) rfl rfl (ar_cons (HF132.ev rfl) (ar_cons (HF132.ev rfl) ar_nil))) (cond_Holds.calls n r.1 r.2.1 r.2.2.1 A31 c32 r.2.2.2 b Ap cp ps hv _ (viewAt_C (HO119.get 2 rfl)) (viewAt_le (HO119.get 2 rfl)) (Kd.C_below hrp HO119.below) hcp fa9) ?_
    rintro e133 w134 ⟨rfl, hb135⟩
    refine ⟨_, rfl, fun a136 HF137 => ?_⟩
    have HO138 := HO119.after hb135
    clear HF132 HO119 hb135
    refine gx_on (i := 11) (B := (fun j_ => false)) (M := [Chunk.blk g42 (.cells #[.int .i64 r.1, .string r.2.1, .string r.2.2.1, .slice A31 r.2.2.2.length c32] 24 (0, 0)), Chunk.viewAt w58 k24 S33 A31 r.2.2.2.length c32 r.2.2.2, Chunk.blk g8 (.cells #[.string b, .slice Ap ps.length cp] 27 (0, 0)), Chunk.blk g2 (.cells #[.int .i64 kd, .string nm, .string vl, .slice A3 kids.length c3] 24 (0, 0))]) (fun _ => (by exact HO138.sel [1, 2, 3, 4] (by decide))) ?_
    refine gx_step 14 rfl (by kernel_rfl) ?_
    refine gw_call HF137 (want_yes HF137 rfl rfl rfl rfl) rfl (by decide) (op_callL Try.func12 (by kernel_rfl) rfl rfl (ar_cons (HF137.ev rfl) (ar_cons (HF137.ev rfl) ar_nil))) (cond_Holds.calls n kd nm vl A3 c3 kids b Ap cp ps hv _ (Kd.C_below hr3 HO138.below) hc3 (Kd.C_below hrp HO138.below) hcp fa10) ?_
    rintro e140 w141 ⟨rfl, hb142⟩
    refine ⟨_, rfl, fun a143 HF144 => ?_⟩
    have HO145 := HO138.after hb142
    clear HF137 HO138 hb142
    refine gx_on (i := 14) (B := (fun j_ => false)) (M := [Chunk.blk g42 (.cells #[.int .i64 r.1, .string r.2.1, .string r.2.2.1, .slice A31 r.2.2.2.length c32] 24 (0, 0)), Chunk.viewAt w58 k24 S33 A31 r.2.2.2.length c32 r.2.2.2, Chunk.blk g8 (.cells #[.string b, .slice Ap ps.length cp] 27 (0, 0)), Chunk.blk g2 (.cells #[.int .i64 kd, .string nm, .string vl, .slice A3 kids.length c3] 24 (0, 0))]) (fun _ => (by exact HO145.sel [1, 2, 3, 4] (by decide))) ?_
    refine gx_take 15 rfl (by kernel_rfl) HF144 (by exact HO145.sel [1, 2, 3, 4] (by decide)) (want_yes HF144 rfl rfl rfl rfl) rfl (by decide) (fun wq HO => (op_eqb Try.underlying4 rfl (HF144.ev rfl) (HF144.ev rfl))) ?_
    intro a147 HF148; clear HF144
    have HF149 := HF148.lit (b := true) (by simp)
    clear HF148
    refine gx_take 16 rfl (by kernel_rfl) HF149 (by exact HO145.sel [1, 2, 3, 4] (by decide)) (want_none rfl) rfl (by decide) (fun wq HO => (op_pick_t rfl (HF149.ev rfl) (HF149.ev rfl))) ?_
    intro a150 HF151; clear HF149
    refine gx_take 17 rfl (by kernel_rfl) HF151 (by exact HO145.sel [1, 2, 3, 4] (by decide)) (want_none rfl) rfl (by decide) (fun wq HO => (op_move rfl (HF151.ev rfl))) ?_
    intro a152 HF153; clear HF151
    refine gx_take 18 rfl (by kernel_rfl) HF153 (by exact HO145.sel [1, 2, 3, 4] (by decide)) (want_yes HF153 rfl rfl rfl rfl) rfl (by decide) (fun wq HO => (op_loadn gwagg24 gwsiz24 rfl (HF153.ev rfl) (HO.get 0 rfl) rfl rfl)) ?_
    intro a154 HF155; clear HF153
    refine gx_take 20 rfl (by kernel_rfl) HF155 (by exact HO145.sel [1, 2, 3, 4] (by decide)) (want_yes HF155 rfl rfl rfl rfl) rfl (by decide) (fun wq HO => (op_loadn gwagg24 gwsiz24 rfl (HF155.ev rfl) (HO.get 0 rfl) rfl rfl)) ?_
    intro a156 HF157; clear HF155
    refine gx_step 19 rfl (by kernel_rfl) ?_
    refine gw_call HF157 (want_yes HF157 rfl rfl rfl rfl) rfl (by decide) (op_callL Try.func17 (by kernel_rfl) rfl rfl (ar_cons (HF157.ev rfl) ar_nil)) (Simple_walk n r.1 r.2.1 r.2.2.1 A31 c32 r.2.2.2 r _ (viewAt_C (HO145.get 2 rfl)) (viewAt_le (HO145.get 2 rfl)) fa11) ?_
    rintro e161 w162 ⟨A158, c159, S160, rfl, hb163⟩
    refine ⟨_, rfl, fun a164 HF165 => ?_⟩
    have HO166 := HO145.fresh hb163
    clear HF157 HO145 hb163
    have HO168 : Own w w162 [Chunk.view k24 S160 A158 r.2.2.2.length c159 r.2.2.2, Chunk.view k24 S94 A92 r.2.2.2.length c93 r.2.2.2, Chunk.blk g42 (.cells #[.int .i64 r.1, .string r.2.1, .string r.2.2.1, .slice A31 r.2.2.2.length c32] 24 (0, 0)), Chunk.viewAt w58 k24 S33 A31 r.2.2.2.length c32 r.2.2.2, Chunk.blk g8 (.cells #[.string b, .slice Ap ps.length cp] 27 (0, 0)), Chunk.blk g2 (.cells #[.int .i64 kd, .string nm, .string vl, .slice A3 kids.length c3] 24 (0, 0))] := HO166
    clear HO166
    refine gx_on (i := 19) (B := (fun j_ => false)) (M := [Chunk.blk g42 (.cells #[.int .i64 r.1, .string r.2.1, .string r.2.2.1, .slice A31 r.2.2.2.length c32] 24 (0, 0)), Chunk.viewAt w58 k24 S33 A31 r.2.2.2.length c32 r.2.2.2, Chunk.blk g8 (.cells #[.string b, .slice Ap ps.length cp] 27 (0, 0)), Chunk.blk g2 (.cells #[.int .i64 kd, .string nm, .string vl, .slice A3 kids.length c3] 24 (0, 0))]) (fun _ => (by exact HO168.sel [2, 3, 4, 5] (by decide))) ?_
    refine gx_step 21 rfl (by kernel_rfl) ?_
    refine gw_call HF165 (want_yes HF165 rfl rfl rfl rfl) rfl (by decide) (op_callL Try.func18 (by kernel_rfl) rfl rfl (ar_cons (HF165.ev rfl) (ar_cons (HF165.ev rfl) ar_nil))) (colloquyref12_Same.calls n r.1 r.2.1 r.2.2.1 A158 c159 r.2.2.2 r.1 r.2.1 r.2.2.1 A31 c32 r.2.2.2 true _ (view_C (HO168.get 0 rfl)) (view_le (HO168.get 0 rfl)) (viewAt_C (HO168.get 3 rfl)) (viewAt_le (HO168.get 3 rfl)) fa7) ?_
    rintro e169 w170 ⟨rfl, hb171⟩
    refine ⟨_, rfl, fun a172 HF173 => ?_⟩
    have HO174 := HO168.after hb171
    clear HF165 HO168 hb171
    refine gx_on (i := 21) (B := (fun j_ => false)) (M := [Chunk.blk g42 (.cells #[.int .i64 r.1, .string r.2.1, .string r.2.2.1, .slice A31 r.2.2.2.length c32] 24 (0, 0)), Chunk.viewAt w58 k24 S33 A31 r.2.2.2.length c32 r.2.2.2, Chunk.blk g8 (.cells #[.string b, .slice Ap ps.length cp] 27 (0, 0)), Chunk.blk g2 (.cells #[.int .i64 kd, .string nm, .string vl, .slice A3 kids.length c3] 24 (0, 0))]) (fun _ => (by exact HO174.sel [2, 3, 4, 5] (by decide))) ?_
    refine gx_take 22 rfl (by kernel_rfl) HF173 (by exact HO174.sel [2, 3, 4, 5] (by decide)) (want_none rfl) rfl (by decide) (fun wq HO => (op_pick_t rfl (HF173.ev rfl) (HF173.ev rfl))) ?_
    intro a176 HF177; clear HF173
    refine gx_take 23 rfl (by kernel_rfl) HF177 (by exact HO174.sel [2, 3, 4, 5] (by decide)) (want_none rfl) rfl (by decide) (fun wq HO => (op_assign rfl (HF177.ev rfl))) ?_
    intro a178 HF179; clear HF177
    refine gx_done (by kernel_rfl) ?_
    refine gw_nx (hK83 _ _ ?_)
    refine wp_ret ?_
    have HO180 := HO174.unpin 3 rfl
    clear HO174
    have HO181 : Own w w170 [Chunk.view k24 S160 A158 r.2.2.2.length c159 r.2.2.2, Chunk.view k24 S94 A92 r.2.2.2.length c93 r.2.2.2, Chunk.blk g42 (.cells #[.int .i64 r.1, .string r.2.1, .string r.2.2.1, .slice A31 r.2.2.2.length c32] 24 (0, 0)), Chunk.view k24 S33 A31 r.2.2.2.length c32 r.2.2.2, Chunk.blk g8 (.cells #[.string b, .slice Ap ps.length cp] 27 (0, 0)), Chunk.blk g2 (.cells #[.int .i64 kd, .string nm, .string vl, .slice A3 kids.length c3] 24 (0, 0))] := HO180
    clear HO180
    refine gw_ret1 HF179 rfl rfl ?_
    exact ⟨by first | rfl | (congr 2; simp), HO181.below⟩
end GCond10_
export GCond10_ (CondSimple_walk)
open Classical in
noncomputable def colloquylaw12_CondSimple.f (a0_0 : Int) (a0_1 : ByteArray) (a0_2 : ByteArray) (l0_3 : List S24) (a1_0 : ByteArray) (l1_1 : List S36) : Option Bool := if (smallN 20 ⟨a0_0, a0_1, a0_2, l0_3⟩) ∧ (wtN 21 ⟨a0_0, a0_1, a0_2, l0_3⟩ ≤ 1048576) then some true else none
theorem colloquylaw12_CondSimple.calls (a0_0 : Int) (a0_1 : ByteArray) (a0_2 : ByteArray) (A0_3 : Option Addr) (c0_3 : Nat) (l0_3 : List S24) (a1_0 : ByteArray) (A1_1 : Option Addr) (c1_1 : Nat) (l1_1 : List S36) (r : Bool) (w : World) (hr0_3 : Kd.C k24 w A0_3 l0_3.length l0_3) (hc0_3 : l0_3.length ≤ c0_3) (hr1_1 : Kd.C k36 w A1_1 l1_1.length l1_1) (hc1_1 : l1_1.length ≤ c1_1) (h : colloquylaw12_CondSimple.f a0_0 a0_1 a0_2 l0_3 a1_0 l1_1 = some r) :
    Calls Try.prog 5 #[(.agg #[.int .i64 a0_0, .string a0_1, .string a0_2, .slice A0_3 l0_3.length c0_3]), (.agg #[.string a1_0, .slice A1_1 l1_1.length c1_1])] w fun e w' => e = .returned (.bool r) ∧ Below w.heap.size w w' := by
  unfold colloquylaw12_CondSimple.f at h
  split at h
  · cases h; rename_i hh; exact CondSimple_walk a0_0 a0_1 a0_2 A0_3 c0_3 l0_3 a1_0 A1_1 c1_1 l1_1 w hr0_3 hc0_3 hr1_1 hc1_1 hh.1 hh.2
  · cases h
end Go.Proofs.Ytjndcgochnaodaa.PA
