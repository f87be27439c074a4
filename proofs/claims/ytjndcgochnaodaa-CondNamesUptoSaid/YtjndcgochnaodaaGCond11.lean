/- Conditions: the names, as the document says. Printed by a program of this session; Lean checks it. -/
import Derived.Test.YtjndcgochnaodaaGCond5
import Derived.Test.YtjndcgochnaodaaHCondQ
namespace Go.Proofs.Ytjndcgochnaodaa.PA
open Go.RowKit Go.Proofs.YtjndcgochnaodaaW.PrintWords Go.Proofs.YtjndcgochnaodaaW.PrintLast Go.Proofs.YtjndcgochnaodaaW.PrintMore
set_option linter.unusedVariables false
set_option linter.unusedSimpArgs false
namespace GCond11_
theorem gwagg24 : ∀ w, (isAgg 24).run Try.prog w = .ok true w := fun _ => by kernel_rfl
theorem gwagg25 : ∀ w, (isAgg 25).run Try.prog w = .ok false w := fun _ => by kernel_rfl
theorem gwagg27 : ∀ w, (isAgg 27).run Try.prog w = .ok true w := fun _ => by kernel_rfl
theorem gwagg36 : ∀ w, (isAgg 36).run Try.prog w = .ok true w := fun _ => by kernel_rfl
theorem gwagg9 : ∀ w, (isAgg 9).run Try.prog w = .ok false w := fun _ => by kernel_rfl
theorem gwfld27_1 (g off : Nat) : ∀ w, (Instr.fieldAt 27 (.pointer (some ⟨g, off, none⟩)) 1).run Try.prog w = .ok (.pointer (some ⟨g, off + 1, none⟩)) w := fun _ => by kernel_rfl
theorem gwfld36_0 (g off : Nat) : ∀ w, (Instr.fieldAt 36 (.pointer (some ⟨g, off, none⟩)) 0).run Try.prog w = .ok (.pointer (some ⟨g, off + 0, none⟩)) w := fun _ => by kernel_rfl
theorem gwinfo36 : (Try.prog.info? 36).map (fun i => (i.zero, i.size, i.bytes)) = some (some (.agg #[.string (⟨#[]⟩ : ByteArray), .string (⟨#[]⟩ : ByteArray)]), 2, 32) := by kernel_rfl
theorem gwsiz24 : ∀ w, (sizeOf 24).run Try.prog w = .ok 4 w := fun _ => by kernel_rfl
theorem gwsiz25 : ∀ w, (sizeOf 25).run Try.prog w = .ok 1 w := fun _ => by kernel_rfl
theorem gwsiz27 : ∀ w, (sizeOf 27).run Try.prog w = .ok 2 w := fun _ => by kernel_rfl
theorem gwsiz36 : ∀ w, (sizeOf 36).run Try.prog w = .ok 2 w := fun _ => by kernel_rfl
theorem gwsiz9 : ∀ w, (sizeOf 9).run Try.prog w = .ok 1 w := fun _ => by kernel_rfl
theorem gwzer27 : ∀ w, (zeroValue 27).run Try.prog w = .ok (.agg #[.string (⟨#[]⟩ : ByteArray), .slice none 0 0]) w := fun _ => by kernel_rfl
theorem gwzer36 : ∀ w, (zeroValue 36).run Try.prog w = .ok (.agg #[.string (⟨#[]⟩ : ByteArray), .string (⟨#[]⟩ : ByteArray)]) w := fun _ => by kernel_rfl
theorem All_own (k : Nat) (kd : Int) (nm vl : ByteArray) (A3 : Option Addr) (c3 : Nat) (kids : List S24) (r : List ByteArray) (w : World) (hr3 : Kd.C k24 w A3 kids.length kids) (hc3 : kids.length ≤ c3) (h : colloquyref12_All.f k kd nm vl kids = some r) : Calls Try.prog 15 #[(.agg #[.int .i64 kd, .string nm, .string vl, .slice A3 kids.length c3] : Value)] w fun e w' => ∃ A c S, e = .returned (.slice A r.length c) ∧ Out w w' (fun _ => False) [Chunk.row Kd.string 9 w.heap.size S (.slice A r.length c) r] :=
  (colloquyref12_All.calls k kd nm vl A3 c3 kids r w hr3 hc3 h).mono fun e w' h_ => by
    obtain ⟨v, rfl, hR, hb⟩ := h_
    obtain ⟨A, c, rfl⟩ := Kd.R_slice hR
    exact ⟨A, c, _, rfl, Out.row hR hb⟩

set_option maxHeartbeats 4000000 in
set_option maxRecDepth 100000 in
theorem CondNames_walk (kd : Int) (nm vl : ByteArray) (A3 : Option Addr) (c3 : Nat) (kids : List S24) (b : ByteArray) (Ap : Option Addr) (cp : Nat) (ps : List S36) (w : World) (hr3 : Kd.C k24 w A3 kids.length kids) (hc3 : kids.length ≤ c3) (hrp : Kd.C k36 w Ap ps.length ps) (hcp : ps.length ≤ cp) (hs : smallN 20 ⟨kd, nm, vl, kids⟩) (hw : wtN 21 ⟨kd, nm, vl, kids⟩ ≤ 1048576) (hp : ps.length ≤ 1048576) :
    Calls Try.prog 4 #[.agg #[.int .i64 kd, .string nm, .string vl, .slice A3 kids.length c3], .agg #[.string b, .slice Ap ps.length cp]] w fun e w' => e = .returned (.bool true) ∧ Below w.heap.size w w' := by
  obtain ⟨n, t, LV, r, f1, f2, f3, f4⟩ := facts_names (⟨kd, nm, vl, kids⟩ : S24) b ps hs hw
  refine gw_start (N := 105) (vs := [.agg #[.int .i64 kd, .string nm, .string vl, .slice A3 kids.length c3], .agg #[.string b, .slice Ap ps.length cp]]) Try.func4 rfl rfl (by simp) fun a HF HO => ?_
  replace HO : Own w w [] := HO
  refine gw_seq fun K1 hK1 => ?_
  refine wp_region_lit ?_
  refine gw_new HF HO (want_none rfl) rfl (by decide) (op_box rfl (HF.ev rfl)) ?_
  intro g2 a3 w4 HF5 HO6; clear HF HO
  have HO7 : Own w w4 [Chunk.blk g2 (.cells #[.int .i64 kd, .string nm, .string vl, .slice A3 kids.length c3] 24 (0, 0))] := HO6
  clear HO6
  refine gw_new HF5 HO7 (want_none rfl) rfl (by decide) (op_box rfl (HF5.ev rfl)) ?_
  intro g8 a9 w10 HF11 HO12; clear HF5 HO7
  have HO13 : Own w w10 [Chunk.blk g8 (.cells #[.string b, .slice Ap ps.length cp] 27 (0, 0)), Chunk.blk g2 (.cells #[.int .i64 kd, .string nm, .string vl, .slice A3 kids.length c3] 24 (0, 0))] := HO12
  clear HO12
  refine gw_ev HF11 (want_none rfl) rfl (by decide) (op_assign rfl (ev_c _ _)) ?_
  intro a14 HF15; clear HF11
  refine wpList_nil ?_
  refine gw_nx (hK1 _ _ ?_)
  refine gw_seq fun K16 hK16 => ?_
  refine gw_seq fun K17 hK17 => ?_
  refine wp_region_lit ?_
  refine gw_call HF15 (want_none rfl) rfl (by decide) (op_callL Try.func9 (by kernel_rfl) rfl rfl ar_nil) (alive_calls _) ?_
  rintro e18 w19 ⟨rfl, hb20⟩
  refine ⟨_, rfl, fun a21 HF22 => ?_⟩
  have HO23 := HO13.after hb20
  clear HF15 HO13 hb20
  refine gw_ev HF22 (want_none rfl) rfl (by decide) (op_not rfl (HF22.ev rfl)) ?_
  intro a25 HF26; clear HF22
  refine wpList_nil ?_
  refine gw_nx (hK17 _ _ ?_)
  refine gw_cond HF26 rfl (fun hb27 => ?_) (fun hb27 => ?_)
  skip
  · cases hb27
  refine wp_skip ?_
  refine gw_nx (hK16 _ _ ?_)
  refine gw_seq fun K28 hK28 => ?_
  refine wp_region_lit ?_
  refine gw_ev HF26 (want_none rfl) rfl (by decide) (op_loadn gwagg24 gwsiz24 rfl (HF26.ev rfl) (HO23.get 1 rfl) rfl rfl) ?_
  intro a29 HF30; clear HF26
  refine gw_call HF30 (want_none rfl) rfl (by decide) (op_callL Try.func14 (by kernel_rfl) rfl rfl (ar_cons (HF30.ev rfl) ar_nil)) (Names_walk n kd nm vl A3 c3 kids r _ (Kd.C_below hr3 HO23.below) hc3 f1) ?_
  rintro e34 w35 ⟨A31, c32, S33, rfl, hb36⟩
  refine ⟨_, rfl, fun a37 HF38 => ?_⟩
  have HO39 := HO23.fresh hb36
  have hbel40 := HO23.below
  clear HF30 HO23 hb36
  have HO41 := HO39.lowrow 0 rfl (base' := w.heap.size) (Below.size hbel40)
  have HO42 : Own w w35 [Chunk.row Kd.string 9 w.heap.size S33 (.slice A31 ((r).length) c32) r, Chunk.blk g8 (.cells #[.string b, .slice Ap ps.length cp] 27 (0, 0)), Chunk.blk g2 (.cells #[.int .i64 kd, .string nm, .string vl, .slice A3 kids.length c3] 24 (0, 0))] := HO41
  clear HO41
  refine gw_ev HF38 (want_none rfl) rfl (by decide) (op_assign rfl (HF38.ev rfl)) ?_
  intro a43 HF44; clear HF38
  have HO45 := HO42.row_view 0 rfl
  clear HO42
  have HO46 : Own w w35 [Chunk.view Kd.string S33 A31 ((r).length) c32 r, Chunk.blk g8 (.cells #[.string b, .slice Ap ps.length cp] 27 (0, 0)), Chunk.blk g2 (.cells #[.int .i64 kd, .string nm, .string vl, .slice A3 kids.length c3] 24 (0, 0))] := HO45
  clear HO45
  have hrl := len_C (view_C (HO46.get 0 rfl))
  refine wpList_nil ?_
  refine gw_nx (hK28 _ _ ?_)
  refine gw_seq fun K47 hK47 => ?_
  refine gw_seq fun K48 hK48 => ?_
  refine wp_region_lit ?_
  refine gw_ev HF44 (want_none rfl) rfl (by decide) (op_loadn gwagg24 gwsiz24 rfl (HF44.ev rfl) (HO46.get 2 rfl) rfl rfl) ?_
  intro a49 HF50; clear HF44
  refine gw_call HF50 (want_none rfl) rfl (by decide) (op_callL Try.func10 (by kernel_rfl) rfl rfl (ar_cons (HF50.ev rfl) (ar_cons (ev_c _ _) ar_nil))) (colloquyref12_Right.calls n kd nm vl A3 c3 kids 20 t _ (Kd.C_below hr3 HO46.below) hc3 f2) ?_
  rintro e51 w52 ⟨rfl, hb53⟩
  refine ⟨_, rfl, fun a54 HF55 => ?_⟩
  have HO56 := HO46.after hb53
  clear HF50 HO46 hb53
  refine gw_ev HF55 (want_none rfl) rfl (by decide) (op_not rfl (HF55.ev rfl)) ?_
  intro a58 HF59; clear HF55
  refine wpList_nil ?_
  refine gw_nx (hK48 _ _ ?_)
  refine gw_cond HF59 rfl (fun hb60 => ?_) (fun hb60 => ?_)
  · skip
    have HF61 := HF59.subst_ (d := 23) (b := true) rfl hb60
    clear HF59
    (try simp only [Bool.and_eq_true, Bool.or_eq_true, Bool.and_eq_false_iff, Bool.or_eq_false_iff, Bool.not_and, Bool.not_or, Bool.not_not, decide_eq_true_eq, decide_eq_false_iff_not, Bool.not_eq_true', Bool.not_eq_false', Bool.not_eq_true, Bool.not_eq_false, ne_eq, Decidable.not_not, Int.not_lt, Int.not_le, not_true_eq_false, not_false_eq_true, bne_iff_ne, beq_iff_eq, bne_eq_false_iff_eq, beq_eq_false_iff_ne] at hb60)
    have hr0 := f3 hb60
    refine gw_seq fun K62 hK62 => ?_
    refine wp_region_lit ?_
    refine gw_ev HF61 (want_none rfl) rfl (by decide) (op_move rfl (HF61.ev rfl)) ?_
    intro a63 HF64; clear HF61
    refine gw_ev HF64 (want_none rfl) rfl (by decide) (op_len Try.underlying32 rfl (HF64.ev rfl)) ?_
    intro a65 HF66; clear HF64
    refine gw_ev HF66 (want_none rfl) rfl (by decide) (op_eqi rfl (HF66.ev rfl) (ev_c _ _)) ?_
    intro a67 HF68; clear HF66
    refine gw_ev HF68 (want_none rfl) rfl (by decide) (op_assign rfl (HF68.ev rfl)) ?_
    intro a69 HF70; clear HF68
    refine wpList_nil ?_
    refine gw_nx (hK62 _ _ ?_)
    refine wp_ret ?_
    refine gw_thr ?_
    refine gw_ret1 HF70 rfl rfl ?_
    exact ⟨by first | rfl | (congr 2; simp [hr0]) | (congr 2; simp), HO56.below⟩
  · skip
    have HF71 := HF59.subst_ (d := 23) (b := false) rfl hb60
    clear HF59
    (try simp only [Bool.and_eq_true, Bool.or_eq_true, Bool.and_eq_false_iff, Bool.or_eq_false_iff, Bool.not_and, Bool.not_or, Bool.not_not, decide_eq_true_eq, decide_eq_false_iff_not, Bool.not_eq_true', Bool.not_eq_false', Bool.not_eq_true, Bool.not_eq_false, ne_eq, Decidable.not_not, Int.not_lt, Int.not_le, not_true_eq_false, not_false_eq_true, bne_iff_ne, beq_iff_eq, bne_eq_false_iff_eq, beq_eq_false_iff_ne] at hb60)
    have fN := f4 hb60; obtain ⟨kh, hv, hk1, hk2⟩ := fN.holds
    refine wp_skip ?_
    refine gw_nx (hK47 _ _ ?_)
    refine gw_seq fun K72 hK72 => ?_
    refine wp_region_lit ?_
    refine gw_ev HF71 (want_none rfl) rfl (by decide) (op_loadn gwagg24 gwsiz24 rfl (HF71.ev rfl) (HO56.get 2 rfl) rfl rfl) ?_
    intro a73 HF74; clear HF71
    refine gw_call HF74 (want_none rfl) rfl (by decide) (op_callL Try.func15 (by kernel_rfl) rfl rfl (ar_cons (HF74.ev rfl) ar_nil)) (All_own n kd nm vl A3 c3 kids LV _ (Kd.C_below hr3 HO56.below) hc3 fN.all) ?_
    rintro e78 w79 ⟨A75, c76, S77, rfl, hb80⟩
    refine ⟨_, rfl, fun a81 HF82 => ?_⟩
    have HO83 := HO56.fresh hb80
    have hbel84 := HO56.below
    clear HF74 HO56 hb80
    have HO85 := HO83.lowrow 0 rfl (base' := w.heap.size) (Below.size hbel84)
    have HO86 : Own w w79 [Chunk.row Kd.string 9 w.heap.size S77 (.slice A75 LV.length c76) LV, Chunk.view Kd.string S33 A31 ((r).length) c32 r, Chunk.blk g8 (.cells #[.string b, .slice Ap ps.length cp] 27 (0, 0)), Chunk.blk g2 (.cells #[.int .i64 kd, .string nm, .string vl, .slice A3 kids.length c3] 24 (0, 0))] := HO85
    clear HO85
    refine gw_ev HF82 (want_none rfl) rfl (by decide) (op_assign rfl (HF82.ev rfl)) ?_
    intro a87 HF88; clear HF82
    have HO89 := HO86.row_view 0 rfl
    clear HO86
    have HO90 : Own w w79 [Chunk.view Kd.string S77 A75 LV.length c76 LV, Chunk.view Kd.string S33 A31 ((r).length) c32 r, Chunk.blk g8 (.cells #[.string b, .slice Ap ps.length cp] 27 (0, 0)), Chunk.blk g2 (.cells #[.int .i64 kd, .string nm, .string vl, .slice A3 kids.length c3] 24 (0, 0))] := HO89
    clear HO89
    have hvl := len_C (view_C (HO90.get 0 rfl))
    refine wpList_nil ?_
    refine gw_nx (hK72 _ _ ?_)
    refine gw_seq fun K91 hK91 => ?_
    refine gw_seq fun K92 hK92 => ?_
    refine wp_region_lit ?_
    refine gw_ev HF88 (want_none rfl) rfl (by decide) (op_move rfl (HF88.ev rfl)) ?_
    intro a93 HF94; clear HF88
    refine gw_ev HF94 (want_none rfl) rfl (by decide) (op_len Try.underlying32 rfl (HF94.ev rfl)) ?_
    intro a95 HF96; clear HF94
    refine gw_ev HF96 (want_none rfl) rfl (by decide) (op_gtr rfl (HF96.ev rfl) (ev_c _ _)) ?_
    intro a97 HF98; clear HF96
    refine wpList_nil ?_
    refine gw_nx (hK92 _ _ ?_)
    refine gw_cond HF98 rfl (fun hb99 => ?_) (fun hb99 => ?_)
    · skip
      have HF100 := HF98.subst_ (d := 31) (b := true) rfl hb99
      clear HF98
      (try simp only [Bool.and_eq_true, Bool.or_eq_true, Bool.and_eq_false_iff, Bool.or_eq_false_iff, Bool.not_and, Bool.not_or, Bool.not_not, decide_eq_true_eq, decide_eq_false_iff_not, Bool.not_eq_true', Bool.not_eq_false', Bool.not_eq_true, Bool.not_eq_false, ne_eq, Decidable.not_not, Int.not_lt, Int.not_le, not_true_eq_false, not_false_eq_true, bne_iff_ne, beq_iff_eq, bne_eq_false_iff_eq, beq_eq_false_iff_ne] at hb99)
      refine gw_seq fun K101 hK101 => ?_
      refine wp_region_lit ?_
      refine gw_ev HF100 (want_none rfl) rfl (by decide) (op_assign rfl (ev_c _ _)) ?_
      intro a102 HF103; clear HF100
      refine wpList_nil ?_
      refine gw_nx (hK101 _ _ ?_)
      refine wp_ret ?_
      refine gw_thr ?_
      refine gw_ret1 HF103 rfl rfl ?_
      exact ⟨by first | rfl | (congr 2; simp [hr0]) | (congr 2; simp), HO90.below⟩
    · skip
      have HF104 := HF98.subst_ (d := 31) (b := false) rfl hb99
      clear HF98
      (try simp only [Bool.and_eq_true, Bool.or_eq_true, Bool.and_eq_false_iff, Bool.or_eq_false_iff, Bool.not_and, Bool.not_or, Bool.not_not, decide_eq_true_eq, decide_eq_false_iff_not, Bool.not_eq_true', Bool.not_eq_false', Bool.not_eq_true, Bool.not_eq_false, ne_eq, Decidable.not_not, Int.not_lt, Int.not_le, not_true_eq_false, not_false_eq_true, bne_iff_ne, beq_iff_eq, bne_eq_false_iff_eq, beq_eq_false_iff_ne] at hb99)
      refine wp_skip ?_
      refine gw_nx (hK91 _ _ ?_)
      refine gw_seq fun K105 hK105 => ?_
      refine gw_seq fun K106 hK106 => ?_
      refine wp_region_lit ?_
      refine gw_ev HF104 (want_none rfl) rfl (by decide) (op_move rfl (HF104.ev rfl)) ?_
      intro a107 HF108; clear HF104
      refine gw_ev HF108 (want_none rfl) rfl (by decide) (op_len Try.underlying32 rfl (HF108.ev rfl)) ?_
      intro a109 HF110; clear HF108
      refine gw_ev HF110 (want_none rfl) rfl (by decide) (op_move rfl (ev_c _ _)) ?_
      intro a111 HF112; clear HF110
      refine wpList_nil ?_
      refine gw_nx (hK106 _ _ ?_)
      refine wp_block ?_
      refine gw_loop (fun m_ a_ w_ => ∃ (i : Int), Fr 105 a_ [(34, .int .i64 i), (2, .pointer (some ⟨g2, 0, none⟩)), (3, .pointer (some ⟨g8, 0, none⟩)), (5, .slice A31 ((r).length) c32), (6, .slice A75 LV.length c76), (32, .slice A31 ((r).length) c32), (33, .int .i64 (((r).length) : Int))] ∧ Own w w_ [Chunk.view Kd.string S77 A75 LV.length c76 LV, Chunk.view Kd.string S33 A31 ((r).length) c32 r, Chunk.blk g8 (.cells #[.string b, .slice Ap ps.length cp] 27 (0, 0)), Chunk.blk g2 (.cells #[.int .i64 kd, .string nm, .string vl, .slice A3 kids.length c3] 24 (0, 0))] ∧ (0 ≤ i ∧ i ≤ r.length) ∧ m_ = (r.length - i.toNat)) ((r.length - (0 : Int).toNat)) ?_ ?_
      · refine ⟨0, (HF112.pick (t := 34) rfl (HF112.pick (t := 2) rfl (HF112.pick (t := 3) rfl (HF112.pick (t := 5) rfl (HF112.pick (t := 6) rfl (HF112.pick (t := 32) rfl (HF112.pick (t := 33) rfl HF112.nil))))))), HO90.sel [0, 1, 2, 3] (by decide), ?_, rfl⟩
        · omega
      · rintro m114 a115 w116 ⟨i, HF117, HO118, hi, hm119⟩
        refine gw_seq fun K120 hK120 => ?_
        refine wp_region_lit ?_
        refine gw_ev HF117 (want_none rfl) rfl (by decide) (op_lss rfl (HF117.ev rfl) (HF117.ev rfl)) ?_
        intro a121 HF122; clear HF117
        refine wpList_nil ?_
        refine gw_nx (hK120 _ _ ?_)
        refine gw_seq fun K123 hK123 => ?_
        refine gw_cond HF122 rfl (fun hb124 => ?_) (fun hb124 => ?_)
        · skip
          have HF125 := HF122.subst_ (d := 35) (b := true) rfl hb124
          clear HF122
          (try simp only [Bool.and_eq_true, Bool.or_eq_true, Bool.and_eq_false_iff, Bool.or_eq_false_iff, Bool.not_and, Bool.not_or, Bool.not_not, decide_eq_true_eq, decide_eq_false_iff_not, Bool.not_eq_true', Bool.not_eq_false', Bool.not_eq_true, Bool.not_eq_false, ne_eq, Decidable.not_not, Int.not_lt, Int.not_le, not_true_eq_false, not_false_eq_true, bne_iff_ne, beq_iff_eq, bne_eq_false_iff_eq, beq_eq_false_iff_ne] at hb124)
          refine wp_skip ?_
          refine gw_nx (hK123 _ _ ?_)
          refine gw_seq fun K126 hK126 => ?_
          refine wp_block ?_
          refine gw_seq fun K127 hK127 => ?_
          refine wp_region_lit ?_
          refine gw_ev HF125 (want_none rfl) rfl (by decide) (op_move rfl (HF125.ev rfl)) ?_
          intro a128 HF129; clear HF125
          have HO136 := HO118.pin 1 rfl
          clear HO118
          have HO137 : Own w w116 [Chunk.view Kd.string S77 A75 LV.length c76 LV, Chunk.viewAt w116 Kd.string S33 A31 ((r).length) c32 r, Chunk.blk g8 (.cells #[.string b, .slice Ap ps.length cp] 27 (0, 0)), Chunk.blk g2 (.cells #[.int .i64 kd, .string nm, .string vl, .slice A3 kids.length c3] 24 (0, 0))] := HO136
          clear HO136
          obtain ⟨ad130, cs133, hA131, hl134, hK135, hc132, _⟩ := Kd.F_get (viewAt_F (HO137.get 1 rfl)) (⟨#[]⟩ : ByteArray) i (by omega) (by omega)
          obtain rfl := str_openF hK135
          clear hl134
          refine gw_ev HF129 (want_none rfl) rfl (by decide) (op_index Try.underlying32 gwsiz9 rfl (HF129.ev rfl) (HF129.ev rfl) hA131 (⟨by omega, by omega⟩)) ?_
          intro a138 HF139; clear HF129
          refine gw_ev HF139 (want_none rfl) rfl (by decide) (op_load1 gwagg9 rfl (HF139.ev rfl) (((pin_cells (HO137.get 1 rfl) hA131 hc132) 0 _ rfl))) ?_
          intro a140 HF141; clear HF139
          refine gw_ev HF141 (want_none rfl) rfl (by decide) (op_assign rfl (HF141.ev rfl)) ?_
          intro a142 HF143; clear HF141
          refine gw_ev HF143 (want_none rfl) rfl (by decide) (op_assign rfl (HF143.ev rfl)) ?_
          intro a144 HF145; clear HF143
          refine wpList_nil ?_
          refine gw_nx (hK127 _ _ ?_)
          refine gw_seq fun K146 hK146 => ?_
          refine wp_region_lit ?_
          refine gw_ev HF145 (want_none rfl) rfl (by decide) (op_move rfl (HF145.ev rfl)) ?_
          intro a147 HF148; clear HF145
          refine gw_ev HF148 (want_none rfl) rfl (by decide) (op_gtr rfl (HF148.ev rfl) (ev_c _ _)) ?_
          intro a149 HF150; clear HF148
          refine gw_ev HF150 (want_none rfl) rfl (by decide) (op_move rfl (HF150.ev rfl)) ?_
          intro a151 HF152; clear HF150
          refine gw_evG HF152 rfl rfl rfl rfl (on_t _) rfl (by decide) (fun h_ => (op_move rfl (HF152.ev rfl))) ?_
          intro a153 HF154; clear HF152
          refine gw_evG HF154 rfl rfl rfl rfl (on_t _) rfl (by decide) (fun h_ => (op_move rfl (HF154.ev rfl))) ?_
          intro a155 HF156; clear HF154
          refine gw_evG HF156 rfl rfl rfl rfl (on_t _) rfl (by decide) (fun h_ => (op_sub rfl (ev_gv (HF156.ev rfl) h_) (ev_c _ _) (by (try simp only [Bool.and_eq_true, Bool.or_eq_true, Bool.and_eq_false_iff, Bool.or_eq_false_iff, Bool.not_and, Bool.not_or, Bool.not_not, decide_eq_true_eq, decide_eq_false_iff_not, Bool.not_eq_true', Bool.not_eq_false', Bool.not_eq_true, Bool.not_eq_false, ne_eq, Decidable.not_not, Int.not_lt, Int.not_le, not_true_eq_false, not_false_eq_true, bne_iff_ne, beq_iff_eq, bne_eq_false_iff_eq, beq_eq_false_iff_ne] at h_); omega))) ?_
          intro a157 HF158; clear HF156
          obtain ⟨ad162, cs165, hA163, hl166, hK167, hc164⟩ := F_getT (viewAt_F (HO137.get 1 rfl)) (⟨#[]⟩ : ByteArray) (i - 1) (⟨_, fun _ _ => rfl⟩)
          obtain rfl := str_openF hK167
          clear hl166
          refine gw_evG HF158 rfl rfl rfl rfl (on_t _) rfl (by decide) (fun h_ => (op_index Try.underlying32 gwsiz9 rfl (ev_gv (HF158.ev rfl) h_) (ev_gv (HF158.ev rfl) h_) (hA163 ⟨by (try simp only [Bool.and_eq_true, Bool.or_eq_true, Bool.and_eq_false_iff, Bool.or_eq_false_iff, Bool.not_and, Bool.not_or, Bool.not_not, decide_eq_true_eq, decide_eq_false_iff_not, Bool.not_eq_true', Bool.not_eq_false', Bool.not_eq_true, Bool.not_eq_false, ne_eq, Decidable.not_not, Int.not_lt, Int.not_le, not_true_eq_false, not_false_eq_true, bne_iff_ne, beq_iff_eq, bne_eq_false_iff_eq, beq_eq_false_iff_ne] at h_); omega, by (try simp only [Bool.and_eq_true, Bool.or_eq_true, Bool.and_eq_false_iff, Bool.or_eq_false_iff, Bool.not_and, Bool.not_or, Bool.not_not, decide_eq_true_eq, decide_eq_false_iff_not, Bool.not_eq_true', Bool.not_eq_false', Bool.not_eq_true, Bool.not_eq_false, ne_eq, Decidable.not_not, Int.not_lt, Int.not_le, not_true_eq_false, not_false_eq_true, bne_iff_ne, beq_iff_eq, bne_eq_false_iff_eq, beq_eq_false_iff_ne] at h_); omega⟩) (⟨by (try simp only [Bool.and_eq_true, Bool.or_eq_true, Bool.and_eq_false_iff, Bool.or_eq_false_iff, Bool.not_and, Bool.not_or, Bool.not_not, decide_eq_true_eq, decide_eq_false_iff_not, Bool.not_eq_true', Bool.not_eq_false', Bool.not_eq_true, Bool.not_eq_false, ne_eq, Decidable.not_not, Int.not_lt, Int.not_le, not_true_eq_false, not_false_eq_true, bne_iff_ne, beq_iff_eq, bne_eq_false_iff_eq, beq_eq_false_iff_ne] at h_); omega, by (try simp only [Bool.and_eq_true, Bool.or_eq_true, Bool.and_eq_false_iff, Bool.or_eq_false_iff, Bool.not_and, Bool.not_or, Bool.not_not, decide_eq_true_eq, decide_eq_false_iff_not, Bool.not_eq_true', Bool.not_eq_false', Bool.not_eq_true, Bool.not_eq_false, ne_eq, Decidable.not_not, Int.not_lt, Int.not_le, not_true_eq_false, not_false_eq_true, bne_iff_ne, beq_iff_eq, bne_eq_false_iff_eq, beq_eq_false_iff_ne] at h_); omega⟩))) ?_
          intro a168 HF169; clear HF158
          refine gw_evG HF169 rfl rfl rfl rfl (on_t _) rfl (by decide) (fun h_ => (op_load1 gwagg9 rfl (ev_gv (HF169.ev rfl) h_) (((pin_cells (HO137.get 1 rfl) (hA163 ⟨by (try simp only [Bool.and_eq_true, Bool.or_eq_true, Bool.and_eq_false_iff, Bool.or_eq_false_iff, Bool.not_and, Bool.not_or, Bool.not_not, decide_eq_true_eq, decide_eq_false_iff_not, Bool.not_eq_true', Bool.not_eq_false', Bool.not_eq_true, Bool.not_eq_false, ne_eq, Decidable.not_not, Int.not_lt, Int.not_le, not_true_eq_false, not_false_eq_true, bne_iff_ne, beq_iff_eq, bne_eq_false_iff_eq, beq_eq_false_iff_ne] at h_); omega, by (try simp only [Bool.and_eq_true, Bool.or_eq_true, Bool.and_eq_false_iff, Bool.or_eq_false_iff, Bool.not_and, Bool.not_or, Bool.not_not, decide_eq_true_eq, decide_eq_false_iff_not, Bool.not_eq_true', Bool.not_eq_false', Bool.not_eq_true, Bool.not_eq_false, ne_eq, Decidable.not_not, Int.not_lt, Int.not_le, not_true_eq_false, not_false_eq_true, bne_iff_ne, beq_iff_eq, bne_eq_false_iff_eq, beq_eq_false_iff_ne] at h_); omega⟩) (hc164 ⟨by (try simp only [Bool.and_eq_true, Bool.or_eq_true, Bool.and_eq_false_iff, Bool.or_eq_false_iff, Bool.not_and, Bool.not_or, Bool.not_not, decide_eq_true_eq, decide_eq_false_iff_not, Bool.not_eq_true', Bool.not_eq_false', Bool.not_eq_true, Bool.not_eq_false, ne_eq, Decidable.not_not, Int.not_lt, Int.not_le, not_true_eq_false, not_false_eq_true, bne_iff_ne, beq_iff_eq, bne_eq_false_iff_eq, beq_eq_false_iff_ne] at h_); omega, by (try simp only [Bool.and_eq_true, Bool.or_eq_true, Bool.and_eq_false_iff, Bool.or_eq_false_iff, Bool.not_and, Bool.not_or, Bool.not_not, decide_eq_true_eq, decide_eq_false_iff_not, Bool.not_eq_true', Bool.not_eq_false', Bool.not_eq_true, Bool.not_eq_false, ne_eq, Decidable.not_not, Int.not_lt, Int.not_le, not_true_eq_false, not_false_eq_true, bne_iff_ne, beq_iff_eq, bne_eq_false_iff_eq, beq_eq_false_iff_ne] at h_); omega⟩)) 0 _ rfl)))) ?_
          intro a170 HF171; clear HF169
          refine gw_evG HF171 rfl rfl rfl rfl (on_t _) rfl (by decide) (fun h_ => (op_move rfl (HF171.ev rfl))) ?_
          intro a172 HF173; clear HF171
          refine gw_evG HF173 rfl rfl rfl rfl (on_t _) rfl (by decide) (fun h_ => (op_ges rfl (ev_gv (HF173.ev rfl) h_) (ev_gv (HF173.ev rfl) h_))) ?_
          intro a174 HF175; clear HF173
          refine gw_ev HF175 (want_none rfl) rfl (by decide) (op_pick_and rfl (HF175.ev rfl) (fun hp_ => (ev_gv (HF175.ev rfl) hp_)) (ev_c _ _)) ?_
          intro a176 HF177; clear HF175
          refine gw_ev HF177 (want_none rfl) rfl (by decide) (op_move rfl (HF177.ev rfl)) ?_
          intro a178 HF179; clear HF177
          refine gw_evG HF179 rfl rfl rfl rfl (on_f _) rfl (by decide) (fun h_ => (op_loadn gwagg24 gwsiz24 rfl (HF179.ev rfl) (HO137.get 3 rfl) rfl rfl)) ?_
          intro a180 HF181; clear HF179
          refine gw_evG HF181 rfl rfl rfl rfl (on_f _) rfl (by decide) (fun h_ => (op_move rfl (HF181.ev rfl))) ?_
          intro a182 HF183; clear HF181
          obtain ⟨m184, hm185⟩ := fN.asks (r.getD i.toNat (⟨#[]⟩ : ByteArray))
          refine gw_callG HF183 rfl rfl rfl rfl (on_f _) rfl (by decide) (fun h_ => (op_callL Try.func16 (by kernel_rfl) rfl rfl (ar_cons (ev_gv (HF183.ev rfl) h_) (ar_cons (ev_gv (HF183.ev rfl) h_) ar_nil)))) (fun h_ => colloquyref12_Asks.calls m184 kd nm vl A3 c3 kids (r.getD i.toNat (⟨#[]⟩ : ByteArray)) (LV.any (sameN (r.getD i.toNat (⟨#[]⟩ : ByteArray)))) _ (Kd.C_below hr3 HO137.below) hc3 hm185) ?_
          intro a186 w188 hb189 HF187
          have HO190 := HO137.after hb189; clear HF183 HO137 hb189
          refine gw_evG HF187 rfl rfl rfl rfl (on_f _) rfl (by decide) (fun h_ => (op_not rfl (ev_gv (HF187.ev rfl) h_))) ?_
          intro a191 HF192; clear HF187
          refine gw_ev HF192 (want_none rfl) rfl (by decide) (op_pick_or rfl (HF192.ev rfl) (ev_c _ _) (fun hp_ => (ev_gv (HF192.ev rfl) (not_t hp_)))) ?_
          intro a193 HF194; clear HF192
          refine wpList_nil ?_
          refine gw_nx (hK146 _ _ ?_)
          refine gw_cond HF194 rfl (fun hb195 => ?_) (fun hb195 => ?_)
          · skip
            have HF196 := HF194.subst_ (d := 55) (b := true) rfl hb195
            clear HF194
            (try simp only [Bool.and_eq_true, Bool.or_eq_true, Bool.and_eq_false_iff, Bool.or_eq_false_iff, Bool.not_and, Bool.not_or, Bool.not_not, decide_eq_true_eq, decide_eq_false_iff_not, Bool.not_eq_true', Bool.not_eq_false', Bool.not_eq_true, Bool.not_eq_false, ne_eq, Decidable.not_not, Int.not_lt, Int.not_le, not_true_eq_false, not_false_eq_true, bne_iff_ne, beq_iff_eq, bne_eq_false_iff_eq, beq_eq_false_iff_ne] at hb195)
            exfalso; rcases hb195 with ⟨h1_, h2_⟩ | h1_; (· have h3_ := fN.lt i.toNat (by omega) (by omega); rw [show (i - 1).toNat = i.toNat - 1 by omega] at h2_; rw [h3_] at h2_; cases h2_); (· rw [fN.sub _ (getD_mem r i.toNat (by omega))] at h1_; cases h1_)
          · skip
            have HF197 := HF194.subst_ (d := 55) (b := false) rfl hb195
            clear HF194
            (try simp only [Bool.and_eq_true, Bool.or_eq_true, Bool.and_eq_false_iff, Bool.or_eq_false_iff, Bool.not_and, Bool.not_or, Bool.not_not, decide_eq_true_eq, decide_eq_false_iff_not, Bool.not_eq_true', Bool.not_eq_false', Bool.not_eq_true, Bool.not_eq_false, ne_eq, Decidable.not_not, Int.not_lt, Int.not_le, not_true_eq_false, not_false_eq_true, bne_iff_ne, beq_iff_eq, bne_eq_false_iff_eq, beq_eq_false_iff_ne] at hb195)
            refine wp_skip ?_
            refine gw_blk ?_
            refine gw_nx (hK126 _ _ ?_)
            refine wp_region_lit ?_
            refine gw_ev HF197 (want_none rfl) rfl (by decide) (op_add rfl (HF197.ev rfl) (ev_c _ _) (by omega)) ?_
            intro a198 HF199; clear HF197
            refine gw_ev HF199 (want_none rfl) rfl (by decide) (op_move rfl (HF199.ev rfl)) ?_
            intro a200 HF201; clear HF199
            refine wpList_nil ?_
            have HO202 := HO190.unpin 1 rfl
            clear HO190
            have HO203 : Own w w188 [Chunk.view Kd.string S77 A75 LV.length c76 LV, Chunk.view Kd.string S33 A31 ((r).length) c32 r, Chunk.blk g8 (.cells #[.string b, .slice Ap ps.length cp] 27 (0, 0)), Chunk.blk g2 (.cells #[.int .i64 kd, .string nm, .string vl, .slice A3 kids.length c3] 24 (0, 0))] := HO202
            clear HO202
            refine gw_nx ⟨_, ?_, i + 1, (HF201.pick (t := 34) rfl (HF201.pick (t := 2) rfl (HF201.pick (t := 3) rfl (HF201.pick (t := 5) rfl (HF201.pick (t := 6) rfl (HF201.pick (t := 32) rfl (HF201.pick (t := 33) rfl HF201.nil))))))), HO203.sel [0, 1, 2, 3] (by decide), ?_, rfl⟩
            · rw [hm119]; omega
            · omega
        · skip
          have HF204 := HF122.subst_ (d := 35) (b := false) rfl hb124
          clear HF122
          (try simp only [Bool.and_eq_true, Bool.or_eq_true, Bool.and_eq_false_iff, Bool.or_eq_false_iff, Bool.not_and, Bool.not_or, Bool.not_not, decide_eq_true_eq, decide_eq_false_iff_not, Bool.not_eq_true', Bool.not_eq_false', Bool.not_eq_true, Bool.not_eq_false, ne_eq, Decidable.not_not, Int.not_lt, Int.not_le, not_true_eq_false, not_false_eq_true, bne_iff_ne, beq_iff_eq, bne_eq_false_iff_eq, beq_eq_false_iff_ne] at hb124)
          refine wp_exit ?_
          refine gw_thx ?_
          refine gw_thx ?_
          refine gw_in ?_
          refine gw_nx (hK105 _ _ ?_)
          refine gw_seq fun K205 hK205 => ?_
          refine gw_seq fun K206 hK206 => ?_
          refine wp_region_lit ?_
          refine gw_ev HF204 (want_none rfl) rfl (by decide) (op_move rfl (HF204.ev rfl)) ?_
          intro a207 HF208; clear HF204
          refine gw_ev HF208 (want_none rfl) rfl (by decide) (op_len Try.underlying32 rfl (HF208.ev rfl)) ?_
          intro a209 HF210; clear HF208
          refine gw_ev HF210 (want_none rfl) rfl (by decide) (op_move rfl (ev_c _ _)) ?_
          intro a211 HF212; clear HF210
          refine wpList_nil ?_
          refine gw_nx (hK206 _ _ ?_)
          refine wp_block ?_
          refine gw_loop (fun m_ a_ w_ => ∃ (j : Int), Fr 105 a_ [(59, .int .i64 j), (2, .pointer (some ⟨g2, 0, none⟩)), (3, .pointer (some ⟨g8, 0, none⟩)), (5, .slice A31 ((r).length) c32), (57, .slice A75 LV.length c76), (58, .int .i64 (LV.length : Int))] ∧ Own w w_ [Chunk.view Kd.string S77 A75 LV.length c76 LV, Chunk.view Kd.string S33 A31 ((r).length) c32 r, Chunk.blk g8 (.cells #[.string b, .slice Ap ps.length cp] 27 (0, 0)), Chunk.blk g2 (.cells #[.int .i64 kd, .string nm, .string vl, .slice A3 kids.length c3] 24 (0, 0))] ∧ (0 ≤ j ∧ j ≤ LV.length) ∧ m_ = (LV.length - j.toNat)) ((LV.length - (0 : Int).toNat)) ?_ ?_
          · refine ⟨0, (HF212.pick (t := 59) rfl (HF212.pick (t := 2) rfl (HF212.pick (t := 3) rfl (HF212.pick (t := 5) rfl (HF212.pick (t := 57) rfl (HF212.pick (t := 58) rfl HF212.nil)))))), HO118.sel [0, 1, 2, 3] (by decide), ?_, rfl⟩
            · omega
          · rintro m214 a215 w216 ⟨j, HF217, HO218, hj, hm219⟩
            refine gw_seq fun K220 hK220 => ?_
            refine wp_region_lit ?_
            refine gw_ev HF217 (want_none rfl) rfl (by decide) (op_lss rfl (HF217.ev rfl) (HF217.ev rfl)) ?_
            intro a221 HF222; clear HF217
            refine wpList_nil ?_
            refine gw_nx (hK220 _ _ ?_)
            refine gw_seq fun K223 hK223 => ?_
            refine gw_cond HF222 rfl (fun hb224 => ?_) (fun hb224 => ?_)
            · skip
              have HF225 := HF222.subst_ (d := 60) (b := true) rfl hb224
              clear HF222
              (try simp only [Bool.and_eq_true, Bool.or_eq_true, Bool.and_eq_false_iff, Bool.or_eq_false_iff, Bool.not_and, Bool.not_or, Bool.not_not, decide_eq_true_eq, decide_eq_false_iff_not, Bool.not_eq_true', Bool.not_eq_false', Bool.not_eq_true, Bool.not_eq_false, ne_eq, Decidable.not_not, Int.not_lt, Int.not_le, not_true_eq_false, not_false_eq_true, bne_iff_ne, beq_iff_eq, bne_eq_false_iff_eq, beq_eq_false_iff_ne] at hb224)
              refine wp_skip ?_
              refine gw_nx (hK223 _ _ ?_)
              refine gw_seq fun K226 hK226 => ?_
              refine wp_block ?_
              refine gw_seq fun K227 hK227 => ?_
              refine wp_region_lit ?_
              have HO234 := HO218.pin 0 rfl
              clear HO218
              have HO235 : Own w w216 [Chunk.viewAt w216 Kd.string S77 A75 LV.length c76 LV, Chunk.view Kd.string S33 A31 ((r).length) c32 r, Chunk.blk g8 (.cells #[.string b, .slice Ap ps.length cp] 27 (0, 0)), Chunk.blk g2 (.cells #[.int .i64 kd, .string nm, .string vl, .slice A3 kids.length c3] 24 (0, 0))] := HO234
              clear HO234
              obtain ⟨ad228, cs231, hA229, hl232, hK233, hc230, _⟩ := Kd.F_get (viewAt_F (HO235.get 0 rfl)) (⟨#[]⟩ : ByteArray) j (by omega) (by omega)
              obtain rfl := str_openF hK233
              clear hl232
              refine gw_ev HF225 (want_none rfl) rfl (by decide) (op_index Try.underlying32 gwsiz9 rfl (HF225.ev rfl) (HF225.ev rfl) hA229 (⟨by omega, by omega⟩)) ?_
              intro a236 HF237; clear HF225
              refine gw_ev HF237 (want_none rfl) rfl (by decide) (op_load1 gwagg9 rfl (HF237.ev rfl) (((pin_cells (HO235.get 0 rfl) hA229 hc230) 0 _ rfl))) ?_
              intro a238 HF239; clear HF237
              refine gw_ev HF239 (want_none rfl) rfl (by decide) (op_assign rfl (HF239.ev rfl)) ?_
              intro a240 HF241; clear HF239
              refine wpList_nil ?_
              refine gw_nx (hK227 _ _ ?_)
              refine gw_seq fun K242 hK242 => ?_
              refine wp_region_lit ?_
              refine gw_ev HF241 (want_none rfl) rfl (by decide) (op_assign rfl (ev_c _ _)) ?_
              intro a243 HF244; clear HF241
              refine wpList_nil ?_
              refine gw_nx (hK242 _ _ ?_)
              refine gw_seq fun K245 hK245 => ?_
              refine gw_seq fun K246 hK246 => ?_
              refine wp_region_lit ?_
              refine gw_ev HF244 (want_none rfl) rfl (by decide) (op_move rfl (HF244.ev rfl)) ?_
              intro a247 HF248; clear HF244
              refine gw_ev HF248 (want_none rfl) rfl (by decide) (op_len Try.underlying32 rfl (HF248.ev rfl)) ?_
              intro a249 HF250; clear HF248
              refine gw_ev HF250 (want_none rfl) rfl (by decide) (op_move rfl (ev_c _ _)) ?_
              intro a251 HF252; clear HF250
              refine wpList_nil ?_
              refine gw_nx (hK246 _ _ ?_)
              refine wp_block ?_
              have HO253 := HO235.unpin 0 rfl
              clear HO235
              have HO254 : Own w w216 [Chunk.view Kd.string S77 A75 LV.length c76 LV, Chunk.view Kd.string S33 A31 ((r).length) c32 r, Chunk.blk g8 (.cells #[.string b, .slice Ap ps.length cp] 27 (0, 0)), Chunk.blk g2 (.cells #[.int .i64 kd, .string nm, .string vl, .slice A3 kids.length c3] 24 (0, 0))] := HO253
              clear HO253
              refine gw_loop (fun m_ a_ w_ => ∃ (l : Int) (fd : Bool), Fr 105 a_ [(65, .int .i64 l), (11, .bool fd), (59, .int .i64 j), (2, .pointer (some ⟨g2, 0, none⟩)), (3, .pointer (some ⟨g8, 0, none⟩)), (5, .slice A31 ((r).length) c32), (57, .slice A75 LV.length c76), (58, .int .i64 (LV.length : Int)), (60, .bool true), (61, .pointer (some (ad228.add (j.toNat * 1)))), (62, .string (LV.getD j.toNat (⟨#[]⟩ : ByteArray))), (10, .string (LV.getD j.toNat (⟨#[]⟩ : ByteArray))), (63, .slice A31 ((r).length) c32), (64, .int .i64 (((r).length) : Int))] ∧ Own w w_ [Chunk.view Kd.string S77 A75 LV.length c76 LV, Chunk.view Kd.string S33 A31 ((r).length) c32 r, Chunk.blk g8 (.cells #[.string b, .slice Ap ps.length cp] 27 (0, 0)), Chunk.blk g2 (.cells #[.int .i64 kd, .string nm, .string vl, .slice A3 kids.length c3] 24 (0, 0))] ∧ (0 ≤ l ∧ l ≤ r.length) ∧ (fd = (r.take l.toNat).any (fun m => m.toList == (LV.getD j.toNat (⟨#[]⟩ : ByteArray)).toList)) ∧ m_ = (r.length - l.toNat)) ((r.length - (0 : Int).toNat)) ?_ ?_
              · refine ⟨0, false, (HF252.pick (t := 65) rfl (HF252.pick (t := 11) rfl (HF252.pick (t := 59) rfl (HF252.pick (t := 2) rfl (HF252.pick (t := 3) rfl (HF252.pick (t := 5) rfl (HF252.pick (t := 57) rfl (HF252.pick (t := 58) rfl (HF252.pick (t := 60) rfl (HF252.pick (t := 61) rfl (HF252.pick (t := 62) rfl (HF252.pick (t := 10) rfl (HF252.pick (t := 63) rfl (HF252.pick (t := 64) rfl HF252.nil)))))))))))))), HO254.sel [0, 1, 2, 3] (by decide), ?_, ?_, rfl⟩
                · omega
                · simp
              · rintro m256 a257 w258 ⟨l, fd, HF259, HO260, hl, hfd, hm261⟩
                refine gw_seq fun K262 hK262 => ?_
                refine wp_region_lit ?_
                refine gw_ev HF259 (want_none rfl) rfl (by decide) (op_lss rfl (HF259.ev rfl) (HF259.ev rfl)) ?_
                intro a263 HF264; clear HF259
                refine wpList_nil ?_
                refine gw_nx (hK262 _ _ ?_)
                refine gw_seq fun K265 hK265 => ?_
                refine gw_cond HF264 rfl (fun hb266 => ?_) (fun hb266 => ?_)
                · skip
                  have HF267 := HF264.subst_ (d := 66) (b := true) rfl hb266
                  clear HF264
                  (try simp only [Bool.and_eq_true, Bool.or_eq_true, Bool.and_eq_false_iff, Bool.or_eq_false_iff, Bool.not_and, Bool.not_or, Bool.not_not, decide_eq_true_eq, decide_eq_false_iff_not, Bool.not_eq_true', Bool.not_eq_false', Bool.not_eq_true, Bool.not_eq_false, ne_eq, Decidable.not_not, Int.not_lt, Int.not_le, not_true_eq_false, not_false_eq_true, bne_iff_ne, beq_iff_eq, bne_eq_false_iff_eq, beq_eq_false_iff_ne] at hb266)
                  refine wp_skip ?_
                  refine gw_nx (hK265 _ _ ?_)
                  refine gw_seq fun K268 hK268 => ?_
                  refine wp_block ?_
                  refine gw_seq fun K269 hK269 => ?_
                  refine wp_region_lit ?_
                  have HO276 := HO260.pin 1 rfl
                  clear HO260
                  have HO277 : Own w w258 [Chunk.view Kd.string S77 A75 LV.length c76 LV, Chunk.viewAt w258 Kd.string S33 A31 ((r).length) c32 r, Chunk.blk g8 (.cells #[.string b, .slice Ap ps.length cp] 27 (0, 0)), Chunk.blk g2 (.cells #[.int .i64 kd, .string nm, .string vl, .slice A3 kids.length c3] 24 (0, 0))] := HO276
                  clear HO276
                  obtain ⟨ad270, cs273, hA271, hl274, hK275, hc272, _⟩ := Kd.F_get (viewAt_F (HO277.get 1 rfl)) (⟨#[]⟩ : ByteArray) l (by omega) (by omega)
                  obtain rfl := str_openF hK275
                  clear hl274
                  refine gw_ev HF267 (want_none rfl) rfl (by decide) (op_index Try.underlying32 gwsiz9 rfl (HF267.ev rfl) (HF267.ev rfl) hA271 (⟨by omega, by omega⟩)) ?_
                  intro a278 HF279; clear HF267
                  refine gw_ev HF279 (want_none rfl) rfl (by decide) (op_load1 gwagg9 rfl (HF279.ev rfl) (((pin_cells (HO277.get 1 rfl) hA271 hc272) 0 _ rfl))) ?_
                  intro a280 HF281; clear HF279
                  refine gw_ev HF281 (want_none rfl) rfl (by decide) (op_assign rfl (HF281.ev rfl)) ?_
                  intro a282 HF283; clear HF281
                  refine wpList_nil ?_
                  refine gw_nx (hK269 _ _ ?_)
                  refine wp_region_lit ?_
                  refine gw_ev HF283 (want_none rfl) rfl (by decide) (op_move rfl (HF283.ev rfl)) ?_
                  intro a284 HF285; clear HF283
                  refine gw_ev HF285 (want_none rfl) rfl (by decide) (op_move rfl (HF285.ev rfl)) ?_
                  intro a286 HF287; clear HF285
                  refine gw_evG HF287 rfl rfl rfl rfl (on_f _) rfl (by decide) (fun h_ => (op_move rfl (HF287.ev rfl))) ?_
                  intro a288 HF289; clear HF287
                  refine gw_evG HF289 rfl rfl rfl rfl (on_f _) rfl (by decide) (fun h_ => (op_move rfl (HF289.ev rfl))) ?_
                  intro a290 HF291; clear HF289
                  refine gw_evG HF291 rfl rfl rfl rfl (on_f _) rfl (by decide) (fun h_ => (op_eqs rfl (ev_gv (HF291.ev rfl) h_) (ev_gv (HF291.ev rfl) h_))) ?_
                  intro a292 HF293; clear HF291
                  refine gw_ev HF293 (want_none rfl) rfl (by decide) (op_pick_or rfl (HF293.ev rfl) (ev_c _ _) (fun hp_ => (ev_gv (HF293.ev rfl) (not_t hp_)))) ?_
                  intro a294 HF295; clear HF293
                  refine gw_ev HF295 (want_none rfl) rfl (by decide) (op_assign rfl (HF295.ev rfl)) ?_
                  intro a296 HF297; clear HF295
                  refine wpList_nil ?_
                  refine gw_blk ?_
                  refine gw_nx (hK268 _ _ ?_)
                  refine wp_region_lit ?_
                  refine gw_ev HF297 (want_none rfl) rfl (by decide) (op_add rfl (HF297.ev rfl) (ev_c _ _) (by omega)) ?_
                  intro a298 HF299; clear HF297
                  refine gw_ev HF299 (want_none rfl) rfl (by decide) (op_move rfl (HF299.ev rfl)) ?_
                  intro a300 HF301; clear HF299
                  refine wpList_nil ?_
                  have HO302 := HO277.unpin 1 rfl
                  clear HO277
                  have HO303 : Own w w258 [Chunk.view Kd.string S77 A75 LV.length c76 LV, Chunk.view Kd.string S33 A31 ((r).length) c32 r, Chunk.blk g8 (.cells #[.string b, .slice Ap ps.length cp] 27 (0, 0)), Chunk.blk g2 (.cells #[.int .i64 kd, .string nm, .string vl, .slice A3 kids.length c3] 24 (0, 0))] := HO302
                  clear HO302
                  refine gw_nx ⟨_, ?_, l + 1, (fd || ((r.getD l.toNat (⟨#[]⟩ : ByteArray)).toList == (LV.getD j.toNat (⟨#[]⟩ : ByteArray)).toList)), (HF301.pick (t := 65) rfl (HF301.pick (t := 11) rfl (HF301.pick (t := 59) rfl (HF301.pick (t := 2) rfl (HF301.pick (t := 3) rfl (HF301.pick (t := 5) rfl (HF301.pick (t := 57) rfl (HF301.pick (t := 58) rfl (HF301.pick (t := 60) rfl (HF301.pick (t := 61) rfl (HF301.pick (t := 62) rfl (HF301.pick (t := 10) rfl (HF301.pick (t := 63) rfl (HF301.pick (t := 64) rfl HF301.nil)))))))))))))), HO303.sel [0, 1, 2, 3] (by decide), ?_, ?_, rfl⟩
                  · rw [hm261]; omega
                  · omega
                  · rw [show (l + 1).toNat = l.toNat + 1 by omega, any_take (⟨#[]⟩ : ByteArray) (by omega), ← hfd]
                · skip
                  have HF304 := HF264.subst_ (d := 66) (b := false) rfl hb266
                  clear HF264
                  (try simp only [Bool.and_eq_true, Bool.or_eq_true, Bool.and_eq_false_iff, Bool.or_eq_false_iff, Bool.not_and, Bool.not_or, Bool.not_not, decide_eq_true_eq, decide_eq_false_iff_not, Bool.not_eq_true', Bool.not_eq_false', Bool.not_eq_true, Bool.not_eq_false, ne_eq, Decidable.not_not, Int.not_lt, Int.not_le, not_true_eq_false, not_false_eq_true, bne_iff_ne, beq_iff_eq, bne_eq_false_iff_eq, beq_eq_false_iff_ne] at hb266)
                  refine wp_exit ?_
                  refine gw_thx ?_
                  refine gw_thx ?_
                  refine gw_in ?_
                  refine gw_nx (hK245 _ _ ?_)
                  refine gw_seq fun K305 hK305 => ?_
                  refine wp_region_lit ?_
                  refine gw_ev HF304 (want_none rfl) rfl (by decide) (op_move rfl (HF304.ev rfl)) ?_
                  intro a306 HF307; clear HF304
                  refine gw_ev HF307 (want_none rfl) rfl (by decide) (op_not rfl (HF307.ev rfl)) ?_
                  intro a308 HF309; clear HF307
                  refine wpList_nil ?_
                  refine gw_nx (hK305 _ _ ?_)
                  refine gw_cond HF309 rfl (fun hb310 => ?_) (fun hb310 => ?_)
                  · skip
                    have HF311 := HF309.subst_ (d := 77) (b := true) rfl hb310
                    clear HF309
                    (try simp only [Bool.and_eq_true, Bool.or_eq_true, Bool.and_eq_false_iff, Bool.or_eq_false_iff, Bool.not_and, Bool.not_or, Bool.not_not, decide_eq_true_eq, decide_eq_false_iff_not, Bool.not_eq_true', Bool.not_eq_false', Bool.not_eq_true, Bool.not_eq_false, ne_eq, Decidable.not_not, Int.not_lt, Int.not_le, not_true_eq_false, not_false_eq_true, bne_iff_ne, beq_iff_eq, bne_eq_false_iff_eq, beq_eq_false_iff_ne] at hb310)
                    exfalso; have h3_ := fN.sup _ (getD_mem (z := (⟨#[]⟩ : ByteArray)) LV j.toNat (by omega)); rw [List.take_of_length_le (by omega), h3_] at hfd; rw [hfd] at hb310; cases hb310
                  · skip
                    have HF312 := HF309.subst_ (d := 77) (b := false) rfl hb310
                    clear HF309
                    (try simp only [Bool.and_eq_true, Bool.or_eq_true, Bool.and_eq_false_iff, Bool.or_eq_false_iff, Bool.not_and, Bool.not_or, Bool.not_not, decide_eq_true_eq, decide_eq_false_iff_not, Bool.not_eq_true', Bool.not_eq_false', Bool.not_eq_true, Bool.not_eq_false, ne_eq, Decidable.not_not, Int.not_lt, Int.not_le, not_true_eq_false, not_false_eq_true, bne_iff_ne, beq_iff_eq, bne_eq_false_iff_eq, beq_eq_false_iff_ne] at hb310)
                    refine wp_skip ?_
                    refine gw_blk ?_
                    refine gw_nx (hK226 _ _ ?_)
                    refine wp_region_lit ?_
                    refine gw_ev HF312 (want_none rfl) rfl (by decide) (op_add rfl (HF312.ev rfl) (ev_c _ _) (by omega)) ?_
                    intro a313 HF314; clear HF312
                    refine gw_ev HF314 (want_none rfl) rfl (by decide) (op_move rfl (HF314.ev rfl)) ?_
                    intro a315 HF316; clear HF314
                    refine wpList_nil ?_
                    refine gw_nx ⟨_, ?_, j + 1, (HF316.pick (t := 59) rfl (HF316.pick (t := 2) rfl (HF316.pick (t := 3) rfl (HF316.pick (t := 5) rfl (HF316.pick (t := 57) rfl (HF316.pick (t := 58) rfl HF316.nil)))))), HO260.sel [0, 1, 2, 3] (by decide), ?_, rfl⟩
                    · rw [hm219]; omega
                    · omega
            · skip
              have HF317 := HF222.subst_ (d := 60) (b := false) rfl hb224
              clear HF222
              (try simp only [Bool.and_eq_true, Bool.or_eq_true, Bool.and_eq_false_iff, Bool.or_eq_false_iff, Bool.not_and, Bool.not_or, Bool.not_not, decide_eq_true_eq, decide_eq_false_iff_not, Bool.not_eq_true', Bool.not_eq_false', Bool.not_eq_true, Bool.not_eq_false, ne_eq, Decidable.not_not, Int.not_lt, Int.not_le, not_true_eq_false, not_false_eq_true, bne_iff_ne, beq_iff_eq, bne_eq_false_iff_eq, beq_eq_false_iff_ne] at hb224)
              refine wp_exit ?_
              refine gw_thx ?_
              refine gw_thx ?_
              refine gw_in ?_
              refine gw_nx (hK205 _ _ ?_)
              refine gw_seq fun K318 hK318 => ?_
              refine wp_region_lit ?_
              refine gw_ev HF317 (want_none rfl) rfl (by decide) (op_build (cells := #[.string (⟨#[]⟩ : ByteArray), .slice none 0 0]) rfl pt_nil (by kernel_rfl)) ?_
              intro a319 HF320; clear HF317
              refine gw_new HF320 HO218 (want_none rfl) rfl (by decide) (op_alloc gwzer27 rfl) ?_
              intro g321 a322 w323 HF324 HO325; clear HF320 HO218
              have HO326 : Own w w323 [Chunk.blk g321 (.cells #[.string (⟨#[]⟩ : ByteArray), .slice none 0 0] 27 (0, 0)), Chunk.view Kd.string S77 A75 LV.length c76 LV, Chunk.view Kd.string S33 A31 ((r).length) c32 r, Chunk.blk g8 (.cells #[.string b, .slice Ap ps.length cp] 27 (0, 0)), Chunk.blk g2 (.cells #[.int .i64 kd, .string nm, .string vl, .slice A3 kids.length c3] 24 (0, 0))] := HO325
              clear HO325
              refine gw_setn 0 HF324 HO326 rfl (want_none rfl) rfl (op_storen gwsiz27 rfl (HF324.ev rfl) (HF324.ev rfl) (HO326.get 0 rfl) rfl (by simp) (by simp [Value.oneCell'])) ?_
              intro a327 w329 HF328 HO330; clear HF324 HO326
              have HO331 : Own w w329 [Chunk.blk g321 (.cells #[.string (⟨#[]⟩ : ByteArray), .slice none 0 0] 27 (0, 0)), Chunk.view Kd.string S77 A75 LV.length c76 LV, Chunk.view Kd.string S33 A31 ((r).length) c32 r, Chunk.blk g8 (.cells #[.string b, .slice Ap ps.length cp] 27 (0, 0)), Chunk.blk g2 (.cells #[.int .i64 kd, .string nm, .string vl, .slice A3 kids.length c3] 24 (0, 0))] := HO330
              clear HO330
              refine wpList_nil ?_
              refine gw_nx (hK318 _ _ ?_)
              refine gw_seq fun K332 hK332 => ?_
              refine gw_seq fun K333 hK333 => ?_
              refine wp_region_lit ?_
              refine gw_ev HF328 (want_none rfl) rfl (by decide) (op_field (gwfld27_1 _ _) rfl (HF328.ev rfl)) ?_
              intro a334 HF335; clear HF328
              refine gw_ev HF335 (want_none rfl) rfl (by decide) (op_load1 gwagg25 rfl (HF335.ev rfl) (blk_at (HO331.get 3 rfl) rfl)) ?_
              intro a336 HF337; clear HF335
              refine gw_ev HF337 (want_none rfl) rfl (by decide) (op_len Try.underlying25 rfl (HF337.ev rfl)) ?_
              intro a338 HF339; clear HF337
              refine gw_ev HF339 (want_none rfl) rfl (by decide) (op_move rfl (ev_c _ _)) ?_
              intro a340 HF341; clear HF339
              refine wpList_nil ?_
              refine gw_nx (hK333 _ _ ?_)
              refine wp_block ?_
              have HO342 := HO331.row_nil k36 36 w.heap.size
              clear HO331
              refine gw_loop (fun m_ a_ w_ => ∃ (p : Int) (acc : List S36) (Aw : Option Addr) (cw : Nat) (Sw : Nat → Prop), Fr 105 a_ [(83, .int .i64 p), (2, .pointer (some ⟨g2, 0, none⟩)), (3, .pointer (some ⟨g8, 0, none⟩)), (14, .pointer (some ⟨g321, 0, none⟩)), (81, .slice Ap ps.length cp), (82, .int .i64 (ps.length : Int))] ∧ Own w w_ [Chunk.row k36 36 w.heap.size Sw (.slice Aw acc.length cw) acc, Chunk.blk g321 (.cells #[.string (⟨#[]⟩ : ByteArray), .slice Aw acc.length cw] 27 (0, 0)), Chunk.view Kd.string S77 A75 LV.length c76 LV, Chunk.view Kd.string S33 A31 ((r).length) c32 r, Chunk.blk g8 (.cells #[.string b, .slice Ap ps.length cp] 27 (0, 0)), Chunk.blk g2 (.cells #[.int .i64 kd, .string nm, .string vl, .slice A3 kids.length c3] 24 (0, 0))] ∧ (0 ≤ p ∧ p ≤ ps.length) ∧ (acc = (ps.take p.toNat).filter (fun p : S36 => LV.any (sameN p.f0))) ∧ ((acc.length : Int) ≤ p) ∧ m_ = (ps.length - p.toNat)) ((ps.length - (0 : Int).toNat)) ?_ ?_
              · refine ⟨0, ([] : List S36), none, 0, _, (HF341.pick (t := 83) rfl (HF341.pick (t := 2) rfl (HF341.pick (t := 3) rfl (HF341.pick (t := 14) rfl (HF341.pick (t := 81) rfl (HF341.pick (t := 82) rfl HF341.nil)))))), HO342.sel [0, 1, 2, 3, 4, 5] (by decide), ?_, ?_, ?_, rfl⟩
                · omega
                · simp
                · simp
              · rintro m344 a345 w346 ⟨p, acc, Aw, cw, Sw, HF347, HO348, hpp, hacc, haccl, hm349⟩
                refine gw_seq fun K350 hK350 => ?_
                refine wp_region_lit ?_
                refine gw_ev HF347 (want_none rfl) rfl (by decide) (op_lss rfl (HF347.ev rfl) (HF347.ev rfl)) ?_
                intro a351 HF352; clear HF347
                refine wpList_nil ?_
                refine gw_nx (hK350 _ _ ?_)
                refine gw_seq fun K353 hK353 => ?_
                refine gw_cond HF352 rfl (fun hb354 => ?_) (fun hb354 => ?_)
                · skip
                  have HF355 := HF352.subst_ (d := 84) (b := true) rfl hb354
                  clear HF352
                  (try simp only [Bool.and_eq_true, Bool.or_eq_true, Bool.and_eq_false_iff, Bool.or_eq_false_iff, Bool.not_and, Bool.not_or, Bool.not_not, decide_eq_true_eq, decide_eq_false_iff_not, Bool.not_eq_true', Bool.not_eq_false', Bool.not_eq_true, Bool.not_eq_false, ne_eq, Decidable.not_not, Int.not_lt, Int.not_le, not_true_eq_false, not_false_eq_true, bne_iff_ne, beq_iff_eq, bne_eq_false_iff_eq, beq_eq_false_iff_ne] at hb354)
                  refine wp_skip ?_
                  refine gw_nx (hK353 _ _ ?_)
                  refine gw_seq fun K356 hK356 => ?_
                  refine wp_block ?_
                  refine gw_seq fun K357 hK357 => ?_
                  refine wp_region_lit ?_
                  obtain ⟨ad358, cs361, hA359, hl362, hK363, hc360⟩ := Kd.C_get hrp z36 p (by omega) (by omega)
                  obtain rfl := k36_open hK363
                  clear hl362
                  refine gw_ev HF355 (want_none rfl) rfl (by decide) (op_index Try.underlying25 gwsiz36 rfl (HF355.ev rfl) (HF355.ev rfl) hA359 (⟨by omega, by omega⟩)) ?_
                  intro a364 HF365; clear HF355
                  refine gw_ev HF365 (want_none rfl) rfl (by decide) (op_loadc gwagg36 gwsiz36 rfl (HF365.ev rfl) rfl (cells0 HO348 hc360)) ?_
                  intro a366 HF367; clear HF365
                  refine gw_new HF367 HO348 (want_none rfl) rfl (by decide) (op_alloc gwzer36 rfl) ?_
                  intro g368 a369 w370 HF371 HO372; clear HF367 HO348
                  have HO373 : Own w w370 [Chunk.blk g368 (.cells #[.string (⟨#[]⟩ : ByteArray), .string (⟨#[]⟩ : ByteArray)] 36 (0, 0)), Chunk.row k36 36 w.heap.size Sw (.slice Aw acc.length cw) acc, Chunk.blk g321 (.cells #[.string (⟨#[]⟩ : ByteArray), .slice Aw acc.length cw] 27 (0, 0)), Chunk.view Kd.string S77 A75 LV.length c76 LV, Chunk.view Kd.string S33 A31 ((r).length) c32 r, Chunk.blk g8 (.cells #[.string b, .slice Ap ps.length cp] 27 (0, 0)), Chunk.blk g2 (.cells #[.int .i64 kd, .string nm, .string vl, .slice A3 kids.length c3] 24 (0, 0))] := HO372
                  clear HO372
                  refine gw_setn 0 HF371 HO373 rfl (want_none rfl) rfl (op_storen gwsiz36 rfl (HF371.ev rfl) (HF371.ev rfl) (HO373.get 0 rfl) rfl (by simp) (by simp [Value.oneCell'])) ?_
                  intro a374 w376 HF375 HO377; clear HF371 HO373
                  have HO378 : Own w w376 [Chunk.blk g368 (.cells #[.string ((ps.getD p.toNat z36).f0), .string ((ps.getD p.toNat z36).f1)] 36 (0, 0)), Chunk.row k36 36 w.heap.size Sw (.slice Aw acc.length cw) acc, Chunk.blk g321 (.cells #[.string (⟨#[]⟩ : ByteArray), .slice Aw acc.length cw] 27 (0, 0)), Chunk.view Kd.string S77 A75 LV.length c76 LV, Chunk.view Kd.string S33 A31 ((r).length) c32 r, Chunk.blk g8 (.cells #[.string b, .slice Ap ps.length cp] 27 (0, 0)), Chunk.blk g2 (.cells #[.int .i64 kd, .string nm, .string vl, .slice A3 kids.length c3] 24 (0, 0))] := HO377
                  clear HO377
                  refine wpList_nil ?_
                  refine gw_nx (hK357 _ _ ?_)
                  refine gw_seq fun K379 hK379 => ?_
                  refine wp_region_lit ?_
                  refine gw_ev HF375 (want_none rfl) rfl (by decide) (op_loadn gwagg24 gwsiz24 rfl (HF375.ev rfl) (HO378.get 6 rfl) rfl rfl) ?_
                  intro a380 HF381; clear HF375
                  refine gw_ev HF381 (want_none rfl) rfl (by decide) (op_field (gwfld36_0 _ _) rfl (HF381.ev rfl)) ?_
                  intro a382 HF383; clear HF381
                  refine gw_ev HF383 (want_none rfl) rfl (by decide) (op_load1 gwagg9 rfl (HF383.ev rfl) (blk_at (HO378.get 0 rfl) rfl)) ?_
                  intro a384 HF385; clear HF383
                  obtain ⟨m386, hm387⟩ := fN.asks ((ps.getD p.toNat z36).f0)
                  refine gw_call HF385 (want_none rfl) rfl (by decide) (op_callL Try.func16 (by kernel_rfl) rfl rfl (ar_cons (HF385.ev rfl) (ar_cons (HF385.ev rfl) ar_nil))) (colloquyref12_Asks.calls m386 kd nm vl A3 c3 kids ((ps.getD p.toNat z36).f0) (LV.any (sameN ((ps.getD p.toNat z36).f0))) _ (Kd.C_below hr3 HO378.below) hc3 hm387) ?_
                  rintro e388 w389 ⟨rfl, hb390⟩
                  refine ⟨_, rfl, fun a391 HF392 => ?_⟩
                  have HO393 := HO378.after hb390
                  clear HF385 HO378 hb390
                  refine wpList_nil ?_
                  refine gw_nx (hK379 _ _ ?_)
                  refine gw_cond HF392 rfl (fun hb395 => ?_) (fun hb395 => ?_)
                  · skip
                    have HF396 := HF392.subst_ (d := 90) (b := true) rfl hb395
                    clear HF392
                    (try simp only [Bool.and_eq_true, Bool.or_eq_true, Bool.and_eq_false_iff, Bool.or_eq_false_iff, Bool.not_and, Bool.not_or, Bool.not_not, decide_eq_true_eq, decide_eq_false_iff_not, Bool.not_eq_true', Bool.not_eq_false', Bool.not_eq_true, Bool.not_eq_false, ne_eq, Decidable.not_not, Int.not_lt, Int.not_le, not_true_eq_false, not_false_eq_true, bne_iff_ne, beq_iff_eq, bne_eq_false_iff_eq, beq_eq_false_iff_ne] at hb395)
                    refine wp_region_lit ?_
                    refine gw_ev HF396 (want_none rfl) rfl (by decide) (op_field (gwfld27_1 _ _) rfl (HF396.ev rfl)) ?_
                    intro a397 HF398; clear HF396
                    refine gw_ev HF398 (want_none rfl) rfl (by decide) (op_load1 gwagg25 rfl (HF398.ev rfl) (blk_at (HO393.get 2 rfl) rfl)) ?_
                    intro a399 HF400; clear HF398
                    refine gw_ev HF400 (want_none rfl) rfl (by decide) (op_loadn gwagg36 gwsiz36 rfl (HF400.ev rfl) (HO393.get 0 rfl) rfl rfl) ?_
                    intro a401 HF402; clear HF400
                    refine gw_news (O := .cells #[.string ((ps.getD p.toNat z36).f0), .string ((ps.getD p.toNat z36).f1)] 36 (0, 0)) (n := 1) HF402 HO393 (want_none rfl) rfl (by decide) (op_bslice (by kernel_rfl) rfl (pt_cons (HF402.ev rfl) pt_nil)) ?_
                    intro g403 a404 w405 HF406 HO407; clear HF402 HO393
                    have HO408 : Own w w405 [Chunk.blk g403 (.cells #[.string ((ps.getD p.toNat z36).f0), .string ((ps.getD p.toNat z36).f1)] 36 (0, 0)), Chunk.blk g368 (.cells #[.string ((ps.getD p.toNat z36).f0), .string ((ps.getD p.toNat z36).f1)] 36 (0, 0)), Chunk.row k36 36 w.heap.size Sw (.slice Aw acc.length cw) acc, Chunk.blk g321 (.cells #[.string (⟨#[]⟩ : ByteArray), .slice Aw acc.length cw] 27 (0, 0)), Chunk.view Kd.string S77 A75 LV.length c76 LV, Chunk.view Kd.string S33 A31 ((r).length) c32 r, Chunk.blk g8 (.cells #[.string b, .slice Ap ps.length cp] 27 (0, 0)), Chunk.blk g2 (.cells #[.int .i64 kd, .string nm, .string vl, .slice A3 kids.length c3] 24 (0, 0))] := HO407
                    clear HO407
                    have HO409 : Own w _ [Chunk.row k36 36 w.heap.size Sw (.slice Aw acc.length cw) acc, Chunk.void, Chunk.blk g403 (.cells #[.string ((ps.getD p.toNat z36).f0), .string ((ps.getD p.toNat z36).f1)] 36 (0, 0)), Chunk.blk g368 (.cells #[.string ((ps.getD p.toNat z36).f0), .string ((ps.getD p.toNat z36).f1)] 36 (0, 0)), Chunk.blk g321 (.cells #[.string (⟨#[]⟩ : ByteArray), .slice Aw acc.length cw] 27 (0, 0)), Chunk.view Kd.string S77 A75 LV.length c76 LV, Chunk.view Kd.string S33 A31 ((r).length) c32 r, Chunk.blk g8 (.cells #[.string b, .slice Ap ps.length cp] 27 (0, 0)), Chunk.blk g2 (.cells #[.int .i64 kd, .string nm, .string vl, .slice A3 kids.length c3] 24 (0, 0))] := HO408.void.sel [3, 0, 1, 2, 4, 5, 6, 7, 8] (by decide)
                    refine gw_append1 k36 0 (p := (⟨(ps.getD p.toNat z36).f0, (ps.getD p.toNat z36).f1⟩ : S36)) (cs := [.string ((ps.getD p.toNat z36).f0), .string ((ps.getD p.toNat z36).f1)]) HF406 HO409 (want_none rfl) rfl (by decide) rfl Try.underlying25 gwinfo36 rfl (by decide) (by decide) rfl (HF406.ev rfl) (HF406.ev rfl) (fun w_ h_ => k36_mkM w_ _ _ (⟨(ps.getD p.toNat z36).f0, (ps.getD p.toNat z36).f1⟩ : S36) ) HO409.below.size (by omega) ?_
                    intro A410 c411 S412 a413 w414 HF415 HO416; clear HF406 HO408 HO409
                    have HO417 : Own w w414 [Chunk.row k36 36 w.heap.size S412 (.slice A410 ((acc ++ [(⟨(ps.getD p.toNat z36).f0, (ps.getD p.toNat z36).f1⟩ : S36)]).length) c411) (acc ++ [(⟨(ps.getD p.toNat z36).f0, (ps.getD p.toNat z36).f1⟩ : S36)]), Chunk.blk g403 (.cells #[.string ((ps.getD p.toNat z36).f0), .string ((ps.getD p.toNat z36).f1)] 36 (0, 0)), Chunk.blk g368 (.cells #[.string ((ps.getD p.toNat z36).f0), .string ((ps.getD p.toNat z36).f1)] 36 (0, 0)), Chunk.blk g321 (.cells #[.string (⟨#[]⟩ : ByteArray), .slice Aw acc.length cw] 27 (0, 0)), Chunk.view Kd.string S77 A75 LV.length c76 LV, Chunk.view Kd.string S33 A31 ((r).length) c32 r, Chunk.blk g8 (.cells #[.string b, .slice Ap ps.length cp] 27 (0, 0)), Chunk.blk g2 (.cells #[.int .i64 kd, .string nm, .string vl, .slice A3 kids.length c3] 24 (0, 0))] := HO416
                    clear HO416
                    refine gw_ev HF415 (want_none rfl) rfl (by decide) (op_field (gwfld27_1 _ _) rfl (HF415.ev rfl)) ?_
                    intro a418 HF419; clear HF415
                    refine gw_set 3 HF419 HO417 rfl (want_none rfl) rfl (op_store1 gwsiz25 rfl (HF419.ev rfl) (HF419.ev rfl) rfl (blk_at (HO417.get 3 rfl) rfl) (blkf (HO417.get 3 rfl))) ?_
                    intro a420 w422 HF421 HO423; clear HF419 HO417
                    have HO424 : Own w w422 [Chunk.row k36 36 w.heap.size S412 (.slice A410 ((acc ++ [(⟨(ps.getD p.toNat z36).f0, (ps.getD p.toNat z36).f1⟩ : S36)]).length) c411) (acc ++ [(⟨(ps.getD p.toNat z36).f0, (ps.getD p.toNat z36).f1⟩ : S36)]), Chunk.blk g403 (.cells #[.string ((ps.getD p.toNat z36).f0), .string ((ps.getD p.toNat z36).f1)] 36 (0, 0)), Chunk.blk g368 (.cells #[.string ((ps.getD p.toNat z36).f0), .string ((ps.getD p.toNat z36).f1)] 36 (0, 0)), Chunk.blk g321 (.cells #[.string (⟨#[]⟩ : ByteArray), .slice A410 ((acc ++ [(⟨(ps.getD p.toNat z36).f0, (ps.getD p.toNat z36).f1⟩ : S36)]).length) c411] 27 (0, 0)), Chunk.view Kd.string S77 A75 LV.length c76 LV, Chunk.view Kd.string S33 A31 ((r).length) c32 r, Chunk.blk g8 (.cells #[.string b, .slice Ap ps.length cp] 27 (0, 0)), Chunk.blk g2 (.cells #[.int .i64 kd, .string nm, .string vl, .slice A3 kids.length c3] 24 (0, 0))] := HO423
                    clear HO423
                    refine wpList_nil ?_
                    refine gw_blk ?_
                    refine gw_nx (hK356 _ _ ?_)
                    refine wp_region_lit ?_
                    refine gw_ev HF421 (want_none rfl) rfl (by decide) (op_add rfl (HF421.ev rfl) (ev_c _ _) (by omega)) ?_
                    intro a425 HF426; clear HF421
                    refine gw_ev HF426 (want_none rfl) rfl (by decide) (op_move rfl (HF426.ev rfl)) ?_
                    intro a427 HF428; clear HF426
                    refine wpList_nil ?_
                    refine gw_nx ⟨_, ?_, p + 1, (acc ++ [(⟨(ps.getD p.toNat z36).f0, (ps.getD p.toNat z36).f1⟩ : S36)]), A410, c411, _, (HF428.pick (t := 83) rfl (HF428.pick (t := 2) rfl (HF428.pick (t := 3) rfl (HF428.pick (t := 14) rfl (HF428.pick (t := 81) rfl (HF428.pick (t := 82) rfl HF428.nil)))))), HO424.sel [0, 3, 4, 5, 6, 7] (by decide), ?_, ?_, ?_, rfl⟩
                    · rw [hm349]; omega
                    · omega
                    · rw [show (p + 1).toNat = p.toNat + 1 by omega, filter_take z36 (by omega), ← hacc]; first | (rw [if_pos (by assumption)]; done) | (rw [if_pos (by assumption)]; rfl) | (rw [if_neg (by simp_all), List.append_nil])
                    · first | omega | (simp only [List.length_append, List.length_singleton]; omega)
                  · skip
                    have HF429 := HF392.subst_ (d := 90) (b := false) rfl hb395
                    clear HF392
                    (try simp only [Bool.and_eq_true, Bool.or_eq_true, Bool.and_eq_false_iff, Bool.or_eq_false_iff, Bool.not_and, Bool.not_or, Bool.not_not, decide_eq_true_eq, decide_eq_false_iff_not, Bool.not_eq_true', Bool.not_eq_false', Bool.not_eq_true, Bool.not_eq_false, ne_eq, Decidable.not_not, Int.not_lt, Int.not_le, not_true_eq_false, not_false_eq_true, bne_iff_ne, beq_iff_eq, bne_eq_false_iff_eq, beq_eq_false_iff_ne] at hb395)
                    refine wp_skip ?_
                    refine gw_blk ?_
                    refine gw_nx (hK356 _ _ ?_)
                    refine wp_region_lit ?_
                    refine gw_ev HF429 (want_none rfl) rfl (by decide) (op_add rfl (HF429.ev rfl) (ev_c _ _) (by omega)) ?_
                    intro a430 HF431; clear HF429
                    refine gw_ev HF431 (want_none rfl) rfl (by decide) (op_move rfl (HF431.ev rfl)) ?_
                    intro a432 HF433; clear HF431
                    refine wpList_nil ?_
                    refine gw_nx ⟨_, ?_, p + 1, acc, Aw, cw, _, (HF433.pick (t := 83) rfl (HF433.pick (t := 2) rfl (HF433.pick (t := 3) rfl (HF433.pick (t := 14) rfl (HF433.pick (t := 81) rfl (HF433.pick (t := 82) rfl HF433.nil)))))), HO393.sel [1, 2, 3, 4, 5, 6] (by decide), ?_, ?_, ?_, rfl⟩
                    · rw [hm349]; omega
                    · omega
                    · rw [show (p + 1).toNat = p.toNat + 1 by omega, filter_take z36 (by omega), ← hacc]; first | (rw [if_pos (by assumption)]; done) | (rw [if_pos (by assumption)]; rfl) | (rw [if_neg (by simp_all), List.append_nil])
                    · first | omega | (simp only [List.length_append, List.length_singleton]; omega)
                · skip
                  have HF434 := HF352.subst_ (d := 84) (b := false) rfl hb354
                  clear HF352
                  (try simp only [Bool.and_eq_true, Bool.or_eq_true, Bool.and_eq_false_iff, Bool.or_eq_false_iff, Bool.not_and, Bool.not_or, Bool.not_not, decide_eq_true_eq, decide_eq_false_iff_not, Bool.not_eq_true', Bool.not_eq_false', Bool.not_eq_true, Bool.not_eq_false, ne_eq, Decidable.not_not, Int.not_lt, Int.not_le, not_true_eq_false, not_false_eq_true, bne_iff_ne, beq_iff_eq, bne_eq_false_iff_eq, beq_eq_false_iff_ne] at hb354)
                  refine wp_exit ?_
                  refine gw_thx ?_
                  refine gw_thx ?_
                  refine gw_in ?_
                  refine gw_nx (hK332 _ _ ?_)
                  refine gw_seq fun K435 hK435 => ?_
                  refine gw_drawB HO348 (by kernel_rfl) (by kernel_rfl) fun w436 HO437 => ?_
                  clear HO348
                  refine gq_ev HF434 (want_none rfl) rfl (by decide) (fun wq hq => have HO := HO437.after hq; (op_loadn gwagg24 gwsiz24 rfl (HF434.ev rfl) (HO.get 5 rfl) rfl rfl)) ?_
                  intro a438 HF439; clear HF434
                  refine gq_ev HF439 (want_none rfl) rfl (by decide) (fun wq hq => have HO := HO437.after hq; (op_loadn gwagg27 gwsiz27 rfl (HF439.ev rfl) (HO.get 4 rfl) rfl rfl)) ?_
                  intro a440 HF441; clear HF439
                  refine gq_call HF441 (want_none rfl) rfl (by decide) (fun wq hq => have HO := HO437.after hq; (op_callL Try.func12 (by kernel_rfl) rfl rfl (ar_cons (HF441.ev rfl) (ar_cons (HF441.ev rfl) ar_nil)))) (fun wq hq => have HO := HO437.after hq; (cond_Holds.calls kh kd nm vl A3 c3 kids b Ap cp ps hv _ (Kd.C_below hr3 HO.below) hc3 (Kd.C_below hrp HO.below) hcp hk1).mono fun e w' h => ⟨h.1, below_then hq h.2⟩) ?_
                  intro a442 HF443; clear HF441
                  refine gq_ev HF443 (want_none rfl) rfl (by decide) (fun wq hq => have HO := HO437.after hq; (op_loadn gwagg24 gwsiz24 rfl (HF443.ev rfl) (HO.get 5 rfl) rfl rfl)) ?_
                  intro a444 HF445; clear HF443
                  refine gq_ev HF445 (want_none rfl) rfl (by decide) (fun wq hq => have HO := HO437.after hq; (op_loadn gwagg27 gwsiz27 rfl (HF445.ev rfl) (HO.get 1 rfl) rfl rfl)) ?_
                  intro a446 HF447; clear HF445
                  refine gq_call HF447 (want_none rfl) rfl (by decide) (fun wq hq => have HO := HO437.after hq; (op_callL Try.func12 (by kernel_rfl) rfl rfl (ar_cons (HF447.ev rfl) (ar_cons (HF447.ev rfl) ar_nil)))) (fun wq hq => have HO := HO437.after hq; (cond_Holds.calls kh kd nm vl A3 c3 kids (⟨#[]⟩ : ByteArray) Aw cw acc hv _ (Kd.C_below hr3 HO.below) hc3 (Kd.R_reads' (HO.get 0 rfl)).2.2 (row_cap (HO.get 0 rfl)) (by rw [hacc, List.take_of_length_le (by omega)]; exact hk2)).mono fun e w' h => ⟨h.1, below_then hq h.2⟩) ?_
                  intro a448 HF449; clear HF447
                  refine gq_ev HF449 (want_none rfl) rfl (by decide) (fun wq hq => have HO := HO437.after hq; (op_eqb Try.underlying4 rfl (HF449.ev rfl) (HF449.ev rfl))) ?_
                  intro a450 HF451; clear HF449
                  refine gq_ev HF451 (want_none rfl) rfl (by decide) (fun wq hq => have HO := HO437.after hq; (op_assign rfl (HF451.ev rfl))) ?_
                  intro a452 HF453; clear HF451
                  refine wpQuiet_nil ?_
                  intro w454 hq
                  have HO455 := HO437.after hq
                  clear HO437 hq
                  refine gw_nx (hK435 _ _ ?_)
                  refine wp_ret ?_
                  refine gw_ret1 HF453 rfl rfl ?_
                  exact ⟨by first | rfl | (congr 2; simp [hr0]) | (congr 2; simp), HO455.below⟩
end GCond11_
export GCond11_ (CondNames_walk)
open Classical in
noncomputable def colloquylaw12_CondNames.f (a0_0 : Int) (a0_1 : ByteArray) (a0_2 : ByteArray) (l0_3 : List S24) (a1_0 : ByteArray) (l1_1 : List S36) : Option Bool := if (smallN 20 ⟨a0_0, a0_1, a0_2, l0_3⟩) ∧ (wtN 21 ⟨a0_0, a0_1, a0_2, l0_3⟩ ≤ 1048576) ∧ (l1_1.length ≤ 1048576) then some true else none
theorem colloquylaw12_CondNames.calls (a0_0 : Int) (a0_1 : ByteArray) (a0_2 : ByteArray) (A0_3 : Option Addr) (c0_3 : Nat) (l0_3 : List S24) (a1_0 : ByteArray) (A1_1 : Option Addr) (c1_1 : Nat) (l1_1 : List S36) (r : Bool) (w : World) (hr0_3 : Kd.C k24 w A0_3 l0_3.length l0_3) (hc0_3 : l0_3.length ≤ c0_3) (hr1_1 : Kd.C k36 w A1_1 l1_1.length l1_1) (hc1_1 : l1_1.length ≤ c1_1) (h : colloquylaw12_CondNames.f a0_0 a0_1 a0_2 l0_3 a1_0 l1_1 = some r) :
    Calls Try.prog 4 #[(.agg #[.int .i64 a0_0, .string a0_1, .string a0_2, .slice A0_3 l0_3.length c0_3]), (.agg #[.string a1_0, .slice A1_1 l1_1.length c1_1])] w fun e w' => e = .returned (.bool r) ∧ Below w.heap.size w w' := by
  unfold colloquylaw12_CondNames.f at h
  split at h
  · cases h; rename_i hh; exact CondNames_walk a0_0 a0_1 a0_2 A0_3 c0_3 l0_3 a1_0 A1_1 c1_1 l1_1 w hr0_3 hc0_3 hr1_1 hc1_1 hh.1 hh.2.1 hh.2.2
  · cases h
end Go.Proofs.Ytjndcgochnaodaa.PA
