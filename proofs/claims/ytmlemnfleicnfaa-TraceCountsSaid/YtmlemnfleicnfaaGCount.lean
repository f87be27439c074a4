/- Counts. Printed by a program of this session; Lean checks it. -/
import Derived.Test.YtmlemnfleicnfaaHCnt
namespace Go.Proofs.Ytmlemnfleicnfaa.PA
open Go.RowKit Go.Proofs.YtmlemnfleicnfaaW.PrintWords Go.Proofs.YtmlemnfleicnfaaW.PrintLast Go.Proofs.YtmlemnfleicnfaaW.PrintMore
set_option linter.unusedVariables false
set_option linter.unusedSimpArgs false
namespace GCount_
theorem gwagg3 : ∀ w, (isAgg 3).run Try.prog w = .ok false w := fun _ => by kernel_rfl
theorem gwagg58 : ∀ w, (isAgg 58).run Try.prog w = .ok true w := fun _ => by kernel_rfl
theorem gwagg61 : ∀ w, (isAgg 61).run Try.prog w = .ok true w := fun _ => by kernel_rfl
theorem gwfld61_1 (g off : Nat) : ∀ w, (Instr.fieldAt 61 (.pointer (some ⟨g, off, none⟩)) 1).run Try.prog w = .ok (.pointer (some ⟨g, off + 1, none⟩)) w := fun _ => by kernel_rfl
theorem gwflda61_1 (ad : Addr) : ∀ w, (Instr.fieldAt 61 (.pointer (some ad)) 1).run Try.prog w = .ok (.pointer (some (ad.add 1))) w := fun _ => by kernel_rfl
theorem gwsiz3 : ∀ w, (sizeOf 3).run Try.prog w = .ok 1 w := fun _ => by kernel_rfl
theorem gwsiz58 : ∀ w, (sizeOf 58).run Try.prog w = .ok 8 w := fun _ => by kernel_rfl
theorem gwsiz61 : ∀ w, (sizeOf 61).run Try.prog w = .ok 2 w := fun _ => by kernel_rfl
theorem gwzer58 : ∀ w, (zeroValue 58).run Try.prog w = .ok (.agg #[.int .i64 0, .int .i64 0, .int .i64 0, .int .i64 0, .int .i64 0, .int .i64 0, .int .i64 0, .int .i64 0]) w := fun _ => by kernel_rfl
theorem gwzer61 : ∀ w, (zeroValue 61).run Try.prog w = .ok (.agg #[.string (⟨#[]⟩ : ByteArray), .int .i64 0]) w := fun _ => by kernel_rfl
set_option maxHeartbeats 4000000 in
set_option maxRecDepth 100000 in
theorem count_calls (A0 : Option Addr) (c0_ : Nat) (rs : List S61) (w : World) (hr0 : Kd.C k61 w A0 rs.length rs) (hc0 : rs.length ≤ c0_) (hl : rs.length ≤ 9223372036854775807) :
    Calls Try.prog 42 #[.slice A0 rs.length c0_] w fun e w' => e = .returned (.agg #[.int .i64 (cntL rs 0), .int .i64 (cntL rs 1), .int .i64 (cntL rs 2), .int .i64 (cntL rs 3), .int .i64 (cntL rs 4), .int .i64 (cntL rs 5), .int .i64 (cntL rs 6), .int .i64 (cntL rs 7)]) ∧ Below w.heap.size w w' := by
  refine gw_start (N := 28) (vs := [.slice A0 rs.length c0_]) Try.func42 rfl rfl (by simp) fun a HF HO => ?_
  replace HO : Own w w [] := HO
  refine gw_seq fun K1 hK1 => ?_
  refine wp_region_lit ?_
  refine gw_new HF HO (want_none rfl) rfl (by decide) (op_alloc gwzer58 rfl) ?_
  intro g2 a3 w4 HF5 HO6; clear HF HO
  have HO7 : Own w w4 [Chunk.blk g2 (.cells #[.int .i64 0, .int .i64 0, .int .i64 0, .int .i64 0, .int .i64 0, .int .i64 0, .int .i64 0, .int .i64 0] 58 (0, 0))] := HO6
  clear HO6
  refine wpList_nil ?_
  refine gw_nx (hK1 _ _ ?_)
  refine gw_seq fun K8 hK8 => ?_
  refine wp_region_lit ?_
  refine gw_new HF5 HO7 (want_none rfl) rfl (by decide) (op_alloc gwzer58 rfl) ?_
  intro g9 a10 w11 HF12 HO13; clear HF5 HO7
  have HO14 : Own w w11 [Chunk.blk g9 (.cells #[.int .i64 0, .int .i64 0, .int .i64 0, .int .i64 0, .int .i64 0, .int .i64 0, .int .i64 0, .int .i64 0] 58 (0, 0)), Chunk.blk g2 (.cells #[.int .i64 0, .int .i64 0, .int .i64 0, .int .i64 0, .int .i64 0, .int .i64 0, .int .i64 0, .int .i64 0] 58 (0, 0))] := HO13
  clear HO13
  refine wpList_nil ?_
  refine gw_nx (hK8 _ _ ?_)
  refine gw_seq fun K15 hK15 => ?_
  refine gw_seq fun K16 hK16 => ?_
  refine wp_region_lit ?_
  refine gw_ev HF12 (want_none rfl) rfl (by decide) (op_move rfl (HF12.ev rfl)) ?_
  intro a17 HF18; clear HF12
  refine gw_ev HF18 (want_none rfl) rfl (by decide) (op_len Try.underlying57 rfl (HF18.ev rfl)) ?_
  intro a19 HF20; clear HF18
  refine gw_ev HF20 (want_none rfl) rfl (by decide) (op_move rfl (ev_c _ _)) ?_
  intro a21 HF22; clear HF20
  refine wpList_nil ?_
  refine gw_nx (hK16 _ _ ?_)
  refine wp_block ?_
  refine gw_loop (fun m_ a_ w_ => ∃ (i : Int) (q0 : Int) (q1 : Int) (q2 : Int) (q3 : Int) (q4 : Int) (q5 : Int) (q6 : Int) (q7 : Int), Fr 28 a_ [(9, .int .i64 i), (2, .pointer (some ⟨g2, 0, none⟩)), (3, .pointer (some ⟨g9, 0, none⟩)), (7, .slice A0 rs.length c0_), (8, .int .i64 (rs.length : Int))] ∧ Own w w_ [Chunk.blk g9 (.cells #[.int .i64 q0, .int .i64 q1, .int .i64 q2, .int .i64 q3, .int .i64 q4, .int .i64 q5, .int .i64 q6, .int .i64 q7] 58 (0, 0)), Chunk.blk g2 (.cells #[.int .i64 0, .int .i64 0, .int .i64 0, .int .i64 0, .int .i64 0, .int .i64 0, .int .i64 0, .int .i64 0] 58 (0, 0))] ∧ (0 ≤ i ∧ i ≤ rs.length) ∧ (q0 = cntL (rs.take i.toNat) 0) ∧ (q1 = cntL (rs.take i.toNat) 1) ∧ (q2 = cntL (rs.take i.toNat) 2) ∧ (q3 = cntL (rs.take i.toNat) 3) ∧ (q4 = cntL (rs.take i.toNat) 4) ∧ (q5 = cntL (rs.take i.toNat) 5) ∧ (q6 = cntL (rs.take i.toNat) 6) ∧ (q7 = cntL (rs.take i.toNat) 7) ∧ m_ = (rs.length - i.toNat)) ((rs.length - (0 : Int).toNat)) ?_ ?_
  · refine ⟨0, 0, 0, 0, 0, 0, 0, 0, 0, (HF22.pick (t := 9) rfl (HF22.pick (t := 2) rfl (HF22.pick (t := 3) rfl (HF22.pick (t := 7) rfl (HF22.pick (t := 8) rfl HF22.nil))))), HO14.sel [0, 1] (by decide), ?_, ?_, ?_, ?_, ?_, ?_, ?_, ?_, ?_, rfl⟩
    · (first | omega | ((try have hb0_ := cnt_b (rs.take i.toNat) 0); (try have hb1_ := cnt_b (rs.take i.toNat) 1); (try have hb2_ := cnt_b (rs.take i.toNat) 2); (try have hb3_ := cnt_b (rs.take i.toNat) 3); (try have hb4_ := cnt_b (rs.take i.toNat) 4); (try have hb5_ := cnt_b (rs.take i.toNat) 5); (try have hb6_ := cnt_b (rs.take i.toNat) 6); (try have hb7_ := cnt_b (rs.take i.toNat) 7); (simp only [List.length_take] at *); omega))
    · simp [cntL]
    · simp [cntL]
    · simp [cntL]
    · simp [cntL]
    · simp [cntL]
    · simp [cntL]
    · simp [cntL]
    · simp [cntL]
  · rintro m24 a25 w26 ⟨i, q0, q1, q2, q3, q4, q5, q6, q7, HF27, HO28, hi, hq0, hq1, hq2, hq3, hq4, hq5, hq6, hq7, hm29⟩
    refine gw_seq fun K30 hK30 => ?_
    refine wp_region_lit ?_
    refine gw_ev HF27 (want_none rfl) rfl (by decide) (op_lss rfl (HF27.ev rfl) (HF27.ev rfl)) ?_
    intro a31 HF32; clear HF27
    refine wpList_nil ?_
    refine gw_nx (hK30 _ _ ?_)
    refine gw_seq fun K33 hK33 => ?_
    refine gw_cond HF32 rfl (fun hb34 => ?_) (fun hb34 => ?_)
    · skip
      have HF35 := HF32.subst_ (d := 10) (b := true) rfl hb34
      clear HF32
      (try simp only [decide_eq_true_eq, decide_eq_false_iff_not, Bool.not_eq_true', Bool.not_eq_false', Bool.not_eq_true, Bool.not_eq_false, ne_eq, Decidable.not_not, Int.not_lt, Int.not_le, not_true_eq_false, not_false_eq_true, bne_iff_ne, beq_iff_eq, bne_eq_false_iff_eq, beq_eq_false_iff_ne] at hb34)
      refine wp_skip ?_
      refine gw_nx (hK33 _ _ ?_)
      refine gw_seq fun K36 hK36 => ?_
      refine wp_block ?_
      refine gw_seq fun K37 hK37 => ?_
      refine wp_region_lit ?_
      obtain ⟨ad38, cs41, hA39, hl42, hK43, hc40⟩ := Kd.C_get hr0 z61 i (by (first | omega | ((try have hb0_ := cnt_b (rs.take i.toNat) 0); (try have hb1_ := cnt_b (rs.take i.toNat) 1); (try have hb2_ := cnt_b (rs.take i.toNat) 2); (try have hb3_ := cnt_b (rs.take i.toNat) 3); (try have hb4_ := cnt_b (rs.take i.toNat) 4); (try have hb5_ := cnt_b (rs.take i.toNat) 5); (try have hb6_ := cnt_b (rs.take i.toNat) 6); (try have hb7_ := cnt_b (rs.take i.toNat) 7); (simp only [List.length_take] at *); omega))) (by (first | omega | ((try have hb0_ := cnt_b (rs.take i.toNat) 0); (try have hb1_ := cnt_b (rs.take i.toNat) 1); (try have hb2_ := cnt_b (rs.take i.toNat) 2); (try have hb3_ := cnt_b (rs.take i.toNat) 3); (try have hb4_ := cnt_b (rs.take i.toNat) 4); (try have hb5_ := cnt_b (rs.take i.toNat) 5); (try have hb6_ := cnt_b (rs.take i.toNat) 6); (try have hb7_ := cnt_b (rs.take i.toNat) 7); (simp only [List.length_take] at *); omega)))
      obtain rfl := k61_open hK43
      clear hl42
      refine gw_ev HF35 (want_none rfl) rfl (by decide) (op_index Try.underlying57 gwsiz61 rfl (HF35.ev rfl) (HF35.ev rfl) hA39 (⟨by (first | omega | ((try have hb0_ := cnt_b (rs.take i.toNat) 0); (try have hb1_ := cnt_b (rs.take i.toNat) 1); (try have hb2_ := cnt_b (rs.take i.toNat) 2); (try have hb3_ := cnt_b (rs.take i.toNat) 3); (try have hb4_ := cnt_b (rs.take i.toNat) 4); (try have hb5_ := cnt_b (rs.take i.toNat) 5); (try have hb6_ := cnt_b (rs.take i.toNat) 6); (try have hb7_ := cnt_b (rs.take i.toNat) 7); (simp only [List.length_take] at *); omega)), by (first | omega | ((try have hb0_ := cnt_b (rs.take i.toNat) 0); (try have hb1_ := cnt_b (rs.take i.toNat) 1); (try have hb2_ := cnt_b (rs.take i.toNat) 2); (try have hb3_ := cnt_b (rs.take i.toNat) 3); (try have hb4_ := cnt_b (rs.take i.toNat) 4); (try have hb5_ := cnt_b (rs.take i.toNat) 5); (try have hb6_ := cnt_b (rs.take i.toNat) 6); (try have hb7_ := cnt_b (rs.take i.toNat) 7); (simp only [List.length_take] at *); omega))⟩)) ?_
      intro a44 HF45; clear HF35
      refine gw_ev HF45 (want_none rfl) rfl (by decide) (op_loadc gwagg61 gwsiz61 rfl (HF45.ev rfl) rfl (cells0 HO28 hc40)) ?_
      intro a46 HF47; clear HF45
      refine gw_new HF47 HO28 (want_none rfl) rfl (by decide) (op_alloc gwzer61 rfl) ?_
      intro g48 a49 w50 HF51 HO52; clear HF47 HO28
      have HO53 : Own w w50 [Chunk.blk g48 (.cells #[.string (⟨#[]⟩ : ByteArray), .int .i64 0] 61 (0, 0)), Chunk.blk g9 (.cells #[.int .i64 q0, .int .i64 q1, .int .i64 q2, .int .i64 q3, .int .i64 q4, .int .i64 q5, .int .i64 q6, .int .i64 q7] 58 (0, 0)), Chunk.blk g2 (.cells #[.int .i64 0, .int .i64 0, .int .i64 0, .int .i64 0, .int .i64 0, .int .i64 0, .int .i64 0, .int .i64 0] 58 (0, 0))] := HO52
      clear HO52
      refine gw_setn 0 HF51 HO53 rfl (want_none rfl) rfl (op_storen gwsiz61 rfl (HF51.ev rfl) (HF51.ev rfl) (HO53.get 0 rfl) rfl (by simp) (by simp [Value.oneCell'])) ?_
      intro a54 w56 HF55 HO57; clear HF51 HO53
      have HO58 : Own w w56 [Chunk.blk g48 (.cells #[.string ((rs.getD i.toNat z61).f0), .int .i64 ((rs.getD i.toNat z61).f1)] 61 (0, 0)), Chunk.blk g9 (.cells #[.int .i64 q0, .int .i64 q1, .int .i64 q2, .int .i64 q3, .int .i64 q4, .int .i64 q5, .int .i64 q6, .int .i64 q7] 58 (0, 0)), Chunk.blk g2 (.cells #[.int .i64 0, .int .i64 0, .int .i64 0, .int .i64 0, .int .i64 0, .int .i64 0, .int .i64 0, .int .i64 0] 58 (0, 0))] := HO57
      clear HO57
      refine wpList_nil ?_
      refine gw_nx (hK37 _ _ ?_)
      refine gw_seq fun K59 hK59 => ?_
      refine wp_region_lit ?_
      refine gw_ev HF55 (want_none rfl) rfl (by decide) (op_field (gwfld61_1 _ _) rfl (HF55.ev rfl)) ?_
      intro a60 HF61; clear HF55
      refine gw_ev HF61 (want_none rfl) rfl (by decide) (op_load1 gwagg3 rfl (HF61.ev rfl) (blk_at (HO58.get 0 rfl) rfl)) ?_
      intro a62 HF63; clear HF61
      refine gw_ev HF63 (want_none rfl) rfl (by decide) (op_assign rfl (HF63.ev rfl)) ?_
      intro a64 HF65; clear HF63
      refine wpList_nil ?_
      refine gw_nx (hK59 _ _ ?_)
      refine gw_seq fun K66 hK66 => ?_
      refine gw_seq fun K67 hK67 => ?_
      refine wp_region_lit ?_
      refine gw_ev HF65 (want_none rfl) rfl (by decide) (op_move rfl (HF65.ev rfl)) ?_
      intro a68 HF69; clear HF65
      refine gw_ev HF69 (want_none rfl) rfl (by decide) (op_lss rfl (HF69.ev rfl) (ev_c _ _)) ?_
      intro a70 HF71; clear HF69
      refine gw_ev HF71 (want_none rfl) rfl (by decide) (op_move rfl (HF71.ev rfl)) ?_
      intro a72 HF73; clear HF71
      rcases Bool.eq_false_or_eq_true (decide (((rs.getD i.toNat z61).f1) < 0)) with hb74 | hb74
      · skip
        have HF75 := HF73.subst_ (d := 17) (b := true) rfl hb74
        clear HF73
        (try simp only [decide_eq_true_eq, decide_eq_false_iff_not, Bool.not_eq_true', Bool.not_eq_false', Bool.not_eq_true, Bool.not_eq_false, ne_eq, Decidable.not_not, Int.not_lt, Int.not_le, not_true_eq_false, not_false_eq_true, bne_iff_ne, beq_iff_eq, bne_eq_false_iff_eq, beq_eq_false_iff_ne] at hb74)
        refine gw_off HF75 (want_no HF75 rfl rfl rfl rfl (by decide)) rfl (by decide) ?_
        intro a76 HF77; clear HF75
        refine gw_off HF77 (want_no HF77 rfl rfl rfl rfl (by decide)) rfl (by decide) ?_
        intro a78 HF79; clear HF77
        refine gw_ev HF79 (want_none rfl) rfl (by decide) (op_pick_t rfl (HF79.ev rfl) (ev_c _ _)) ?_
        intro a80 HF81; clear HF79
        refine wpList_nil ?_
        refine gw_nx (hK67 _ _ ?_)
        refine gw_cond HF81 rfl (fun hb82 => ?_) (fun hb82 => ?_)
        rotate_left
        · cases hb82
        refine wp_region_lit ?_
        refine gw_ev HF81 (want_none rfl) rfl (by decide) (op_assign rfl (ev_c _ _)) ?_
        intro a83 HF84; clear HF81
        refine wpList_nil ?_
        refine gw_nx (hK66 _ _ ?_)
        refine wp_region_lit ?_
        refine gw_ev HF84 (want_none rfl) rfl (by decide) (op_move rfl (HF84.ev rfl)) ?_
        intro a85 HF86; clear HF84
        refine gw_ev HF86 (want_none rfl) rfl (by decide) (op_indexP (q := 0) Try.underlying58 gwsiz3 rfl (HF86.ev rfl) (HF86.ev rfl) (by decide) rfl) ?_
        intro a87 HF88; clear HF86
        refine gw_ev HF88 (want_none rfl) rfl (by decide) (op_load1 gwagg3 rfl (HF88.ev rfl) (blk_at (HO58.get 1 rfl) rfl)) ?_
        intro a89 HF90; clear HF88
        refine gw_ev HF90 (want_none rfl) rfl (by decide) (op_add rfl (HF90.ev rfl) (ev_c _ _) (by (first | omega | ((try have hb0_ := cnt_b (rs.take i.toNat) 0); (try have hb1_ := cnt_b (rs.take i.toNat) 1); (try have hb2_ := cnt_b (rs.take i.toNat) 2); (try have hb3_ := cnt_b (rs.take i.toNat) 3); (try have hb4_ := cnt_b (rs.take i.toNat) 4); (try have hb5_ := cnt_b (rs.take i.toNat) 5); (try have hb6_ := cnt_b (rs.take i.toNat) 6); (try have hb7_ := cnt_b (rs.take i.toNat) 7); (simp only [List.length_take] at *); omega)))) ?_
        intro a91 HF92; clear HF90
        refine gw_ev HF92 (want_none rfl) rfl (by decide) (op_indexP (q := 0) Try.underlying58 gwsiz3 rfl (HF92.ev rfl) (HF92.ev rfl) (by decide) rfl) ?_
        intro a93 HF94; clear HF92
        refine gw_set 1 HF94 HO58 rfl (want_none rfl) rfl (op_store1 gwsiz3 rfl (HF94.ev rfl) (HF94.ev rfl) rfl (blk_at (HO58.get 1 rfl) rfl) (blkf (HO58.get 1 rfl))) ?_
        intro a95 w97 HF96 HO98; clear HF94 HO58
        have HO99 : Own w w97 [Chunk.blk g48 (.cells #[.string ((rs.getD i.toNat z61).f0), .int .i64 ((rs.getD i.toNat z61).f1)] 61 (0, 0)), Chunk.blk g9 (.cells #[.int .i64 (q0 + 1), .int .i64 q1, .int .i64 q2, .int .i64 q3, .int .i64 q4, .int .i64 q5, .int .i64 q6, .int .i64 q7] 58 (0, 0)), Chunk.blk g2 (.cells #[.int .i64 0, .int .i64 0, .int .i64 0, .int .i64 0, .int .i64 0, .int .i64 0, .int .i64 0, .int .i64 0] 58 (0, 0))] := HO98
        clear HO98
        refine wpList_nil ?_
        refine gw_blk ?_
        refine gw_nx (hK36 _ _ ?_)
        refine wp_region_lit ?_
        refine gw_ev HF96 (want_none rfl) rfl (by decide) (op_add rfl (HF96.ev rfl) (ev_c _ _) (by (first | omega | ((try have hb0_ := cnt_b (rs.take i.toNat) 0); (try have hb1_ := cnt_b (rs.take i.toNat) 1); (try have hb2_ := cnt_b (rs.take i.toNat) 2); (try have hb3_ := cnt_b (rs.take i.toNat) 3); (try have hb4_ := cnt_b (rs.take i.toNat) 4); (try have hb5_ := cnt_b (rs.take i.toNat) 5); (try have hb6_ := cnt_b (rs.take i.toNat) 6); (try have hb7_ := cnt_b (rs.take i.toNat) 7); (simp only [List.length_take] at *); omega)))) ?_
        intro a100 HF101; clear HF96
        refine gw_ev HF101 (want_none rfl) rfl (by decide) (op_move rfl (HF101.ev rfl)) ?_
        intro a102 HF103; clear HF101
        refine wpList_nil ?_
        refine gw_nx ⟨_, ?_, i + 1, q0 + 1, q1, q2, q3, q4, q5, q6, q7, (HF103.pick (t := 9) rfl (HF103.pick (t := 2) rfl (HF103.pick (t := 3) rfl (HF103.pick (t := 7) rfl (HF103.pick (t := 8) rfl HF103.nil))))), HO99.sel [1, 2] (by decide), ?_, ?_, ?_, ?_, ?_, ?_, ?_, ?_, ?_, rfl⟩
        · rw [hm29]; (first | omega | ((try have hb0_ := cnt_b (rs.take i.toNat) 0); (try have hb1_ := cnt_b (rs.take i.toNat) 1); (try have hb2_ := cnt_b (rs.take i.toNat) 2); (try have hb3_ := cnt_b (rs.take i.toNat) 3); (try have hb4_ := cnt_b (rs.take i.toNat) 4); (try have hb5_ := cnt_b (rs.take i.toNat) 5); (try have hb6_ := cnt_b (rs.take i.toNat) 6); (try have hb7_ := cnt_b (rs.take i.toNat) 7); (simp only [List.length_take] at *); omega))
        · (first | omega | ((try have hb0_ := cnt_b (rs.take i.toNat) 0); (try have hb1_ := cnt_b (rs.take i.toNat) 1); (try have hb2_ := cnt_b (rs.take i.toNat) 2); (try have hb3_ := cnt_b (rs.take i.toNat) 3); (try have hb4_ := cnt_b (rs.take i.toNat) 4); (try have hb5_ := cnt_b (rs.take i.toNat) 5); (try have hb6_ := cnt_b (rs.take i.toNat) 6); (try have hb7_ := cnt_b (rs.take i.toNat) 7); (simp only [List.length_take] at *); omega))
        · rw [cnt_succ rs i 0 (by (first | omega | ((try have hb0_ := cnt_b (rs.take i.toNat) 0); (try have hb1_ := cnt_b (rs.take i.toNat) 1); (try have hb2_ := cnt_b (rs.take i.toNat) 2); (try have hb3_ := cnt_b (rs.take i.toNat) 3); (try have hb4_ := cnt_b (rs.take i.toNat) 4); (try have hb5_ := cnt_b (rs.take i.toNat) 5); (try have hb6_ := cnt_b (rs.take i.toNat) 6); (try have hb7_ := cnt_b (rs.take i.toNat) 7); (simp only [List.length_take] at *); omega))) (by (first | omega | ((try have hb0_ := cnt_b (rs.take i.toNat) 0); (try have hb1_ := cnt_b (rs.take i.toNat) 1); (try have hb2_ := cnt_b (rs.take i.toNat) 2); (try have hb3_ := cnt_b (rs.take i.toNat) 3); (try have hb4_ := cnt_b (rs.take i.toNat) 4); (try have hb5_ := cnt_b (rs.take i.toNat) 5); (try have hb6_ := cnt_b (rs.take i.toNat) 6); (try have hb7_ := cnt_b (rs.take i.toNat) 7); (simp only [List.length_take] at *); omega)))]; unfold clsL; (repeat' split) <;> omega
        · rw [cnt_succ rs i 1 (by (first | omega | ((try have hb0_ := cnt_b (rs.take i.toNat) 0); (try have hb1_ := cnt_b (rs.take i.toNat) 1); (try have hb2_ := cnt_b (rs.take i.toNat) 2); (try have hb3_ := cnt_b (rs.take i.toNat) 3); (try have hb4_ := cnt_b (rs.take i.toNat) 4); (try have hb5_ := cnt_b (rs.take i.toNat) 5); (try have hb6_ := cnt_b (rs.take i.toNat) 6); (try have hb7_ := cnt_b (rs.take i.toNat) 7); (simp only [List.length_take] at *); omega))) (by (first | omega | ((try have hb0_ := cnt_b (rs.take i.toNat) 0); (try have hb1_ := cnt_b (rs.take i.toNat) 1); (try have hb2_ := cnt_b (rs.take i.toNat) 2); (try have hb3_ := cnt_b (rs.take i.toNat) 3); (try have hb4_ := cnt_b (rs.take i.toNat) 4); (try have hb5_ := cnt_b (rs.take i.toNat) 5); (try have hb6_ := cnt_b (rs.take i.toNat) 6); (try have hb7_ := cnt_b (rs.take i.toNat) 7); (simp only [List.length_take] at *); omega)))]; unfold clsL; (repeat' split) <;> omega
        · rw [cnt_succ rs i 2 (by (first | omega | ((try have hb0_ := cnt_b (rs.take i.toNat) 0); (try have hb1_ := cnt_b (rs.take i.toNat) 1); (try have hb2_ := cnt_b (rs.take i.toNat) 2); (try have hb3_ := cnt_b (rs.take i.toNat) 3); (try have hb4_ := cnt_b (rs.take i.toNat) 4); (try have hb5_ := cnt_b (rs.take i.toNat) 5); (try have hb6_ := cnt_b (rs.take i.toNat) 6); (try have hb7_ := cnt_b (rs.take i.toNat) 7); (simp only [List.length_take] at *); omega))) (by (first | omega | ((try have hb0_ := cnt_b (rs.take i.toNat) 0); (try have hb1_ := cnt_b (rs.take i.toNat) 1); (try have hb2_ := cnt_b (rs.take i.toNat) 2); (try have hb3_ := cnt_b (rs.take i.toNat) 3); (try have hb4_ := cnt_b (rs.take i.toNat) 4); (try have hb5_ := cnt_b (rs.take i.toNat) 5); (try have hb6_ := cnt_b (rs.take i.toNat) 6); (try have hb7_ := cnt_b (rs.take i.toNat) 7); (simp only [List.length_take] at *); omega)))]; unfold clsL; (repeat' split) <;> omega
        · rw [cnt_succ rs i 3 (by (first | omega | ((try have hb0_ := cnt_b (rs.take i.toNat) 0); (try have hb1_ := cnt_b (rs.take i.toNat) 1); (try have hb2_ := cnt_b (rs.take i.toNat) 2); (try have hb3_ := cnt_b (rs.take i.toNat) 3); (try have hb4_ := cnt_b (rs.take i.toNat) 4); (try have hb5_ := cnt_b (rs.take i.toNat) 5); (try have hb6_ := cnt_b (rs.take i.toNat) 6); (try have hb7_ := cnt_b (rs.take i.toNat) 7); (simp only [List.length_take] at *); omega))) (by (first | omega | ((try have hb0_ := cnt_b (rs.take i.toNat) 0); (try have hb1_ := cnt_b (rs.take i.toNat) 1); (try have hb2_ := cnt_b (rs.take i.toNat) 2); (try have hb3_ := cnt_b (rs.take i.toNat) 3); (try have hb4_ := cnt_b (rs.take i.toNat) 4); (try have hb5_ := cnt_b (rs.take i.toNat) 5); (try have hb6_ := cnt_b (rs.take i.toNat) 6); (try have hb7_ := cnt_b (rs.take i.toNat) 7); (simp only [List.length_take] at *); omega)))]; unfold clsL; (repeat' split) <;> omega
        · rw [cnt_succ rs i 4 (by (first | omega | ((try have hb0_ := cnt_b (rs.take i.toNat) 0); (try have hb1_ := cnt_b (rs.take i.toNat) 1); (try have hb2_ := cnt_b (rs.take i.toNat) 2); (try have hb3_ := cnt_b (rs.take i.toNat) 3); (try have hb4_ := cnt_b (rs.take i.toNat) 4); (try have hb5_ := cnt_b (rs.take i.toNat) 5); (try have hb6_ := cnt_b (rs.take i.toNat) 6); (try have hb7_ := cnt_b (rs.take i.toNat) 7); (simp only [List.length_take] at *); omega))) (by (first | omega | ((try have hb0_ := cnt_b (rs.take i.toNat) 0); (try have hb1_ := cnt_b (rs.take i.toNat) 1); (try have hb2_ := cnt_b (rs.take i.toNat) 2); (try have hb3_ := cnt_b (rs.take i.toNat) 3); (try have hb4_ := cnt_b (rs.take i.toNat) 4); (try have hb5_ := cnt_b (rs.take i.toNat) 5); (try have hb6_ := cnt_b (rs.take i.toNat) 6); (try have hb7_ := cnt_b (rs.take i.toNat) 7); (simp only [List.length_take] at *); omega)))]; unfold clsL; (repeat' split) <;> omega
        · rw [cnt_succ rs i 5 (by (first | omega | ((try have hb0_ := cnt_b (rs.take i.toNat) 0); (try have hb1_ := cnt_b (rs.take i.toNat) 1); (try have hb2_ := cnt_b (rs.take i.toNat) 2); (try have hb3_ := cnt_b (rs.take i.toNat) 3); (try have hb4_ := cnt_b (rs.take i.toNat) 4); (try have hb5_ := cnt_b (rs.take i.toNat) 5); (try have hb6_ := cnt_b (rs.take i.toNat) 6); (try have hb7_ := cnt_b (rs.take i.toNat) 7); (simp only [List.length_take] at *); omega))) (by (first | omega | ((try have hb0_ := cnt_b (rs.take i.toNat) 0); (try have hb1_ := cnt_b (rs.take i.toNat) 1); (try have hb2_ := cnt_b (rs.take i.toNat) 2); (try have hb3_ := cnt_b (rs.take i.toNat) 3); (try have hb4_ := cnt_b (rs.take i.toNat) 4); (try have hb5_ := cnt_b (rs.take i.toNat) 5); (try have hb6_ := cnt_b (rs.take i.toNat) 6); (try have hb7_ := cnt_b (rs.take i.toNat) 7); (simp only [List.length_take] at *); omega)))]; unfold clsL; (repeat' split) <;> omega
        · rw [cnt_succ rs i 6 (by (first | omega | ((try have hb0_ := cnt_b (rs.take i.toNat) 0); (try have hb1_ := cnt_b (rs.take i.toNat) 1); (try have hb2_ := cnt_b (rs.take i.toNat) 2); (try have hb3_ := cnt_b (rs.take i.toNat) 3); (try have hb4_ := cnt_b (rs.take i.toNat) 4); (try have hb5_ := cnt_b (rs.take i.toNat) 5); (try have hb6_ := cnt_b (rs.take i.toNat) 6); (try have hb7_ := cnt_b (rs.take i.toNat) 7); (simp only [List.length_take] at *); omega))) (by (first | omega | ((try have hb0_ := cnt_b (rs.take i.toNat) 0); (try have hb1_ := cnt_b (rs.take i.toNat) 1); (try have hb2_ := cnt_b (rs.take i.toNat) 2); (try have hb3_ := cnt_b (rs.take i.toNat) 3); (try have hb4_ := cnt_b (rs.take i.toNat) 4); (try have hb5_ := cnt_b (rs.take i.toNat) 5); (try have hb6_ := cnt_b (rs.take i.toNat) 6); (try have hb7_ := cnt_b (rs.take i.toNat) 7); (simp only [List.length_take] at *); omega)))]; unfold clsL; (repeat' split) <;> omega
        · rw [cnt_succ rs i 7 (by (first | omega | ((try have hb0_ := cnt_b (rs.take i.toNat) 0); (try have hb1_ := cnt_b (rs.take i.toNat) 1); (try have hb2_ := cnt_b (rs.take i.toNat) 2); (try have hb3_ := cnt_b (rs.take i.toNat) 3); (try have hb4_ := cnt_b (rs.take i.toNat) 4); (try have hb5_ := cnt_b (rs.take i.toNat) 5); (try have hb6_ := cnt_b (rs.take i.toNat) 6); (try have hb7_ := cnt_b (rs.take i.toNat) 7); (simp only [List.length_take] at *); omega))) (by (first | omega | ((try have hb0_ := cnt_b (rs.take i.toNat) 0); (try have hb1_ := cnt_b (rs.take i.toNat) 1); (try have hb2_ := cnt_b (rs.take i.toNat) 2); (try have hb3_ := cnt_b (rs.take i.toNat) 3); (try have hb4_ := cnt_b (rs.take i.toNat) 4); (try have hb5_ := cnt_b (rs.take i.toNat) 5); (try have hb6_ := cnt_b (rs.take i.toNat) 6); (try have hb7_ := cnt_b (rs.take i.toNat) 7); (simp only [List.length_take] at *); omega)))]; unfold clsL; (repeat' split) <;> omega
      · skip
        have HF104 := HF73.subst_ (d := 17) (b := false) rfl hb74
        clear HF73
        (try simp only [decide_eq_true_eq, decide_eq_false_iff_not, Bool.not_eq_true', Bool.not_eq_false', Bool.not_eq_true, Bool.not_eq_false, ne_eq, Decidable.not_not, Int.not_lt, Int.not_le, not_true_eq_false, not_false_eq_true, bne_iff_ne, beq_iff_eq, bne_eq_false_iff_eq, beq_eq_false_iff_ne] at hb74)
        refine gw_ev HF104 (want_yes HF104 rfl rfl rfl rfl) rfl (by decide) (op_move rfl (HF104.ev rfl)) ?_
        intro a105 HF106; clear HF104
        refine gw_ev HF106 (want_yes HF106 rfl rfl rfl rfl) rfl (by decide) (op_gtr rfl (HF106.ev rfl) (ev_c _ _)) ?_
        intro a107 HF108; clear HF106
        refine gw_ev HF108 (want_none rfl) rfl (by decide) (op_pick_f rfl (HF108.ev rfl) (HF108.ev rfl)) ?_
        intro a109 HF110; clear HF108
        refine wpList_nil ?_
        refine gw_nx (hK67 _ _ ?_)
        refine gw_cond HF110 rfl (fun hb111 => ?_) (fun hb111 => ?_)
        · skip
          have HF112 := HF110.subst_ (d := 20) (b := true) rfl hb111
          clear HF110
          (try simp only [decide_eq_true_eq, decide_eq_false_iff_not, Bool.not_eq_true', Bool.not_eq_false', Bool.not_eq_true, Bool.not_eq_false, ne_eq, Decidable.not_not, Int.not_lt, Int.not_le, not_true_eq_false, not_false_eq_true, bne_iff_ne, beq_iff_eq, bne_eq_false_iff_eq, beq_eq_false_iff_ne] at hb111)
          refine wp_region_lit ?_
          refine gw_ev HF112 (want_none rfl) rfl (by decide) (op_assign rfl (ev_c _ _)) ?_
          intro a113 HF114; clear HF112
          refine wpList_nil ?_
          refine gw_nx (hK66 _ _ ?_)
          refine wp_region_lit ?_
          refine gw_ev HF114 (want_none rfl) rfl (by decide) (op_move rfl (HF114.ev rfl)) ?_
          intro a115 HF116; clear HF114
          refine gw_ev HF116 (want_none rfl) rfl (by decide) (op_indexP (q := 0) Try.underlying58 gwsiz3 rfl (HF116.ev rfl) (HF116.ev rfl) (by decide) rfl) ?_
          intro a117 HF118; clear HF116
          refine gw_ev HF118 (want_none rfl) rfl (by decide) (op_load1 gwagg3 rfl (HF118.ev rfl) (blk_at (HO58.get 1 rfl) rfl)) ?_
          intro a119 HF120; clear HF118
          refine gw_ev HF120 (want_none rfl) rfl (by decide) (op_add rfl (HF120.ev rfl) (ev_c _ _) (by (first | omega | ((try have hb0_ := cnt_b (rs.take i.toNat) 0); (try have hb1_ := cnt_b (rs.take i.toNat) 1); (try have hb2_ := cnt_b (rs.take i.toNat) 2); (try have hb3_ := cnt_b (rs.take i.toNat) 3); (try have hb4_ := cnt_b (rs.take i.toNat) 4); (try have hb5_ := cnt_b (rs.take i.toNat) 5); (try have hb6_ := cnt_b (rs.take i.toNat) 6); (try have hb7_ := cnt_b (rs.take i.toNat) 7); (simp only [List.length_take] at *); omega)))) ?_
          intro a121 HF122; clear HF120
          refine gw_ev HF122 (want_none rfl) rfl (by decide) (op_indexP (q := 0) Try.underlying58 gwsiz3 rfl (HF122.ev rfl) (HF122.ev rfl) (by decide) rfl) ?_
          intro a123 HF124; clear HF122
          refine gw_set 1 HF124 HO58 rfl (want_none rfl) rfl (op_store1 gwsiz3 rfl (HF124.ev rfl) (HF124.ev rfl) rfl (blk_at (HO58.get 1 rfl) rfl) (blkf (HO58.get 1 rfl))) ?_
          intro a125 w127 HF126 HO128; clear HF124 HO58
          have HO129 : Own w w127 [Chunk.blk g48 (.cells #[.string ((rs.getD i.toNat z61).f0), .int .i64 ((rs.getD i.toNat z61).f1)] 61 (0, 0)), Chunk.blk g9 (.cells #[.int .i64 (q0 + 1), .int .i64 q1, .int .i64 q2, .int .i64 q3, .int .i64 q4, .int .i64 q5, .int .i64 q6, .int .i64 q7] 58 (0, 0)), Chunk.blk g2 (.cells #[.int .i64 0, .int .i64 0, .int .i64 0, .int .i64 0, .int .i64 0, .int .i64 0, .int .i64 0, .int .i64 0] 58 (0, 0))] := HO128
          clear HO128
          refine wpList_nil ?_
          refine gw_blk ?_
          refine gw_nx (hK36 _ _ ?_)
          refine wp_region_lit ?_
          refine gw_ev HF126 (want_none rfl) rfl (by decide) (op_add rfl (HF126.ev rfl) (ev_c _ _) (by (first | omega | ((try have hb0_ := cnt_b (rs.take i.toNat) 0); (try have hb1_ := cnt_b (rs.take i.toNat) 1); (try have hb2_ := cnt_b (rs.take i.toNat) 2); (try have hb3_ := cnt_b (rs.take i.toNat) 3); (try have hb4_ := cnt_b (rs.take i.toNat) 4); (try have hb5_ := cnt_b (rs.take i.toNat) 5); (try have hb6_ := cnt_b (rs.take i.toNat) 6); (try have hb7_ := cnt_b (rs.take i.toNat) 7); (simp only [List.length_take] at *); omega)))) ?_
          intro a130 HF131; clear HF126
          refine gw_ev HF131 (want_none rfl) rfl (by decide) (op_move rfl (HF131.ev rfl)) ?_
          intro a132 HF133; clear HF131
          refine wpList_nil ?_
          refine gw_nx ⟨_, ?_, i + 1, q0 + 1, q1, q2, q3, q4, q5, q6, q7, (HF133.pick (t := 9) rfl (HF133.pick (t := 2) rfl (HF133.pick (t := 3) rfl (HF133.pick (t := 7) rfl (HF133.pick (t := 8) rfl HF133.nil))))), HO129.sel [1, 2] (by decide), ?_, ?_, ?_, ?_, ?_, ?_, ?_, ?_, ?_, rfl⟩
          · rw [hm29]; (first | omega | ((try have hb0_ := cnt_b (rs.take i.toNat) 0); (try have hb1_ := cnt_b (rs.take i.toNat) 1); (try have hb2_ := cnt_b (rs.take i.toNat) 2); (try have hb3_ := cnt_b (rs.take i.toNat) 3); (try have hb4_ := cnt_b (rs.take i.toNat) 4); (try have hb5_ := cnt_b (rs.take i.toNat) 5); (try have hb6_ := cnt_b (rs.take i.toNat) 6); (try have hb7_ := cnt_b (rs.take i.toNat) 7); (simp only [List.length_take] at *); omega))
          · (first | omega | ((try have hb0_ := cnt_b (rs.take i.toNat) 0); (try have hb1_ := cnt_b (rs.take i.toNat) 1); (try have hb2_ := cnt_b (rs.take i.toNat) 2); (try have hb3_ := cnt_b (rs.take i.toNat) 3); (try have hb4_ := cnt_b (rs.take i.toNat) 4); (try have hb5_ := cnt_b (rs.take i.toNat) 5); (try have hb6_ := cnt_b (rs.take i.toNat) 6); (try have hb7_ := cnt_b (rs.take i.toNat) 7); (simp only [List.length_take] at *); omega))
          · rw [cnt_succ rs i 0 (by (first | omega | ((try have hb0_ := cnt_b (rs.take i.toNat) 0); (try have hb1_ := cnt_b (rs.take i.toNat) 1); (try have hb2_ := cnt_b (rs.take i.toNat) 2); (try have hb3_ := cnt_b (rs.take i.toNat) 3); (try have hb4_ := cnt_b (rs.take i.toNat) 4); (try have hb5_ := cnt_b (rs.take i.toNat) 5); (try have hb6_ := cnt_b (rs.take i.toNat) 6); (try have hb7_ := cnt_b (rs.take i.toNat) 7); (simp only [List.length_take] at *); omega))) (by (first | omega | ((try have hb0_ := cnt_b (rs.take i.toNat) 0); (try have hb1_ := cnt_b (rs.take i.toNat) 1); (try have hb2_ := cnt_b (rs.take i.toNat) 2); (try have hb3_ := cnt_b (rs.take i.toNat) 3); (try have hb4_ := cnt_b (rs.take i.toNat) 4); (try have hb5_ := cnt_b (rs.take i.toNat) 5); (try have hb6_ := cnt_b (rs.take i.toNat) 6); (try have hb7_ := cnt_b (rs.take i.toNat) 7); (simp only [List.length_take] at *); omega)))]; unfold clsL; (repeat' split) <;> omega
          · rw [cnt_succ rs i 1 (by (first | omega | ((try have hb0_ := cnt_b (rs.take i.toNat) 0); (try have hb1_ := cnt_b (rs.take i.toNat) 1); (try have hb2_ := cnt_b (rs.take i.toNat) 2); (try have hb3_ := cnt_b (rs.take i.toNat) 3); (try have hb4_ := cnt_b (rs.take i.toNat) 4); (try have hb5_ := cnt_b (rs.take i.toNat) 5); (try have hb6_ := cnt_b (rs.take i.toNat) 6); (try have hb7_ := cnt_b (rs.take i.toNat) 7); (simp only [List.length_take] at *); omega))) (by (first | omega | ((try have hb0_ := cnt_b (rs.take i.toNat) 0); (try have hb1_ := cnt_b (rs.take i.toNat) 1); (try have hb2_ := cnt_b (rs.take i.toNat) 2); (try have hb3_ := cnt_b (rs.take i.toNat) 3); (try have hb4_ := cnt_b (rs.take i.toNat) 4); (try have hb5_ := cnt_b (rs.take i.toNat) 5); (try have hb6_ := cnt_b (rs.take i.toNat) 6); (try have hb7_ := cnt_b (rs.take i.toNat) 7); (simp only [List.length_take] at *); omega)))]; unfold clsL; (repeat' split) <;> omega
          · rw [cnt_succ rs i 2 (by (first | omega | ((try have hb0_ := cnt_b (rs.take i.toNat) 0); (try have hb1_ := cnt_b (rs.take i.toNat) 1); (try have hb2_ := cnt_b (rs.take i.toNat) 2); (try have hb3_ := cnt_b (rs.take i.toNat) 3); (try have hb4_ := cnt_b (rs.take i.toNat) 4); (try have hb5_ := cnt_b (rs.take i.toNat) 5); (try have hb6_ := cnt_b (rs.take i.toNat) 6); (try have hb7_ := cnt_b (rs.take i.toNat) 7); (simp only [List.length_take] at *); omega))) (by (first | omega | ((try have hb0_ := cnt_b (rs.take i.toNat) 0); (try have hb1_ := cnt_b (rs.take i.toNat) 1); (try have hb2_ := cnt_b (rs.take i.toNat) 2); (try have hb3_ := cnt_b (rs.take i.toNat) 3); (try have hb4_ := cnt_b (rs.take i.toNat) 4); (try have hb5_ := cnt_b (rs.take i.toNat) 5); (try have hb6_ := cnt_b (rs.take i.toNat) 6); (try have hb7_ := cnt_b (rs.take i.toNat) 7); (simp only [List.length_take] at *); omega)))]; unfold clsL; (repeat' split) <;> omega
          · rw [cnt_succ rs i 3 (by (first | omega | ((try have hb0_ := cnt_b (rs.take i.toNat) 0); (try have hb1_ := cnt_b (rs.take i.toNat) 1); (try have hb2_ := cnt_b (rs.take i.toNat) 2); (try have hb3_ := cnt_b (rs.take i.toNat) 3); (try have hb4_ := cnt_b (rs.take i.toNat) 4); (try have hb5_ := cnt_b (rs.take i.toNat) 5); (try have hb6_ := cnt_b (rs.take i.toNat) 6); (try have hb7_ := cnt_b (rs.take i.toNat) 7); (simp only [List.length_take] at *); omega))) (by (first | omega | ((try have hb0_ := cnt_b (rs.take i.toNat) 0); (try have hb1_ := cnt_b (rs.take i.toNat) 1); (try have hb2_ := cnt_b (rs.take i.toNat) 2); (try have hb3_ := cnt_b (rs.take i.toNat) 3); (try have hb4_ := cnt_b (rs.take i.toNat) 4); (try have hb5_ := cnt_b (rs.take i.toNat) 5); (try have hb6_ := cnt_b (rs.take i.toNat) 6); (try have hb7_ := cnt_b (rs.take i.toNat) 7); (simp only [List.length_take] at *); omega)))]; unfold clsL; (repeat' split) <;> omega
          · rw [cnt_succ rs i 4 (by (first | omega | ((try have hb0_ := cnt_b (rs.take i.toNat) 0); (try have hb1_ := cnt_b (rs.take i.toNat) 1); (try have hb2_ := cnt_b (rs.take i.toNat) 2); (try have hb3_ := cnt_b (rs.take i.toNat) 3); (try have hb4_ := cnt_b (rs.take i.toNat) 4); (try have hb5_ := cnt_b (rs.take i.toNat) 5); (try have hb6_ := cnt_b (rs.take i.toNat) 6); (try have hb7_ := cnt_b (rs.take i.toNat) 7); (simp only [List.length_take] at *); omega))) (by (first | omega | ((try have hb0_ := cnt_b (rs.take i.toNat) 0); (try have hb1_ := cnt_b (rs.take i.toNat) 1); (try have hb2_ := cnt_b (rs.take i.toNat) 2); (try have hb3_ := cnt_b (rs.take i.toNat) 3); (try have hb4_ := cnt_b (rs.take i.toNat) 4); (try have hb5_ := cnt_b (rs.take i.toNat) 5); (try have hb6_ := cnt_b (rs.take i.toNat) 6); (try have hb7_ := cnt_b (rs.take i.toNat) 7); (simp only [List.length_take] at *); omega)))]; unfold clsL; (repeat' split) <;> omega
          · rw [cnt_succ rs i 5 (by (first | omega | ((try have hb0_ := cnt_b (rs.take i.toNat) 0); (try have hb1_ := cnt_b (rs.take i.toNat) 1); (try have hb2_ := cnt_b (rs.take i.toNat) 2); (try have hb3_ := cnt_b (rs.take i.toNat) 3); (try have hb4_ := cnt_b (rs.take i.toNat) 4); (try have hb5_ := cnt_b (rs.take i.toNat) 5); (try have hb6_ := cnt_b (rs.take i.toNat) 6); (try have hb7_ := cnt_b (rs.take i.toNat) 7); (simp only [List.length_take] at *); omega))) (by (first | omega | ((try have hb0_ := cnt_b (rs.take i.toNat) 0); (try have hb1_ := cnt_b (rs.take i.toNat) 1); (try have hb2_ := cnt_b (rs.take i.toNat) 2); (try have hb3_ := cnt_b (rs.take i.toNat) 3); (try have hb4_ := cnt_b (rs.take i.toNat) 4); (try have hb5_ := cnt_b (rs.take i.toNat) 5); (try have hb6_ := cnt_b (rs.take i.toNat) 6); (try have hb7_ := cnt_b (rs.take i.toNat) 7); (simp only [List.length_take] at *); omega)))]; unfold clsL; (repeat' split) <;> omega
          · rw [cnt_succ rs i 6 (by (first | omega | ((try have hb0_ := cnt_b (rs.take i.toNat) 0); (try have hb1_ := cnt_b (rs.take i.toNat) 1); (try have hb2_ := cnt_b (rs.take i.toNat) 2); (try have hb3_ := cnt_b (rs.take i.toNat) 3); (try have hb4_ := cnt_b (rs.take i.toNat) 4); (try have hb5_ := cnt_b (rs.take i.toNat) 5); (try have hb6_ := cnt_b (rs.take i.toNat) 6); (try have hb7_ := cnt_b (rs.take i.toNat) 7); (simp only [List.length_take] at *); omega))) (by (first | omega | ((try have hb0_ := cnt_b (rs.take i.toNat) 0); (try have hb1_ := cnt_b (rs.take i.toNat) 1); (try have hb2_ := cnt_b (rs.take i.toNat) 2); (try have hb3_ := cnt_b (rs.take i.toNat) 3); (try have hb4_ := cnt_b (rs.take i.toNat) 4); (try have hb5_ := cnt_b (rs.take i.toNat) 5); (try have hb6_ := cnt_b (rs.take i.toNat) 6); (try have hb7_ := cnt_b (rs.take i.toNat) 7); (simp only [List.length_take] at *); omega)))]; unfold clsL; (repeat' split) <;> omega
          · rw [cnt_succ rs i 7 (by (first | omega | ((try have hb0_ := cnt_b (rs.take i.toNat) 0); (try have hb1_ := cnt_b (rs.take i.toNat) 1); (try have hb2_ := cnt_b (rs.take i.toNat) 2); (try have hb3_ := cnt_b (rs.take i.toNat) 3); (try have hb4_ := cnt_b (rs.take i.toNat) 4); (try have hb5_ := cnt_b (rs.take i.toNat) 5); (try have hb6_ := cnt_b (rs.take i.toNat) 6); (try have hb7_ := cnt_b (rs.take i.toNat) 7); (simp only [List.length_take] at *); omega))) (by (first | omega | ((try have hb0_ := cnt_b (rs.take i.toNat) 0); (try have hb1_ := cnt_b (rs.take i.toNat) 1); (try have hb2_ := cnt_b (rs.take i.toNat) 2); (try have hb3_ := cnt_b (rs.take i.toNat) 3); (try have hb4_ := cnt_b (rs.take i.toNat) 4); (try have hb5_ := cnt_b (rs.take i.toNat) 5); (try have hb6_ := cnt_b (rs.take i.toNat) 6); (try have hb7_ := cnt_b (rs.take i.toNat) 7); (simp only [List.length_take] at *); omega)))]; unfold clsL; (repeat' split) <;> omega
        · skip
          have HF134 := HF110.subst_ (d := 20) (b := false) rfl hb111
          clear HF110
          (try simp only [decide_eq_true_eq, decide_eq_false_iff_not, Bool.not_eq_true', Bool.not_eq_false', Bool.not_eq_true, Bool.not_eq_false, ne_eq, Decidable.not_not, Int.not_lt, Int.not_le, not_true_eq_false, not_false_eq_true, bne_iff_ne, beq_iff_eq, bne_eq_false_iff_eq, beq_eq_false_iff_ne] at hb111)
          refine wp_skip ?_
          refine gw_nx (hK66 _ _ ?_)
          refine wp_region_lit ?_
          refine gw_ev HF134 (want_none rfl) rfl (by decide) (op_move rfl (HF134.ev rfl)) ?_
          intro a135 HF136; clear HF134
          rcases (show ((rs.getD i.toNat z61).f1) = 0 ∨ ((rs.getD i.toNat z61).f1) = 1 ∨ ((rs.getD i.toNat z61).f1) = 2 ∨ ((rs.getD i.toNat z61).f1) = 3 ∨ ((rs.getD i.toNat z61).f1) = 4 ∨ ((rs.getD i.toNat z61).f1) = 5 ∨ ((rs.getD i.toNat z61).f1) = 6 ∨ ((rs.getD i.toNat z61).f1) = 7 from by (first | omega | ((try have hb0_ := cnt_b (rs.take i.toNat) 0); (try have hb1_ := cnt_b (rs.take i.toNat) 1); (try have hb2_ := cnt_b (rs.take i.toNat) 2); (try have hb3_ := cnt_b (rs.take i.toNat) 3); (try have hb4_ := cnt_b (rs.take i.toNat) 4); (try have hb5_ := cnt_b (rs.take i.toNat) 5); (try have hb6_ := cnt_b (rs.take i.toNat) 6); (try have hb7_ := cnt_b (rs.take i.toNat) 7); (simp only [List.length_take] at *); omega))) with hv137 | hv137 | hv137 | hv137 | hv137 | hv137 | hv137 | hv137
          · skip
            have HF138 := HF136.conv (v' := .int .i64 0) (congrArg (Value.int .i64) hv137)
            clear HF136
            refine gw_ev HF138 (want_none rfl) rfl (by decide) (op_indexP (q := 0) Try.underlying58 gwsiz3 rfl (HF138.ev rfl) (HF138.ev rfl) (by decide) rfl) ?_
            intro a139 HF140; clear HF138
            refine gw_ev HF140 (want_none rfl) rfl (by decide) (op_load1 gwagg3 rfl (HF140.ev rfl) (blk_at (HO58.get 1 rfl) rfl)) ?_
            intro a141 HF142; clear HF140
            refine gw_ev HF142 (want_none rfl) rfl (by decide) (op_add rfl (HF142.ev rfl) (ev_c _ _) (by (first | omega | ((try have hb0_ := cnt_b (rs.take i.toNat) 0); (try have hb1_ := cnt_b (rs.take i.toNat) 1); (try have hb2_ := cnt_b (rs.take i.toNat) 2); (try have hb3_ := cnt_b (rs.take i.toNat) 3); (try have hb4_ := cnt_b (rs.take i.toNat) 4); (try have hb5_ := cnt_b (rs.take i.toNat) 5); (try have hb6_ := cnt_b (rs.take i.toNat) 6); (try have hb7_ := cnt_b (rs.take i.toNat) 7); (simp only [List.length_take] at *); omega)))) ?_
            intro a143 HF144; clear HF142
            refine gw_ev HF144 (want_none rfl) rfl (by decide) (op_indexP (q := 0) Try.underlying58 gwsiz3 rfl (HF144.ev rfl) (HF144.ev rfl) (by decide) rfl) ?_
            intro a145 HF146; clear HF144
            refine gw_set 1 HF146 HO58 rfl (want_none rfl) rfl (op_store1 gwsiz3 rfl (HF146.ev rfl) (HF146.ev rfl) rfl (blk_at (HO58.get 1 rfl) rfl) (blkf (HO58.get 1 rfl))) ?_
            intro a147 w149 HF148 HO150; clear HF146 HO58
            have HO151 : Own w w149 [Chunk.blk g48 (.cells #[.string ((rs.getD i.toNat z61).f0), .int .i64 ((rs.getD i.toNat z61).f1)] 61 (0, 0)), Chunk.blk g9 (.cells #[.int .i64 (q0 + 1), .int .i64 q1, .int .i64 q2, .int .i64 q3, .int .i64 q4, .int .i64 q5, .int .i64 q6, .int .i64 q7] 58 (0, 0)), Chunk.blk g2 (.cells #[.int .i64 0, .int .i64 0, .int .i64 0, .int .i64 0, .int .i64 0, .int .i64 0, .int .i64 0, .int .i64 0] 58 (0, 0))] := HO150
            clear HO150
            refine wpList_nil ?_
            refine gw_blk ?_
            refine gw_nx (hK36 _ _ ?_)
            refine wp_region_lit ?_
            refine gw_ev HF148 (want_none rfl) rfl (by decide) (op_add rfl (HF148.ev rfl) (ev_c _ _) (by (first | omega | ((try have hb0_ := cnt_b (rs.take i.toNat) 0); (try have hb1_ := cnt_b (rs.take i.toNat) 1); (try have hb2_ := cnt_b (rs.take i.toNat) 2); (try have hb3_ := cnt_b (rs.take i.toNat) 3); (try have hb4_ := cnt_b (rs.take i.toNat) 4); (try have hb5_ := cnt_b (rs.take i.toNat) 5); (try have hb6_ := cnt_b (rs.take i.toNat) 6); (try have hb7_ := cnt_b (rs.take i.toNat) 7); (simp only [List.length_take] at *); omega)))) ?_
            intro a152 HF153; clear HF148
            refine gw_ev HF153 (want_none rfl) rfl (by decide) (op_move rfl (HF153.ev rfl)) ?_
            intro a154 HF155; clear HF153
            refine wpList_nil ?_
            refine gw_nx ⟨_, ?_, i + 1, q0 + 1, q1, q2, q3, q4, q5, q6, q7, (HF155.pick (t := 9) rfl (HF155.pick (t := 2) rfl (HF155.pick (t := 3) rfl (HF155.pick (t := 7) rfl (HF155.pick (t := 8) rfl HF155.nil))))), HO151.sel [1, 2] (by decide), ?_, ?_, ?_, ?_, ?_, ?_, ?_, ?_, ?_, rfl⟩
            · rw [hm29]; (first | omega | ((try have hb0_ := cnt_b (rs.take i.toNat) 0); (try have hb1_ := cnt_b (rs.take i.toNat) 1); (try have hb2_ := cnt_b (rs.take i.toNat) 2); (try have hb3_ := cnt_b (rs.take i.toNat) 3); (try have hb4_ := cnt_b (rs.take i.toNat) 4); (try have hb5_ := cnt_b (rs.take i.toNat) 5); (try have hb6_ := cnt_b (rs.take i.toNat) 6); (try have hb7_ := cnt_b (rs.take i.toNat) 7); (simp only [List.length_take] at *); omega))
            · (first | omega | ((try have hb0_ := cnt_b (rs.take i.toNat) 0); (try have hb1_ := cnt_b (rs.take i.toNat) 1); (try have hb2_ := cnt_b (rs.take i.toNat) 2); (try have hb3_ := cnt_b (rs.take i.toNat) 3); (try have hb4_ := cnt_b (rs.take i.toNat) 4); (try have hb5_ := cnt_b (rs.take i.toNat) 5); (try have hb6_ := cnt_b (rs.take i.toNat) 6); (try have hb7_ := cnt_b (rs.take i.toNat) 7); (simp only [List.length_take] at *); omega))
            · rw [cnt_succ rs i 0 (by (first | omega | ((try have hb0_ := cnt_b (rs.take i.toNat) 0); (try have hb1_ := cnt_b (rs.take i.toNat) 1); (try have hb2_ := cnt_b (rs.take i.toNat) 2); (try have hb3_ := cnt_b (rs.take i.toNat) 3); (try have hb4_ := cnt_b (rs.take i.toNat) 4); (try have hb5_ := cnt_b (rs.take i.toNat) 5); (try have hb6_ := cnt_b (rs.take i.toNat) 6); (try have hb7_ := cnt_b (rs.take i.toNat) 7); (simp only [List.length_take] at *); omega))) (by (first | omega | ((try have hb0_ := cnt_b (rs.take i.toNat) 0); (try have hb1_ := cnt_b (rs.take i.toNat) 1); (try have hb2_ := cnt_b (rs.take i.toNat) 2); (try have hb3_ := cnt_b (rs.take i.toNat) 3); (try have hb4_ := cnt_b (rs.take i.toNat) 4); (try have hb5_ := cnt_b (rs.take i.toNat) 5); (try have hb6_ := cnt_b (rs.take i.toNat) 6); (try have hb7_ := cnt_b (rs.take i.toNat) 7); (simp only [List.length_take] at *); omega)))]; unfold clsL; (repeat' split) <;> omega
            · rw [cnt_succ rs i 1 (by (first | omega | ((try have hb0_ := cnt_b (rs.take i.toNat) 0); (try have hb1_ := cnt_b (rs.take i.toNat) 1); (try have hb2_ := cnt_b (rs.take i.toNat) 2); (try have hb3_ := cnt_b (rs.take i.toNat) 3); (try have hb4_ := cnt_b (rs.take i.toNat) 4); (try have hb5_ := cnt_b (rs.take i.toNat) 5); (try have hb6_ := cnt_b (rs.take i.toNat) 6); (try have hb7_ := cnt_b (rs.take i.toNat) 7); (simp only [List.length_take] at *); omega))) (by (first | omega | ((try have hb0_ := cnt_b (rs.take i.toNat) 0); (try have hb1_ := cnt_b (rs.take i.toNat) 1); (try have hb2_ := cnt_b (rs.take i.toNat) 2); (try have hb3_ := cnt_b (rs.take i.toNat) 3); (try have hb4_ := cnt_b (rs.take i.toNat) 4); (try have hb5_ := cnt_b (rs.take i.toNat) 5); (try have hb6_ := cnt_b (rs.take i.toNat) 6); (try have hb7_ := cnt_b (rs.take i.toNat) 7); (simp only [List.length_take] at *); omega)))]; unfold clsL; (repeat' split) <;> omega
            · rw [cnt_succ rs i 2 (by (first | omega | ((try have hb0_ := cnt_b (rs.take i.toNat) 0); (try have hb1_ := cnt_b (rs.take i.toNat) 1); (try have hb2_ := cnt_b (rs.take i.toNat) 2); (try have hb3_ := cnt_b (rs.take i.toNat) 3); (try have hb4_ := cnt_b (rs.take i.toNat) 4); (try have hb5_ := cnt_b (rs.take i.toNat) 5); (try have hb6_ := cnt_b (rs.take i.toNat) 6); (try have hb7_ := cnt_b (rs.take i.toNat) 7); (simp only [List.length_take] at *); omega))) (by (first | omega | ((try have hb0_ := cnt_b (rs.take i.toNat) 0); (try have hb1_ := cnt_b (rs.take i.toNat) 1); (try have hb2_ := cnt_b (rs.take i.toNat) 2); (try have hb3_ := cnt_b (rs.take i.toNat) 3); (try have hb4_ := cnt_b (rs.take i.toNat) 4); (try have hb5_ := cnt_b (rs.take i.toNat) 5); (try have hb6_ := cnt_b (rs.take i.toNat) 6); (try have hb7_ := cnt_b (rs.take i.toNat) 7); (simp only [List.length_take] at *); omega)))]; unfold clsL; (repeat' split) <;> omega
            · rw [cnt_succ rs i 3 (by (first | omega | ((try have hb0_ := cnt_b (rs.take i.toNat) 0); (try have hb1_ := cnt_b (rs.take i.toNat) 1); (try have hb2_ := cnt_b (rs.take i.toNat) 2); (try have hb3_ := cnt_b (rs.take i.toNat) 3); (try have hb4_ := cnt_b (rs.take i.toNat) 4); (try have hb5_ := cnt_b (rs.take i.toNat) 5); (try have hb6_ := cnt_b (rs.take i.toNat) 6); (try have hb7_ := cnt_b (rs.take i.toNat) 7); (simp only [List.length_take] at *); omega))) (by (first | omega | ((try have hb0_ := cnt_b (rs.take i.toNat) 0); (try have hb1_ := cnt_b (rs.take i.toNat) 1); (try have hb2_ := cnt_b (rs.take i.toNat) 2); (try have hb3_ := cnt_b (rs.take i.toNat) 3); (try have hb4_ := cnt_b (rs.take i.toNat) 4); (try have hb5_ := cnt_b (rs.take i.toNat) 5); (try have hb6_ := cnt_b (rs.take i.toNat) 6); (try have hb7_ := cnt_b (rs.take i.toNat) 7); (simp only [List.length_take] at *); omega)))]; unfold clsL; (repeat' split) <;> omega
            · rw [cnt_succ rs i 4 (by (first | omega | ((try have hb0_ := cnt_b (rs.take i.toNat) 0); (try have hb1_ := cnt_b (rs.take i.toNat) 1); (try have hb2_ := cnt_b (rs.take i.toNat) 2); (try have hb3_ := cnt_b (rs.take i.toNat) 3); (try have hb4_ := cnt_b (rs.take i.toNat) 4); (try have hb5_ := cnt_b (rs.take i.toNat) 5); (try have hb6_ := cnt_b (rs.take i.toNat) 6); (try have hb7_ := cnt_b (rs.take i.toNat) 7); (simp only [List.length_take] at *); omega))) (by (first | omega | ((try have hb0_ := cnt_b (rs.take i.toNat) 0); (try have hb1_ := cnt_b (rs.take i.toNat) 1); (try have hb2_ := cnt_b (rs.take i.toNat) 2); (try have hb3_ := cnt_b (rs.take i.toNat) 3); (try have hb4_ := cnt_b (rs.take i.toNat) 4); (try have hb5_ := cnt_b (rs.take i.toNat) 5); (try have hb6_ := cnt_b (rs.take i.toNat) 6); (try have hb7_ := cnt_b (rs.take i.toNat) 7); (simp only [List.length_take] at *); omega)))]; unfold clsL; (repeat' split) <;> omega
            · rw [cnt_succ rs i 5 (by (first | omega | ((try have hb0_ := cnt_b (rs.take i.toNat) 0); (try have hb1_ := cnt_b (rs.take i.toNat) 1); (try have hb2_ := cnt_b (rs.take i.toNat) 2); (try have hb3_ := cnt_b (rs.take i.toNat) 3); (try have hb4_ := cnt_b (rs.take i.toNat) 4); (try have hb5_ := cnt_b (rs.take i.toNat) 5); (try have hb6_ := cnt_b (rs.take i.toNat) 6); (try have hb7_ := cnt_b (rs.take i.toNat) 7); (simp only [List.length_take] at *); omega))) (by (first | omega | ((try have hb0_ := cnt_b (rs.take i.toNat) 0); (try have hb1_ := cnt_b (rs.take i.toNat) 1); (try have hb2_ := cnt_b (rs.take i.toNat) 2); (try have hb3_ := cnt_b (rs.take i.toNat) 3); (try have hb4_ := cnt_b (rs.take i.toNat) 4); (try have hb5_ := cnt_b (rs.take i.toNat) 5); (try have hb6_ := cnt_b (rs.take i.toNat) 6); (try have hb7_ := cnt_b (rs.take i.toNat) 7); (simp only [List.length_take] at *); omega)))]; unfold clsL; (repeat' split) <;> omega
            · rw [cnt_succ rs i 6 (by (first | omega | ((try have hb0_ := cnt_b (rs.take i.toNat) 0); (try have hb1_ := cnt_b (rs.take i.toNat) 1); (try have hb2_ := cnt_b (rs.take i.toNat) 2); (try have hb3_ := cnt_b (rs.take i.toNat) 3); (try have hb4_ := cnt_b (rs.take i.toNat) 4); (try have hb5_ := cnt_b (rs.take i.toNat) 5); (try have hb6_ := cnt_b (rs.take i.toNat) 6); (try have hb7_ := cnt_b (rs.take i.toNat) 7); (simp only [List.length_take] at *); omega))) (by (first | omega | ((try have hb0_ := cnt_b (rs.take i.toNat) 0); (try have hb1_ := cnt_b (rs.take i.toNat) 1); (try have hb2_ := cnt_b (rs.take i.toNat) 2); (try have hb3_ := cnt_b (rs.take i.toNat) 3); (try have hb4_ := cnt_b (rs.take i.toNat) 4); (try have hb5_ := cnt_b (rs.take i.toNat) 5); (try have hb6_ := cnt_b (rs.take i.toNat) 6); (try have hb7_ := cnt_b (rs.take i.toNat) 7); (simp only [List.length_take] at *); omega)))]; unfold clsL; (repeat' split) <;> omega
            · rw [cnt_succ rs i 7 (by (first | omega | ((try have hb0_ := cnt_b (rs.take i.toNat) 0); (try have hb1_ := cnt_b (rs.take i.toNat) 1); (try have hb2_ := cnt_b (rs.take i.toNat) 2); (try have hb3_ := cnt_b (rs.take i.toNat) 3); (try have hb4_ := cnt_b (rs.take i.toNat) 4); (try have hb5_ := cnt_b (rs.take i.toNat) 5); (try have hb6_ := cnt_b (rs.take i.toNat) 6); (try have hb7_ := cnt_b (rs.take i.toNat) 7); (simp only [List.length_take] at *); omega))) (by (first | omega | ((try have hb0_ := cnt_b (rs.take i.toNat) 0); (try have hb1_ := cnt_b (rs.take i.toNat) 1); (try have hb2_ := cnt_b (rs.take i.toNat) 2); (try have hb3_ := cnt_b (rs.take i.toNat) 3); (try have hb4_ := cnt_b (rs.take i.toNat) 4); (try have hb5_ := cnt_b (rs.take i.toNat) 5); (try have hb6_ := cnt_b (rs.take i.toNat) 6); (try have hb7_ := cnt_b (rs.take i.toNat) 7); (simp only [List.length_take] at *); omega)))]; unfold clsL; (repeat' split) <;> omega
          · skip
            have HF156 := HF136.conv (v' := .int .i64 1) (congrArg (Value.int .i64) hv137)
            clear HF136
            refine gw_ev HF156 (want_none rfl) rfl (by decide) (op_indexP (q := 1) Try.underlying58 gwsiz3 rfl (HF156.ev rfl) (HF156.ev rfl) (by decide) rfl) ?_
            intro a157 HF158; clear HF156
            refine gw_ev HF158 (want_none rfl) rfl (by decide) (op_load1 gwagg3 rfl (HF158.ev rfl) (blk_at (HO58.get 1 rfl) rfl)) ?_
            intro a159 HF160; clear HF158
            refine gw_ev HF160 (want_none rfl) rfl (by decide) (op_add rfl (HF160.ev rfl) (ev_c _ _) (by (first | omega | ((try have hb0_ := cnt_b (rs.take i.toNat) 0); (try have hb1_ := cnt_b (rs.take i.toNat) 1); (try have hb2_ := cnt_b (rs.take i.toNat) 2); (try have hb3_ := cnt_b (rs.take i.toNat) 3); (try have hb4_ := cnt_b (rs.take i.toNat) 4); (try have hb5_ := cnt_b (rs.take i.toNat) 5); (try have hb6_ := cnt_b (rs.take i.toNat) 6); (try have hb7_ := cnt_b (rs.take i.toNat) 7); (simp only [List.length_take] at *); omega)))) ?_
            intro a161 HF162; clear HF160
            refine gw_ev HF162 (want_none rfl) rfl (by decide) (op_indexP (q := 1) Try.underlying58 gwsiz3 rfl (HF162.ev rfl) (HF162.ev rfl) (by decide) rfl) ?_
            intro a163 HF164; clear HF162
            refine gw_set 1 HF164 HO58 rfl (want_none rfl) rfl (op_store1 gwsiz3 rfl (HF164.ev rfl) (HF164.ev rfl) rfl (blk_at (HO58.get 1 rfl) rfl) (blkf (HO58.get 1 rfl))) ?_
            intro a165 w167 HF166 HO168; clear HF164 HO58
            have HO169 : Own w w167 [Chunk.blk g48 (.cells #[.string ((rs.getD i.toNat z61).f0), .int .i64 ((rs.getD i.toNat z61).f1)] 61 (0, 0)), Chunk.blk g9 (.cells #[.int .i64 q0, .int .i64 (q1 + 1), .int .i64 q2, .int .i64 q3, .int .i64 q4, .int .i64 q5, .int .i64 q6, .int .i64 q7] 58 (0, 0)), Chunk.blk g2 (.cells #[.int .i64 0, .int .i64 0, .int .i64 0, .int .i64 0, .int .i64 0, .int .i64 0, .int .i64 0, .int .i64 0] 58 (0, 0))] := HO168
            clear HO168
            refine wpList_nil ?_
            refine gw_blk ?_
            refine gw_nx (hK36 _ _ ?_)
            refine wp_region_lit ?_
            refine gw_ev HF166 (want_none rfl) rfl (by decide) (op_add rfl (HF166.ev rfl) (ev_c _ _) (by (first | omega | ((try have hb0_ := cnt_b (rs.take i.toNat) 0); (try have hb1_ := cnt_b (rs.take i.toNat) 1); (try have hb2_ := cnt_b (rs.take i.toNat) 2); (try have hb3_ := cnt_b (rs.take i.toNat) 3); (try have hb4_ := cnt_b (rs.take i.toNat) 4); (try have hb5_ := cnt_b (rs.take i.toNat) 5); (try have hb6_ := cnt_b (rs.take i.toNat) 6); (try have hb7_ := cnt_b (rs.take i.toNat) 7); (simp only [List.length_take] at *); omega)))) ?_
            intro a170 HF171; clear HF166
            refine gw_ev HF171 (want_none rfl) rfl (by decide) (op_move rfl (HF171.ev rfl)) ?_
            intro a172 HF173; clear HF171
            refine wpList_nil ?_
            refine gw_nx ⟨_, ?_, i + 1, q0, q1 + 1, q2, q3, q4, q5, q6, q7, (HF173.pick (t := 9) rfl (HF173.pick (t := 2) rfl (HF173.pick (t := 3) rfl (HF173.pick (t := 7) rfl (HF173.pick (t := 8) rfl HF173.nil))))), HO169.sel [1, 2] (by decide), ?_, ?_, ?_, ?_, ?_, ?_, ?_, ?_, ?_, rfl⟩
            · rw [hm29]; (first | omega | ((try have hb0_ := cnt_b (rs.take i.toNat) 0); (try have hb1_ := cnt_b (rs.take i.toNat) 1); (try have hb2_ := cnt_b (rs.take i.toNat) 2); (try have hb3_ := cnt_b (rs.take i.toNat) 3); (try have hb4_ := cnt_b (rs.take i.toNat) 4); (try have hb5_ := cnt_b (rs.take i.toNat) 5); (try have hb6_ := cnt_b (rs.take i.toNat) 6); (try have hb7_ := cnt_b (rs.take i.toNat) 7); (simp only [List.length_take] at *); omega))
            · (first | omega | ((try have hb0_ := cnt_b (rs.take i.toNat) 0); (try have hb1_ := cnt_b (rs.take i.toNat) 1); (try have hb2_ := cnt_b (rs.take i.toNat) 2); (try have hb3_ := cnt_b (rs.take i.toNat) 3); (try have hb4_ := cnt_b (rs.take i.toNat) 4); (try have hb5_ := cnt_b (rs.take i.toNat) 5); (try have hb6_ := cnt_b (rs.take i.toNat) 6); (try have hb7_ := cnt_b (rs.take i.toNat) 7); (simp only [List.length_take] at *); omega))
            · rw [cnt_succ rs i 0 (by (first | omega | ((try have hb0_ := cnt_b (rs.take i.toNat) 0); (try have hb1_ := cnt_b (rs.take i.toNat) 1); (try have hb2_ := cnt_b (rs.take i.toNat) 2); (try have hb3_ := cnt_b (rs.take i.toNat) 3); (try have hb4_ := cnt_b (rs.take i.toNat) 4); (try have hb5_ := cnt_b (rs.take i.toNat) 5); (try have hb6_ := cnt_b (rs.take i.toNat) 6); (try have hb7_ := cnt_b (rs.take i.toNat) 7); (simp only [List.length_take] at *); omega))) (by (first | omega | ((try have hb0_ := cnt_b (rs.take i.toNat) 0); (try have hb1_ := cnt_b (rs.take i.toNat) 1); (try have hb2_ := cnt_b (rs.take i.toNat) 2); (try have hb3_ := cnt_b (rs.take i.toNat) 3); (try have hb4_ := cnt_b (rs.take i.toNat) 4); (try have hb5_ := cnt_b (rs.take i.toNat) 5); (try have hb6_ := cnt_b (rs.take i.toNat) 6); (try have hb7_ := cnt_b (rs.take i.toNat) 7); (simp only [List.length_take] at *); omega)))]; unfold clsL; (repeat' split) <;> omega
            · rw [cnt_succ rs i 1 (by (first | omega | ((try have hb0_ := cnt_b (rs.take i.toNat) 0); (try have hb1_ := cnt_b (rs.take i.toNat) 1); (try have hb2_ := cnt_b (rs.take i.toNat) 2); (try have hb3_ := cnt_b (rs.take i.toNat) 3); (try have hb4_ := cnt_b (rs.take i.toNat) 4); (try have hb5_ := cnt_b (rs.take i.toNat) 5); (try have hb6_ := cnt_b (rs.take i.toNat) 6); (try have hb7_ := cnt_b (rs.take i.toNat) 7); (simp only [List.length_take] at *); omega))) (by (first | omega | ((try have hb0_ := cnt_b (rs.take i.toNat) 0); (try have hb1_ := cnt_b (rs.take i.toNat) 1); (try have hb2_ := cnt_b (rs.take i.toNat) 2); (try have hb3_ := cnt_b (rs.take i.toNat) 3); (try have hb4_ := cnt_b (rs.take i.toNat) 4); (try have hb5_ := cnt_b (rs.take i.toNat) 5); (try have hb6_ := cnt_b (rs.take i.toNat) 6); (try have hb7_ := cnt_b (rs.take i.toNat) 7); (simp only [List.length_take] at *); omega)))]; unfold clsL; (repeat' split) <;> omega
            · rw [cnt_succ rs i 2 (by (first | omega | ((try have hb0_ := cnt_b (rs.take i.toNat) 0); (try have hb1_ := cnt_b (rs.take i.toNat) 1); (try have hb2_ := cnt_b (rs.take i.toNat) 2); (try have hb3_ := cnt_b (rs.take i.toNat) 3); (try have hb4_ := cnt_b (rs.take i.toNat) 4); (try have hb5_ := cnt_b (rs.take i.toNat) 5); (try have hb6_ := cnt_b (rs.take i.toNat) 6); (try have hb7_ := cnt_b (rs.take i.toNat) 7); (simp only [List.length_take] at *); omega))) (by (first | omega | ((try have hb0_ := cnt_b (rs.take i.toNat) 0); (try have hb1_ := cnt_b (rs.take i.toNat) 1); (try have hb2_ := cnt_b (rs.take i.toNat) 2); (try have hb3_ := cnt_b (rs.take i.toNat) 3); (try have hb4_ := cnt_b (rs.take i.toNat) 4); (try have hb5_ := cnt_b (rs.take i.toNat) 5); (try have hb6_ := cnt_b (rs.take i.toNat) 6); (try have hb7_ := cnt_b (rs.take i.toNat) 7); (simp only [List.length_take] at *); omega)))]; unfold clsL; (repeat' split) <;> omega
            · rw [cnt_succ rs i 3 (by (first | omega | ((try have hb0_ := cnt_b (rs.take i.toNat) 0); (try have hb1_ := cnt_b (rs.take i.toNat) 1); (try have hb2_ := cnt_b (rs.take i.toNat) 2); (try have hb3_ := cnt_b (rs.take i.toNat) 3); (try have hb4_ := cnt_b (rs.take i.toNat) 4); (try have hb5_ := cnt_b (rs.take i.toNat) 5); (try have hb6_ := cnt_b (rs.take i.toNat) 6); (try have hb7_ := cnt_b (rs.take i.toNat) 7); (simp only [List.length_take] at *); omega))) (by (first | omega | ((try have hb0_ := cnt_b (rs.take i.toNat) 0); (try have hb1_ := cnt_b (rs.take i.toNat) 1); (try have hb2_ := cnt_b (rs.take i.toNat) 2); (try have hb3_ := cnt_b (rs.take i.toNat) 3); (try have hb4_ := cnt_b (rs.take i.toNat) 4); (try have hb5_ := cnt_b (rs.take i.toNat) 5); (try have hb6_ := cnt_b (rs.take i.toNat) 6); (try have hb7_ := cnt_b (rs.take i.toNat) 7); (simp only [List.length_take] at *); omega)))]; unfold clsL; (repeat' split) <;> omega
            · rw [cnt_succ rs i 4 (by (first | omega | ((try have hb0_ := cnt_b (rs.take i.toNat) 0); (try have hb1_ := cnt_b (rs.take i.toNat) 1); (try have hb2_ := cnt_b (rs.take i.toNat) 2); (try have hb3_ := cnt_b (rs.take i.toNat) 3); (try have hb4_ := cnt_b (rs.take i.toNat) 4); (try have hb5_ := cnt_b (rs.take i.toNat) 5); (try have hb6_ := cnt_b (rs.take i.toNat) 6); (try have hb7_ := cnt_b (rs.take i.toNat) 7); (simp only [List.length_take] at *); omega))) (by (first | omega | ((try have hb0_ := cnt_b (rs.take i.toNat) 0); (try have hb1_ := cnt_b (rs.take i.toNat) 1); (try have hb2_ := cnt_b (rs.take i.toNat) 2); (try have hb3_ := cnt_b (rs.take i.toNat) 3); (try have hb4_ := cnt_b (rs.take i.toNat) 4); (try have hb5_ := cnt_b (rs.take i.toNat) 5); (try have hb6_ := cnt_b (rs.take i.toNat) 6); (try have hb7_ := cnt_b (rs.take i.toNat) 7); (simp only [List.length_take] at *); omega)))]; unfold clsL; (repeat' split) <;> omega
            · rw [cnt_succ rs i 5 (by (first | omega | ((try have hb0_ := cnt_b (rs.take i.toNat) 0); (try have hb1_ := cnt_b (rs.take i.toNat) 1); (try have hb2_ := cnt_b (rs.take i.toNat) 2); (try have hb3_ := cnt_b (rs.take i.toNat) 3); (try have hb4_ := cnt_b (rs.take i.toNat) 4); (try have hb5_ := cnt_b (rs.take i.toNat) 5); (try have hb6_ := cnt_b (rs.take i.toNat) 6); (try have hb7_ := cnt_b (rs.take i.toNat) 7); (simp only [List.length_take] at *); omega))) (by (first | omega | ((try have hb0_ := cnt_b (rs.take i.toNat) 0); (try have hb1_ := cnt_b (rs.take i.toNat) 1); (try have hb2_ := cnt_b (rs.take i.toNat) 2); (try have hb3_ := cnt_b (rs.take i.toNat) 3); (try have hb4_ := cnt_b (rs.take i.toNat) 4); (try have hb5_ := cnt_b (rs.take i.toNat) 5); (try have hb6_ := cnt_b (rs.take i.toNat) 6); (try have hb7_ := cnt_b (rs.take i.toNat) 7); (simp only [List.length_take] at *); omega)))]; unfold clsL; (repeat' split) <;> omega
            · rw [cnt_succ rs i 6 (by (first | omega | ((try have hb0_ := cnt_b (rs.take i.toNat) 0); (try have hb1_ := cnt_b (rs.take i.toNat) 1); (try have hb2_ := cnt_b (rs.take i.toNat) 2); (try have hb3_ := cnt_b (rs.take i.toNat) 3); (try have hb4_ := cnt_b (rs.take i.toNat) 4); (try have hb5_ := cnt_b (rs.take i.toNat) 5); (try have hb6_ := cnt_b (rs.take i.toNat) 6); (try have hb7_ := cnt_b (rs.take i.toNat) 7); (simp only [List.length_take] at *); omega))) (by (first | omega | ((try have hb0_ := cnt_b (rs.take i.toNat) 0); (try have hb1_ := cnt_b (rs.take i.toNat) 1); (try have hb2_ := cnt_b (rs.take i.toNat) 2); (try have hb3_ := cnt_b (rs.take i.toNat) 3); (try have hb4_ := cnt_b (rs.take i.toNat) 4); (try have hb5_ := cnt_b (rs.take i.toNat) 5); (try have hb6_ := cnt_b (rs.take i.toNat) 6); (try have hb7_ := cnt_b (rs.take i.toNat) 7); (simp only [List.length_take] at *); omega)))]; unfold clsL; (repeat' split) <;> omega
            · rw [cnt_succ rs i 7 (by (first | omega | ((try have hb0_ := cnt_b (rs.take i.toNat) 0); (try have hb1_ := cnt_b (rs.take i.toNat) 1); (try have hb2_ := cnt_b (rs.take i.toNat) 2); (try have hb3_ := cnt_b (rs.take i.toNat) 3); (try have hb4_ := cnt_b (rs.take i.toNat) 4); (try have hb5_ := cnt_b (rs.take i.toNat) 5); (try have hb6_ := cnt_b (rs.take i.toNat) 6); (try have hb7_ := cnt_b (rs.take i.toNat) 7); (simp only [List.length_take] at *); omega))) (by (first | omega | ((try have hb0_ := cnt_b (rs.take i.toNat) 0); (try have hb1_ := cnt_b (rs.take i.toNat) 1); (try have hb2_ := cnt_b (rs.take i.toNat) 2); (try have hb3_ := cnt_b (rs.take i.toNat) 3); (try have hb4_ := cnt_b (rs.take i.toNat) 4); (try have hb5_ := cnt_b (rs.take i.toNat) 5); (try have hb6_ := cnt_b (rs.take i.toNat) 6); (try have hb7_ := cnt_b (rs.take i.toNat) 7); (simp only [List.length_take] at *); omega)))]; unfold clsL; (repeat' split) <;> omega
          · skip
            have HF174 := HF136.conv (v' := .int .i64 2) (congrArg (Value.int .i64) hv137)
            clear HF136
            refine gw_ev HF174 (want_none rfl) rfl (by decide) (op_indexP (q := 2) Try.underlying58 gwsiz3 rfl (HF174.ev rfl) (HF174.ev rfl) (by decide) rfl) ?_
            intro a175 HF176; clear HF174
            refine gw_ev HF176 (want_none rfl) rfl (by decide) (op_load1 gwagg3 rfl (HF176.ev rfl) (blk_at (HO58.get 1 rfl) rfl)) ?_
            intro a177 HF178; clear HF176
            refine gw_ev HF178 (want_none rfl) rfl (by decide) (op_add rfl (HF178.ev rfl) (ev_c _ _) (by (first | omega | ((try have hb0_ := cnt_b (rs.take i.toNat) 0); (try have hb1_ := cnt_b (rs.take i.toNat) 1); (try have hb2_ := cnt_b (rs.take i.toNat) 2); (try have hb3_ := cnt_b (rs.take i.toNat) 3); (try have hb4_ := cnt_b (rs.take i.toNat) 4); (try have hb5_ := cnt_b (rs.take i.toNat) 5); (try have hb6_ := cnt_b (rs.take i.toNat) 6); (try have hb7_ := cnt_b (rs.take i.toNat) 7); (simp only [List.length_take] at *); omega)))) ?_
            intro a179 HF180; clear HF178
            refine gw_ev HF180 (want_none rfl) rfl (by decide) (op_indexP (q := 2) Try.underlying58 gwsiz3 rfl (HF180.ev rfl) (HF180.ev rfl) (by decide) rfl) ?_
            intro a181 HF182; clear HF180
            refine gw_set 1 HF182 HO58 rfl (want_none rfl) rfl (op_store1 gwsiz3 rfl (HF182.ev rfl) (HF182.ev rfl) rfl (blk_at (HO58.get 1 rfl) rfl) (blkf (HO58.get 1 rfl))) ?_
            intro a183 w185 HF184 HO186; clear HF182 HO58
            have HO187 : Own w w185 [Chunk.blk g48 (.cells #[.string ((rs.getD i.toNat z61).f0), .int .i64 ((rs.getD i.toNat z61).f1)] 61 (0, 0)), Chunk.blk g9 (.cells #[.int .i64 q0, .int .i64 q1, .int .i64 (q2 + 1), .int .i64 q3, .int .i64 q4, .int .i64 q5, .int .i64 q6, .int .i64 q7] 58 (0, 0)), Chunk.blk g2 (.cells #[.int .i64 0, .int .i64 0, .int .i64 0, .int .i64 0, .int .i64 0, .int .i64 0, .int .i64 0, .int .i64 0] 58 (0, 0))] := HO186
            clear HO186
            refine wpList_nil ?_
            refine gw_blk ?_
            refine gw_nx (hK36 _ _ ?_)
            refine wp_region_lit ?_
            refine gw_ev HF184 (want_none rfl) rfl (by decide) (op_add rfl (HF184.ev rfl) (ev_c _ _) (by (first | omega | ((try have hb0_ := cnt_b (rs.take i.toNat) 0); (try have hb1_ := cnt_b (rs.take i.toNat) 1); (try have hb2_ := cnt_b (rs.take i.toNat) 2); (try have hb3_ := cnt_b (rs.take i.toNat) 3); (try have hb4_ := cnt_b (rs.take i.toNat) 4); (try have hb5_ := cnt_b (rs.take i.toNat) 5); (try have hb6_ := cnt_b (rs.take i.toNat) 6); (try have hb7_ := cnt_b (rs.take i.toNat) 7); (simp only [List.length_take] at *); omega)))) ?_
            intro a188 HF189; clear HF184
            refine gw_ev HF189 (want_none rfl) rfl (by decide) (op_move rfl (HF189.ev rfl)) ?_
            intro a190 HF191; clear HF189
            refine wpList_nil ?_
            refine gw_nx ⟨_, ?_, i + 1, q0, q1, q2 + 1, q3, q4, q5, q6, q7, (HF191.pick (t := 9) rfl (HF191.pick (t := 2) rfl (HF191.pick (t := 3) rfl (HF191.pick (t := 7) rfl (HF191.pick (t := 8) rfl HF191.nil))))), HO187.sel [1, 2] (by decide), ?_, ?_, ?_, ?_, ?_, ?_, ?_, ?_, ?_, rfl⟩
            · rw [hm29]; (first | omega | ((try have hb0_ := cnt_b (rs.take i.toNat) 0); (try have hb1_ := cnt_b (rs.take i.toNat) 1); (try have hb2_ := cnt_b (rs.take i.toNat) 2); (try have hb3_ := cnt_b (rs.take i.toNat) 3); (try have hb4_ := cnt_b (rs.take i.toNat) 4); (try have hb5_ := cnt_b (rs.take i.toNat) 5); (try have hb6_ := cnt_b (rs.take i.toNat) 6); (try have hb7_ := cnt_b (rs.take i.toNat) 7); (simp only [List.length_take] at *); omega))
            · (first | omega | ((try have hb0_ := cnt_b (rs.take i.toNat) 0); (try have hb1_ := cnt_b (rs.take i.toNat) 1); (try have hb2_ := cnt_b (rs.take i.toNat) 2); (try have hb3_ := cnt_b (rs.take i.toNat) 3); (try have hb4_ := cnt_b (rs.take i.toNat) 4); (try have hb5_ := cnt_b (rs.take i.toNat) 5); (try have hb6_ := cnt_b (rs.take i.toNat) 6); (try have hb7_ := cnt_b (rs.take i.toNat) 7); (simp only [List.length_take] at *); omega))
            · rw [cnt_succ rs i 0 (by (first | omega | ((try have hb0_ := cnt_b (rs.take i.toNat) 0); (try have hb1_ := cnt_b (rs.take i.toNat) 1); (try have hb2_ := cnt_b (rs.take i.toNat) 2); (try have hb3_ := cnt_b (rs.take i.toNat) 3); (try have hb4_ := cnt_b (rs.take i.toNat) 4); (try have hb5_ := cnt_b (rs.take i.toNat) 5); (try have hb6_ := cnt_b (rs.take i.toNat) 6); (try have hb7_ := cnt_b (rs.take i.toNat) 7); (simp only [List.length_take] at *); omega))) (by (first | omega | ((try have hb0_ := cnt_b (rs.take i.toNat) 0); (try have hb1_ := cnt_b (rs.take i.toNat) 1); (try have hb2_ := cnt_b (rs.take i.toNat) 2); (try have hb3_ := cnt_b (rs.take i.toNat) 3); (try have hb4_ := cnt_b (rs.take i.toNat) 4); (try have hb5_ := cnt_b (rs.take i.toNat) 5); (try have hb6_ := cnt_b (rs.take i.toNat) 6); (try have hb7_ := cnt_b (rs.take i.toNat) 7); (simp only [List.length_take] at *); omega)))]; unfold clsL; (repeat' split) <;> omega
            · rw [cnt_succ rs i 1 (by (first | omega | ((try have hb0_ := cnt_b (rs.take i.toNat) 0); (try have hb1_ := cnt_b (rs.take i.toNat) 1); (try have hb2_ := cnt_b (rs.take i.toNat) 2); (try have hb3_ := cnt_b (rs.take i.toNat) 3); (try have hb4_ := cnt_b (rs.take i.toNat) 4); (try have hb5_ := cnt_b (rs.take i.toNat) 5); (try have hb6_ := cnt_b (rs.take i.toNat) 6); (try have hb7_ := cnt_b (rs.take i.toNat) 7); (simp only [List.length_take] at *); omega))) (by (first | omega | ((try have hb0_ := cnt_b (rs.take i.toNat) 0); (try have hb1_ := cnt_b (rs.take i.toNat) 1); (try have hb2_ := cnt_b (rs.take i.toNat) 2); (try have hb3_ := cnt_b (rs.take i.toNat) 3); (try have hb4_ := cnt_b (rs.take i.toNat) 4); (try have hb5_ := cnt_b (rs.take i.toNat) 5); (try have hb6_ := cnt_b (rs.take i.toNat) 6); (try have hb7_ := cnt_b (rs.take i.toNat) 7); (simp only [List.length_take] at *); omega)))]; unfold clsL; (repeat' split) <;> omega
            · rw [cnt_succ rs i 2 (by (first | omega | ((try have hb0_ := cnt_b (rs.take i.toNat) 0); (try have hb1_ := cnt_b (rs.take i.toNat) 1); (try have hb2_ := cnt_b (rs.take i.toNat) 2); (try have hb3_ := cnt_b (rs.take i.toNat) 3); (try have hb4_ := cnt_b (rs.take i.toNat) 4); (try have hb5_ := cnt_b (rs.take i.toNat) 5); (try have hb6_ := cnt_b (rs.take i.toNat) 6); (try have hb7_ := cnt_b (rs.take i.toNat) 7); (simp only [List.length_take] at *); omega))) (by (first | omega | ((try have hb0_ := cnt_b (rs.take i.toNat) 0); (try have hb1_ := cnt_b (rs.take i.toNat) 1); (try have hb2_ := cnt_b (rs.take i.toNat) 2); (try have hb3_ := cnt_b (rs.take i.toNat) 3); (try have hb4_ := cnt_b (rs.take i.toNat) 4); (try have hb5_ := cnt_b (rs.take i.toNat) 5); (try have hb6_ := cnt_b (rs.take i.toNat) 6); (try have hb7_ := cnt_b (rs.take i.toNat) 7); (simp only [List.length_take] at *); omega)))]; unfold clsL; (repeat' split) <;> omega
            · rw [cnt_succ rs i 3 (by (first | omega | ((try have hb0_ := cnt_b (rs.take i.toNat) 0); (try have hb1_ := cnt_b (rs.take i.toNat) 1); (try have hb2_ := cnt_b (rs.take i.toNat) 2); (try have hb3_ := cnt_b (rs.take i.toNat) 3); (try have hb4_ := cnt_b (rs.take i.toNat) 4); (try have hb5_ := cnt_b (rs.take i.toNat) 5); (try have hb6_ := cnt_b (rs.take i.toNat) 6); (try have hb7_ := cnt_b (rs.take i.toNat) 7); (simp only [List.length_take] at *); omega))) (by (first | omega | ((try have hb0_ := cnt_b (rs.take i.toNat) 0); (try have hb1_ := cnt_b (rs.take i.toNat) 1); (try have hb2_ := cnt_b (rs.take i.toNat) 2); (try have hb3_ := cnt_b (rs.take i.toNat) 3); (try have hb4_ := cnt_b (rs.take i.toNat) 4); (try have hb5_ := cnt_b (rs.take i.toNat) 5); (try have hb6_ := cnt_b (rs.take i.toNat) 6); (try have hb7_ := cnt_b (rs.take i.toNat) 7); (simp only [List.length_take] at *); omega)))]; unfold clsL; (repeat' split) <;> omega
            · rw [cnt_succ rs i 4 (by (first | omega | ((try have hb0_ := cnt_b (rs.take i.toNat) 0); (try have hb1_ := cnt_b (rs.take i.toNat) 1); (try have hb2_ := cnt_b (rs.take i.toNat) 2); (try have hb3_ := cnt_b (rs.take i.toNat) 3); (try have hb4_ := cnt_b (rs.take i.toNat) 4); (try have hb5_ := cnt_b (rs.take i.toNat) 5); (try have hb6_ := cnt_b (rs.take i.toNat) 6); (try have hb7_ := cnt_b (rs.take i.toNat) 7); (simp only [List.length_take] at *); omega))) (by (first | omega | ((try have hb0_ := cnt_b (rs.take i.toNat) 0); (try have hb1_ := cnt_b (rs.take i.toNat) 1); (try have hb2_ := cnt_b (rs.take i.toNat) 2); (try have hb3_ := cnt_b (rs.take i.toNat) 3); (try have hb4_ := cnt_b (rs.take i.toNat) 4); (try have hb5_ := cnt_b (rs.take i.toNat) 5); (try have hb6_ := cnt_b (rs.take i.toNat) 6); (try have hb7_ := cnt_b (rs.take i.toNat) 7); (simp only [List.length_take] at *); omega)))]; unfold clsL; (repeat' split) <;> omega
            · rw [cnt_succ rs i 5 (by (first | omega | ((try have hb0_ := cnt_b (rs.take i.toNat) 0); (try have hb1_ := cnt_b (rs.take i.toNat) 1); (try have hb2_ := cnt_b (rs.take i.toNat) 2); (try have hb3_ := cnt_b (rs.take i.toNat) 3); (try have hb4_ := cnt_b (rs.take i.toNat) 4); (try have hb5_ := cnt_b (rs.take i.toNat) 5); (try have hb6_ := cnt_b (rs.take i.toNat) 6); (try have hb7_ := cnt_b (rs.take i.toNat) 7); (simp only [List.length_take] at *); omega))) (by (first | omega | ((try have hb0_ := cnt_b (rs.take i.toNat) 0); (try have hb1_ := cnt_b (rs.take i.toNat) 1); (try have hb2_ := cnt_b (rs.take i.toNat) 2); (try have hb3_ := cnt_b (rs.take i.toNat) 3); (try have hb4_ := cnt_b (rs.take i.toNat) 4); (try have hb5_ := cnt_b (rs.take i.toNat) 5); (try have hb6_ := cnt_b (rs.take i.toNat) 6); (try have hb7_ := cnt_b (rs.take i.toNat) 7); (simp only [List.length_take] at *); omega)))]; unfold clsL; (repeat' split) <;> omega
            · rw [cnt_succ rs i 6 (by (first | omega | ((try have hb0_ := cnt_b (rs.take i.toNat) 0); (try have hb1_ := cnt_b (rs.take i.toNat) 1); (try have hb2_ := cnt_b (rs.take i.toNat) 2); (try have hb3_ := cnt_b (rs.take i.toNat) 3); (try have hb4_ := cnt_b (rs.take i.toNat) 4); (try have hb5_ := cnt_b (rs.take i.toNat) 5); (try have hb6_ := cnt_b (rs.take i.toNat) 6); (try have hb7_ := cnt_b (rs.take i.toNat) 7); (simp only [List.length_take] at *); omega))) (by (first | omega | ((try have hb0_ := cnt_b (rs.take i.toNat) 0); (try have hb1_ := cnt_b (rs.take i.toNat) 1); (try have hb2_ := cnt_b (rs.take i.toNat) 2); (try have hb3_ := cnt_b (rs.take i.toNat) 3); (try have hb4_ := cnt_b (rs.take i.toNat) 4); (try have hb5_ := cnt_b (rs.take i.toNat) 5); (try have hb6_ := cnt_b (rs.take i.toNat) 6); (try have hb7_ := cnt_b (rs.take i.toNat) 7); (simp only [List.length_take] at *); omega)))]; unfold clsL; (repeat' split) <;> omega
            · rw [cnt_succ rs i 7 (by (first | omega | ((try have hb0_ := cnt_b (rs.take i.toNat) 0); (try have hb1_ := cnt_b (rs.take i.toNat) 1); (try have hb2_ := cnt_b (rs.take i.toNat) 2); (try have hb3_ := cnt_b (rs.take i.toNat) 3); (try have hb4_ := cnt_b (rs.take i.toNat) 4); (try have hb5_ := cnt_b (rs.take i.toNat) 5); (try have hb6_ := cnt_b (rs.take i.toNat) 6); (try have hb7_ := cnt_b (rs.take i.toNat) 7); (simp only [List.length_take] at *); omega))) (by (first | omega | ((try have hb0_ := cnt_b (rs.take i.toNat) 0); (try have hb1_ := cnt_b (rs.take i.toNat) 1); (try have hb2_ := cnt_b (rs.take i.toNat) 2); (try have hb3_ := cnt_b (rs.take i.toNat) 3); (try have hb4_ := cnt_b (rs.take i.toNat) 4); (try have hb5_ := cnt_b (rs.take i.toNat) 5); (try have hb6_ := cnt_b (rs.take i.toNat) 6); (try have hb7_ := cnt_b (rs.take i.toNat) 7); (simp only [List.length_take] at *); omega)))]; unfold clsL; (repeat' split) <;> omega
          · skip
            have HF192 := HF136.conv (v' := .int .i64 3) (congrArg (Value.int .i64) hv137)
            clear HF136
            refine gw_ev HF192 (want_none rfl) rfl (by decide) (op_indexP (q := 3) Try.underlying58 gwsiz3 rfl (HF192.ev rfl) (HF192.ev rfl) (by decide) rfl) ?_
            intro a193 HF194; clear HF192
            refine gw_ev HF194 (want_none rfl) rfl (by decide) (op_load1 gwagg3 rfl (HF194.ev rfl) (blk_at (HO58.get 1 rfl) rfl)) ?_
            intro a195 HF196; clear HF194
            refine gw_ev HF196 (want_none rfl) rfl (by decide) (op_add rfl (HF196.ev rfl) (ev_c _ _) (by (first | omega | ((try have hb0_ := cnt_b (rs.take i.toNat) 0); (try have hb1_ := cnt_b (rs.take i.toNat) 1); (try have hb2_ := cnt_b (rs.take i.toNat) 2); (try have hb3_ := cnt_b (rs.take i.toNat) 3); (try have hb4_ := cnt_b (rs.take i.toNat) 4); (try have hb5_ := cnt_b (rs.take i.toNat) 5); (try have hb6_ := cnt_b (rs.take i.toNat) 6); (try have hb7_ := cnt_b (rs.take i.toNat) 7); (simp only [List.length_take] at *); omega)))) ?_
            intro a197 HF198; clear HF196
            refine gw_ev HF198 (want_none rfl) rfl (by decide) (op_indexP (q := 3) Try.underlying58 gwsiz3 rfl (HF198.ev rfl) (HF198.ev rfl) (by decide) rfl) ?_
            intro a199 HF200; clear HF198
            refine gw_set 1 HF200 HO58 rfl (want_none rfl) rfl (op_store1 gwsiz3 rfl (HF200.ev rfl) (HF200.ev rfl) rfl (blk_at (HO58.get 1 rfl) rfl) (blkf (HO58.get 1 rfl))) ?_
            intro a201 w203 HF202 HO204; clear HF200 HO58
            have HO205 : Own w w203 [Chunk.blk g48 (.cells #[.string ((rs.getD i.toNat z61).f0), .int .i64 ((rs.getD i.toNat z61).f1)] 61 (0, 0)), Chunk.blk g9 (.cells #[.int .i64 q0, .int .i64 q1, .int .i64 q2, .int .i64 (q3 + 1), .int .i64 q4, .int .i64 q5, .int .i64 q6, .int .i64 q7] 58 (0, 0)), Chunk.blk g2 (.cells #[.int .i64 0, .int .i64 0, .int .i64 0, .int .i64 0, .int .i64 0, .int .i64 0, .int .i64 0, .int .i64 0] 58 (0, 0))] := HO204
            clear HO204
            refine wpList_nil ?_
            refine gw_blk ?_
            refine gw_nx (hK36 _ _ ?_)
            refine wp_region_lit ?_
            refine gw_ev HF202 (want_none rfl) rfl (by decide) (op_add rfl (HF202.ev rfl) (ev_c _ _) (by (first | omega | ((try have hb0_ := cnt_b (rs.take i.toNat) 0); (try have hb1_ := cnt_b (rs.take i.toNat) 1); (try have hb2_ := cnt_b (rs.take i.toNat) 2); (try have hb3_ := cnt_b (rs.take i.toNat) 3); (try have hb4_ := cnt_b (rs.take i.toNat) 4); (try have hb5_ := cnt_b (rs.take i.toNat) 5); (try have hb6_ := cnt_b (rs.take i.toNat) 6); (try have hb7_ := cnt_b (rs.take i.toNat) 7); (simp only [List.length_take] at *); omega)))) ?_
            intro a206 HF207; clear HF202
            refine gw_ev HF207 (want_none rfl) rfl (by decide) (op_move rfl (HF207.ev rfl)) ?_
            intro a208 HF209; clear HF207
            refine wpList_nil ?_
            refine gw_nx ⟨_, ?_, i + 1, q0, q1, q2, q3 + 1, q4, q5, q6, q7, (HF209.pick (t := 9) rfl (HF209.pick (t := 2) rfl (HF209.pick (t := 3) rfl (HF209.pick (t := 7) rfl (HF209.pick (t := 8) rfl HF209.nil))))), HO205.sel [1, 2] (by decide), ?_, ?_, ?_, ?_, ?_, ?_, ?_, ?_, ?_, rfl⟩
            · rw [hm29]; (first | omega | ((try have hb0_ := cnt_b (rs.take i.toNat) 0); (try have hb1_ := cnt_b (rs.take i.toNat) 1); (try have hb2_ := cnt_b (rs.take i.toNat) 2); (try have hb3_ := cnt_b (rs.take i.toNat) 3); (try have hb4_ := cnt_b (rs.take i.toNat) 4); (try have hb5_ := cnt_b (rs.take i.toNat) 5); (try have hb6_ := cnt_b (rs.take i.toNat) 6); (try have hb7_ := cnt_b (rs.take i.toNat) 7); (simp only [List.length_take] at *); omega))
            · (first | omega | ((try have hb0_ := cnt_b (rs.take i.toNat) 0); (try have hb1_ := cnt_b (rs.take i.toNat) 1); (try have hb2_ := cnt_b (rs.take i.toNat) 2); (try have hb3_ := cnt_b (rs.take i.toNat) 3); (try have hb4_ := cnt_b (rs.take i.toNat) 4); (try have hb5_ := cnt_b (rs.take i.toNat) 5); (try have hb6_ := cnt_b (rs.take i.toNat) 6); (try have hb7_ := cnt_b (rs.take i.toNat) 7); (simp only [List.length_take] at *); omega))
            · rw [cnt_succ rs i 0 (by (first | omega | ((try have hb0_ := cnt_b (rs.take i.toNat) 0); (try have hb1_ := cnt_b (rs.take i.toNat) 1); (try have hb2_ := cnt_b (rs.take i.toNat) 2); (try have hb3_ := cnt_b (rs.take i.toNat) 3); (try have hb4_ := cnt_b (rs.take i.toNat) 4); (try have hb5_ := cnt_b (rs.take i.toNat) 5); (try have hb6_ := cnt_b (rs.take i.toNat) 6); (try have hb7_ := cnt_b (rs.take i.toNat) 7); (simp only [List.length_take] at *); omega))) (by (first | omega | ((try have hb0_ := cnt_b (rs.take i.toNat) 0); (try have hb1_ := cnt_b (rs.take i.toNat) 1); (try have hb2_ := cnt_b (rs.take i.toNat) 2); (try have hb3_ := cnt_b (rs.take i.toNat) 3); (try have hb4_ := cnt_b (rs.take i.toNat) 4); (try have hb5_ := cnt_b (rs.take i.toNat) 5); (try have hb6_ := cnt_b (rs.take i.toNat) 6); (try have hb7_ := cnt_b (rs.take i.toNat) 7); (simp only [List.length_take] at *); omega)))]; unfold clsL; (repeat' split) <;> omega
            · rw [cnt_succ rs i 1 (by (first | omega | ((try have hb0_ := cnt_b (rs.take i.toNat) 0); (try have hb1_ := cnt_b (rs.take i.toNat) 1); (try have hb2_ := cnt_b (rs.take i.toNat) 2); (try have hb3_ := cnt_b (rs.take i.toNat) 3); (try have hb4_ := cnt_b (rs.take i.toNat) 4); (try have hb5_ := cnt_b (rs.take i.toNat) 5); (try have hb6_ := cnt_b (rs.take i.toNat) 6); (try have hb7_ := cnt_b (rs.take i.toNat) 7); (simp only [List.length_take] at *); omega))) (by (first | omega | ((try have hb0_ := cnt_b (rs.take i.toNat) 0); (try have hb1_ := cnt_b (rs.take i.toNat) 1); (try have hb2_ := cnt_b (rs.take i.toNat) 2); (try have hb3_ := cnt_b (rs.take i.toNat) 3); (try have hb4_ := cnt_b (rs.take i.toNat) 4); (try have hb5_ := cnt_b (rs.take i.toNat) 5); (try have hb6_ := cnt_b (rs.take i.toNat) 6); (try have hb7_ := cnt_b (rs.take i.toNat) 7); (simp only [List.length_take] at *); omega)))]; unfold clsL; (repeat' split) <;> omega
            · rw [cnt_succ rs i 2 (by (first | omega | ((try have hb0_ := cnt_b (rs.take i.toNat) 0); (try have hb1_ := cnt_b (rs.take i.toNat) 1); (try have hb2_ := cnt_b (rs.take i.toNat) 2); (try have hb3_ := cnt_b (rs.take i.toNat) 3); (try have hb4_ := cnt_b (rs.take i.toNat) 4); (try have hb5_ := cnt_b (rs.take i.toNat) 5); (try have hb6_ := cnt_b (rs.take i.toNat) 6); (try have hb7_ := cnt_b (rs.take i.toNat) 7); (simp only [List.length_take] at *); omega))) (by (first | omega | ((try have hb0_ := cnt_b (rs.take i.toNat) 0); (try have hb1_ := cnt_b (rs.take i.toNat) 1); (try have hb2_ := cnt_b (rs.take i.toNat) 2); (try have hb3_ := cnt_b (rs.take i.toNat) 3); (try have hb4_ := cnt_b (rs.take i.toNat) 4); (try have hb5_ := cnt_b (rs.take i.toNat) 5); (try have hb6_ := cnt_b (rs.take i.toNat) 6); (try have hb7_ := cnt_b (rs.take i.toNat) 7); (simp only [List.length_take] at *); omega)))]; unfold clsL; (repeat' split) <;> omega
            · rw [cnt_succ rs i 3 (by (first | omega | ((try have hb0_ := cnt_b (rs.take i.toNat) 0); (try have hb1_ := cnt_b (rs.take i.toNat) 1); (try have hb2_ := cnt_b (rs.take i.toNat) 2); (try have hb3_ := cnt_b (rs.take i.toNat) 3); (try have hb4_ := cnt_b (rs.take i.toNat) 4); (try have hb5_ := cnt_b (rs.take i.toNat) 5); (try have hb6_ := cnt_b (rs.take i.toNat) 6); (try have hb7_ := cnt_b (rs.take i.toNat) 7); (simp only [List.length_take] at *); omega))) (by (first | omega | ((try have hb0_ := cnt_b (rs.take i.toNat) 0); (try have hb1_ := cnt_b (rs.take i.toNat) 1); (try have hb2_ := cnt_b (rs.take i.toNat) 2); (try have hb3_ := cnt_b (rs.take i.toNat) 3); (try have hb4_ := cnt_b (rs.take i.toNat) 4); (try have hb5_ := cnt_b (rs.take i.toNat) 5); (try have hb6_ := cnt_b (rs.take i.toNat) 6); (try have hb7_ := cnt_b (rs.take i.toNat) 7); (simp only [List.length_take] at *); omega)))]; unfold clsL; (repeat' split) <;> omega
            · rw [cnt_succ rs i 4 (by (first | omega | ((try have hb0_ := cnt_b (rs.take i.toNat) 0); (try have hb1_ := cnt_b (rs.take i.toNat) 1); (try have hb2_ := cnt_b (rs.take i.toNat) 2); (try have hb3_ := cnt_b (rs.take i.toNat) 3); (try have hb4_ := cnt_b (rs.take i.toNat) 4); (try have hb5_ := cnt_b (rs.take i.toNat) 5); (try have hb6_ := cnt_b (rs.take i.toNat) 6); (try have hb7_ := cnt_b (rs.take i.toNat) 7); (simp only [List.length_take] at *); omega))) (by (first | omega | ((try have hb0_ := cnt_b (rs.take i.toNat) 0); (try have hb1_ := cnt_b (rs.take i.toNat) 1); (try have hb2_ := cnt_b (rs.take i.toNat) 2); (try have hb3_ := cnt_b (rs.take i.toNat) 3); (try have hb4_ := cnt_b (rs.take i.toNat) 4); (try have hb5_ := cnt_b (rs.take i.toNat) 5); (try have hb6_ := cnt_b (rs.take i.toNat) 6); (try have hb7_ := cnt_b (rs.take i.toNat) 7); (simp only [List.length_take] at *); omega)))]; unfold clsL; (repeat' split) <;> omega
            · rw [cnt_succ rs i 5 (by (first | omega | ((try have hb0_ := cnt_b (rs.take i.toNat) 0); (try have hb1_ := cnt_b (rs.take i.toNat) 1); (try have hb2_ := cnt_b (rs.take i.toNat) 2); (try have hb3_ := cnt_b (rs.take i.toNat) 3); (try have hb4_ := cnt_b (rs.take i.toNat) 4); (try have hb5_ := cnt_b (rs.take i.toNat) 5); (try have hb6_ := cnt_b (rs.take i.toNat) 6); (try have hb7_ := cnt_b (rs.take i.toNat) 7); (simp only [List.length_take] at *); omega))) (by (first | omega | ((try have hb0_ := cnt_b (rs.take i.toNat) 0); (try have hb1_ := cnt_b (rs.take i.toNat) 1); (try have hb2_ := cnt_b (rs.take i.toNat) 2); (try have hb3_ := cnt_b (rs.take i.toNat) 3); (try have hb4_ := cnt_b (rs.take i.toNat) 4); (try have hb5_ := cnt_b (rs.take i.toNat) 5); (try have hb6_ := cnt_b (rs.take i.toNat) 6); (try have hb7_ := cnt_b (rs.take i.toNat) 7); (simp only [List.length_take] at *); omega)))]; unfold clsL; (repeat' split) <;> omega
            · rw [cnt_succ rs i 6 (by (first | omega | ((try have hb0_ := cnt_b (rs.take i.toNat) 0); (try have hb1_ := cnt_b (rs.take i.toNat) 1); (try have hb2_ := cnt_b (rs.take i.toNat) 2); (try have hb3_ := cnt_b (rs.take i.toNat) 3); (try have hb4_ := cnt_b (rs.take i.toNat) 4); (try have hb5_ := cnt_b (rs.take i.toNat) 5); (try have hb6_ := cnt_b (rs.take i.toNat) 6); (try have hb7_ := cnt_b (rs.take i.toNat) 7); (simp only [List.length_take] at *); omega))) (by (first | omega | ((try have hb0_ := cnt_b (rs.take i.toNat) 0); (try have hb1_ := cnt_b (rs.take i.toNat) 1); (try have hb2_ := cnt_b (rs.take i.toNat) 2); (try have hb3_ := cnt_b (rs.take i.toNat) 3); (try have hb4_ := cnt_b (rs.take i.toNat) 4); (try have hb5_ := cnt_b (rs.take i.toNat) 5); (try have hb6_ := cnt_b (rs.take i.toNat) 6); (try have hb7_ := cnt_b (rs.take i.toNat) 7); (simp only [List.length_take] at *); omega)))]; unfold clsL; (repeat' split) <;> omega
            · rw [cnt_succ rs i 7 (by (first | omega | ((try have hb0_ := cnt_b (rs.take i.toNat) 0); (try have hb1_ := cnt_b (rs.take i.toNat) 1); (try have hb2_ := cnt_b (rs.take i.toNat) 2); (try have hb3_ := cnt_b (rs.take i.toNat) 3); (try have hb4_ := cnt_b (rs.take i.toNat) 4); (try have hb5_ := cnt_b (rs.take i.toNat) 5); (try have hb6_ := cnt_b (rs.take i.toNat) 6); (try have hb7_ := cnt_b (rs.take i.toNat) 7); (simp only [List.length_take] at *); omega))) (by (first | omega | ((try have hb0_ := cnt_b (rs.take i.toNat) 0); (try have hb1_ := cnt_b (rs.take i.toNat) 1); (try have hb2_ := cnt_b (rs.take i.toNat) 2); (try have hb3_ := cnt_b (rs.take i.toNat) 3); (try have hb4_ := cnt_b (rs.take i.toNat) 4); (try have hb5_ := cnt_b (rs.take i.toNat) 5); (try have hb6_ := cnt_b (rs.take i.toNat) 6); (try have hb7_ := cnt_b (rs.take i.toNat) 7); (simp only [List.length_take] at *); omega)))]; unfold clsL; (repeat' split) <;> omega
          · skip
            have HF210 := HF136.conv (v' := .int .i64 4) (congrArg (Value.int .i64) hv137)
            clear HF136
            refine gw_ev HF210 (want_none rfl) rfl (by decide) (op_indexP (q := 4) Try.underlying58 gwsiz3 rfl (HF210.ev rfl) (HF210.ev rfl) (by decide) rfl) ?_
            intro a211 HF212; clear HF210
            refine gw_ev HF212 (want_none rfl) rfl (by decide) (op_load1 gwagg3 rfl (HF212.ev rfl) (blk_at (HO58.get 1 rfl) rfl)) ?_
            intro a213 HF214; clear HF212
            refine gw_ev HF214 (want_none rfl) rfl (by decide) (op_add rfl (HF214.ev rfl) (ev_c _ _) (by (first | omega | ((try have hb0_ := cnt_b (rs.take i.toNat) 0); (try have hb1_ := cnt_b (rs.take i.toNat) 1); (try have hb2_ := cnt_b (rs.take i.toNat) 2); (try have hb3_ := cnt_b (rs.take i.toNat) 3); (try have hb4_ := cnt_b (rs.take i.toNat) 4); (try have hb5_ := cnt_b (rs.take i.toNat) 5); (try have hb6_ := cnt_b (rs.take i.toNat) 6); (try have hb7_ := cnt_b (rs.take i.toNat) 7); (simp only [List.length_take] at *); omega)))) ?_
            intro a215 HF216; clear HF214
            refine gw_ev HF216 (want_none rfl) rfl (by decide) (op_indexP (q := 4) Try.underlying58 gwsiz3 rfl (HF216.ev rfl) (HF216.ev rfl) (by decide) rfl) ?_
            intro a217 HF218; clear HF216
            refine gw_set 1 HF218 HO58 rfl (want_none rfl) rfl (op_store1 gwsiz3 rfl (HF218.ev rfl) (HF218.ev rfl) rfl (blk_at (HO58.get 1 rfl) rfl) (blkf (HO58.get 1 rfl))) ?_
            intro a219 w221 HF220 HO222; clear HF218 HO58
            have HO223 : Own w w221 [Chunk.blk g48 (.cells #[.string ((rs.getD i.toNat z61).f0), .int .i64 ((rs.getD i.toNat z61).f1)] 61 (0, 0)), Chunk.blk g9 (.cells #[.int .i64 q0, .int .i64 q1, .int .i64 q2, .int .i64 q3, .int .i64 (q4 + 1), .int .i64 q5, .int .i64 q6, .int .i64 q7] 58 (0, 0)), Chunk.blk g2 (.cells #[.int .i64 0, .int .i64 0, .int .i64 0, .int .i64 0, .int .i64 0, .int .i64 0, .int .i64 0, .int .i64 0] 58 (0, 0))] := HO222
            clear HO222
            refine wpList_nil ?_
            refine gw_blk ?_
            refine gw_nx (hK36 _ _ ?_)
            refine wp_region_lit ?_
            refine gw_ev HF220 (want_none rfl) rfl (by decide) (op_add rfl (HF220.ev rfl) (ev_c _ _) (by (first | omega | ((try have hb0_ := cnt_b (rs.take i.toNat) 0); (try have hb1_ := cnt_b (rs.take i.toNat) 1); (try have hb2_ := cnt_b (rs.take i.toNat) 2); (try have hb3_ := cnt_b (rs.take i.toNat) 3); (try have hb4_ := cnt_b (rs.take i.toNat) 4); (try have hb5_ := cnt_b (rs.take i.toNat) 5); (try have hb6_ := cnt_b (rs.take i.toNat) 6); (try have hb7_ := cnt_b (rs.take i.toNat) 7); (simp only [List.length_take] at *); omega)))) ?_
            intro a224 HF225; clear HF220
            refine gw_ev HF225 (want_none rfl) rfl (by decide) (op_move rfl (HF225.ev rfl)) ?_
            intro a226 HF227; clear HF225
            refine wpList_nil ?_
            refine gw_nx ⟨_, ?_, i + 1, q0, q1, q2, q3, q4 + 1, q5, q6, q7, (HF227.pick (t := 9) rfl (HF227.pick (t := 2) rfl (HF227.pick (t := 3) rfl (HF227.pick (t := 7) rfl (HF227.pick (t := 8) rfl HF227.nil))))), HO223.sel [1, 2] (by decide), ?_, ?_, ?_, ?_, ?_, ?_, ?_, ?_, ?_, rfl⟩
            · rw [hm29]; (first | omega | ((try have hb0_ := cnt_b (rs.take i.toNat) 0); (try have hb1_ := cnt_b (rs.take i.toNat) 1); (try have hb2_ := cnt_b (rs.take i.toNat) 2); (try have hb3_ := cnt_b (rs.take i.toNat) 3); (try have hb4_ := cnt_b (rs.take i.toNat) 4); (try have hb5_ := cnt_b (rs.take i.toNat) 5); (try have hb6_ := cnt_b (rs.take i.toNat) 6); (try have hb7_ := cnt_b (rs.take i.toNat) 7); (simp only [List.length_take] at *); omega))
            · (first | omega | ((try have hb0_ := cnt_b (rs.take i.toNat) 0); (try have hb1_ := cnt_b (rs.take i.toNat) 1); (try have hb2_ := cnt_b (rs.take i.toNat) 2); (try have hb3_ := cnt_b (rs.take i.toNat) 3); (try have hb4_ := cnt_b (rs.take i.toNat) 4); (try have hb5_ := cnt_b (rs.take i.toNat) 5); (try have hb6_ := cnt_b (rs.take i.toNat) 6); (try have hb7_ := cnt_b (rs.take i.toNat) 7); (simp only [List.length_take] at *); omega))
            · rw [cnt_succ rs i 0 (by (first | omega | ((try have hb0_ := cnt_b (rs.take i.toNat) 0); (try have hb1_ := cnt_b (rs.take i.toNat) 1); (try have hb2_ := cnt_b (rs.take i.toNat) 2); (try have hb3_ := cnt_b (rs.take i.toNat) 3); (try have hb4_ := cnt_b (rs.take i.toNat) 4); (try have hb5_ := cnt_b (rs.take i.toNat) 5); (try have hb6_ := cnt_b (rs.take i.toNat) 6); (try have hb7_ := cnt_b (rs.take i.toNat) 7); (simp only [List.length_take] at *); omega))) (by (first | omega | ((try have hb0_ := cnt_b (rs.take i.toNat) 0); (try have hb1_ := cnt_b (rs.take i.toNat) 1); (try have hb2_ := cnt_b (rs.take i.toNat) 2); (try have hb3_ := cnt_b (rs.take i.toNat) 3); (try have hb4_ := cnt_b (rs.take i.toNat) 4); (try have hb5_ := cnt_b (rs.take i.toNat) 5); (try have hb6_ := cnt_b (rs.take i.toNat) 6); (try have hb7_ := cnt_b (rs.take i.toNat) 7); (simp only [List.length_take] at *); omega)))]; unfold clsL; (repeat' split) <;> omega
            · rw [cnt_succ rs i 1 (by (first | omega | ((try have hb0_ := cnt_b (rs.take i.toNat) 0); (try have hb1_ := cnt_b (rs.take i.toNat) 1); (try have hb2_ := cnt_b (rs.take i.toNat) 2); (try have hb3_ := cnt_b (rs.take i.toNat) 3); (try have hb4_ := cnt_b (rs.take i.toNat) 4); (try have hb5_ := cnt_b (rs.take i.toNat) 5); (try have hb6_ := cnt_b (rs.take i.toNat) 6); (try have hb7_ := cnt_b (rs.take i.toNat) 7); (simp only [List.length_take] at *); omega))) (by (first | omega | ((try have hb0_ := cnt_b (rs.take i.toNat) 0); (try have hb1_ := cnt_b (rs.take i.toNat) 1); (try have hb2_ := cnt_b (rs.take i.toNat) 2); (try have hb3_ := cnt_b (rs.take i.toNat) 3); (try have hb4_ := cnt_b (rs.take i.toNat) 4); (try have hb5_ := cnt_b (rs.take i.toNat) 5); (try have hb6_ := cnt_b (rs.take i.toNat) 6); (try have hb7_ := cnt_b (rs.take i.toNat) 7); (simp only [List.length_take] at *); omega)))]; unfold clsL; (repeat' split) <;> omega
            · rw [cnt_succ rs i 2 (by (first | omega | ((try have hb0_ := cnt_b (rs.take i.toNat) 0); (try have hb1_ := cnt_b (rs.take i.toNat) 1); (try have hb2_ := cnt_b (rs.take i.toNat) 2); (try have hb3_ := cnt_b (rs.take i.toNat) 3); (try have hb4_ := cnt_b (rs.take i.toNat) 4); (try have hb5_ := cnt_b (rs.take i.toNat) 5); (try have hb6_ := cnt_b (rs.take i.toNat) 6); (try have hb7_ := cnt_b (rs.take i.toNat) 7); (simp only [List.length_take] at *); omega))) (by (first | omega | ((try have hb0_ := cnt_b (rs.take i.toNat) 0); (try have hb1_ := cnt_b (rs.take i.toNat) 1); (try have hb2_ := cnt_b (rs.take i.toNat) 2); (try have hb3_ := cnt_b (rs.take i.toNat) 3); (try have hb4_ := cnt_b (rs.take i.toNat) 4); (try have hb5_ := cnt_b (rs.take i.toNat) 5); (try have hb6_ := cnt_b (rs.take i.toNat) 6); (try have hb7_ := cnt_b (rs.take i.toNat) 7); (simp only [List.length_take] at *); omega)))]; unfold clsL; (repeat' split) <;> omega
            · rw [cnt_succ rs i 3 (by (first | omega | ((try have hb0_ := cnt_b (rs.take i.toNat) 0); (try have hb1_ := cnt_b (rs.take i.toNat) 1); (try have hb2_ := cnt_b (rs.take i.toNat) 2); (try have hb3_ := cnt_b (rs.take i.toNat) 3); (try have hb4_ := cnt_b (rs.take i.toNat) 4); (try have hb5_ := cnt_b (rs.take i.toNat) 5); (try have hb6_ := cnt_b (rs.take i.toNat) 6); (try have hb7_ := cnt_b (rs.take i.toNat) 7); (simp only [List.length_take] at *); omega))) (by (first | omega | ((try have hb0_ := cnt_b (rs.take i.toNat) 0); (try have hb1_ := cnt_b (rs.take i.toNat) 1); (try have hb2_ := cnt_b (rs.take i.toNat) 2); (try have hb3_ := cnt_b (rs.take i.toNat) 3); (try have hb4_ := cnt_b (rs.take i.toNat) 4); (try have hb5_ := cnt_b (rs.take i.toNat) 5); (try have hb6_ := cnt_b (rs.take i.toNat) 6); (try have hb7_ := cnt_b (rs.take i.toNat) 7); (simp only [List.length_take] at *); omega)))]; unfold clsL; (repeat' split) <;> omega
            · rw [cnt_succ rs i 4 (by (first | omega | ((try have hb0_ := cnt_b (rs.take i.toNat) 0); (try have hb1_ := cnt_b (rs.take i.toNat) 1); (try have hb2_ := cnt_b (rs.take i.toNat) 2); (try have hb3_ := cnt_b (rs.take i.toNat) 3); (try have hb4_ := cnt_b (rs.take i.toNat) 4); (try have hb5_ := cnt_b (rs.take i.toNat) 5); (try have hb6_ := cnt_b (rs.take i.toNat) 6); (try have hb7_ := cnt_b (rs.take i.toNat) 7); (simp only [List.length_take] at *); omega))) (by (first | omega | ((try have hb0_ := cnt_b (rs.take i.toNat) 0); (try have hb1_ := cnt_b (rs.take i.toNat) 1); (try have hb2_ := cnt_b (rs.take i.toNat) 2); (try have hb3_ := cnt_b (rs.take i.toNat) 3); (try have hb4_ := cnt_b (rs.take i.toNat) 4); (try have hb5_ := cnt_b (rs.take i.toNat) 5); (try have hb6_ := cnt_b (rs.take i.toNat) 6); (try have hb7_ := cnt_b (rs.take i.toNat) 7); (simp only [List.length_take] at *); omega)))]; unfold clsL; (repeat' split) <;> omega
            · rw [cnt_succ rs i 5 (by (first | omega | ((try have hb0_ := cnt_b (rs.take i.toNat) 0); (try have hb1_ := cnt_b (rs.take i.toNat) 1); (try have hb2_ := cnt_b (rs.take i.toNat) 2); (try have hb3_ := cnt_b (rs.take i.toNat) 3); (try have hb4_ := cnt_b (rs.take i.toNat) 4); (try have hb5_ := cnt_b (rs.take i.toNat) 5); (try have hb6_ := cnt_b (rs.take i.toNat) 6); (try have hb7_ := cnt_b (rs.take i.toNat) 7); (simp only [List.length_take] at *); omega))) (by (first | omega | ((try have hb0_ := cnt_b (rs.take i.toNat) 0); (try have hb1_ := cnt_b (rs.take i.toNat) 1); (try have hb2_ := cnt_b (rs.take i.toNat) 2); (try have hb3_ := cnt_b (rs.take i.toNat) 3); (try have hb4_ := cnt_b (rs.take i.toNat) 4); (try have hb5_ := cnt_b (rs.take i.toNat) 5); (try have hb6_ := cnt_b (rs.take i.toNat) 6); (try have hb7_ := cnt_b (rs.take i.toNat) 7); (simp only [List.length_take] at *); omega)))]; unfold clsL; (repeat' split) <;> omega
            · rw [cnt_succ rs i 6 (by (first | omega | ((try have hb0_ := cnt_b (rs.take i.toNat) 0); (try have hb1_ := cnt_b (rs.take i.toNat) 1); (try have hb2_ := cnt_b (rs.take i.toNat) 2); (try have hb3_ := cnt_b (rs.take i.toNat) 3); (try have hb4_ := cnt_b (rs.take i.toNat) 4); (try have hb5_ := cnt_b (rs.take i.toNat) 5); (try have hb6_ := cnt_b (rs.take i.toNat) 6); (try have hb7_ := cnt_b (rs.take i.toNat) 7); (simp only [List.length_take] at *); omega))) (by (first | omega | ((try have hb0_ := cnt_b (rs.take i.toNat) 0); (try have hb1_ := cnt_b (rs.take i.toNat) 1); (try have hb2_ := cnt_b (rs.take i.toNat) 2); (try have hb3_ := cnt_b (rs.take i.toNat) 3); (try have hb4_ := cnt_b (rs.take i.toNat) 4); (try have hb5_ := cnt_b (rs.take i.toNat) 5); (try have hb6_ := cnt_b (rs.take i.toNat) 6); (try have hb7_ := cnt_b (rs.take i.toNat) 7); (simp only [List.length_take] at *); omega)))]; unfold clsL; (repeat' split) <;> omega
            · rw [cnt_succ rs i 7 (by (first | omega | ((try have hb0_ := cnt_b (rs.take i.toNat) 0); (try have hb1_ := cnt_b (rs.take i.toNat) 1); (try have hb2_ := cnt_b (rs.take i.toNat) 2); (try have hb3_ := cnt_b (rs.take i.toNat) 3); (try have hb4_ := cnt_b (rs.take i.toNat) 4); (try have hb5_ := cnt_b (rs.take i.toNat) 5); (try have hb6_ := cnt_b (rs.take i.toNat) 6); (try have hb7_ := cnt_b (rs.take i.toNat) 7); (simp only [List.length_take] at *); omega))) (by (first | omega | ((try have hb0_ := cnt_b (rs.take i.toNat) 0); (try have hb1_ := cnt_b (rs.take i.toNat) 1); (try have hb2_ := cnt_b (rs.take i.toNat) 2); (try have hb3_ := cnt_b (rs.take i.toNat) 3); (try have hb4_ := cnt_b (rs.take i.toNat) 4); (try have hb5_ := cnt_b (rs.take i.toNat) 5); (try have hb6_ := cnt_b (rs.take i.toNat) 6); (try have hb7_ := cnt_b (rs.take i.toNat) 7); (simp only [List.length_take] at *); omega)))]; unfold clsL; (repeat' split) <;> omega
          · skip
            have HF228 := HF136.conv (v' := .int .i64 5) (congrArg (Value.int .i64) hv137)
            clear HF136
            refine gw_ev HF228 (want_none rfl) rfl (by decide) (op_indexP (q := 5) Try.underlying58 gwsiz3 rfl (HF228.ev rfl) (HF228.ev rfl) (by decide) rfl) ?_
            intro a229 HF230; clear HF228
            refine gw_ev HF230 (want_none rfl) rfl (by decide) (op_load1 gwagg3 rfl (HF230.ev rfl) (blk_at (HO58.get 1 rfl) rfl)) ?_
            intro a231 HF232; clear HF230
            refine gw_ev HF232 (want_none rfl) rfl (by decide) (op_add rfl (HF232.ev rfl) (ev_c _ _) (by (first | omega | ((try have hb0_ := cnt_b (rs.take i.toNat) 0); (try have hb1_ := cnt_b (rs.take i.toNat) 1); (try have hb2_ := cnt_b (rs.take i.toNat) 2); (try have hb3_ := cnt_b (rs.take i.toNat) 3); (try have hb4_ := cnt_b (rs.take i.toNat) 4); (try have hb5_ := cnt_b (rs.take i.toNat) 5); (try have hb6_ := cnt_b (rs.take i.toNat) 6); (try have hb7_ := cnt_b (rs.take i.toNat) 7); (simp only [List.length_take] at *); omega)))) ?_
            intro a233 HF234; clear HF232
            refine gw_ev HF234 (want_none rfl) rfl (by decide) (op_indexP (q := 5) Try.underlying58 gwsiz3 rfl (HF234.ev rfl) (HF234.ev rfl) (by decide) rfl) ?_
            intro a235 HF236; clear HF234
            refine gw_set 1 HF236 HO58 rfl (want_none rfl) rfl (op_store1 gwsiz3 rfl (HF236.ev rfl) (HF236.ev rfl) rfl (blk_at (HO58.get 1 rfl) rfl) (blkf (HO58.get 1 rfl))) ?_
            intro a237 w239 HF238 HO240; clear HF236 HO58
            have HO241 : Own w w239 [Chunk.blk g48 (.cells #[.string ((rs.getD i.toNat z61).f0), .int .i64 ((rs.getD i.toNat z61).f1)] 61 (0, 0)), Chunk.blk g9 (.cells #[.int .i64 q0, .int .i64 q1, .int .i64 q2, .int .i64 q3, .int .i64 q4, .int .i64 (q5 + 1), .int .i64 q6, .int .i64 q7] 58 (0, 0)), Chunk.blk g2 (.cells #[.int .i64 0, .int .i64 0, .int .i64 0, .int .i64 0, .int .i64 0, .int .i64 0, .int .i64 0, .int .i64 0] 58 (0, 0))] := HO240
            clear HO240
            refine wpList_nil ?_
            refine gw_blk ?_
            refine gw_nx (hK36 _ _ ?_)
            refine wp_region_lit ?_
            refine gw_ev HF238 (want_none rfl) rfl (by decide) (op_add rfl (HF238.ev rfl) (ev_c _ _) (by (first | omega | ((try have hb0_ := cnt_b (rs.take i.toNat) 0); (try have hb1_ := cnt_b (rs.take i.toNat) 1); (try have hb2_ := cnt_b (rs.take i.toNat) 2); (try have hb3_ := cnt_b (rs.take i.toNat) 3); (try have hb4_ := cnt_b (rs.take i.toNat) 4); (try have hb5_ := cnt_b (rs.take i.toNat) 5); (try have hb6_ := cnt_b (rs.take i.toNat) 6); (try have hb7_ := cnt_b (rs.take i.toNat) 7); (simp only [List.length_take] at *); omega)))) ?_
            intro a242 HF243; clear HF238
            refine gw_ev HF243 (want_none rfl) rfl (by decide) (op_move rfl (HF243.ev rfl)) ?_
            intro a244 HF245; clear HF243
            refine wpList_nil ?_
            refine gw_nx ⟨_, ?_, i + 1, q0, q1, q2, q3, q4, q5 + 1, q6, q7, (HF245.pick (t := 9) rfl (HF245.pick (t := 2) rfl (HF245.pick (t := 3) rfl (HF245.pick (t := 7) rfl (HF245.pick (t := 8) rfl HF245.nil))))), HO241.sel [1, 2] (by decide), ?_, ?_, ?_, ?_, ?_, ?_, ?_, ?_, ?_, rfl⟩
            · rw [hm29]; (first | omega | ((try have hb0_ := cnt_b (rs.take i.toNat) 0); (try have hb1_ := cnt_b (rs.take i.toNat) 1); (try have hb2_ := cnt_b (rs.take i.toNat) 2); (try have hb3_ := cnt_b (rs.take i.toNat) 3); (try have hb4_ := cnt_b (rs.take i.toNat) 4); (try have hb5_ := cnt_b (rs.take i.toNat) 5); (try have hb6_ := cnt_b (rs.take i.toNat) 6); (try have hb7_ := cnt_b (rs.take i.toNat) 7); (simp only [List.length_take] at *); omega))
            · (first | omega | ((try have hb0_ := cnt_b (rs.take i.toNat) 0); (try have hb1_ := cnt_b (rs.take i.toNat) 1); (try have hb2_ := cnt_b (rs.take i.toNat) 2); (try have hb3_ := cnt_b (rs.take i.toNat) 3); (try have hb4_ := cnt_b (rs.take i.toNat) 4); (try have hb5_ := cnt_b (rs.take i.toNat) 5); (try have hb6_ := cnt_b (rs.take i.toNat) 6); (try have hb7_ := cnt_b (rs.take i.toNat) 7); (simp only [List.length_take] at *); omega))
            · rw [cnt_succ rs i 0 (by (first | omega | ((try have hb0_ := cnt_b (rs.take i.toNat) 0); (try have hb1_ := cnt_b (rs.take i.toNat) 1); (try have hb2_ := cnt_b (rs.take i.toNat) 2); (try have hb3_ := cnt_b (rs.take i.toNat) 3); (try have hb4_ := cnt_b (rs.take i.toNat) 4); (try have hb5_ := cnt_b (rs.take i.toNat) 5); (try have hb6_ := cnt_b (rs.take i.toNat) 6); (try have hb7_ := cnt_b (rs.take i.toNat) 7); (simp only [List.length_take] at *); omega))) (by (first | omega | ((try have hb0_ := cnt_b (rs.take i.toNat) 0); (try have hb1_ := cnt_b (rs.take i.toNat) 1); (try have hb2_ := cnt_b (rs.take i.toNat) 2); (try have hb3_ := cnt_b (rs.take i.toNat) 3); (try have hb4_ := cnt_b (rs.take i.toNat) 4); (try have hb5_ := cnt_b (rs.take i.toNat) 5); (try have hb6_ := cnt_b (rs.take i.toNat) 6); (try have hb7_ := cnt_b (rs.take i.toNat) 7); (simp only [List.length_take] at *); omega)))]; unfold clsL; (repeat' split) <;> omega
            · rw [cnt_succ rs i 1 (by (first | omega | ((try have hb0_ := cnt_b (rs.take i.toNat) 0); (try have hb1_ := cnt_b (rs.take i.toNat) 1); (try have hb2_ := cnt_b (rs.take i.toNat) 2); (try have hb3_ := cnt_b (rs.take i.toNat) 3); (try have hb4_ := cnt_b (rs.take i.toNat) 4); (try have hb5_ := cnt_b (rs.take i.toNat) 5); (try have hb6_ := cnt_b (rs.take i.toNat) 6); (try have hb7_ := cnt_b (rs.take i.toNat) 7); (simp only [List.length_take] at *); omega))) (by (first | omega | ((try have hb0_ := cnt_b (rs.take i.toNat) 0); (try have hb1_ := cnt_b (rs.take i.toNat) 1); (try have hb2_ := cnt_b (rs.take i.toNat) 2); (try have hb3_ := cnt_b (rs.take i.toNat) 3); (try have hb4_ := cnt_b (rs.take i.toNat) 4); (try have hb5_ := cnt_b (rs.take i.toNat) 5); (try have hb6_ := cnt_b (rs.take i.toNat) 6); (try have hb7_ := cnt_b (rs.take i.toNat) 7); (simp only [List.length_take] at *); omega)))]; unfold clsL; (repeat' split) <;> omega
            · rw [cnt_succ rs i 2 (by (first | omega | ((try have hb0_ := cnt_b (rs.take i.toNat) 0); (try have hb1_ := cnt_b (rs.take i.toNat) 1); (try have hb2_ := cnt_b (rs.take i.toNat) 2); (try have hb3_ := cnt_b (rs.take i.toNat) 3); (try have hb4_ := cnt_b (rs.take i.toNat) 4); (try have hb5_ := cnt_b (rs.take i.toNat) 5); (try have hb6_ := cnt_b (rs.take i.toNat) 6); (try have hb7_ := cnt_b (rs.take i.toNat) 7); (simp only [List.length_take] at *); omega))) (by (first | omega | ((try have hb0_ := cnt_b (rs.take i.toNat) 0); (try have hb1_ := cnt_b (rs.take i.toNat) 1); (try have hb2_ := cnt_b (rs.take i.toNat) 2); (try have hb3_ := cnt_b (rs.take i.toNat) 3); (try have hb4_ := cnt_b (rs.take i.toNat) 4); (try have hb5_ := cnt_b (rs.take i.toNat) 5); (try have hb6_ := cnt_b (rs.take i.toNat) 6); (try have hb7_ := cnt_b (rs.take i.toNat) 7); (simp only [List.length_take] at *); omega)))]; unfold clsL; (repeat' split) <;> omega
            · rw [cnt_succ rs i 3 (by (first | omega | ((try have hb0_ := cnt_b (rs.take i.toNat) 0); (try have hb1_ := cnt_b (rs.take i.toNat) 1); (try have hb2_ := cnt_b (rs.take i.toNat) 2); (try have hb3_ := cnt_b (rs.take i.toNat) 3); (try have hb4_ := cnt_b (rs.take i.toNat) 4); (try have hb5_ := cnt_b (rs.take i.toNat) 5); (try have hb6_ := cnt_b (rs.take i.toNat) 6); (try have hb7_ := cnt_b (rs.take i.toNat) 7); (simp only [List.length_take] at *); omega))) (by (first | omega | ((try have hb0_ := cnt_b (rs.take i.toNat) 0); (try have hb1_ := cnt_b (rs.take i.toNat) 1); (try have hb2_ := cnt_b (rs.take i.toNat) 2); (try have hb3_ := cnt_b (rs.take i.toNat) 3); (try have hb4_ := cnt_b (rs.take i.toNat) 4); (try have hb5_ := cnt_b (rs.take i.toNat) 5); (try have hb6_ := cnt_b (rs.take i.toNat) 6); (try have hb7_ := cnt_b (rs.take i.toNat) 7); (simp only [List.length_take] at *); omega)))]; unfold clsL; (repeat' split) <;> omega
            · rw [cnt_succ rs i 4 (by (first | omega | ((try have hb0_ := cnt_b (rs.take i.toNat) 0); (try have hb1_ := cnt_b (rs.take i.toNat) 1); (try have hb2_ := cnt_b (rs.take i.toNat) 2); (try have hb3_ := cnt_b (rs.take i.toNat) 3); (try have hb4_ := cnt_b (rs.take i.toNat) 4); (try have hb5_ := cnt_b (rs.take i.toNat) 5); (try have hb6_ := cnt_b (rs.take i.toNat) 6); (try have hb7_ := cnt_b (rs.take i.toNat) 7); (simp only [List.length_take] at *); omega))) (by (first | omega | ((try have hb0_ := cnt_b (rs.take i.toNat) 0); (try have hb1_ := cnt_b (rs.take i.toNat) 1); (try have hb2_ := cnt_b (rs.take i.toNat) 2); (try have hb3_ := cnt_b (rs.take i.toNat) 3); (try have hb4_ := cnt_b (rs.take i.toNat) 4); (try have hb5_ := cnt_b (rs.take i.toNat) 5); (try have hb6_ := cnt_b (rs.take i.toNat) 6); (try have hb7_ := cnt_b (rs.take i.toNat) 7); (simp only [List.length_take] at *); omega)))]; unfold clsL; (repeat' split) <;> omega
            · rw [cnt_succ rs i 5 (by (first | omega | ((try have hb0_ := cnt_b (rs.take i.toNat) 0); (try have hb1_ := cnt_b (rs.take i.toNat) 1); (try have hb2_ := cnt_b (rs.take i.toNat) 2); (try have hb3_ := cnt_b (rs.take i.toNat) 3); (try have hb4_ := cnt_b (rs.take i.toNat) 4); (try have hb5_ := cnt_b (rs.take i.toNat) 5); (try have hb6_ := cnt_b (rs.take i.toNat) 6); (try have hb7_ := cnt_b (rs.take i.toNat) 7); (simp only [List.length_take] at *); omega))) (by (first | omega | ((try have hb0_ := cnt_b (rs.take i.toNat) 0); (try have hb1_ := cnt_b (rs.take i.toNat) 1); (try have hb2_ := cnt_b (rs.take i.toNat) 2); (try have hb3_ := cnt_b (rs.take i.toNat) 3); (try have hb4_ := cnt_b (rs.take i.toNat) 4); (try have hb5_ := cnt_b (rs.take i.toNat) 5); (try have hb6_ := cnt_b (rs.take i.toNat) 6); (try have hb7_ := cnt_b (rs.take i.toNat) 7); (simp only [List.length_take] at *); omega)))]; unfold clsL; (repeat' split) <;> omega
            · rw [cnt_succ rs i 6 (by (first | omega | ((try have hb0_ := cnt_b (rs.take i.toNat) 0); (try have hb1_ := cnt_b (rs.take i.toNat) 1); (try have hb2_ := cnt_b (rs.take i.toNat) 2); (try have hb3_ := cnt_b (rs.take i.toNat) 3); (try have hb4_ := cnt_b (rs.take i.toNat) 4); (try have hb5_ := cnt_b (rs.take i.toNat) 5); (try have hb6_ := cnt_b (rs.take i.toNat) 6); (try have hb7_ := cnt_b (rs.take i.toNat) 7); (simp only [List.length_take] at *); omega))) (by (first | omega | ((try have hb0_ := cnt_b (rs.take i.toNat) 0); (try have hb1_ := cnt_b (rs.take i.toNat) 1); (try have hb2_ := cnt_b (rs.take i.toNat) 2); (try have hb3_ := cnt_b (rs.take i.toNat) 3); (try have hb4_ := cnt_b (rs.take i.toNat) 4); (try have hb5_ := cnt_b (rs.take i.toNat) 5); (try have hb6_ := cnt_b (rs.take i.toNat) 6); (try have hb7_ := cnt_b (rs.take i.toNat) 7); (simp only [List.length_take] at *); omega)))]; unfold clsL; (repeat' split) <;> omega
            · rw [cnt_succ rs i 7 (by (first | omega | ((try have hb0_ := cnt_b (rs.take i.toNat) 0); (try have hb1_ := cnt_b (rs.take i.toNat) 1); (try have hb2_ := cnt_b (rs.take i.toNat) 2); (try have hb3_ := cnt_b (rs.take i.toNat) 3); (try have hb4_ := cnt_b (rs.take i.toNat) 4); (try have hb5_ := cnt_b (rs.take i.toNat) 5); (try have hb6_ := cnt_b (rs.take i.toNat) 6); (try have hb7_ := cnt_b (rs.take i.toNat) 7); (simp only [List.length_take] at *); omega))) (by (first | omega | ((try have hb0_ := cnt_b (rs.take i.toNat) 0); (try have hb1_ := cnt_b (rs.take i.toNat) 1); (try have hb2_ := cnt_b (rs.take i.toNat) 2); (try have hb3_ := cnt_b (rs.take i.toNat) 3); (try have hb4_ := cnt_b (rs.take i.toNat) 4); (try have hb5_ := cnt_b (rs.take i.toNat) 5); (try have hb6_ := cnt_b (rs.take i.toNat) 6); (try have hb7_ := cnt_b (rs.take i.toNat) 7); (simp only [List.length_take] at *); omega)))]; unfold clsL; (repeat' split) <;> omega
          · skip
            have HF246 := HF136.conv (v' := .int .i64 6) (congrArg (Value.int .i64) hv137)
            clear HF136
            refine gw_ev HF246 (want_none rfl) rfl (by decide) (op_indexP (q := 6) Try.underlying58 gwsiz3 rfl (HF246.ev rfl) (HF246.ev rfl) (by decide) rfl) ?_
            intro a247 HF248; clear HF246
            refine gw_ev HF248 (want_none rfl) rfl (by decide) (op_load1 gwagg3 rfl (HF248.ev rfl) (blk_at (HO58.get 1 rfl) rfl)) ?_
            intro a249 HF250; clear HF248
            refine gw_ev HF250 (want_none rfl) rfl (by decide) (op_add rfl (HF250.ev rfl) (ev_c _ _) (by (first | omega | ((try have hb0_ := cnt_b (rs.take i.toNat) 0); (try have hb1_ := cnt_b (rs.take i.toNat) 1); (try have hb2_ := cnt_b (rs.take i.toNat) 2); (try have hb3_ := cnt_b (rs.take i.toNat) 3); (try have hb4_ := cnt_b (rs.take i.toNat) 4); (try have hb5_ := cnt_b (rs.take i.toNat) 5); (try have hb6_ := cnt_b (rs.take i.toNat) 6); (try have hb7_ := cnt_b (rs.take i.toNat) 7); (simp only [List.length_take] at *); omega)))) ?_
            intro a251 HF252; clear HF250
            refine gw_ev HF252 (want_none rfl) rfl (by decide) (op_indexP (q := 6) Try.underlying58 gwsiz3 rfl (HF252.ev rfl) (HF252.ev rfl) (by decide) rfl) ?_
            intro a253 HF254; clear HF252
            refine gw_set 1 HF254 HO58 rfl (want_none rfl) rfl (op_store1 gwsiz3 rfl (HF254.ev rfl) (HF254.ev rfl) rfl (blk_at (HO58.get 1 rfl) rfl) (blkf (HO58.get 1 rfl))) ?_
            intro a255 w257 HF256 HO258; clear HF254 HO58
            have HO259 : Own w w257 [Chunk.blk g48 (.cells #[.string ((rs.getD i.toNat z61).f0), .int .i64 ((rs.getD i.toNat z61).f1)] 61 (0, 0)), Chunk.blk g9 (.cells #[.int .i64 q0, .int .i64 q1, .int .i64 q2, .int .i64 q3, .int .i64 q4, .int .i64 q5, .int .i64 (q6 + 1), .int .i64 q7] 58 (0, 0)), Chunk.blk g2 (.cells #[.int .i64 0, .int .i64 0, .int .i64 0, .int .i64 0, .int .i64 0, .int .i64 0, .int .i64 0, .int .i64 0] 58 (0, 0))] := HO258
            clear HO258
            refine wpList_nil ?_
            refine gw_blk ?_
            refine gw_nx (hK36 _ _ ?_)
            refine wp_region_lit ?_
            refine gw_ev HF256 (want_none rfl) rfl (by decide) (op_add rfl (HF256.ev rfl) (ev_c _ _) (by (first | omega | ((try have hb0_ := cnt_b (rs.take i.toNat) 0); (try have hb1_ := cnt_b (rs.take i.toNat) 1); (try have hb2_ := cnt_b (rs.take i.toNat) 2); (try have hb3_ := cnt_b (rs.take i.toNat) 3); (try have hb4_ := cnt_b (rs.take i.toNat) 4); (try have hb5_ := cnt_b (rs.take i.toNat) 5); (try have hb6_ := cnt_b (rs.take i.toNat) 6); (try have hb7_ := cnt_b (rs.take i.toNat) 7); (simp only [List.length_take] at *); omega)))) ?_
            intro a260 HF261; clear HF256
            refine gw_ev HF261 (want_none rfl) rfl (by decide) (op_move rfl (HF261.ev rfl)) ?_
            intro a262 HF263; clear HF261
            refine wpList_nil ?_
            refine gw_nx ⟨_, ?_, i + 1, q0, q1, q2, q3, q4, q5, q6 + 1, q7, (HF263.pick (t := 9) rfl (HF263.pick (t := 2) rfl (HF263.pick (t := 3) rfl (HF263.pick (t := 7) rfl (HF263.pick (t := 8) rfl HF263.nil))))), HO259.sel [1, 2] (by decide), ?_, ?_, ?_, ?_, ?_, ?_, ?_, ?_, ?_, rfl⟩
            · rw [hm29]; (first | omega | ((try have hb0_ := cnt_b (rs.take i.toNat) 0); (try have hb1_ := cnt_b (rs.take i.toNat) 1); (try have hb2_ := cnt_b (rs.take i.toNat) 2); (try have hb3_ := cnt_b (rs.take i.toNat) 3); (try have hb4_ := cnt_b (rs.take i.toNat) 4); (try have hb5_ := cnt_b (rs.take i.toNat) 5); (try have hb6_ := cnt_b (rs.take i.toNat) 6); (try have hb7_ := cnt_b (rs.take i.toNat) 7); (simp only [List.length_take] at *); omega))
            · (first | omega | ((try have hb0_ := cnt_b (rs.take i.toNat) 0); (try have hb1_ := cnt_b (rs.take i.toNat) 1); (try have hb2_ := cnt_b (rs.take i.toNat) 2); (try have hb3_ := cnt_b (rs.take i.toNat) 3); (try have hb4_ := cnt_b (rs.take i.toNat) 4); (try have hb5_ := cnt_b (rs.take i.toNat) 5); (try have hb6_ := cnt_b (rs.take i.toNat) 6); (try have hb7_ := cnt_b (rs.take i.toNat) 7); (simp only [List.length_take] at *); omega))
            · rw [cnt_succ rs i 0 (by (first | omega | ((try have hb0_ := cnt_b (rs.take i.toNat) 0); (try have hb1_ := cnt_b (rs.take i.toNat) 1); (try have hb2_ := cnt_b (rs.take i.toNat) 2); (try have hb3_ := cnt_b (rs.take i.toNat) 3); (try have hb4_ := cnt_b (rs.take i.toNat) 4); (try have hb5_ := cnt_b (rs.take i.toNat) 5); (try have hb6_ := cnt_b (rs.take i.toNat) 6); (try have hb7_ := cnt_b (rs.take i.toNat) 7); (simp only [List.length_take] at *); omega))) (by (first | omega | ((try have hb0_ := cnt_b (rs.take i.toNat) 0); (try have hb1_ := cnt_b (rs.take i.toNat) 1); (try have hb2_ := cnt_b (rs.take i.toNat) 2); (try have hb3_ := cnt_b (rs.take i.toNat) 3); (try have hb4_ := cnt_b (rs.take i.toNat) 4); (try have hb5_ := cnt_b (rs.take i.toNat) 5); (try have hb6_ := cnt_b (rs.take i.toNat) 6); (try have hb7_ := cnt_b (rs.take i.toNat) 7); (simp only [List.length_take] at *); omega)))]; unfold clsL; (repeat' split) <;> omega
            · rw [cnt_succ rs i 1 (by (first | omega | ((try have hb0_ := cnt_b (rs.take i.toNat) 0); (try have hb1_ := cnt_b (rs.take i.toNat) 1); (try have hb2_ := cnt_b (rs.take i.toNat) 2); (try have hb3_ := cnt_b (rs.take i.toNat) 3); (try have hb4_ := cnt_b (rs.take i.toNat) 4); (try have hb5_ := cnt_b (rs.take i.toNat) 5); (try have hb6_ := cnt_b (rs.take i.toNat) 6); (try have hb7_ := cnt_b (rs.take i.toNat) 7); (simp only [List.length_take] at *); omega))) (by (first | omega | ((try have hb0_ := cnt_b (rs.take i.toNat) 0); (try have hb1_ := cnt_b (rs.take i.toNat) 1); (try have hb2_ := cnt_b (rs.take i.toNat) 2); (try have hb3_ := cnt_b (rs.take i.toNat) 3); (try have hb4_ := cnt_b (rs.take i.toNat) 4); (try have hb5_ := cnt_b (rs.take i.toNat) 5); (try have hb6_ := cnt_b (rs.take i.toNat) 6); (try have hb7_ := cnt_b (rs.take i.toNat) 7); (simp only [List.length_take] at *); omega)))]; unfold clsL; (repeat' split) <;> omega
            · rw [cnt_succ rs i 2 (by (first | omega | ((try have hb0_ := cnt_b (rs.take i.toNat) 0); (try have hb1_ := cnt_b (rs.take i.toNat) 1); (try have hb2_ := cnt_b (rs.take i.toNat) 2); (try have hb3_ := cnt_b (rs.take i.toNat) 3); (try have hb4_ := cnt_b (rs.take i.toNat) 4); (try have hb5_ := cnt_b (rs.take i.toNat) 5); (try have hb6_ := cnt_b (rs.take i.toNat) 6); (try have hb7_ := cnt_b (rs.take i.toNat) 7); (simp only [List.length_take] at *); omega))) (by (first | omega | ((try have hb0_ := cnt_b (rs.take i.toNat) 0); (try have hb1_ := cnt_b (rs.take i.toNat) 1); (try have hb2_ := cnt_b (rs.take i.toNat) 2); (try have hb3_ := cnt_b (rs.take i.toNat) 3); (try have hb4_ := cnt_b (rs.take i.toNat) 4); (try have hb5_ := cnt_b (rs.take i.toNat) 5); (try have hb6_ := cnt_b (rs.take i.toNat) 6); (try have hb7_ := cnt_b (rs.take i.toNat) 7); (simp only [List.length_take] at *); omega)))]; unfold clsL; (repeat' split) <;> omega
            · rw [cnt_succ rs i 3 (by (first | omega | ((try have hb0_ := cnt_b (rs.take i.toNat) 0); (try have hb1_ := cnt_b (rs.take i.toNat) 1); (try have hb2_ := cnt_b (rs.take i.toNat) 2); (try have hb3_ := cnt_b (rs.take i.toNat) 3); (try have hb4_ := cnt_b (rs.take i.toNat) 4); (try have hb5_ := cnt_b (rs.take i.toNat) 5); (try have hb6_ := cnt_b (rs.take i.toNat) 6); (try have hb7_ := cnt_b (rs.take i.toNat) 7); (simp only [List.length_take] at *); omega))) (by (first | omega | ((try have hb0_ := cnt_b (rs.take i.toNat) 0); (try have hb1_ := cnt_b (rs.take i.toNat) 1); (try have hb2_ := cnt_b (rs.take i.toNat) 2); (try have hb3_ := cnt_b (rs.take i.toNat) 3); (try have hb4_ := cnt_b (rs.take i.toNat) 4); (try have hb5_ := cnt_b (rs.take i.toNat) 5); (try have hb6_ := cnt_b (rs.take i.toNat) 6); (try have hb7_ := cnt_b (rs.take i.toNat) 7); (simp only [List.length_take] at *); omega)))]; unfold clsL; (repeat' split) <;> omega
            · rw [cnt_succ rs i 4 (by (first | omega | ((try have hb0_ := cnt_b (rs.take i.toNat) 0); (try have hb1_ := cnt_b (rs.take i.toNat) 1); (try have hb2_ := cnt_b (rs.take i.toNat) 2); (try have hb3_ := cnt_b (rs.take i.toNat) 3); (try have hb4_ := cnt_b (rs.take i.toNat) 4); (try have hb5_ := cnt_b (rs.take i.toNat) 5); (try have hb6_ := cnt_b (rs.take i.toNat) 6); (try have hb7_ := cnt_b (rs.take i.toNat) 7); (simp only [List.length_take] at *); omega))) (by (first | omega | ((try have hb0_ := cnt_b (rs.take i.toNat) 0); (try have hb1_ := cnt_b (rs.take i.toNat) 1); (try have hb2_ := cnt_b (rs.take i.toNat) 2); (try have hb3_ := cnt_b (rs.take i.toNat) 3); (try have hb4_ := cnt_b (rs.take i.toNat) 4); (try have hb5_ := cnt_b (rs.take i.toNat) 5); (try have hb6_ := cnt_b (rs.take i.toNat) 6); (try have hb7_ := cnt_b (rs.take i.toNat) 7); (simp only [List.length_take] at *); omega)))]; unfold clsL; (repeat' split) <;> omega
            · rw [cnt_succ rs i 5 (by (first | omega | ((try have hb0_ := cnt_b (rs.take i.toNat) 0); (try have hb1_ := cnt_b (rs.take i.toNat) 1); (try have hb2_ := cnt_b (rs.take i.toNat) 2); (try have hb3_ := cnt_b (rs.take i.toNat) 3); (try have hb4_ := cnt_b (rs.take i.toNat) 4); (try have hb5_ := cnt_b (rs.take i.toNat) 5); (try have hb6_ := cnt_b (rs.take i.toNat) 6); (try have hb7_ := cnt_b (rs.take i.toNat) 7); (simp only [List.length_take] at *); omega))) (by (first | omega | ((try have hb0_ := cnt_b (rs.take i.toNat) 0); (try have hb1_ := cnt_b (rs.take i.toNat) 1); (try have hb2_ := cnt_b (rs.take i.toNat) 2); (try have hb3_ := cnt_b (rs.take i.toNat) 3); (try have hb4_ := cnt_b (rs.take i.toNat) 4); (try have hb5_ := cnt_b (rs.take i.toNat) 5); (try have hb6_ := cnt_b (rs.take i.toNat) 6); (try have hb7_ := cnt_b (rs.take i.toNat) 7); (simp only [List.length_take] at *); omega)))]; unfold clsL; (repeat' split) <;> omega
            · rw [cnt_succ rs i 6 (by (first | omega | ((try have hb0_ := cnt_b (rs.take i.toNat) 0); (try have hb1_ := cnt_b (rs.take i.toNat) 1); (try have hb2_ := cnt_b (rs.take i.toNat) 2); (try have hb3_ := cnt_b (rs.take i.toNat) 3); (try have hb4_ := cnt_b (rs.take i.toNat) 4); (try have hb5_ := cnt_b (rs.take i.toNat) 5); (try have hb6_ := cnt_b (rs.take i.toNat) 6); (try have hb7_ := cnt_b (rs.take i.toNat) 7); (simp only [List.length_take] at *); omega))) (by (first | omega | ((try have hb0_ := cnt_b (rs.take i.toNat) 0); (try have hb1_ := cnt_b (rs.take i.toNat) 1); (try have hb2_ := cnt_b (rs.take i.toNat) 2); (try have hb3_ := cnt_b (rs.take i.toNat) 3); (try have hb4_ := cnt_b (rs.take i.toNat) 4); (try have hb5_ := cnt_b (rs.take i.toNat) 5); (try have hb6_ := cnt_b (rs.take i.toNat) 6); (try have hb7_ := cnt_b (rs.take i.toNat) 7); (simp only [List.length_take] at *); omega)))]; unfold clsL; (repeat' split) <;> omega
            · rw [cnt_succ rs i 7 (by (first | omega | ((try have hb0_ := cnt_b (rs.take i.toNat) 0); (try have hb1_ := cnt_b (rs.take i.toNat) 1); (try have hb2_ := cnt_b (rs.take i.toNat) 2); (try have hb3_ := cnt_b (rs.take i.toNat) 3); (try have hb4_ := cnt_b (rs.take i.toNat) 4); (try have hb5_ := cnt_b (rs.take i.toNat) 5); (try have hb6_ := cnt_b (rs.take i.toNat) 6); (try have hb7_ := cnt_b (rs.take i.toNat) 7); (simp only [List.length_take] at *); omega))) (by (first | omega | ((try have hb0_ := cnt_b (rs.take i.toNat) 0); (try have hb1_ := cnt_b (rs.take i.toNat) 1); (try have hb2_ := cnt_b (rs.take i.toNat) 2); (try have hb3_ := cnt_b (rs.take i.toNat) 3); (try have hb4_ := cnt_b (rs.take i.toNat) 4); (try have hb5_ := cnt_b (rs.take i.toNat) 5); (try have hb6_ := cnt_b (rs.take i.toNat) 6); (try have hb7_ := cnt_b (rs.take i.toNat) 7); (simp only [List.length_take] at *); omega)))]; unfold clsL; (repeat' split) <;> omega
          · skip
            have HF264 := HF136.conv (v' := .int .i64 7) (congrArg (Value.int .i64) hv137)
            clear HF136
            refine gw_ev HF264 (want_none rfl) rfl (by decide) (op_indexP (q := 7) Try.underlying58 gwsiz3 rfl (HF264.ev rfl) (HF264.ev rfl) (by decide) rfl) ?_
            intro a265 HF266; clear HF264
            refine gw_ev HF266 (want_none rfl) rfl (by decide) (op_load1 gwagg3 rfl (HF266.ev rfl) (blk_at (HO58.get 1 rfl) rfl)) ?_
            intro a267 HF268; clear HF266
            refine gw_ev HF268 (want_none rfl) rfl (by decide) (op_add rfl (HF268.ev rfl) (ev_c _ _) (by (first | omega | ((try have hb0_ := cnt_b (rs.take i.toNat) 0); (try have hb1_ := cnt_b (rs.take i.toNat) 1); (try have hb2_ := cnt_b (rs.take i.toNat) 2); (try have hb3_ := cnt_b (rs.take i.toNat) 3); (try have hb4_ := cnt_b (rs.take i.toNat) 4); (try have hb5_ := cnt_b (rs.take i.toNat) 5); (try have hb6_ := cnt_b (rs.take i.toNat) 6); (try have hb7_ := cnt_b (rs.take i.toNat) 7); (simp only [List.length_take] at *); omega)))) ?_
            intro a269 HF270; clear HF268
            refine gw_ev HF270 (want_none rfl) rfl (by decide) (op_indexP (q := 7) Try.underlying58 gwsiz3 rfl (HF270.ev rfl) (HF270.ev rfl) (by decide) rfl) ?_
            intro a271 HF272; clear HF270
            refine gw_set 1 HF272 HO58 rfl (want_none rfl) rfl (op_store1 gwsiz3 rfl (HF272.ev rfl) (HF272.ev rfl) rfl (blk_at (HO58.get 1 rfl) rfl) (blkf (HO58.get 1 rfl))) ?_
            intro a273 w275 HF274 HO276; clear HF272 HO58
            have HO277 : Own w w275 [Chunk.blk g48 (.cells #[.string ((rs.getD i.toNat z61).f0), .int .i64 ((rs.getD i.toNat z61).f1)] 61 (0, 0)), Chunk.blk g9 (.cells #[.int .i64 q0, .int .i64 q1, .int .i64 q2, .int .i64 q3, .int .i64 q4, .int .i64 q5, .int .i64 q6, .int .i64 (q7 + 1)] 58 (0, 0)), Chunk.blk g2 (.cells #[.int .i64 0, .int .i64 0, .int .i64 0, .int .i64 0, .int .i64 0, .int .i64 0, .int .i64 0, .int .i64 0] 58 (0, 0))] := HO276
            clear HO276
            refine wpList_nil ?_
            refine gw_blk ?_
            refine gw_nx (hK36 _ _ ?_)
            refine wp_region_lit ?_
            refine gw_ev HF274 (want_none rfl) rfl (by decide) (op_add rfl (HF274.ev rfl) (ev_c _ _) (by (first | omega | ((try have hb0_ := cnt_b (rs.take i.toNat) 0); (try have hb1_ := cnt_b (rs.take i.toNat) 1); (try have hb2_ := cnt_b (rs.take i.toNat) 2); (try have hb3_ := cnt_b (rs.take i.toNat) 3); (try have hb4_ := cnt_b (rs.take i.toNat) 4); (try have hb5_ := cnt_b (rs.take i.toNat) 5); (try have hb6_ := cnt_b (rs.take i.toNat) 6); (try have hb7_ := cnt_b (rs.take i.toNat) 7); (simp only [List.length_take] at *); omega)))) ?_
            intro a278 HF279; clear HF274
            refine gw_ev HF279 (want_none rfl) rfl (by decide) (op_move rfl (HF279.ev rfl)) ?_
            intro a280 HF281; clear HF279
            refine wpList_nil ?_
            refine gw_nx ⟨_, ?_, i + 1, q0, q1, q2, q3, q4, q5, q6, q7 + 1, (HF281.pick (t := 9) rfl (HF281.pick (t := 2) rfl (HF281.pick (t := 3) rfl (HF281.pick (t := 7) rfl (HF281.pick (t := 8) rfl HF281.nil))))), HO277.sel [1, 2] (by decide), ?_, ?_, ?_, ?_, ?_, ?_, ?_, ?_, ?_, rfl⟩
            · rw [hm29]; (first | omega | ((try have hb0_ := cnt_b (rs.take i.toNat) 0); (try have hb1_ := cnt_b (rs.take i.toNat) 1); (try have hb2_ := cnt_b (rs.take i.toNat) 2); (try have hb3_ := cnt_b (rs.take i.toNat) 3); (try have hb4_ := cnt_b (rs.take i.toNat) 4); (try have hb5_ := cnt_b (rs.take i.toNat) 5); (try have hb6_ := cnt_b (rs.take i.toNat) 6); (try have hb7_ := cnt_b (rs.take i.toNat) 7); (simp only [List.length_take] at *); omega))
            · (first | omega | ((try have hb0_ := cnt_b (rs.take i.toNat) 0); (try have hb1_ := cnt_b (rs.take i.toNat) 1); (try have hb2_ := cnt_b (rs.take i.toNat) 2); (try have hb3_ := cnt_b (rs.take i.toNat) 3); (try have hb4_ := cnt_b (rs.take i.toNat) 4); (try have hb5_ := cnt_b (rs.take i.toNat) 5); (try have hb6_ := cnt_b (rs.take i.toNat) 6); (try have hb7_ := cnt_b (rs.take i.toNat) 7); (simp only [List.length_take] at *); omega))
            · rw [cnt_succ rs i 0 (by (first | omega | ((try have hb0_ := cnt_b (rs.take i.toNat) 0); (try have hb1_ := cnt_b (rs.take i.toNat) 1); (try have hb2_ := cnt_b (rs.take i.toNat) 2); (try have hb3_ := cnt_b (rs.take i.toNat) 3); (try have hb4_ := cnt_b (rs.take i.toNat) 4); (try have hb5_ := cnt_b (rs.take i.toNat) 5); (try have hb6_ := cnt_b (rs.take i.toNat) 6); (try have hb7_ := cnt_b (rs.take i.toNat) 7); (simp only [List.length_take] at *); omega))) (by (first | omega | ((try have hb0_ := cnt_b (rs.take i.toNat) 0); (try have hb1_ := cnt_b (rs.take i.toNat) 1); (try have hb2_ := cnt_b (rs.take i.toNat) 2); (try have hb3_ := cnt_b (rs.take i.toNat) 3); (try have hb4_ := cnt_b (rs.take i.toNat) 4); (try have hb5_ := cnt_b (rs.take i.toNat) 5); (try have hb6_ := cnt_b (rs.take i.toNat) 6); (try have hb7_ := cnt_b (rs.take i.toNat) 7); (simp only [List.length_take] at *); omega)))]; unfold clsL; (repeat' split) <;> omega
            · rw [cnt_succ rs i 1 (by (first | omega | ((try have hb0_ := cnt_b (rs.take i.toNat) 0); (try have hb1_ := cnt_b (rs.take i.toNat) 1); (try have hb2_ := cnt_b (rs.take i.toNat) 2); (try have hb3_ := cnt_b (rs.take i.toNat) 3); (try have hb4_ := cnt_b (rs.take i.toNat) 4); (try have hb5_ := cnt_b (rs.take i.toNat) 5); (try have hb6_ := cnt_b (rs.take i.toNat) 6); (try have hb7_ := cnt_b (rs.take i.toNat) 7); (simp only [List.length_take] at *); omega))) (by (first | omega | ((try have hb0_ := cnt_b (rs.take i.toNat) 0); (try have hb1_ := cnt_b (rs.take i.toNat) 1); (try have hb2_ := cnt_b (rs.take i.toNat) 2); (try have hb3_ := cnt_b (rs.take i.toNat) 3); (try have hb4_ := cnt_b (rs.take i.toNat) 4); (try have hb5_ := cnt_b (rs.take i.toNat) 5); (try have hb6_ := cnt_b (rs.take i.toNat) 6); (try have hb7_ := cnt_b (rs.take i.toNat) 7); (simp only [List.length_take] at *); omega)))]; unfold clsL; (repeat' split) <;> omega
            · rw [cnt_succ rs i 2 (by (first | omega | ((try have hb0_ := cnt_b (rs.take i.toNat) 0); (try have hb1_ := cnt_b (rs.take i.toNat) 1); (try have hb2_ := cnt_b (rs.take i.toNat) 2); (try have hb3_ := cnt_b (rs.take i.toNat) 3); (try have hb4_ := cnt_b (rs.take i.toNat) 4); (try have hb5_ := cnt_b (rs.take i.toNat) 5); (try have hb6_ := cnt_b (rs.take i.toNat) 6); (try have hb7_ := cnt_b (rs.take i.toNat) 7); (simp only [List.length_take] at *); omega))) (by (first | omega | ((try have hb0_ := cnt_b (rs.take i.toNat) 0); (try have hb1_ := cnt_b (rs.take i.toNat) 1); (try have hb2_ := cnt_b (rs.take i.toNat) 2); (try have hb3_ := cnt_b (rs.take i.toNat) 3); (try have hb4_ := cnt_b (rs.take i.toNat) 4); (try have hb5_ := cnt_b (rs.take i.toNat) 5); (try have hb6_ := cnt_b (rs.take i.toNat) 6); (try have hb7_ := cnt_b (rs.take i.toNat) 7); (simp only [List.length_take] at *); omega)))]; unfold clsL; (repeat' split) <;> omega
            · rw [cnt_succ rs i 3 (by (first | omega | ((try have hb0_ := cnt_b (rs.take i.toNat) 0); (try have hb1_ := cnt_b (rs.take i.toNat) 1); (try have hb2_ := cnt_b (rs.take i.toNat) 2); (try have hb3_ := cnt_b (rs.take i.toNat) 3); (try have hb4_ := cnt_b (rs.take i.toNat) 4); (try have hb5_ := cnt_b (rs.take i.toNat) 5); (try have hb6_ := cnt_b (rs.take i.toNat) 6); (try have hb7_ := cnt_b (rs.take i.toNat) 7); (simp only [List.length_take] at *); omega))) (by (first | omega | ((try have hb0_ := cnt_b (rs.take i.toNat) 0); (try have hb1_ := cnt_b (rs.take i.toNat) 1); (try have hb2_ := cnt_b (rs.take i.toNat) 2); (try have hb3_ := cnt_b (rs.take i.toNat) 3); (try have hb4_ := cnt_b (rs.take i.toNat) 4); (try have hb5_ := cnt_b (rs.take i.toNat) 5); (try have hb6_ := cnt_b (rs.take i.toNat) 6); (try have hb7_ := cnt_b (rs.take i.toNat) 7); (simp only [List.length_take] at *); omega)))]; unfold clsL; (repeat' split) <;> omega
            · rw [cnt_succ rs i 4 (by (first | omega | ((try have hb0_ := cnt_b (rs.take i.toNat) 0); (try have hb1_ := cnt_b (rs.take i.toNat) 1); (try have hb2_ := cnt_b (rs.take i.toNat) 2); (try have hb3_ := cnt_b (rs.take i.toNat) 3); (try have hb4_ := cnt_b (rs.take i.toNat) 4); (try have hb5_ := cnt_b (rs.take i.toNat) 5); (try have hb6_ := cnt_b (rs.take i.toNat) 6); (try have hb7_ := cnt_b (rs.take i.toNat) 7); (simp only [List.length_take] at *); omega))) (by (first | omega | ((try have hb0_ := cnt_b (rs.take i.toNat) 0); (try have hb1_ := cnt_b (rs.take i.toNat) 1); (try have hb2_ := cnt_b (rs.take i.toNat) 2); (try have hb3_ := cnt_b (rs.take i.toNat) 3); (try have hb4_ := cnt_b (rs.take i.toNat) 4); (try have hb5_ := cnt_b (rs.take i.toNat) 5); (try have hb6_ := cnt_b (rs.take i.toNat) 6); (try have hb7_ := cnt_b (rs.take i.toNat) 7); (simp only [List.length_take] at *); omega)))]; unfold clsL; (repeat' split) <;> omega
            · rw [cnt_succ rs i 5 (by (first | omega | ((try have hb0_ := cnt_b (rs.take i.toNat) 0); (try have hb1_ := cnt_b (rs.take i.toNat) 1); (try have hb2_ := cnt_b (rs.take i.toNat) 2); (try have hb3_ := cnt_b (rs.take i.toNat) 3); (try have hb4_ := cnt_b (rs.take i.toNat) 4); (try have hb5_ := cnt_b (rs.take i.toNat) 5); (try have hb6_ := cnt_b (rs.take i.toNat) 6); (try have hb7_ := cnt_b (rs.take i.toNat) 7); (simp only [List.length_take] at *); omega))) (by (first | omega | ((try have hb0_ := cnt_b (rs.take i.toNat) 0); (try have hb1_ := cnt_b (rs.take i.toNat) 1); (try have hb2_ := cnt_b (rs.take i.toNat) 2); (try have hb3_ := cnt_b (rs.take i.toNat) 3); (try have hb4_ := cnt_b (rs.take i.toNat) 4); (try have hb5_ := cnt_b (rs.take i.toNat) 5); (try have hb6_ := cnt_b (rs.take i.toNat) 6); (try have hb7_ := cnt_b (rs.take i.toNat) 7); (simp only [List.length_take] at *); omega)))]; unfold clsL; (repeat' split) <;> omega
            · rw [cnt_succ rs i 6 (by (first | omega | ((try have hb0_ := cnt_b (rs.take i.toNat) 0); (try have hb1_ := cnt_b (rs.take i.toNat) 1); (try have hb2_ := cnt_b (rs.take i.toNat) 2); (try have hb3_ := cnt_b (rs.take i.toNat) 3); (try have hb4_ := cnt_b (rs.take i.toNat) 4); (try have hb5_ := cnt_b (rs.take i.toNat) 5); (try have hb6_ := cnt_b (rs.take i.toNat) 6); (try have hb7_ := cnt_b (rs.take i.toNat) 7); (simp only [List.length_take] at *); omega))) (by (first | omega | ((try have hb0_ := cnt_b (rs.take i.toNat) 0); (try have hb1_ := cnt_b (rs.take i.toNat) 1); (try have hb2_ := cnt_b (rs.take i.toNat) 2); (try have hb3_ := cnt_b (rs.take i.toNat) 3); (try have hb4_ := cnt_b (rs.take i.toNat) 4); (try have hb5_ := cnt_b (rs.take i.toNat) 5); (try have hb6_ := cnt_b (rs.take i.toNat) 6); (try have hb7_ := cnt_b (rs.take i.toNat) 7); (simp only [List.length_take] at *); omega)))]; unfold clsL; (repeat' split) <;> omega
            · rw [cnt_succ rs i 7 (by (first | omega | ((try have hb0_ := cnt_b (rs.take i.toNat) 0); (try have hb1_ := cnt_b (rs.take i.toNat) 1); (try have hb2_ := cnt_b (rs.take i.toNat) 2); (try have hb3_ := cnt_b (rs.take i.toNat) 3); (try have hb4_ := cnt_b (rs.take i.toNat) 4); (try have hb5_ := cnt_b (rs.take i.toNat) 5); (try have hb6_ := cnt_b (rs.take i.toNat) 6); (try have hb7_ := cnt_b (rs.take i.toNat) 7); (simp only [List.length_take] at *); omega))) (by (first | omega | ((try have hb0_ := cnt_b (rs.take i.toNat) 0); (try have hb1_ := cnt_b (rs.take i.toNat) 1); (try have hb2_ := cnt_b (rs.take i.toNat) 2); (try have hb3_ := cnt_b (rs.take i.toNat) 3); (try have hb4_ := cnt_b (rs.take i.toNat) 4); (try have hb5_ := cnt_b (rs.take i.toNat) 5); (try have hb6_ := cnt_b (rs.take i.toNat) 6); (try have hb7_ := cnt_b (rs.take i.toNat) 7); (simp only [List.length_take] at *); omega)))]; unfold clsL; (repeat' split) <;> omega
    · skip
      have HF282 := HF32.subst_ (d := 10) (b := false) rfl hb34
      clear HF32
      (try simp only [decide_eq_true_eq, decide_eq_false_iff_not, Bool.not_eq_true', Bool.not_eq_false', Bool.not_eq_true, Bool.not_eq_false, ne_eq, Decidable.not_not, Int.not_lt, Int.not_le, not_true_eq_false, not_false_eq_true, bne_iff_ne, beq_iff_eq, bne_eq_false_iff_eq, beq_eq_false_iff_ne] at hb34)
      refine wp_exit ?_
      refine gw_thx ?_
      refine gw_thx ?_
      refine gw_in ?_
      refine gw_nx (hK15 _ _ ?_)
      refine gw_seq fun K283 hK283 => ?_
      refine wp_region_lit ?_
      refine gw_ev HF282 (want_none rfl) rfl (by decide) (op_loadn gwagg58 gwsiz58 rfl (HF282.ev rfl) (HO28.get 0 rfl) rfl rfl) ?_
      intro a284 HF285; clear HF282
      refine gw_setn 1 HF285 HO28 rfl (want_none rfl) rfl (op_storen gwsiz58 rfl (HF285.ev rfl) (HF285.ev rfl) (HO28.get 1 rfl) rfl (by simp) (by simp [Value.oneCell'])) ?_
      intro a286 w288 HF287 HO289; clear HF285 HO28
      have HO290 : Own w w288 [Chunk.blk g9 (.cells #[.int .i64 q0, .int .i64 q1, .int .i64 q2, .int .i64 q3, .int .i64 q4, .int .i64 q5, .int .i64 q6, .int .i64 q7] 58 (0, 0)), Chunk.blk g2 (.cells #[.int .i64 q0, .int .i64 q1, .int .i64 q2, .int .i64 q3, .int .i64 q4, .int .i64 q5, .int .i64 q6, .int .i64 q7] 58 (0, 0))] := HO289
      clear HO289
      refine wpList_nil ?_
      refine gw_nx (hK283 _ _ ?_)
      refine wp_ret ?_
      refine gw_rets1 HF287 rfl (rv_celln HF287 rfl gwagg58 gwsiz58 (HO290.get 1 rfl) rfl) ?_
      have et : rs.take i.toNat = rs := List.take_of_length_le (by (first | omega | ((try have hb0_ := cnt_b (rs.take i.toNat) 0); (try have hb1_ := cnt_b (rs.take i.toNat) 1); (try have hb2_ := cnt_b (rs.take i.toNat) 2); (try have hb3_ := cnt_b (rs.take i.toNat) 3); (try have hb4_ := cnt_b (rs.take i.toNat) 4); (try have hb5_ := cnt_b (rs.take i.toNat) 5); (try have hb6_ := cnt_b (rs.take i.toNat) 6); (try have hb7_ := cnt_b (rs.take i.toNat) 7); (simp only [List.length_take] at *); omega)))
      rw [et] at hq0 hq1 hq2 hq3 hq4 hq5 hq6 hq7
      exact ⟨by rw [hq0, hq1, hq2, hq3, hq4, hq5, hq6, hq7], HO290.below⟩
set_option maxHeartbeats 4000000 in
set_option maxRecDepth 100000 in
theorem rcount_calls (A0 : Option Addr) (c0_ : Nat) (rs : List S61) (v : Int) (w : World) (hr0 : Kd.C k61 w A0 rs.length rs) (hc0 : rs.length ≤ c0_) (hl : rs.length ≤ 9223372036854775807) (hv : 0 ≤ v ∧ v ≤ 7) :
    Calls Try.prog 43 #[.slice A0 rs.length c0_, .int .i64 v] w fun e w' => e = .returned (.int .i64 (cntL rs v)) ∧ Below w.heap.size w w' := by
  refine gw_start (N := 37) (vs := [.slice A0 rs.length c0_, .int .i64 v]) Try.func43 rfl rfl (by simp) fun a HF HO => ?_
  replace HO : Own w w [] := HO
  refine gw_seq fun K1 hK1 => ?_
  refine wp_region_lit ?_
  refine gw_ev HF (want_none rfl) rfl (by decide) (op_assign rfl (ev_c _ _)) ?_
  intro a2 HF3; clear HF
  refine wpList_nil ?_
  refine gw_nx (hK1 _ _ ?_)
  refine gw_seq fun K4 hK4 => ?_
  refine wp_region_lit ?_
  refine gw_ev HF3 (want_none rfl) rfl (by decide) (op_assign rfl (ev_c _ _)) ?_
  intro a5 HF6; clear HF3
  refine wpList_nil ?_
  refine gw_nx (hK4 _ _ ?_)
  refine gw_seq fun K7 hK7 => ?_
  refine gw_seq fun K8 hK8 => ?_
  refine wp_region_lit ?_
  refine gw_ev HF6 (want_none rfl) rfl (by decide) (op_assign rfl (ev_c _ _)) ?_
  intro a9 HF10; clear HF6
  refine wpList_nil ?_
  refine gw_nx (hK8 _ _ ?_)
  refine wp_block ?_
  refine gw_loop (fun m_ a_ w_ => ∃ (i : Int) (n : Int), Fr 37 a_ [(6, .int .i64 i), (5, .int .i64 n), (0, .slice A0 rs.length c0_), (1, .int .i64 v), (4, .int .i64 0)] ∧ Own w w_ [] ∧ (0 ≤ i ∧ i ≤ rs.length) ∧ (n = cntL (rs.take i.toNat) v) ∧ m_ = (rs.length - i.toNat)) ((rs.length - (0 : Int).toNat)) ?_ ?_
  · refine ⟨0, 0, (HF10.pick (t := 6) rfl (HF10.pick (t := 5) rfl (HF10.pick (t := 0) rfl (HF10.pick (t := 1) rfl (HF10.pick (t := 4) rfl HF10.nil))))), HO.sel [] (by decide), ?_, ?_, rfl⟩
    · (first | omega | ((try have hb0_ := cnt_b (rs.take i.toNat) v); (simp only [List.length_take] at *); omega))
    · simp [cntL]
  · rintro m12 a13 w14 ⟨i, n, HF15, HO16, hi, hn, hm17⟩
    refine gw_seq fun K18 hK18 => ?_
    refine gw_seq fun K19 hK19 => ?_
    refine wp_region_lit ?_
    refine gw_ev HF15 (want_none rfl) rfl (by decide) (op_move rfl (HF15.ev rfl)) ?_
    intro a20 HF21; clear HF15
    refine gw_ev HF21 (want_none rfl) rfl (by decide) (op_move rfl (HF21.ev rfl)) ?_
    intro a22 HF23; clear HF21
    refine gw_ev HF23 (want_none rfl) rfl (by decide) (op_len Try.underlying57 rfl (HF23.ev rfl)) ?_
    intro a24 HF25; clear HF23
    refine gw_ev HF25 (want_none rfl) rfl (by decide) (op_lss rfl (HF25.ev rfl) (HF25.ev rfl)) ?_
    intro a26 HF27; clear HF25
    refine wpList_nil ?_
    refine gw_nx (hK19 _ _ ?_)
    refine gw_cond HF27 rfl (fun hb28 => ?_) (fun hb28 => ?_)
    · skip
      have HF29 := HF27.subst_ (d := 11) (b := true) rfl hb28
      clear HF27
      (try simp only [decide_eq_true_eq, decide_eq_false_iff_not, Bool.not_eq_true', Bool.not_eq_false', Bool.not_eq_true, Bool.not_eq_false, ne_eq, Decidable.not_not, Int.not_lt, Int.not_le, not_true_eq_false, not_false_eq_true, bne_iff_ne, beq_iff_eq, bne_eq_false_iff_eq, beq_eq_false_iff_ne] at hb28)
      refine wp_skip ?_
      refine gw_nx (hK18 _ _ ?_)
      refine gw_seq fun K30 hK30 => ?_
      refine wp_block ?_
      refine gw_seq fun K31 hK31 => ?_
      refine wp_region_lit ?_
      refine gw_ev HF29 (want_none rfl) rfl (by decide) (op_move rfl (HF29.ev rfl)) ?_
      intro a32 HF33; clear HF29
      refine gw_ev HF33 (want_none rfl) rfl (by decide) (op_move rfl (HF33.ev rfl)) ?_
      intro a34 HF35; clear HF33
      obtain ⟨ad36, cs39, hA37, hl40, hK41, hc38⟩ := Kd.C_get hr0 z61 i (by (first | omega | ((try have hb0_ := cnt_b (rs.take i.toNat) v); (simp only [List.length_take] at *); omega))) (by (first | omega | ((try have hb0_ := cnt_b (rs.take i.toNat) v); (simp only [List.length_take] at *); omega)))
      obtain rfl := k61_open hK41
      clear hl40
      refine gw_ev HF35 (want_none rfl) rfl (by decide) (op_index Try.underlying57 gwsiz61 rfl (HF35.ev rfl) (HF35.ev rfl) hA37 (⟨by (first | omega | ((try have hb0_ := cnt_b (rs.take i.toNat) v); (simp only [List.length_take] at *); omega)), by (first | omega | ((try have hb0_ := cnt_b (rs.take i.toNat) v); (simp only [List.length_take] at *); omega))⟩)) ?_
      intro a42 HF43; clear HF35
      refine gw_ev HF43 (want_none rfl) rfl (by decide) (op_field (gwflda61_1 _) rfl (HF43.ev rfl)) ?_
      intro a44 HF45; clear HF43
      refine gw_ev HF45 (want_none rfl) rfl (by decide) (op_load1 gwagg3 rfl (HF45.ev rfl) ((cells0 HO16 hc38 1 _ rfl))) ?_
      intro a46 HF47; clear HF45
      refine gw_ev HF47 (want_none rfl) rfl (by decide) (op_assign rfl (HF47.ev rfl)) ?_
      intro a48 HF49; clear HF47
      refine wpList_nil ?_
      refine gw_nx (hK31 _ _ ?_)
      refine gw_seq fun K50 hK50 => ?_
      refine wp_region_lit ?_
      refine gw_ev HF49 (want_none rfl) rfl (by decide) (op_move rfl (HF49.ev rfl)) ?_
      intro a51 HF52; clear HF49
      refine gw_ev HF52 (want_none rfl) rfl (by decide) (op_move rfl (HF52.ev rfl)) ?_
      intro a53 HF54; clear HF52
      refine gw_ev HF54 (want_none rfl) rfl (by decide) (op_eqi rfl (HF54.ev rfl) (HF54.ev rfl)) ?_
      intro a55 HF56; clear HF54
      refine gw_ev HF56 (want_none rfl) rfl (by decide) (op_move rfl (HF56.ev rfl)) ?_
      intro a57 HF58; clear HF56
      rcases Bool.eq_false_or_eq_true (decide (((rs.getD i.toNat z61).f1) = v)) with hb59 | hb59
      · skip
        have HF60 := HF58.subst_ (d := 22) (b := true) rfl hb59
        clear HF58
        (try simp only [decide_eq_true_eq, decide_eq_false_iff_not, Bool.not_eq_true', Bool.not_eq_false', Bool.not_eq_true, Bool.not_eq_false, ne_eq, Decidable.not_not, Int.not_lt, Int.not_le, not_true_eq_false, not_false_eq_true, bne_iff_ne, beq_iff_eq, bne_eq_false_iff_eq, beq_eq_false_iff_ne] at hb59)
        refine gw_off HF60 (want_no HF60 rfl rfl rfl rfl (by decide)) rfl (by decide) ?_
        intro a61 HF62; clear HF60
        refine gw_off HF62 (want_no HF62 rfl rfl rfl rfl (by decide)) rfl (by decide) ?_
        intro a63 HF64; clear HF62
        refine gw_off HF64 (want_no HF64 rfl rfl rfl rfl (by decide)) rfl (by decide) ?_
        intro a65 HF66; clear HF64
        refine gw_off HF66 (want_undef HF66 rfl rfl rfl rfl) rfl (by decide) ?_
        intro a67 HF68; clear HF66
        refine gw_off HF68 (want_undef HF68 rfl rfl rfl rfl) rfl (by decide) ?_
        intro a69 HF70; clear HF68
        refine gw_off HF70 (want_undef HF70 rfl rfl rfl rfl) rfl (by decide) ?_
        intro a71 HF72; clear HF70
        refine gw_off HF72 (want_undef HF72 rfl rfl rfl rfl) rfl (by decide) ?_
        intro a73 HF74; clear HF72
        refine gw_off HF74 (want_undef HF74 rfl rfl rfl rfl) rfl (by decide) ?_
        intro a75 HF76; clear HF74
        refine gw_off HF76 (want_undef HF76 rfl rfl rfl rfl) rfl (by decide) ?_
        intro a77 HF78; clear HF76
        refine gw_off HF78 (want_no HF78 rfl rfl rfl rfl (by decide)) rfl (by decide) ?_
        intro a79 HF80; clear HF78
        refine gw_ev HF80 (want_none rfl) rfl (by decide) (op_pick_t rfl (HF80.ev rfl) (ev_c _ _)) ?_
        intro a81 HF82; clear HF80
        refine wpList_nil ?_
        refine gw_nx (hK50 _ _ ?_)
        refine gw_cond HF82 rfl (fun hb83 => ?_) (fun hb83 => ?_)
        rotate_left
        · cases hb83
        refine wp_region_lit ?_
        refine gw_ev HF82 (want_none rfl) rfl (by decide) (op_move rfl (HF82.ev rfl)) ?_
        intro a84 HF85; clear HF82
        refine gw_ev HF85 (want_none rfl) rfl (by decide) (op_add rfl (HF85.ev rfl) (ev_c _ _) (by (first | omega | ((try have hb0_ := cnt_b (rs.take i.toNat) v); (simp only [List.length_take] at *); omega)))) ?_
        intro a86 HF87; clear HF85
        refine gw_ev HF87 (want_none rfl) rfl (by decide) (op_assign rfl (HF87.ev rfl)) ?_
        intro a88 HF89; clear HF87
        refine wpList_nil ?_
        refine gw_blk ?_
        refine gw_nx (hK30 _ _ ?_)
        refine wp_region_lit ?_
        refine gw_ev HF89 (want_none rfl) rfl (by decide) (op_move rfl (HF89.ev rfl)) ?_
        intro a90 HF91; clear HF89
        refine gw_ev HF91 (want_none rfl) rfl (by decide) (op_add rfl (HF91.ev rfl) (ev_c _ _) (by (first | omega | ((try have hb0_ := cnt_b (rs.take i.toNat) v); (simp only [List.length_take] at *); omega)))) ?_
        intro a92 HF93; clear HF91
        refine gw_ev HF93 (want_none rfl) rfl (by decide) (op_assign rfl (HF93.ev rfl)) ?_
        intro a94 HF95; clear HF93
        refine wpList_nil ?_
        refine gw_nx ⟨_, ?_, i + 1, n + 1, (HF95.pick (t := 6) rfl (HF95.pick (t := 5) rfl (HF95.pick (t := 0) rfl (HF95.pick (t := 1) rfl (HF95.pick (t := 4) rfl HF95.nil))))), HO16.sel [] (by decide), ?_, ?_, rfl⟩
        · rw [hm17]; (first | omega | ((try have hb0_ := cnt_b (rs.take i.toNat) v); (simp only [List.length_take] at *); omega))
        · (first | omega | ((try have hb0_ := cnt_b (rs.take i.toNat) v); (simp only [List.length_take] at *); omega))
        · rw [cnt_succ rs i v (by (first | omega | ((try have hb0_ := cnt_b (rs.take i.toNat) v); (simp only [List.length_take] at *); omega))) (by (first | omega | ((try have hb0_ := cnt_b (rs.take i.toNat) v); (simp only [List.length_take] at *); omega)))]; unfold clsL; (repeat' split) <;> omega
      · skip
        have HF96 := HF58.subst_ (d := 22) (b := false) rfl hb59
        clear HF58
        (try simp only [decide_eq_true_eq, decide_eq_false_iff_not, Bool.not_eq_true', Bool.not_eq_false', Bool.not_eq_true, Bool.not_eq_false, ne_eq, Decidable.not_not, Int.not_lt, Int.not_le, not_true_eq_false, not_false_eq_true, bne_iff_ne, beq_iff_eq, bne_eq_false_iff_eq, beq_eq_false_iff_ne] at hb59)
        refine gw_ev HF96 (want_yes HF96 rfl rfl rfl rfl) rfl (by decide) (op_move rfl (HF96.ev rfl)) ?_
        intro a97 HF98; clear HF96
        refine gw_ev HF98 (want_yes HF98 rfl rfl rfl rfl) rfl (by decide) (op_eqi rfl (HF98.ev rfl) (ev_c _ _)) ?_
        intro a99 HF100; clear HF98
        refine gw_ev HF100 (want_yes HF100 rfl rfl rfl rfl) rfl (by decide) (op_move rfl (HF100.ev rfl)) ?_
        intro a101 HF102; clear HF100
        rcases Bool.eq_false_or_eq_true (decide (v = 0)) with hb103 | hb103
        · skip
          have HF104 := HF102.subst_ (d := 25) (b := true) rfl hb103
          clear HF102
          (try simp only [decide_eq_true_eq, decide_eq_false_iff_not, Bool.not_eq_true', Bool.not_eq_false', Bool.not_eq_true, Bool.not_eq_false, ne_eq, Decidable.not_not, Int.not_lt, Int.not_le, not_true_eq_false, not_false_eq_true, bne_iff_ne, beq_iff_eq, bne_eq_false_iff_eq, beq_eq_false_iff_ne] at hb103)
          refine gw_ev HF104 (want_yes HF104 rfl rfl rfl rfl) rfl (by decide) (op_move rfl (HF104.ev rfl)) ?_
          intro a105 HF106; clear HF104
          refine gw_ev HF106 (want_yes HF106 rfl rfl rfl rfl) rfl (by decide) (op_lss rfl (HF106.ev rfl) (ev_c _ _)) ?_
          intro a107 HF108; clear HF106
          refine gw_ev HF108 (want_yes HF108 rfl rfl rfl rfl) rfl (by decide) (op_move rfl (HF108.ev rfl)) ?_
          intro a109 HF110; clear HF108
          rcases Bool.eq_false_or_eq_true (decide (((rs.getD i.toNat z61).f1) < 0)) with hb111 | hb111
          · skip
            have HF112 := HF110.subst_ (d := 28) (b := true) rfl hb111
            clear HF110
            (try simp only [decide_eq_true_eq, decide_eq_false_iff_not, Bool.not_eq_true', Bool.not_eq_false', Bool.not_eq_true, Bool.not_eq_false, ne_eq, Decidable.not_not, Int.not_lt, Int.not_le, not_true_eq_false, not_false_eq_true, bne_iff_ne, beq_iff_eq, bne_eq_false_iff_eq, beq_eq_false_iff_ne] at hb111)
            refine gw_off HF112 (want_no HF112 rfl rfl rfl rfl (by decide)) rfl (by decide) ?_
            intro a113 HF114; clear HF112
            refine gw_off HF114 (want_no HF114 rfl rfl rfl rfl (by decide)) rfl (by decide) ?_
            intro a115 HF116; clear HF114
            refine gw_ev HF116 (want_yes HF116 rfl rfl rfl rfl) rfl (by decide) (op_pick_t rfl (HF116.ev rfl) (ev_c _ _)) ?_
            intro a117 HF118; clear HF116
            refine gw_ev HF118 (want_yes HF118 rfl rfl rfl rfl) rfl (by decide) (op_pick_t rfl (HF118.ev rfl) (HF118.ev rfl)) ?_
            intro a119 HF120; clear HF118
            refine gw_ev HF120 (want_none rfl) rfl (by decide) (op_pick_f rfl (HF120.ev rfl) (HF120.ev rfl)) ?_
            intro a121 HF122; clear HF120
            refine wpList_nil ?_
            refine gw_nx (hK50 _ _ ?_)
            refine gw_cond HF122 rfl (fun hb123 => ?_) (fun hb123 => ?_)
            rotate_left
            · cases hb123
            refine wp_region_lit ?_
            refine gw_ev HF122 (want_none rfl) rfl (by decide) (op_move rfl (HF122.ev rfl)) ?_
            intro a124 HF125; clear HF122
            refine gw_ev HF125 (want_none rfl) rfl (by decide) (op_add rfl (HF125.ev rfl) (ev_c _ _) (by (first | omega | ((try have hb0_ := cnt_b (rs.take i.toNat) v); (simp only [List.length_take] at *); omega)))) ?_
            intro a126 HF127; clear HF125
            refine gw_ev HF127 (want_none rfl) rfl (by decide) (op_assign rfl (HF127.ev rfl)) ?_
            intro a128 HF129; clear HF127
            refine wpList_nil ?_
            refine gw_blk ?_
            refine gw_nx (hK30 _ _ ?_)
            refine wp_region_lit ?_
            refine gw_ev HF129 (want_none rfl) rfl (by decide) (op_move rfl (HF129.ev rfl)) ?_
            intro a130 HF131; clear HF129
            refine gw_ev HF131 (want_none rfl) rfl (by decide) (op_add rfl (HF131.ev rfl) (ev_c _ _) (by (first | omega | ((try have hb0_ := cnt_b (rs.take i.toNat) v); (simp only [List.length_take] at *); omega)))) ?_
            intro a132 HF133; clear HF131
            refine gw_ev HF133 (want_none rfl) rfl (by decide) (op_assign rfl (HF133.ev rfl)) ?_
            intro a134 HF135; clear HF133
            refine wpList_nil ?_
            refine gw_nx ⟨_, ?_, i + 1, n + 1, (HF135.pick (t := 6) rfl (HF135.pick (t := 5) rfl (HF135.pick (t := 0) rfl (HF135.pick (t := 1) rfl (HF135.pick (t := 4) rfl HF135.nil))))), HO16.sel [] (by decide), ?_, ?_, rfl⟩
            · rw [hm17]; (first | omega | ((try have hb0_ := cnt_b (rs.take i.toNat) v); (simp only [List.length_take] at *); omega))
            · (first | omega | ((try have hb0_ := cnt_b (rs.take i.toNat) v); (simp only [List.length_take] at *); omega))
            · rw [cnt_succ rs i v (by (first | omega | ((try have hb0_ := cnt_b (rs.take i.toNat) v); (simp only [List.length_take] at *); omega))) (by (first | omega | ((try have hb0_ := cnt_b (rs.take i.toNat) v); (simp only [List.length_take] at *); omega)))]; unfold clsL; (repeat' split) <;> omega
          · skip
            have HF136 := HF110.subst_ (d := 28) (b := false) rfl hb111
            clear HF110
            (try simp only [decide_eq_true_eq, decide_eq_false_iff_not, Bool.not_eq_true', Bool.not_eq_false', Bool.not_eq_true, Bool.not_eq_false, ne_eq, Decidable.not_not, Int.not_lt, Int.not_le, not_true_eq_false, not_false_eq_true, bne_iff_ne, beq_iff_eq, bne_eq_false_iff_eq, beq_eq_false_iff_ne] at hb111)
            refine gw_ev HF136 (want_yes HF136 rfl rfl rfl rfl) rfl (by decide) (op_move rfl (HF136.ev rfl)) ?_
            intro a137 HF138; clear HF136
            refine gw_ev HF138 (want_yes HF138 rfl rfl rfl rfl) rfl (by decide) (op_gtr rfl (HF138.ev rfl) (ev_c _ _)) ?_
            intro a139 HF140; clear HF138
            refine gw_ev HF140 (want_yes HF140 rfl rfl rfl rfl) rfl (by decide) (op_pick_f rfl (HF140.ev rfl) (HF140.ev rfl)) ?_
            intro a141 HF142; clear HF140
            refine gw_ev HF142 (want_yes HF142 rfl rfl rfl rfl) rfl (by decide) (op_pick_t rfl (HF142.ev rfl) (HF142.ev rfl)) ?_
            intro a143 HF144; clear HF142
            refine gw_ev HF144 (want_none rfl) rfl (by decide) (op_pick_f rfl (HF144.ev rfl) (HF144.ev rfl)) ?_
            intro a145 HF146; clear HF144
            refine wpList_nil ?_
            refine gw_nx (hK50 _ _ ?_)
            refine gw_cond HF146 rfl (fun hb147 => ?_) (fun hb147 => ?_)
            · skip
              have HF148 := HF146.subst_ (d := 33) (b := true) rfl hb147
              clear HF146
              (try simp only [decide_eq_true_eq, decide_eq_false_iff_not, Bool.not_eq_true', Bool.not_eq_false', Bool.not_eq_true, Bool.not_eq_false, ne_eq, Decidable.not_not, Int.not_lt, Int.not_le, not_true_eq_false, not_false_eq_true, bne_iff_ne, beq_iff_eq, bne_eq_false_iff_eq, beq_eq_false_iff_ne] at hb147)
              refine wp_region_lit ?_
              refine gw_ev HF148 (want_none rfl) rfl (by decide) (op_move rfl (HF148.ev rfl)) ?_
              intro a149 HF150; clear HF148
              refine gw_ev HF150 (want_none rfl) rfl (by decide) (op_add rfl (HF150.ev rfl) (ev_c _ _) (by (first | omega | ((try have hb0_ := cnt_b (rs.take i.toNat) v); (simp only [List.length_take] at *); omega)))) ?_
              intro a151 HF152; clear HF150
              refine gw_ev HF152 (want_none rfl) rfl (by decide) (op_assign rfl (HF152.ev rfl)) ?_
              intro a153 HF154; clear HF152
              refine wpList_nil ?_
              refine gw_blk ?_
              refine gw_nx (hK30 _ _ ?_)
              refine wp_region_lit ?_
              refine gw_ev HF154 (want_none rfl) rfl (by decide) (op_move rfl (HF154.ev rfl)) ?_
              intro a155 HF156; clear HF154
              refine gw_ev HF156 (want_none rfl) rfl (by decide) (op_add rfl (HF156.ev rfl) (ev_c _ _) (by (first | omega | ((try have hb0_ := cnt_b (rs.take i.toNat) v); (simp only [List.length_take] at *); omega)))) ?_
              intro a157 HF158; clear HF156
              refine gw_ev HF158 (want_none rfl) rfl (by decide) (op_assign rfl (HF158.ev rfl)) ?_
              intro a159 HF160; clear HF158
              refine wpList_nil ?_
              refine gw_nx ⟨_, ?_, i + 1, n + 1, (HF160.pick (t := 6) rfl (HF160.pick (t := 5) rfl (HF160.pick (t := 0) rfl (HF160.pick (t := 1) rfl (HF160.pick (t := 4) rfl HF160.nil))))), HO16.sel [] (by decide), ?_, ?_, rfl⟩
              · rw [hm17]; (first | omega | ((try have hb0_ := cnt_b (rs.take i.toNat) v); (simp only [List.length_take] at *); omega))
              · (first | omega | ((try have hb0_ := cnt_b (rs.take i.toNat) v); (simp only [List.length_take] at *); omega))
              · rw [cnt_succ rs i v (by (first | omega | ((try have hb0_ := cnt_b (rs.take i.toNat) v); (simp only [List.length_take] at *); omega))) (by (first | omega | ((try have hb0_ := cnt_b (rs.take i.toNat) v); (simp only [List.length_take] at *); omega)))]; unfold clsL; (repeat' split) <;> omega
            · skip
              have HF161 := HF146.subst_ (d := 33) (b := false) rfl hb147
              clear HF146
              (try simp only [decide_eq_true_eq, decide_eq_false_iff_not, Bool.not_eq_true', Bool.not_eq_false', Bool.not_eq_true, Bool.not_eq_false, ne_eq, Decidable.not_not, Int.not_lt, Int.not_le, not_true_eq_false, not_false_eq_true, bne_iff_ne, beq_iff_eq, bne_eq_false_iff_eq, beq_eq_false_iff_ne] at hb147)
              refine wp_skip ?_
              refine gw_blk ?_
              refine gw_nx (hK30 _ _ ?_)
              refine wp_region_lit ?_
              refine gw_ev HF161 (want_none rfl) rfl (by decide) (op_move rfl (HF161.ev rfl)) ?_
              intro a162 HF163; clear HF161
              refine gw_ev HF163 (want_none rfl) rfl (by decide) (op_add rfl (HF163.ev rfl) (ev_c _ _) (by (first | omega | ((try have hb0_ := cnt_b (rs.take i.toNat) v); (simp only [List.length_take] at *); omega)))) ?_
              intro a164 HF165; clear HF163
              refine gw_ev HF165 (want_none rfl) rfl (by decide) (op_assign rfl (HF165.ev rfl)) ?_
              intro a166 HF167; clear HF165
              refine wpList_nil ?_
              refine gw_nx ⟨_, ?_, i + 1, n, (HF167.pick (t := 6) rfl (HF167.pick (t := 5) rfl (HF167.pick (t := 0) rfl (HF167.pick (t := 1) rfl (HF167.pick (t := 4) rfl HF167.nil))))), HO16.sel [] (by decide), ?_, ?_, rfl⟩
              · rw [hm17]; (first | omega | ((try have hb0_ := cnt_b (rs.take i.toNat) v); (simp only [List.length_take] at *); omega))
              · (first | omega | ((try have hb0_ := cnt_b (rs.take i.toNat) v); (simp only [List.length_take] at *); omega))
              · rw [cnt_succ rs i v (by (first | omega | ((try have hb0_ := cnt_b (rs.take i.toNat) v); (simp only [List.length_take] at *); omega))) (by (first | omega | ((try have hb0_ := cnt_b (rs.take i.toNat) v); (simp only [List.length_take] at *); omega)))]; unfold clsL; (repeat' split) <;> omega
        · skip
          have HF168 := HF102.subst_ (d := 25) (b := false) rfl hb103
          clear HF102
          (try simp only [decide_eq_true_eq, decide_eq_false_iff_not, Bool.not_eq_true', Bool.not_eq_false', Bool.not_eq_true, Bool.not_eq_false, ne_eq, Decidable.not_not, Int.not_lt, Int.not_le, not_true_eq_false, not_false_eq_true, bne_iff_ne, beq_iff_eq, bne_eq_false_iff_eq, beq_eq_false_iff_ne] at hb103)
          refine gw_off HF168 (want_no HF168 rfl rfl rfl rfl (by decide)) rfl (by decide) ?_
          intro a169 HF170; clear HF168
          refine gw_off HF170 (want_no HF170 rfl rfl rfl rfl (by decide)) rfl (by decide) ?_
          intro a171 HF172; clear HF170
          refine gw_off HF172 (want_no HF172 rfl rfl rfl rfl (by decide)) rfl (by decide) ?_
          intro a173 HF174; clear HF172
          refine gw_off HF174 (want_undef HF174 rfl rfl rfl rfl) rfl (by decide) ?_
          intro a175 HF176; clear HF174
          refine gw_off HF176 (want_undef HF176 rfl rfl rfl rfl) rfl (by decide) ?_
          intro a177 HF178; clear HF176
          refine gw_off HF178 (want_no HF178 rfl rfl rfl rfl (by decide)) rfl (by decide) ?_
          intro a179 HF180; clear HF178
          refine gw_ev HF180 (want_yes HF180 rfl rfl rfl rfl) rfl (by decide) (op_pick_f rfl (HF180.ev rfl) (ev_c _ _)) ?_
          intro a181 HF182; clear HF180
          refine gw_ev HF182 (want_none rfl) rfl (by decide) (op_pick_f rfl (HF182.ev rfl) (HF182.ev rfl)) ?_
          intro a183 HF184; clear HF182
          refine wpList_nil ?_
          refine gw_nx (hK50 _ _ ?_)
          refine gw_cond HF184 rfl (fun hb185 => ?_) (fun hb185 => ?_)
          skip
          · cases hb185
          refine wp_skip ?_
          refine gw_blk ?_
          refine gw_nx (hK30 _ _ ?_)
          refine wp_region_lit ?_
          refine gw_ev HF184 (want_none rfl) rfl (by decide) (op_move rfl (HF184.ev rfl)) ?_
          intro a186 HF187; clear HF184
          refine gw_ev HF187 (want_none rfl) rfl (by decide) (op_add rfl (HF187.ev rfl) (ev_c _ _) (by (first | omega | ((try have hb0_ := cnt_b (rs.take i.toNat) v); (simp only [List.length_take] at *); omega)))) ?_
          intro a188 HF189; clear HF187
          refine gw_ev HF189 (want_none rfl) rfl (by decide) (op_assign rfl (HF189.ev rfl)) ?_
          intro a190 HF191; clear HF189
          refine wpList_nil ?_
          refine gw_nx ⟨_, ?_, i + 1, n, (HF191.pick (t := 6) rfl (HF191.pick (t := 5) rfl (HF191.pick (t := 0) rfl (HF191.pick (t := 1) rfl (HF191.pick (t := 4) rfl HF191.nil))))), HO16.sel [] (by decide), ?_, ?_, rfl⟩
          · rw [hm17]; (first | omega | ((try have hb0_ := cnt_b (rs.take i.toNat) v); (simp only [List.length_take] at *); omega))
          · (first | omega | ((try have hb0_ := cnt_b (rs.take i.toNat) v); (simp only [List.length_take] at *); omega))
          · rw [cnt_succ rs i v (by (first | omega | ((try have hb0_ := cnt_b (rs.take i.toNat) v); (simp only [List.length_take] at *); omega))) (by (first | omega | ((try have hb0_ := cnt_b (rs.take i.toNat) v); (simp only [List.length_take] at *); omega)))]; unfold clsL; (repeat' split) <;> omega
    · skip
      have HF192 := HF27.subst_ (d := 11) (b := false) rfl hb28
      clear HF27
      (try simp only [decide_eq_true_eq, decide_eq_false_iff_not, Bool.not_eq_true', Bool.not_eq_false', Bool.not_eq_true, Bool.not_eq_false, ne_eq, Decidable.not_not, Int.not_lt, Int.not_le, not_true_eq_false, not_false_eq_true, bne_iff_ne, beq_iff_eq, bne_eq_false_iff_eq, beq_eq_false_iff_ne] at hb28)
      refine wp_exit ?_
      refine gw_thx ?_
      refine gw_thx ?_
      refine gw_in ?_
      refine gw_nx (hK7 _ _ ?_)
      refine gw_seq fun K193 hK193 => ?_
      refine wp_region_lit ?_
      refine gw_ev HF192 (want_none rfl) rfl (by decide) (op_move rfl (HF192.ev rfl)) ?_
      intro a194 HF195; clear HF192
      refine gw_ev HF195 (want_none rfl) rfl (by decide) (op_assign rfl (HF195.ev rfl)) ?_
      intro a196 HF197; clear HF195
      refine wpList_nil ?_
      refine gw_nx (hK193 _ _ ?_)
      refine wp_ret ?_
      refine gw_ret1 HF197 rfl rfl ?_
      have et : rs.take i.toNat = rs := List.take_of_length_le (by (first | omega | ((try have hb0_ := cnt_b (rs.take i.toNat) v); (simp only [List.length_take] at *); omega)))
      rw [et] at hn
      exact ⟨by rw [hn], HO16.below⟩
end GCount_
end Go.Proofs.Ytmlemnfleicnfaa.PA
