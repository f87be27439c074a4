/- The document's buffer. Printed by a program of this session; Lean checks it. -/
import Derived.Test.YtbnoedefkbnpjaaGBetween
import Derived.Test.YtbnoedefkbnpjaaHBufPure
namespace Go.Proofs.Ytbnoedefkbnpjaa.PA
open Go.RowKit Go.Proofs.YtbnoedefkbnpjaaW.PrintWords Go.Proofs.YtbnoedefkbnpjaaW.PrintLast Go.Proofs.YtbnoedefkbnpjaaW.PrintMore
set_option linter.unusedVariables false
set_option linter.unusedSimpArgs false
namespace GRef11_
theorem gwagg2 : ∀ w, (isAgg 2).run Try.prog w = .ok false w := fun _ => by kernel_rfl
theorem gwagg26 : ∀ w, (isAgg 26).run Try.prog w = .ok false w := fun _ => by kernel_rfl
theorem gwagg28 : ∀ w, (isAgg 28).run Try.prog w = .ok true w := fun _ => by kernel_rfl
theorem gwagg3 : ∀ w, (isAgg 3).run Try.prog w = .ok false w := fun _ => by kernel_rfl
theorem gwagg5 : ∀ w, (isAgg 5).run Try.prog w = .ok false w := fun _ => by kernel_rfl
theorem gwfld28_0 (g off : Nat) : ∀ w, (Instr.fieldAt 28 (.pointer (some ⟨g, off, none⟩)) 0).run Try.prog w = .ok (.pointer (some ⟨g, off + 0, none⟩)) w := fun _ => by kernel_rfl
theorem gwfld28_1 (g off : Nat) : ∀ w, (Instr.fieldAt 28 (.pointer (some ⟨g, off, none⟩)) 1).run Try.prog w = .ok (.pointer (some ⟨g, off + 1, none⟩)) w := fun _ => by kernel_rfl
theorem gwfld28_2 (g off : Nat) : ∀ w, (Instr.fieldAt 28 (.pointer (some ⟨g, off, none⟩)) 2).run Try.prog w = .ok (.pointer (some ⟨g, off + 2, none⟩)) w := fun _ => by kernel_rfl
theorem gwinfo5 : (Try.prog.info? 5).map (fun i => (i.zero, i.size, i.bytes)) = some (some (.int .u8 0), 1, 1) := by kernel_rfl
theorem gwsiz2 : ∀ w, (sizeOf 2).run Try.prog w = .ok 1 w := fun _ => by kernel_rfl
theorem gwsiz26 : ∀ w, (sizeOf 26).run Try.prog w = .ok 1 w := fun _ => by kernel_rfl
theorem gwsiz28 : ∀ w, (sizeOf 28).run Try.prog w = .ok 3 w := fun _ => by kernel_rfl
theorem gwsiz5 : ∀ w, (sizeOf 5).run Try.prog w = .ok 1 w := fun _ => by kernel_rfl
theorem gwzer28 : ∀ w, (zeroValue 28).run Try.prog w = .ok (.agg #[.int .i64 0, .slice none 0 0, .int .i64 0]) w := fun _ => by kernel_rfl
set_option maxHeartbeats 4000000 in
set_option maxRecDepth 100000 in
theorem new_calls (most : Int) (w : World) :
    Calls Try.prog 13 #[.int .i64 most] w fun e w' => e = .returned (.agg #[.int .i64 (mn (mx most 1) 2000), .slice none 0 0, .int .i64 0]) ∧ Below w.heap.size w w' := by
  refine gw_start (N := 6) (vs := [.int .i64 most]) Try.func13 rfl rfl (by simp) fun a HF HO => ?_
  replace HO : Own w w [] := HO
  refine gw_seq fun K1 hK1 => ?_
  refine wp_region_lit ?_
  refine gw_new HF HO (want_none rfl) rfl (by decide) (op_alloc gwzer28 rfl) ?_
  intro g2 a3 w4 HF5 HO6; clear HF HO
  have HO7 : Own w w4 [Chunk.blk g2 (.cells #[.int .i64 0, .slice none 0 0, .int .i64 0] 28 (0, 0))] := HO6
  clear HO6
  refine wpList_nil ?_
  refine gw_nx (hK1 _ _ ?_)
  refine gw_seq fun K8 hK8 => ?_
  refine wp_region_lit ?_
  refine gw_ev HF5 (want_none rfl) rfl (by decide) (op_move rfl (HF5.ev rfl)) ?_
  intro a9 HF10; clear HF5
  refine gw_call HF10 (want_none rfl) rfl (by decide) (op_callL Try.func35 (by kernel_rfl) rfl rfl (ar_cons (HF10.ev rfl) (ar_cons (ev_c _ _) (ar_cons (ev_c _ _) ar_nil)))) (GBetween_.between_calls most 1 2000 _ (by omega)) ?_
  rintro e11 w12 ⟨rfl, hb13⟩
  refine ⟨_, rfl, fun a14 HF15 => ?_⟩
  have HO16 := HO7.after hb13
  clear HF10 HO7 hb13
  refine gw_ev HF15 (want_none rfl) rfl (by decide) (op_build (cells := #[.int .i64 (mn (mx most 1) 2000), .slice none 0 0, .int .i64 0]) rfl (pt_cons (HF15.ev rfl) pt_nil) (by kernel_rfl)) ?_
  intro a18 HF19; clear HF15
  refine gw_setn 0 HF19 HO16 rfl (want_none rfl) rfl (op_storen gwsiz28 rfl (HF19.ev rfl) (HF19.ev rfl) (HO16.get 0 rfl) rfl (by simp) (by simp [Value.oneCell'])) ?_
  intro a20 w22 HF21 HO23; clear HF19 HO16
  have HO24 : Own w w22 [Chunk.blk g2 (.cells #[.int .i64 (mn (mx most 1) 2000), .slice none 0 0, .int .i64 0] 28 (0, 0))] := HO23
  clear HO23
  refine wpList_nil ?_
  refine gw_nx (hK8 _ _ ?_)
  refine wp_ret ?_
  refine gw_rets1 HF21 rfl (rv_celln HF21 rfl gwagg28 gwsiz28 (HO24.get 0 rfl) rfl) ?_
  exact ⟨rfl, HO24.below⟩
set_option maxHeartbeats 4000000 in
set_option maxRecDepth 100000 in
theorem put_calls (most : Int) (A1 : Option Addr) (c1 : Nat) (xs : List Int) (gone : Int) (A2 : Option Addr) (c2 : Nat) (ys : List Int) (w : World) (hr1 : Kd.C (Kd.int .u8) w A1 xs.length xs) (hc1 : xs.length ≤ c1) (hr2 : Kd.C (Kd.int .u8) w A2 ys.length ys) (hc2 : ys.length ≤ c2) (hm : 0 ≤ most) (hg : 0 ≤ gone ∧ gone ≤ 1000000000000000000) (hs : xs.length + ys.length < 140737488350000) :
    Calls Try.prog 15 #[.agg #[.int .i64 most, .slice A1 xs.length c1, .int .i64 gone], .slice A2 ys.length c2] w fun e w' => ∃ A c S, e = .returned (.tuple #[.agg #[.int .i64 most, .slice A (putL most xs ys).length c, .int .i64 (gone + (ovN most xs.length ys.length : Int))], .int .i64 (ovN most xs.length ys.length : Int)]) ∧ Out w w' (fun _ => False) [Chunk.view (Kd.int .u8) S A (putL most xs ys).length c (putL most xs ys)] := by
  refine gw_start (N := 57) (vs := [.agg #[.int .i64 most, .slice A1 xs.length c1, .int .i64 gone], .slice A2 ys.length c2]) Try.func15 rfl rfl (by simp) fun a HF HO => ?_
  replace HO : Own w w [] := HO
  refine gw_seq fun K1 hK1 => ?_
  refine wp_region_lit ?_
  refine gw_new HF HO (want_none rfl) rfl (by decide) (op_box rfl (HF.ev rfl)) ?_
  intro g2 a3 w4 HF5 HO6; clear HF HO
  have HO7 : Own w w4 [Chunk.blk g2 (.cells #[.int .i64 most, .slice A1 xs.length c1, .int .i64 gone] 28 (0, 0))] := HO6
  clear HO6
  refine gw_new HF5 HO7 (want_none rfl) rfl (by decide) (op_alloc gwzer28 rfl) ?_
  intro g8 a9 w10 HF11 HO12; clear HF5 HO7
  have HO13 : Own w w10 [Chunk.blk g8 (.cells #[.int .i64 0, .slice none 0 0, .int .i64 0] 28 (0, 0)), Chunk.blk g2 (.cells #[.int .i64 most, .slice A1 xs.length c1, .int .i64 gone] 28 (0, 0))] := HO12
  clear HO12
  refine gw_ev HF11 (want_none rfl) rfl (by decide) (op_assign rfl (ev_c _ _)) ?_
  intro a14 HF15; clear HF11
  refine wpList_nil ?_
  refine gw_nx (hK1 _ _ ?_)
  refine gw_seq fun K16 hK16 => ?_
  refine wp_region_lit ?_
  refine gw_lit (enc := Value.int .u8) (fun _ => rfl) (xs := ([] : List Int)) (e := 5) HF15 HO13 (want_none rfl) rfl (by decide) (op_bslice (by kernel_rfl) rfl pt_nil) (by simp) ?_
  intro A17 S18 a19 w20 HF21 HO22; clear HF15 HO13
  have HO23 : Own w w20 [Chunk.row (Kd.int .u8) 5 w.heap.size S18 (.slice A17 ((([] : List Int)).length) ((([] : List Int)).length)) ([] : List Int), Chunk.blk g8 (.cells #[.int .i64 0, .slice none 0 0, .int .i64 0] 28 (0, 0)), Chunk.blk g2 (.cells #[.int .i64 most, .slice A1 xs.length c1, .int .i64 gone] 28 (0, 0))] := HO22
  clear HO22
  refine gw_ev HF21 (want_none rfl) rfl (by decide) (op_assign rfl (HF21.ev rfl)) ?_
  intro a24 HF25; clear HF21
  refine wpList_nil ?_
  refine gw_nx (hK16 _ _ ?_)
  refine gw_seq fun K26 hK26 => ?_
  refine gw_seq fun K27 hK27 => ?_
  refine wp_region_lit ?_
  refine gw_ev HF25 (want_none rfl) rfl (by decide) (op_assign rfl (ev_c _ _)) ?_
  intro a28 HF29; clear HF25
  refine wpList_nil ?_
  refine gw_nx (hK27 _ _ ?_)
  refine wp_block ?_
  refine gw_loop (fun m_ a_ w_ => ∃ (i : Int) (Aa : Option Addr) (ca : Nat) (Sr : Nat → Prop), Fr 57 a_ [(7, .int .i64 i), (6, .slice Aa ((xs.take i.toNat).length) ca), (1, .slice A2 ys.length c2), (2, .pointer (some ⟨g2, 0, none⟩)), (4, .pointer (some ⟨g8, 0, none⟩)), (5, .int .i64 0)] ∧ Own w w_ [Chunk.row (Kd.int .u8) 5 w.heap.size Sr (.slice Aa ((xs.take i.toNat).length) ca) (xs.take i.toNat), Chunk.blk g8 (.cells #[.int .i64 0, .slice none 0 0, .int .i64 0] 28 (0, 0)), Chunk.blk g2 (.cells #[.int .i64 most, .slice A1 xs.length c1, .int .i64 gone] 28 (0, 0))] ∧ (0 ≤ i ∧ i ≤ xs.length) ∧ m_ = (xs.length - i.toNat)) ((xs.length - (0 : Int).toNat)) ?_ ?_
  · refine ⟨0, A17, _, _, (HF29.pick (t := 7) rfl (HF29.pick (t := 6) rfl (HF29.pick (t := 1) rfl (HF29.pick (t := 2) rfl (HF29.pick (t := 4) rfl (HF29.pick (t := 5) rfl HF29.nil)))))), HO23.sel [0, 1, 2] (by decide), ?_, rfl⟩
    · (first | omega | ((try simp only [List.length_append, List.length_take, List.length_drop, List.length_nil, List.length_cons, List.length_set] at *); omega))
  · rintro m31 a32 w33 ⟨i, Aa, ca, Sr, HF34, HO35, hi, hm36⟩
    refine gw_seq fun K37 hK37 => ?_
    refine gw_seq fun K38 hK38 => ?_
    refine wp_region_lit ?_
    refine gw_ev HF34 (want_none rfl) rfl (by decide) (op_move rfl (HF34.ev rfl)) ?_
    intro a39 HF40; clear HF34
    refine gw_ev HF40 (want_none rfl) rfl (by decide) (op_field (gwfld28_1 _ _) rfl (HF40.ev rfl)) ?_
    intro a41 HF42; clear HF40
    refine gw_ev HF42 (want_none rfl) rfl (by decide) (op_load1 gwagg26 rfl (HF42.ev rfl) (blk_at (HO35.get 2 rfl) rfl)) ?_
    intro a43 HF44; clear HF42
    refine gw_ev HF44 (want_none rfl) rfl (by decide) (op_len Try.underlying26 rfl (HF44.ev rfl)) ?_
    intro a45 HF46; clear HF44
    refine gw_ev HF46 (want_none rfl) rfl (by decide) (op_lss rfl (HF46.ev rfl) (HF46.ev rfl)) ?_
    intro a47 HF48; clear HF46
    refine wpList_nil ?_
    refine gw_nx (hK38 _ _ ?_)
    refine gw_cond HF48 rfl (fun hb49 => ?_) (fun hb49 => ?_)
    · skip
      have HF50 := HF48.subst_ (d := 15) (b := true) rfl hb49
      clear HF48
      (try simp only [decide_eq_true_eq, decide_eq_false_iff_not, Bool.not_eq_true', Bool.not_eq_false', Bool.not_eq_true, Bool.not_eq_false, ne_eq, Decidable.not_not, Int.not_lt, Int.not_le, not_true_eq_false, not_false_eq_true, bne_iff_ne, beq_iff_eq, bne_eq_false_iff_eq, beq_eq_false_iff_ne] at hb49)
      refine wp_skip ?_
      refine gw_nx (hK37 _ _ ?_)
      refine gw_seq fun K51 hK51 => ?_
      refine wp_block ?_
      refine wp_region_lit ?_
      refine gw_ev HF50 (want_none rfl) rfl (by decide) (op_move rfl (HF50.ev rfl)) ?_
      intro a52 HF53; clear HF50
      refine gw_ev HF53 (want_none rfl) rfl (by decide) (op_field (gwfld28_1 _ _) rfl (HF53.ev rfl)) ?_
      intro a54 HF55; clear HF53
      refine gw_ev HF55 (want_none rfl) rfl (by decide) (op_load1 gwagg26 rfl (HF55.ev rfl) (blk_at (HO35.get 2 rfl) rfl)) ?_
      intro a56 HF57; clear HF55
      refine gw_ev HF57 (want_none rfl) rfl (by decide) (op_move rfl (HF57.ev rfl)) ?_
      intro a58 HF59; clear HF57
      obtain ⟨ad60, cs63, hA61, hl64, hK65, hc62⟩ := Kd.C_get hr1 (0 : Int) i (by (first | omega | ((try simp only [List.length_append, List.length_take, List.length_drop, List.length_nil, List.length_cons, List.length_set] at *); omega))) (by (first | omega | ((try simp only [List.length_append, List.length_take, List.length_drop, List.length_nil, List.length_cons, List.length_set] at *); omega)))
      obtain rfl := id hK65
      clear hl64
      refine gw_ev HF59 (want_none rfl) rfl (by decide) (op_index Try.underlying26 gwsiz5 rfl (HF59.ev rfl) (HF59.ev rfl) hA61 (⟨by (first | omega | ((try simp only [List.length_append, List.length_take, List.length_drop, List.length_nil, List.length_cons, List.length_set] at *); omega)), by (first | omega | ((try simp only [List.length_append, List.length_take, List.length_drop, List.length_nil, List.length_cons, List.length_set] at *); omega))⟩)) ?_
      intro a66 HF67; clear HF59
      refine gw_ev HF67 (want_none rfl) rfl (by decide) (op_load1 gwagg5 rfl (HF67.ev rfl) (HO35.cell0 (at0 hc62))) ?_
      intro a68 HF69; clear HF67
      refine gw_lit (enc := Value.int .u8) (fun _ => rfl) (xs := [(xs.getD i.toNat (0 : Int))]) (e := 5) HF69 HO35 (want_none rfl) rfl (by decide) (op_bslice (by kernel_rfl) rfl (pt_cons (HF69.ev rfl) pt_nil)) (by simp) ?_
      intro A70 S71 a72 w73 HF74 HO75; clear HF69 HO35
      have HO76 : Own w w73 [Chunk.row (Kd.int .u8) 5 w.heap.size S71 (.slice A70 (([(xs.getD i.toNat (0 : Int))]).length) (([(xs.getD i.toNat (0 : Int))]).length)) ([(xs.getD i.toNat (0 : Int))]), Chunk.row (Kd.int .u8) 5 w.heap.size Sr (.slice Aa ((xs.take i.toNat).length) ca) (xs.take i.toNat), Chunk.blk g8 (.cells #[.int .i64 0, .slice none 0 0, .int .i64 0] 28 (0, 0)), Chunk.blk g2 (.cells #[.int .i64 most, .slice A1 xs.length c1, .int .i64 gone] 28 (0, 0))] := HO75
      clear HO75
      refine gw_append (Kd.int .u8) 1 HF74 HO76 (want_none rfl) rfl (by decide) rfl Try.underlying26 gwinfo5 rfl (by decide) (by decide) rfl (HF74.ev rfl) (HF74.ev rfl) (Kd.R_reads' (HO76.get 0 rfl)).2.2 (fun _ _ h => h) HO76.below.size (by (first | omega | ((try simp only [List.length_append, List.length_take, List.length_drop, List.length_nil, List.length_cons, List.length_set] at *); omega))) ?_
      intro A77 c78 S79 a80 w81 HF82 HO83; clear HF74 HO76
      have HO84 : Own w w81 [Chunk.row (Kd.int .u8) 5 w.heap.size S71 (.slice A70 (([(xs.getD i.toNat (0 : Int))]).length) (([(xs.getD i.toNat (0 : Int))]).length)) ([(xs.getD i.toNat (0 : Int))]), Chunk.row (Kd.int .u8) 5 w.heap.size S79 (.slice A77 (((xs.take i.toNat) ++ [(xs.getD i.toNat (0 : Int))]).length) c78) ((xs.take i.toNat) ++ [(xs.getD i.toNat (0 : Int))]), Chunk.blk g8 (.cells #[.int .i64 0, .slice none 0 0, .int .i64 0] 28 (0, 0)), Chunk.blk g2 (.cells #[.int .i64 most, .slice A1 xs.length c1, .int .i64 gone] 28 (0, 0))] := HO83
      clear HO83
      refine gw_ev HF82 (want_none rfl) rfl (by decide) (op_assign rfl (HF82.ev rfl)) ?_
      intro a85 HF86; clear HF82
      refine wpList_nil ?_
      refine gw_blk ?_
      refine gw_nx (hK51 _ _ ?_)
      refine wp_region_lit ?_
      refine gw_ev HF86 (want_none rfl) rfl (by decide) (op_move rfl (HF86.ev rfl)) ?_
      intro a87 HF88; clear HF86
      refine gw_ev HF88 (want_none rfl) rfl (by decide) (op_add rfl (HF88.ev rfl) (ev_c _ _) (by (first | omega | ((try simp only [List.length_append, List.length_take, List.length_drop, List.length_nil, List.length_cons, List.length_set] at *); omega)))) ?_
      intro a89 HF90; clear HF88
      refine gw_ev HF90 (want_none rfl) rfl (by decide) (op_assign rfl (HF90.ev rfl)) ?_
      intro a91 HF92; clear HF90
      refine wpList_nil ?_
      rw [take_snoc xs i (by (first | omega | ((try simp only [List.length_append, List.length_take, List.length_drop, List.length_nil, List.length_cons, List.length_set] at *); omega))) (by (first | omega | ((try simp only [List.length_append, List.length_take, List.length_drop, List.length_nil, List.length_cons, List.length_set] at *); omega)))] at HO84
      (try rw [take_snoc xs i (by (first | omega | ((try simp only [List.length_append, List.length_take, List.length_drop, List.length_nil, List.length_cons, List.length_set] at *); omega))) (by (first | omega | ((try simp only [List.length_append, List.length_take, List.length_drop, List.length_nil, List.length_cons, List.length_set] at *); omega)))] at HF92)
      refine gw_nx ⟨_, ?_, i + 1, A77, _, _, (HF92.pick (t := 7) rfl (HF92.pick (t := 6) rfl (HF92.pick (t := 1) rfl (HF92.pick (t := 2) rfl (HF92.pick (t := 4) rfl (HF92.pick (t := 5) rfl HF92.nil)))))), HO84.sel [1, 2, 3] (by decide), ?_, rfl⟩
      · rw [hm36]; (first | omega | ((try simp only [List.length_append, List.length_take, List.length_drop, List.length_nil, List.length_cons, List.length_set] at *); omega))
      · (first | omega | ((try simp only [List.length_append, List.length_take, List.length_drop, List.length_nil, List.length_cons, List.length_set] at *); omega))
    · skip
      have HF93 := HF48.subst_ (d := 15) (b := false) rfl hb49
      clear HF48
      (try simp only [decide_eq_true_eq, decide_eq_false_iff_not, Bool.not_eq_true', Bool.not_eq_false', Bool.not_eq_true, Bool.not_eq_false, ne_eq, Decidable.not_not, Int.not_lt, Int.not_le, not_true_eq_false, not_false_eq_true, bne_iff_ne, beq_iff_eq, bne_eq_false_iff_eq, beq_eq_false_iff_ne] at hb49)
      refine wp_exit ?_
      refine gw_thx ?_
      refine gw_thx ?_
      refine gw_in ?_
      refine gw_nx (hK26 _ _ ?_)
      refine gw_seq fun K94 hK94 => ?_
      refine gw_seq fun K95 hK95 => ?_
      refine wp_region_lit ?_
      refine gw_ev HF93 (want_none rfl) rfl (by decide) (op_assign rfl (ev_c _ _)) ?_
      intro a96 HF97; clear HF93
      refine wpList_nil ?_
      refine gw_nx (hK95 _ _ ?_)
      refine wp_block ?_
      have e1_ : xs.take i.toNat = xs ++ ys.take (0 : Int).toNat := by rw [List.take_of_length_le (by (first | omega | ((try simp only [List.length_append, List.length_take, List.length_drop, List.length_nil, List.length_cons, List.length_set] at *); omega)))]; simp
      rw [e1_] at HO35
      (try rw [e1_] at HF97)
      refine gw_loop (fun m_ a_ w_ => ∃ (j : Int) (Ab : Option Addr) (cb : Nat) (Sq : Nat → Prop), Fr 57 a_ [(8, .int .i64 j), (6, .slice Ab ((xs ++ ys.take j.toNat).length) cb), (1, .slice A2 ys.length c2), (2, .pointer (some ⟨g2, 0, none⟩)), (4, .pointer (some ⟨g8, 0, none⟩)), (5, .int .i64 0)] ∧ Own w w_ [Chunk.row (Kd.int .u8) 5 w.heap.size Sq (.slice Ab ((xs ++ ys.take j.toNat).length) cb) (xs ++ ys.take j.toNat), Chunk.blk g8 (.cells #[.int .i64 0, .slice none 0 0, .int .i64 0] 28 (0, 0)), Chunk.blk g2 (.cells #[.int .i64 most, .slice A1 xs.length c1, .int .i64 gone] 28 (0, 0))] ∧ (0 ≤ j ∧ j ≤ ys.length) ∧ m_ = (ys.length - j.toNat)) ((ys.length - (0 : Int).toNat)) ?_ ?_
      · refine ⟨0, Aa, _, _, (HF97.pick (t := 8) rfl (HF97.pick (t := 6) rfl (HF97.pick (t := 1) rfl (HF97.pick (t := 2) rfl (HF97.pick (t := 4) rfl (HF97.pick (t := 5) rfl HF97.nil)))))), HO35.sel [0, 1, 2] (by decide), ?_, rfl⟩
        · (first | omega | ((try simp only [List.length_append, List.length_take, List.length_drop, List.length_nil, List.length_cons, List.length_set] at *); omega))
      · rintro m99 a100 w101 ⟨j, Ab, cb, Sq, HF102, HO103, hj, hm104⟩
        refine gw_seq fun K105 hK105 => ?_
        refine gw_seq fun K106 hK106 => ?_
        refine wp_region_lit ?_
        refine gw_ev HF102 (want_none rfl) rfl (by decide) (op_move rfl (HF102.ev rfl)) ?_
        intro a107 HF108; clear HF102
        refine gw_ev HF108 (want_none rfl) rfl (by decide) (op_move rfl (HF108.ev rfl)) ?_
        intro a109 HF110; clear HF108
        refine gw_ev HF110 (want_none rfl) rfl (by decide) (op_len Try.underlying26 rfl (HF110.ev rfl)) ?_
        intro a111 HF112; clear HF110
        refine gw_ev HF112 (want_none rfl) rfl (by decide) (op_lss rfl (HF112.ev rfl) (HF112.ev rfl)) ?_
        intro a113 HF114; clear HF112
        refine wpList_nil ?_
        refine gw_nx (hK106 _ _ ?_)
        refine gw_cond HF114 rfl (fun hb115 => ?_) (fun hb115 => ?_)
        · skip
          have HF116 := HF114.subst_ (d := 29) (b := true) rfl hb115
          clear HF114
          (try simp only [decide_eq_true_eq, decide_eq_false_iff_not, Bool.not_eq_true', Bool.not_eq_false', Bool.not_eq_true, Bool.not_eq_false, ne_eq, Decidable.not_not, Int.not_lt, Int.not_le, not_true_eq_false, not_false_eq_true, bne_iff_ne, beq_iff_eq, bne_eq_false_iff_eq, beq_eq_false_iff_ne] at hb115)
          refine wp_skip ?_
          refine gw_nx (hK105 _ _ ?_)
          refine gw_seq fun K117 hK117 => ?_
          refine wp_block ?_
          refine wp_region_lit ?_
          refine gw_ev HF116 (want_none rfl) rfl (by decide) (op_move rfl (HF116.ev rfl)) ?_
          intro a118 HF119; clear HF116
          refine gw_ev HF119 (want_none rfl) rfl (by decide) (op_move rfl (HF119.ev rfl)) ?_
          intro a120 HF121; clear HF119
          refine gw_ev HF121 (want_none rfl) rfl (by decide) (op_move rfl (HF121.ev rfl)) ?_
          intro a122 HF123; clear HF121
          obtain ⟨ad124, cs127, hA125, hl128, hK129, hc126⟩ := Kd.C_get hr2 (0 : Int) j (by (first | omega | ((try simp only [List.length_append, List.length_take, List.length_drop, List.length_nil, List.length_cons, List.length_set] at *); omega))) (by (first | omega | ((try simp only [List.length_append, List.length_take, List.length_drop, List.length_nil, List.length_cons, List.length_set] at *); omega)))
          obtain rfl := id hK129
          clear hl128
          refine gw_ev HF123 (want_none rfl) rfl (by decide) (op_index Try.underlying26 gwsiz5 rfl (HF123.ev rfl) (HF123.ev rfl) hA125 (⟨by (first | omega | ((try simp only [List.length_append, List.length_take, List.length_drop, List.length_nil, List.length_cons, List.length_set] at *); omega)), by (first | omega | ((try simp only [List.length_append, List.length_take, List.length_drop, List.length_nil, List.length_cons, List.length_set] at *); omega))⟩)) ?_
          intro a130 HF131; clear HF123
          refine gw_ev HF131 (want_none rfl) rfl (by decide) (op_load1 gwagg5 rfl (HF131.ev rfl) (HO103.cell0 (at0 hc126))) ?_
          intro a132 HF133; clear HF131
          refine gw_lit (enc := Value.int .u8) (fun _ => rfl) (xs := [(ys.getD j.toNat (0 : Int))]) (e := 5) HF133 HO103 (want_none rfl) rfl (by decide) (op_bslice (by kernel_rfl) rfl (pt_cons (HF133.ev rfl) pt_nil)) (by simp) ?_
          intro A134 S135 a136 w137 HF138 HO139; clear HF133 HO103
          have HO140 : Own w w137 [Chunk.row (Kd.int .u8) 5 w.heap.size S135 (.slice A134 (([(ys.getD j.toNat (0 : Int))]).length) (([(ys.getD j.toNat (0 : Int))]).length)) ([(ys.getD j.toNat (0 : Int))]), Chunk.row (Kd.int .u8) 5 w.heap.size Sq (.slice Ab ((xs ++ ys.take j.toNat).length) cb) (xs ++ ys.take j.toNat), Chunk.blk g8 (.cells #[.int .i64 0, .slice none 0 0, .int .i64 0] 28 (0, 0)), Chunk.blk g2 (.cells #[.int .i64 most, .slice A1 xs.length c1, .int .i64 gone] 28 (0, 0))] := HO139
          clear HO139
          refine gw_append (Kd.int .u8) 1 HF138 HO140 (want_none rfl) rfl (by decide) rfl Try.underlying26 gwinfo5 rfl (by decide) (by decide) rfl (HF138.ev rfl) (HF138.ev rfl) (Kd.R_reads' (HO140.get 0 rfl)).2.2 (fun _ _ h => h) HO140.below.size (by (first | omega | ((try simp only [List.length_append, List.length_take, List.length_drop, List.length_nil, List.length_cons, List.length_set] at *); omega))) ?_
          intro A141 c142 S143 a144 w145 HF146 HO147; clear HF138 HO140
          have HO148 : Own w w145 [Chunk.row (Kd.int .u8) 5 w.heap.size S135 (.slice A134 (([(ys.getD j.toNat (0 : Int))]).length) (([(ys.getD j.toNat (0 : Int))]).length)) ([(ys.getD j.toNat (0 : Int))]), Chunk.row (Kd.int .u8) 5 w.heap.size S143 (.slice A141 (((xs ++ ys.take j.toNat) ++ [(ys.getD j.toNat (0 : Int))]).length) c142) ((xs ++ ys.take j.toNat) ++ [(ys.getD j.toNat (0 : Int))]), Chunk.blk g8 (.cells #[.int .i64 0, .slice none 0 0, .int .i64 0] 28 (0, 0)), Chunk.blk g2 (.cells #[.int .i64 most, .slice A1 xs.length c1, .int .i64 gone] 28 (0, 0))] := HO147
          clear HO147
          refine gw_ev HF146 (want_none rfl) rfl (by decide) (op_assign rfl (HF146.ev rfl)) ?_
          intro a149 HF150; clear HF146
          refine wpList_nil ?_
          refine gw_blk ?_
          refine gw_nx (hK117 _ _ ?_)
          refine wp_region_lit ?_
          refine gw_ev HF150 (want_none rfl) rfl (by decide) (op_move rfl (HF150.ev rfl)) ?_
          intro a151 HF152; clear HF150
          refine gw_ev HF152 (want_none rfl) rfl (by decide) (op_add rfl (HF152.ev rfl) (ev_c _ _) (by (first | omega | ((try simp only [List.length_append, List.length_take, List.length_drop, List.length_nil, List.length_cons, List.length_set] at *); omega)))) ?_
          intro a153 HF154; clear HF152
          refine gw_ev HF154 (want_none rfl) rfl (by decide) (op_assign rfl (HF154.ev rfl)) ?_
          intro a155 HF156; clear HF154
          refine wpList_nil ?_
          rw [List.append_assoc, take_snoc ys j (by (first | omega | ((try simp only [List.length_append, List.length_take, List.length_drop, List.length_nil, List.length_cons, List.length_set] at *); omega))) (by (first | omega | ((try simp only [List.length_append, List.length_take, List.length_drop, List.length_nil, List.length_cons, List.length_set] at *); omega)))] at HO148
          (try rw [List.append_assoc, take_snoc ys j (by (first | omega | ((try simp only [List.length_append, List.length_take, List.length_drop, List.length_nil, List.length_cons, List.length_set] at *); omega))) (by (first | omega | ((try simp only [List.length_append, List.length_take, List.length_drop, List.length_nil, List.length_cons, List.length_set] at *); omega)))] at HF156)
          refine gw_nx ⟨_, ?_, j + 1, A141, _, _, (HF156.pick (t := 8) rfl (HF156.pick (t := 6) rfl (HF156.pick (t := 1) rfl (HF156.pick (t := 2) rfl (HF156.pick (t := 4) rfl (HF156.pick (t := 5) rfl HF156.nil)))))), HO148.sel [1, 2, 3] (by decide), ?_, rfl⟩
          · rw [hm104]; (first | omega | ((try simp only [List.length_append, List.length_take, List.length_drop, List.length_nil, List.length_cons, List.length_set] at *); omega))
          · (first | omega | ((try simp only [List.length_append, List.length_take, List.length_drop, List.length_nil, List.length_cons, List.length_set] at *); omega))
        · skip
          have HF157 := HF114.subst_ (d := 29) (b := false) rfl hb115
          clear HF114
          (try simp only [decide_eq_true_eq, decide_eq_false_iff_not, Bool.not_eq_true', Bool.not_eq_false', Bool.not_eq_true, Bool.not_eq_false, ne_eq, Decidable.not_not, Int.not_lt, Int.not_le, not_true_eq_false, not_false_eq_true, bne_iff_ne, beq_iff_eq, bne_eq_false_iff_eq, beq_eq_false_iff_ne] at hb115)
          refine wp_exit ?_
          refine gw_thx ?_
          refine gw_thx ?_
          refine gw_in ?_
          refine gw_nx (hK94 _ _ ?_)
          refine gw_seq fun K158 hK158 => ?_
          refine wp_region_lit ?_
          refine gw_ev HF157 (want_none rfl) rfl (by decide) (op_assign rfl (ev_c _ _)) ?_
          intro a159 HF160; clear HF157
          refine wpList_nil ?_
          refine gw_nx (hK158 _ _ ?_)
          refine gw_seq fun K161 hK161 => ?_
          refine wp_block ?_
          have e2_ : xs ++ ys.take j.toNat = (xs ++ ys).drop (0 : Int).toNat := by rw [List.take_of_length_le (by (first | omega | ((try simp only [List.length_append, List.length_take, List.length_drop, List.length_nil, List.length_cons, List.length_set] at *); omega)))]; simp
          rw [e2_] at HO103
          (try rw [e2_] at HF160)
          have HO162 := HO103.row_view 0 rfl
          clear HO103
          have HO163 : Own w w101 [Chunk.view (Kd.int .u8) Sq Ab (((xs ++ ys).drop (0 : Int).toNat).length) cb ((xs ++ ys).drop (0 : Int).toNat), Chunk.blk g8 (.cells #[.int .i64 0, .slice none 0 0, .int .i64 0] 28 (0, 0)), Chunk.blk g2 (.cells #[.int .i64 most, .slice A1 xs.length c1, .int .i64 gone] 28 (0, 0))] := HO162
          clear HO162
          refine gw_loop (fun m_ a_ w_ => ∃ (k : Int) (Av : Option Addr) (cv : Nat), Fr 57 a_ [(9, .int .i64 k), (6, .slice Av (((xs ++ ys).drop k.toNat).length) cv), (2, .pointer (some ⟨g2, 0, none⟩)), (4, .pointer (some ⟨g8, 0, none⟩)), (5, .int .i64 0)] ∧ Own w w_ [Chunk.view (Kd.int .u8) Sq Av (((xs ++ ys).drop k.toNat).length) cv ((xs ++ ys).drop k.toNat), Chunk.blk g8 (.cells #[.int .i64 0, .slice none 0 0, .int .i64 0] 28 (0, 0)), Chunk.blk g2 (.cells #[.int .i64 most, .slice A1 xs.length c1, .int .i64 gone] 28 (0, 0))] ∧ (0 ≤ k ∧ k ≤ (xs ++ ys).length) ∧ (k = 0 ∨ most ≤ (xs.length : Int) + ys.length - k) ∧ m_ = ((xs ++ ys).length - k.toNat)) (((xs ++ ys).length - (0 : Int).toNat)) ?_ ?_
          · refine ⟨0, Ab, _, (HF160.pick (t := 9) rfl (HF160.pick (t := 6) rfl (HF160.pick (t := 2) rfl (HF160.pick (t := 4) rfl (HF160.pick (t := 5) rfl HF160.nil))))), HO163.sel [0, 1, 2] (by decide), ?_, ?_, rfl⟩
            · (first | omega | ((try simp only [List.length_append, List.length_take, List.length_drop, List.length_nil, List.length_cons, List.length_set] at *); omega))
            · (first | omega | ((try simp only [List.length_append, List.length_take, List.length_drop, List.length_nil, List.length_cons, List.length_set] at *); omega))
          · rintro m165 a166 w167 ⟨k, Av, cv, HF168, HO169, hk, hq, hm170⟩
            refine gw_seq fun K171 hK171 => ?_
            refine gw_seq fun K172 hK172 => ?_
            refine wp_region_lit ?_
            refine gw_ev HF168 (want_none rfl) rfl (by decide) (op_move rfl (HF168.ev rfl)) ?_
            intro a173 HF174; clear HF168
            refine gw_ev HF174 (want_none rfl) rfl (by decide) (op_len Try.underlying26 rfl (HF174.ev rfl)) ?_
            intro a175 HF176; clear HF174
            refine gw_ev HF176 (want_none rfl) rfl (by decide) (op_field (gwfld28_0 _ _) rfl (HF176.ev rfl)) ?_
            intro a177 HF178; clear HF176
            refine gw_ev HF178 (want_none rfl) rfl (by decide) (op_load1 gwagg3 rfl (HF178.ev rfl) (blk_at (HO169.get 2 rfl) rfl)) ?_
            intro a179 HF180; clear HF178
            refine gw_ev HF180 (want_none rfl) rfl (by decide) (op_gtr rfl (HF180.ev rfl) (HF180.ev rfl)) ?_
            intro a181 HF182; clear HF180
            refine wpList_nil ?_
            refine gw_nx (hK172 _ _ ?_)
            refine gw_cond HF182 rfl (fun hb183 => ?_) (fun hb183 => ?_)
            · skip
              have HF184 := HF182.subst_ (d := 43) (b := true) rfl hb183
              clear HF182
              (try simp only [decide_eq_true_eq, decide_eq_false_iff_not, Bool.not_eq_true', Bool.not_eq_false', Bool.not_eq_true, Bool.not_eq_false, ne_eq, Decidable.not_not, Int.not_lt, Int.not_le, not_true_eq_false, not_false_eq_true, bne_iff_ne, beq_iff_eq, bne_eq_false_iff_eq, beq_eq_false_iff_ne] at hb183)
              refine wp_skip ?_
              refine gw_nx (hK171 _ _ ?_)
              refine wp_block ?_
              refine gw_seq fun K185 hK185 => ?_
              refine wp_region_lit ?_
              refine gw_ev HF184 (want_none rfl) rfl (by decide) (op_move rfl (HF184.ev rfl)) ?_
              intro a186 HF187; clear HF184
              obtain ⟨A188, c189, hr190, hc191, hC192, hA193⟩ := cut_lo (P := Try.prog) (d := (Kd.int .u8)) (t := 26) (e := 5) Try.underlying26 gwsiz5 Av cv ((xs ++ ys).drop k.toNat) (view_le (HO169.get 0 rfl)) 1 (by (first | omega | ((try simp only [List.length_append, List.length_take, List.length_drop, List.length_nil, List.length_cons, List.length_set] at *); omega))) (by (first | omega | ((try simp only [List.length_append, List.length_take, List.length_drop, List.length_nil, List.length_cons, List.length_set] at *); omega)))
              refine gw_ev HF187 (want_none rfl) rfl (by decide) (op_cut Try.underlying26 hr190 rfl (HF187.ev rfl) (some_ev (ev_c _ _)) rfl) ?_
              intro a194 HF195; clear HF187
              refine gw_ev HF195 (want_none rfl) rfl (by decide) (op_assign rfl (HF195.ev rfl)) ?_
              intro a196 HF197; clear HF195
              refine wpList_nil ?_
              refine gw_nx (hK185 _ _ ?_)
              refine wp_region_lit ?_
              refine gw_ev HF197 (want_none rfl) rfl (by decide) (op_move rfl (HF197.ev rfl)) ?_
              intro a198 HF199; clear HF197
              refine gw_ev HF199 (want_none rfl) rfl (by decide) (op_add rfl (HF199.ev rfl) (ev_c _ _) (by (first | omega | ((try simp only [List.length_append, List.length_take, List.length_drop, List.length_nil, List.length_cons, List.length_set] at *); omega)))) ?_
              intro a200 HF201; clear HF199
              refine gw_ev HF201 (want_none rfl) rfl (by decide) (op_assign rfl (HF201.ev rfl)) ?_
              intro a202 HF203; clear HF201
              refine wpList_nil ?_
              refine gw_blk ?_
              have HO204 := HO169.view_cut 0 rfl (A' := A188) (n' := ((((xs ++ ys).drop k.toNat).drop (1 : Int).toNat).length)) (c' := c189) (ys := (((xs ++ ys).drop k.toNat).drop (1 : Int).toNat)) hc191 hC192 hA193
              clear HO169
              have HO205 : Own w w167 [Chunk.view (Kd.int .u8) Sq A188 ((((xs ++ ys).drop k.toNat).drop (1 : Int).toNat).length) c189 (((xs ++ ys).drop k.toNat).drop (1 : Int).toNat), Chunk.blk g8 (.cells #[.int .i64 0, .slice none 0 0, .int .i64 0] 28 (0, 0)), Chunk.blk g2 (.cells #[.int .i64 most, .slice A1 xs.length c1, .int .i64 gone] 28 (0, 0))] := HO204
              clear HO204
              rw [drop_one_more (xs ++ ys) k (by (first | omega | ((try simp only [List.length_append, List.length_take, List.length_drop, List.length_nil, List.length_cons, List.length_set] at *); omega)))] at HO205
              (try rw [drop_one_more (xs ++ ys) k (by (first | omega | ((try simp only [List.length_append, List.length_take, List.length_drop, List.length_nil, List.length_cons, List.length_set] at *); omega)))] at HF203)
              refine gw_nx ⟨_, ?_, k + 1, A188, _, (HF203.pick (t := 9) rfl (HF203.pick (t := 6) rfl (HF203.pick (t := 2) rfl (HF203.pick (t := 4) rfl (HF203.pick (t := 5) rfl HF203.nil))))), HO205.sel [0, 1, 2] (by decide), ?_, ?_, rfl⟩
              · rw [hm170]; (first | omega | ((try simp only [List.length_append, List.length_take, List.length_drop, List.length_nil, List.length_cons, List.length_set] at *); omega))
              · (first | omega | ((try simp only [List.length_append, List.length_take, List.length_drop, List.length_nil, List.length_cons, List.length_set] at *); omega))
              · (first | omega | ((try simp only [List.length_append, List.length_take, List.length_drop, List.length_nil, List.length_cons, List.length_set] at *); omega))
            · skip
              have HF206 := HF182.subst_ (d := 43) (b := false) rfl hb183
              clear HF182
              (try simp only [decide_eq_true_eq, decide_eq_false_iff_not, Bool.not_eq_true', Bool.not_eq_false', Bool.not_eq_true, Bool.not_eq_false, ne_eq, Decidable.not_not, Int.not_lt, Int.not_le, not_true_eq_false, not_false_eq_true, bne_iff_ne, beq_iff_eq, bne_eq_false_iff_eq, beq_eq_false_iff_ne] at hb183)
              refine wp_exit ?_
              refine gw_thx ?_
              refine gw_thx ?_
              refine gw_in ?_
              refine gw_nx (hK161 _ _ ?_)
              refine gw_seq fun K207 hK207 => ?_
              refine wp_region_lit ?_
              refine gw_ev HF206 (want_none rfl) rfl (by decide) (op_move rfl (HF206.ev rfl)) ?_
              intro a208 HF209; clear HF206
              refine gw_ev HF209 (want_none rfl) rfl (by decide) (op_field (gwfld28_1 _ _) rfl (HF209.ev rfl)) ?_
              intro a210 HF211; clear HF209
              refine gw_set 2 HF211 HO169 rfl (want_none rfl) rfl (op_store1 gwsiz26 rfl (HF211.ev rfl) (HF211.ev rfl) rfl (blk_at (HO169.get 2 rfl) rfl) (blkf (HO169.get 2 rfl))) ?_
              intro a212 w214 HF213 HO215; clear HF211 HO169
              have HO216 : Own w w214 [Chunk.view (Kd.int .u8) Sq Av (((xs ++ ys).drop k.toNat).length) cv ((xs ++ ys).drop k.toNat), Chunk.blk g8 (.cells #[.int .i64 0, .slice none 0 0, .int .i64 0] 28 (0, 0)), Chunk.blk g2 (.cells #[.int .i64 most, .slice Av (((xs ++ ys).drop k.toNat).length) cv, .int .i64 gone] 28 (0, 0))] := HO215
              clear HO215
              refine wpList_nil ?_
              refine gw_nx (hK207 _ _ ?_)
              refine gw_seq fun K217 hK217 => ?_
              refine wp_region_lit ?_
              refine gw_ev HF213 (want_none rfl) rfl (by decide) (op_field (gwfld28_2 _ _) rfl (HF213.ev rfl)) ?_
              intro a218 HF219; clear HF213
              refine gw_ev HF219 (want_none rfl) rfl (by decide) (op_load1 gwagg2 rfl (HF219.ev rfl) (blk_at (HO216.get 2 rfl) rfl)) ?_
              intro a220 HF221; clear HF219
              refine gw_ev HF221 (want_none rfl) rfl (by decide) (op_move rfl (HF221.ev rfl)) ?_
              intro a222 HF223; clear HF221
              refine gw_ev HF223 (want_none rfl) rfl (by decide) (op_add rfl (HF223.ev rfl) (HF223.ev rfl) (by (first | omega | ((try simp only [List.length_append, List.length_take, List.length_drop, List.length_nil, List.length_cons, List.length_set] at *); omega)))) ?_
              intro a224 HF225; clear HF223
              refine gw_ev HF225 (want_none rfl) rfl (by decide) (op_field (gwfld28_2 _ _) rfl (HF225.ev rfl)) ?_
              intro a226 HF227; clear HF225
              refine gw_set 2 HF227 HO216 rfl (want_none rfl) rfl (op_store1 gwsiz2 rfl (HF227.ev rfl) (HF227.ev rfl) rfl (blk_at (HO216.get 2 rfl) rfl) (blkf (HO216.get 2 rfl))) ?_
              intro a228 w230 HF229 HO231; clear HF227 HO216
              have HO232 : Own w w230 [Chunk.view (Kd.int .u8) Sq Av (((xs ++ ys).drop k.toNat).length) cv ((xs ++ ys).drop k.toNat), Chunk.blk g8 (.cells #[.int .i64 0, .slice none 0 0, .int .i64 0] 28 (0, 0)), Chunk.blk g2 (.cells #[.int .i64 most, .slice Av (((xs ++ ys).drop k.toNat).length) cv, .int .i64 (gone + k)] 28 (0, 0))] := HO231
              clear HO231
              refine wpList_nil ?_
              refine gw_nx (hK217 _ _ ?_)
              refine gw_seq fun K233 hK233 => ?_
              refine wp_region_lit ?_
              refine gw_ev HF229 (want_none rfl) rfl (by decide) (op_loadn gwagg28 gwsiz28 rfl (HF229.ev rfl) (HO232.get 2 rfl) rfl rfl) ?_
              intro a234 HF235; clear HF229
              refine gw_ev HF235 (want_none rfl) rfl (by decide) (op_move rfl (HF235.ev rfl)) ?_
              intro a236 HF237; clear HF235
              refine gw_setn 1 HF237 HO232 rfl (want_none rfl) rfl (op_storen gwsiz28 rfl (HF237.ev rfl) (HF237.ev rfl) (HO232.get 1 rfl) rfl (by simp) (by simp [Value.oneCell'])) ?_
              intro a238 w240 HF239 HO241; clear HF237 HO232
              have HO242 : Own w w240 [Chunk.view (Kd.int .u8) Sq Av (((xs ++ ys).drop k.toNat).length) cv ((xs ++ ys).drop k.toNat), Chunk.blk g8 (.cells #[.int .i64 most, .slice Av (((xs ++ ys).drop k.toNat).length) cv, .int .i64 (gone + k)] 28 (0, 0)), Chunk.blk g2 (.cells #[.int .i64 most, .slice Av (((xs ++ ys).drop k.toNat).length) cv, .int .i64 (gone + k)] 28 (0, 0))] := HO241
              clear HO241
              refine gw_ev HF239 (want_none rfl) rfl (by decide) (op_assign rfl (HF239.ev rfl)) ?_
              intro a243 HF244; clear HF239
              refine wpList_nil ?_
              refine gw_nx (hK233 _ _ ?_)
              refine wp_ret ?_
              refine gw_rets2 HF244 rfl (rv_celln HF244 rfl gwagg28 gwsiz28 (HO242.get 1 rfl) rfl) (rv_tmp HF244 rfl) ?_
              have ek : k = (ovN most xs.length ys.length : Int) := by unfold ovN; (first | omega | ((try simp only [List.length_append, List.length_take, List.length_drop, List.length_nil, List.length_cons, List.length_set] at *); omega))
              subst ek
              exact ⟨_, _, _, rfl, (HO242.sel [0] (by decide)).out⟩
set_option maxHeartbeats 4000000 in
set_option maxRecDepth 100000 in
theorem take_calls (most : Int) (A1 : Option Addr) (c1 : Nat) (xs : List Int) (gone : Int) (n : Int) (w : World) (hr1 : Kd.C (Kd.int .u8) w A1 xs.length xs) (hc1 : xs.length ≤ c1) :
    Calls Try.prog 17 #[.agg #[.int .i64 most, .slice A1 xs.length c1, .int .i64 gone], .int .i64 n] w fun e w' => ∃ A c, (∀ W, (Kd.int .u8).C W A1 xs.length xs → (Kd.int .u8).C W A (xs.drop (mn (mx n 0) xs.length).toNat).length (xs.drop (mn (mx n 0) xs.length).toNat)) ∧ (xs.drop (mn (mx n 0) xs.length).toNat).length ≤ c ∧ (∀ ad, A = some ad → ∃ ad0, A1 = some ad0 ∧ ad.block = ad0.block) ∧ e = .returned (.tuple #[.agg #[.int .i64 most, .slice A (xs.drop (mn (mx n 0) xs.length).toNat).length c, .int .i64 gone], .slice A1 (xs.take (mn (mx n 0) xs.length).toNat).length c1]) ∧ Below w.heap.size w w' := by
  have hj : 0 ≤ mn (mx n 0) xs.length ∧ mn (mx n 0) xs.length ≤ xs.length := by unfold mn mx; (repeat' split) <;> omega
  refine gw_start (N := 23) (vs := [.agg #[.int .i64 most, .slice A1 xs.length c1, .int .i64 gone], .int .i64 n]) Try.func17 rfl rfl (by simp) fun a HF HO => ?_
  replace HO : Own w w [] := HO
  refine gw_seq fun K1 hK1 => ?_
  refine wp_region_lit ?_
  refine gw_new HF HO (want_none rfl) rfl (by decide) (op_box rfl (HF.ev rfl)) ?_
  intro g2 a3 w4 HF5 HO6; clear HF HO
  have HO7 : Own w w4 [Chunk.blk g2 (.cells #[.int .i64 most, .slice A1 xs.length c1, .int .i64 gone] 28 (0, 0))] := HO6
  clear HO6
  refine gw_new HF5 HO7 (want_none rfl) rfl (by decide) (op_alloc gwzer28 rfl) ?_
  intro g8 a9 w10 HF11 HO12; clear HF5 HO7
  have HO13 : Own w w10 [Chunk.blk g8 (.cells #[.int .i64 0, .slice none 0 0, .int .i64 0] 28 (0, 0)), Chunk.blk g2 (.cells #[.int .i64 most, .slice A1 xs.length c1, .int .i64 gone] 28 (0, 0))] := HO12
  clear HO12
  refine gw_ev HF11 (want_none rfl) rfl (by decide) (op_assign rfl (ev_c _ _)) ?_
  intro a14 HF15; clear HF11
  refine wpList_nil ?_
  refine gw_nx (hK1 _ _ ?_)
  refine gw_seq fun K16 hK16 => ?_
  refine wp_region_lit ?_
  refine gw_ev HF15 (want_none rfl) rfl (by decide) (op_move rfl (HF15.ev rfl)) ?_
  intro a17 HF18; clear HF15
  refine gw_ev HF18 (want_none rfl) rfl (by decide) (op_field (gwfld28_1 _ _) rfl (HF18.ev rfl)) ?_
  intro a19 HF20; clear HF18
  refine gw_ev HF20 (want_none rfl) rfl (by decide) (op_load1 gwagg26 rfl (HF20.ev rfl) (blk_at (HO13.get 1 rfl) rfl)) ?_
  intro a21 HF22; clear HF20
  refine gw_ev HF22 (want_none rfl) rfl (by decide) (op_len Try.underlying26 rfl (HF22.ev rfl)) ?_
  intro a23 HF24; clear HF22
  refine gw_call HF24 (want_none rfl) rfl (by decide) (op_callL Try.func35 (by kernel_rfl) rfl rfl (ar_cons (HF24.ev rfl) (ar_cons (ev_c _ _) (ar_cons (HF24.ev rfl) ar_nil)))) (GBetween_.between_calls n 0 (xs.length : Int) _ (by (first | omega | ((try simp only [List.length_append, List.length_take, List.length_drop, List.length_nil, List.length_cons, List.length_set] at *); omega)))) ?_
  rintro e25 w26 ⟨rfl, hb27⟩
  refine ⟨_, rfl, fun a28 HF29 => ?_⟩
  have HO30 := HO13.after hb27
  clear HF24 HO13 hb27
  refine gw_ev HF29 (want_none rfl) rfl (by decide) (op_assign rfl (HF29.ev rfl)) ?_
  intro a32 HF33; clear HF29
  refine wpList_nil ?_
  refine gw_nx (hK16 _ _ ?_)
  refine gw_seq fun K34 hK34 => ?_
  refine wp_region_lit ?_
  refine gw_ev HF33 (want_none rfl) rfl (by decide) (op_field (gwfld28_1 _ _) rfl (HF33.ev rfl)) ?_
  intro a35 HF36; clear HF33
  refine gw_ev HF36 (want_none rfl) rfl (by decide) (op_load1 gwagg26 rfl (HF36.ev rfl) (blk_at (HO30.get 1 rfl) rfl)) ?_
  intro a37 HF38; clear HF36
  refine gw_ev HF38 (want_none rfl) rfl (by decide) (op_move rfl (HF38.ev rfl)) ?_
  intro a39 HF40; clear HF38
  obtain ⟨hr41, hc42, hC43⟩ := cut_hi (P := Try.prog) (d := (Kd.int .u8)) (t := 26) (e := 5) Try.underlying26 gwsiz5 A1 c1 xs hc1 (mn (mx n 0) (xs.length : Int)) (by (first | omega | ((try simp only [List.length_append, List.length_take, List.length_drop, List.length_nil, List.length_cons, List.length_set] at *); omega))) (by (first | omega | ((try simp only [List.length_append, List.length_take, List.length_drop, List.length_nil, List.length_cons, List.length_set] at *); omega)))
  refine gw_ev HF40 (want_none rfl) rfl (by decide) (op_cut Try.underlying26 hr41 rfl (HF40.ev rfl) rfl (some_ev (HF40.ev rfl))) ?_
  intro a44 HF45; clear HF40
  refine gw_ev HF45 (want_none rfl) rfl (by decide) (op_assign rfl (HF45.ev rfl)) ?_
  intro a46 HF47; clear HF45
  refine wpList_nil ?_
  refine gw_nx (hK34 _ _ ?_)
  refine gw_seq fun K48 hK48 => ?_
  refine wp_region_lit ?_
  refine gw_ev HF47 (want_none rfl) rfl (by decide) (op_field (gwfld28_1 _ _) rfl (HF47.ev rfl)) ?_
  intro a49 HF50; clear HF47
  refine gw_ev HF50 (want_none rfl) rfl (by decide) (op_load1 gwagg26 rfl (HF50.ev rfl) (blk_at (HO30.get 1 rfl) rfl)) ?_
  intro a51 HF52; clear HF50
  refine gw_ev HF52 (want_none rfl) rfl (by decide) (op_move rfl (HF52.ev rfl)) ?_
  intro a53 HF54; clear HF52
  obtain ⟨A55, c56, hr57, hc58, hC59, hA60⟩ := cut_lo (P := Try.prog) (d := (Kd.int .u8)) (t := 26) (e := 5) Try.underlying26 gwsiz5 A1 c1 xs hc1 (mn (mx n 0) (xs.length : Int)) (by (first | omega | ((try simp only [List.length_append, List.length_take, List.length_drop, List.length_nil, List.length_cons, List.length_set] at *); omega))) (by (first | omega | ((try simp only [List.length_append, List.length_take, List.length_drop, List.length_nil, List.length_cons, List.length_set] at *); omega)))
  refine gw_ev HF54 (want_none rfl) rfl (by decide) (op_cut Try.underlying26 hr57 rfl (HF54.ev rfl) (some_ev (HF54.ev rfl)) rfl) ?_
  intro a61 HF62; clear HF54
  refine gw_ev HF62 (want_none rfl) rfl (by decide) (op_field (gwfld28_1 _ _) rfl (HF62.ev rfl)) ?_
  intro a63 HF64; clear HF62
  refine gw_set 1 HF64 HO30 rfl (want_none rfl) rfl (op_store1 gwsiz26 rfl (HF64.ev rfl) (HF64.ev rfl) rfl (blk_at (HO30.get 1 rfl) rfl) (blkf (HO30.get 1 rfl))) ?_
  intro a65 w67 HF66 HO68; clear HF64 HO30
  have HO69 : Own w w67 [Chunk.blk g8 (.cells #[.int .i64 0, .slice none 0 0, .int .i64 0] 28 (0, 0)), Chunk.blk g2 (.cells #[.int .i64 most, .slice A55 ((xs.drop (mn (mx n 0) (xs.length : Int)).toNat).length) c56, .int .i64 gone] 28 (0, 0))] := HO68
  clear HO68
  refine wpList_nil ?_
  refine gw_nx (hK48 _ _ ?_)
  refine gw_seq fun K70 hK70 => ?_
  refine wp_region_lit ?_
  refine gw_ev HF66 (want_none rfl) rfl (by decide) (op_loadn gwagg28 gwsiz28 rfl (HF66.ev rfl) (HO69.get 1 rfl) rfl rfl) ?_
  intro a71 HF72; clear HF66
  refine gw_ev HF72 (want_none rfl) rfl (by decide) (op_move rfl (HF72.ev rfl)) ?_
  intro a73 HF74; clear HF72
  refine gw_setn 0 HF74 HO69 rfl (want_none rfl) rfl (op_storen gwsiz28 rfl (HF74.ev rfl) (HF74.ev rfl) (HO69.get 0 rfl) rfl (by simp) (by simp [Value.oneCell'])) ?_
  intro a75 w77 HF76 HO78; clear HF74 HO69
  have HO79 : Own w w77 [Chunk.blk g8 (.cells #[.int .i64 most, .slice A55 ((xs.drop (mn (mx n 0) (xs.length : Int)).toNat).length) c56, .int .i64 gone] 28 (0, 0)), Chunk.blk g2 (.cells #[.int .i64 most, .slice A55 ((xs.drop (mn (mx n 0) (xs.length : Int)).toNat).length) c56, .int .i64 gone] 28 (0, 0))] := HO78
  clear HO78
  refine gw_ev HF76 (want_none rfl) rfl (by decide) (op_assign rfl (HF76.ev rfl)) ?_
  intro a80 HF81; clear HF76
  refine wpList_nil ?_
  refine gw_nx (hK70 _ _ ?_)
  refine wp_ret ?_
  refine gw_rets2 HF81 rfl (rv_celln HF81 rfl gwagg28 gwsiz28 (HO79.get 0 rfl) rfl) (rv_tmp HF81 rfl) ?_
  exact ⟨_, _, hC59, hc58, hA60, rfl, HO79.below⟩
end GRef11_
end Go.Proofs.Ytbnoedefkbnpjaa.PA
