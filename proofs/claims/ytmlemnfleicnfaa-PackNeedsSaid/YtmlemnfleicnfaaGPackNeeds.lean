/- PackNeeds. Printed by a program of this session; Lean checks it. -/
import Derived.Test.YtmlemnfleicnfaaGReading
namespace Go.Proofs.Ytmlemnfleicnfaa.PA
open Go.RowKit Go.Proofs.YtmlemnfleicnfaaW.PrintWords Go.Proofs.YtmlemnfleicnfaaW.PrintLast Go.Proofs.YtmlemnfleicnfaaW.PrintMore
set_option linter.unusedVariables false
set_option linter.unusedSimpArgs false
namespace GPackNeeds_
theorem gwagg3 : ∀ w, (isAgg 3).run Try.prog w = .ok false w := fun _ => by kernel_rfl
theorem gwagg4 : ∀ w, (isAgg 4).run Try.prog w = .ok false w := fun _ => by kernel_rfl
theorem gwsiz3 : ∀ w, (sizeOf 3).run Try.prog w = .ok 1 w := fun _ => by kernel_rfl
theorem gwsiz4 : ∀ w, (sizeOf 4).run Try.prog w = .ok 1 w := fun _ => by kernel_rfl
theorem gwzer3 : ∀ w, (zeroValue 3).run Try.prog w = .ok (.int .i64 0) w := fun _ => by kernel_rfl
theorem gwzer4 : ∀ w, (zeroValue 4).run Try.prog w = .ok (.bool false) w := fun _ => by kernel_rfl
set_option maxHeartbeats 4000000 in
set_option maxRecDepth 100000 in
theorem needs1_calls (w0 w : World) (R : Chunk) (g : Nat) (A : Option Addr) (c : Nat) (xs : List Int) (hx : ∀ w_, Own w0 w_ [R] → Kd.C (Kd.int .u8) w_ A xs.length xs) (hc : xs.length ≤ c) (hb : ByteL xs) (p q : Nat) (at_ : Int) (HO : Own w0 w [R, Chunk.blk g (.cells #[.slice A xs.length c] 80 (0, 0)), Chunk.blk p (.cells #[.int .i64 at_] 3 (0, 0)), Chunk.blk q (.cells #[.int .i64 0] 3 (0, 0))]) :
    Calls Try.prog 32 #[.pointer (some ⟨g, 0, none⟩), .pointer (some ⟨p, 0, none⟩), .pointer (some ⟨q, 0, none⟩)] w fun e w' => (¬ (0 ≤ at_ ∧ at_ < 20) ∧ e = .returned (.tuple #[]) ∧ Own w0 w' [R, rblk g A xs.length c, Chunk.blk p (.cells #[.int .i64 at_] 3 (0, 0)), Chunk.blk q (.cells #[.int .i64 20] 3 (0, 0))]) ∨ ((0 ≤ at_ ∧ at_ < 20) ∧ e = .panicked badE ∧ Own w0 w' [R, Chunk.blk p (.cells #[.int .i64 at_] 3 (0, 0)), Chunk.blk q (.cells #[.int .i64 at_] 3 (0, 0))]) := by
  refine gw_startO (N := 16) (vs := [.pointer (some ⟨g, 0, none⟩), .pointer (some ⟨p, 0, none⟩), .pointer (some ⟨q, 0, none⟩)]) Try.func32 rfl rfl (by simp) fun a HF => ?_
  refine gw_seq fun K1 hK1 => ?_
  refine wp_region_lit ?_
  refine gw_ev HF (want_none rfl) rfl (by decide) (op_assign rfl (ev_c _ _)) ?_
  intro a2 HF3; clear HF
  refine wpList_nil ?_
  refine gw_nx (hK1 _ _ ?_)
  refine wp_block ?_
  refine gw_loop (fun m_ a_ w_ => ∃ (i : Int), Fr 16 a_ [(4, .int .i64 i), (0, .pointer (some ⟨g, 0, none⟩)), (1, .pointer (some ⟨p, 0, none⟩)), (2, .pointer (some ⟨q, 0, none⟩))] ∧ Own w0 w_ [R, Chunk.blk g (.cells #[.slice A xs.length c] 80 (0, 0)), Chunk.blk p (.cells #[.int .i64 at_] 3 (0, 0)), Chunk.blk q (.cells #[.int .i64 i] 3 (0, 0))] ∧ (0 ≤ i ∧ i ≤ 20) ∧ (¬ (0 ≤ at_ ∧ at_ < i)) ∧ m_ = (20 - i.toNat)) ((20 - (0 : Int).toNat)) ?_ ?_
  · refine ⟨0, (HF3.pick (t := 4) rfl (HF3.pick (t := 0) rfl (HF3.pick (t := 1) rfl (HF3.pick (t := 2) rfl HF3.nil)))), HO.sel [0, 1, 2, 3] (by decide), ?_, ?_, rfl⟩
    · omega
    · omega
  · rintro m5 a6 w7 ⟨i, HF8, HO9, hi, hn, hm10⟩
    refine gw_seq fun K11 hK11 => ?_
    refine gw_seq fun K12 hK12 => ?_
    refine wp_region_lit ?_
    refine gw_ev HF8 (want_none rfl) rfl (by decide) (op_move rfl (HF8.ev rfl)) ?_
    intro a13 HF14; clear HF8
    refine gw_ev HF14 (want_none rfl) rfl (by decide) (op_lss rfl (HF14.ev rfl) (ev_c _ _)) ?_
    intro a15 HF16; clear HF14
    refine wpList_nil ?_
    refine gw_nx (hK12 _ _ ?_)
    refine gw_cond HF16 rfl (fun hb17 => ?_) (fun hb17 => ?_)
    · skip
      have HF18 := HF16.subst_ (d := 6) (b := true) rfl hb17
      clear HF16
      (try simp only [Bool.and_eq_true, Bool.or_eq_true, Bool.and_eq_false_iff, Bool.or_eq_false_iff, Bool.not_and, Bool.not_or, Bool.not_not, decide_eq_true_eq, decide_eq_false_iff_not, Bool.not_eq_true', Bool.not_eq_false', Bool.not_eq_true, Bool.not_eq_false, ne_eq, Decidable.not_not, Int.not_lt, Int.not_le, not_true_eq_false, not_false_eq_true, bne_iff_ne, beq_iff_eq, bne_eq_false_iff_eq, beq_eq_false_iff_ne] at hb17)
      refine wp_skip ?_
      refine gw_nx (hK11 _ _ ?_)
      refine gw_seq fun K19 hK19 => ?_
      refine wp_block ?_
      refine gw_seq fun K20 hK20 => ?_
      refine wp_region_lit ?_
      refine gw_ev HF18 (want_none rfl) rfl (by decide) (op_move rfl (HF18.ev rfl)) ?_
      intro a21 HF22; clear HF18
      refine gw_ev HF22 (want_none rfl) rfl (by decide) (op_move rfl (HF22.ev rfl)) ?_
      intro a23 HF24; clear HF22
      refine gw_ev HF24 (want_none rfl) rfl (by decide) (op_load1 gwagg3 rfl (HF24.ev rfl) (blk_at (HO9.get 2 rfl) rfl)) ?_
      intro a25 HF26; clear HF24
      refine gw_ev HF26 (want_none rfl) rfl (by decide) (op_nei rfl (HF26.ev rfl) (HF26.ev rfl)) ?_
      intro a27 HF28; clear HF26
      refine gw_callP HF28 (want_none rfl) rfl (by decide) (op_callL Try.func33 (by kernel_rfl) rfl rfl (ar_cons (HF28.ev rfl) (ar_cons (HF28.ev rfl) ar_nil))) (GRead_.need_calls ⟨g, 0, none⟩ (decide (i ≠ at_)) _) ?_
      rintro e30 w31 (⟨hn29, rfl, hb32⟩ | ⟨hn29, rfl, hb32⟩)
      rotate_left
      · skip
        refine .inr ⟨_, rfl, ?_⟩
        have HO36 := HO9.after hb32
        (try simp only [Bool.and_eq_true, Bool.or_eq_true, Bool.and_eq_false_iff, Bool.or_eq_false_iff, Bool.not_and, Bool.not_or, Bool.not_not, decide_eq_true_eq, decide_eq_false_iff_not, Bool.not_eq_true', Bool.not_eq_false', Bool.not_eq_true, Bool.not_eq_false, ne_eq, Decidable.not_not, Int.not_lt, Int.not_le, not_true_eq_false, not_false_eq_true, bne_iff_ne, beq_iff_eq, bne_eq_false_iff_eq, beq_eq_false_iff_ne] at hn29)
        refine gw_thp ?_
        refine gw_blp ?_
        refine gw_thp ?_
        refine gw_thp ?_
        refine gw_blp ?_
        refine gw_pan HF28 ?_
        have ei : i = at_ := by first | omega | (simp_all)
        subst ei
        exact .inr ⟨by omega, rfl, HO36.sel [0, 2, 3] (by decide)⟩
      refine .inl ⟨_, rfl, fun a33 HF34 => ?_⟩
      have HO35 := HO9.after hb32
      clear HF28 HO9 hb32
      (try simp only [Bool.and_eq_true, Bool.or_eq_true, Bool.and_eq_false_iff, Bool.or_eq_false_iff, Bool.not_and, Bool.not_or, Bool.not_not, decide_eq_true_eq, decide_eq_false_iff_not, Bool.not_eq_true', Bool.not_eq_false', Bool.not_eq_true, Bool.not_eq_false, ne_eq, Decidable.not_not, Int.not_lt, Int.not_le, not_true_eq_false, not_false_eq_true, bne_iff_ne, beq_iff_eq, bne_eq_false_iff_eq, beq_eq_false_iff_ne] at hn29)
      refine wpList_nil ?_
      refine gw_nx (hK20 _ _ ?_)
      refine wp_region_lit ?_
      refine gw_ev HF34 (want_none rfl) rfl (by decide) (op_load1 gwagg3 rfl (HF34.ev rfl) (blk_at (HO35.get 3 rfl) rfl)) ?_
      intro a38 HF39; clear HF34
      refine gw_ev HF39 (want_none rfl) rfl (by decide) (op_add rfl (HF39.ev rfl) (ev_c _ _) (by omega)) ?_
      intro a40 HF41; clear HF39
      refine gw_set 3 HF41 HO35 rfl (want_none rfl) rfl (op_store1 gwsiz3 rfl (HF41.ev rfl) (HF41.ev rfl) rfl (blk_at (HO35.get 3 rfl) rfl) (blkf (HO35.get 3 rfl))) ?_
      intro a42 w44 HF43 HO45; clear HF41 HO35
      have HO46 : Own w0 w44 [R, Chunk.blk g (.cells #[.slice A xs.length c] 80 (0, 0)), Chunk.blk p (.cells #[.int .i64 at_] 3 (0, 0)), Chunk.blk q (.cells #[.int .i64 (i + 1)] 3 (0, 0))] := HO45
      clear HO45
      refine wpList_nil ?_
      refine gw_blk ?_
      refine gw_nx (hK19 _ _ ?_)
      refine wp_region_lit ?_
      refine gw_ev HF43 (want_none rfl) rfl (by decide) (op_move rfl (HF43.ev rfl)) ?_
      intro a47 HF48; clear HF43
      refine gw_ev HF48 (want_none rfl) rfl (by decide) (op_add rfl (HF48.ev rfl) (ev_c _ _) (by omega)) ?_
      intro a49 HF50; clear HF48
      refine gw_ev HF50 (want_none rfl) rfl (by decide) (op_assign rfl (HF50.ev rfl)) ?_
      intro a51 HF52; clear HF50
      refine wpList_nil ?_
      refine gw_nx ⟨_, ?_, i + 1, (HF52.pick (t := 4) rfl (HF52.pick (t := 0) rfl (HF52.pick (t := 1) rfl (HF52.pick (t := 2) rfl HF52.nil)))), HO46.sel [0, 1, 2, 3] (by decide), ?_, ?_, rfl⟩
      · rw [hm10]; omega
      · omega
      · omega
    · skip
      have HF53 := HF16.subst_ (d := 6) (b := false) rfl hb17
      clear HF16
      (try simp only [Bool.and_eq_true, Bool.or_eq_true, Bool.and_eq_false_iff, Bool.or_eq_false_iff, Bool.not_and, Bool.not_or, Bool.not_not, decide_eq_true_eq, decide_eq_false_iff_not, Bool.not_eq_true', Bool.not_eq_false', Bool.not_eq_true, Bool.not_eq_false, ne_eq, Decidable.not_not, Int.not_lt, Int.not_le, not_true_eq_false, not_false_eq_true, bne_iff_ne, beq_iff_eq, bne_eq_false_iff_eq, beq_eq_false_iff_ne] at hb17)
      refine wp_exit ?_
      refine gw_thx ?_
      refine gw_thx ?_
      refine gw_in ?_
      refine gw_end0 HF53 rfl ?_
      have e20 : i = 20 := by omega
      subst e20
      exact .inl ⟨by omega, rfl, HO9.sel [0, 1, 2, 3] (by decide)⟩
theorem needs_read (w0 w : World) (R : Chunk) (A : Option Addr) (c : Nat) (xs : List Int) (hx : ∀ w_, Own w0 w_ [R] → Kd.C (Kd.int .u8) w_ A xs.length xs) (hc : xs.length ≤ c) (hb : ByteL xs) (h0 : xs.length = 0) (p q : Nat) (at_ : Int) (HO : Own w0 w (R :: [Chunk.blk p (.cells #[.int .i64 at_] 3 (0, 0)), Chunk.blk q (.cells #[.int .i64 0] 3 (0, 0))])) :
    Calls Try.prog 31 #[.slice A xs.length c, .func (.func 32) #[] #[.pointer (some ⟨p, 0, none⟩), .pointer (some ⟨q, 0, none⟩)]] w fun e w' => e = .returned (.int .i64 (if 0 ≤ at_ ∧ at_ < 20 then 80 else 0)) ∧ Own w0 w' [R, Chunk.blk p (.cells #[.int .i64 at_] 3 (0, 0)), Chunk.blk q (.cells #[.int .i64 (if 0 ≤ at_ ∧ at_ < 20 then at_ else 20)] 3 (0, 0))] := by
  refine (read_list w0 w R [Chunk.blk p (.cells #[.int .i64 at_] 3 (0, 0)), Chunk.blk q (.cells #[.int .i64 0] 3 (0, 0))] A c xs 32 _ [.pointer (some ⟨p, 0, none⟩), .pointer (some ⟨q, 0, none⟩)] (fun n qs => n = 0 ∧ ¬ (0 ≤ at_ ∧ at_ < 20) ∧ qs = [Chunk.blk p (.cells #[.int .i64 at_] 3 (0, 0)), Chunk.blk q (.cells #[.int .i64 20] 3 (0, 0))]) (fun qs => (0 ≤ at_ ∧ at_ < 20) ∧ qs = [Chunk.blk p (.cells #[.int .i64 at_] 3 (0, 0)), Chunk.blk q (.cells #[.int .i64 at_] 3 (0, 0))]) (fun _ => False) Try.func32 (by kernel_rfl) rfl ?_ HO).mono ?_
  · intro R' g w1 hR hO
    refine (needs1_calls w0 w1 R' g A c xs (fun w_ h_ => hx w_ (hR w_ h_)) hc hb p q at_ hO).mono ?_
    rintro e w2 (⟨h1, rfl, h⟩ | ⟨h1, rfl, h⟩)
    · exact .inl ⟨A, xs.length, c, _, rfl, ⟨h0, h1, rfl⟩, h⟩
    · exact .inr (.inl ⟨_, rfl, ⟨h1, rfl⟩, h⟩)
  · rintro e w2 (⟨n', qs, rfl, ⟨rfl, h1, rfl⟩, h⟩ | ⟨qs, rfl, ⟨h1, rfl⟩, h⟩ | ⟨_, _, h, _⟩)
    · rw [if_neg h1, if_neg h1]; exact ⟨rfl, h⟩
    · rw [if_pos h1, if_pos h1]; exact ⟨rfl, h⟩
    · exact h.elim

set_option maxHeartbeats 4000000 in
set_option maxRecDepth 100000 in
theorem goes2_calls (ad : Addr) (w : World) :
    Calls Try.prog 62 #[.pointer (some ad)] w fun e w' => e = .panicked [{ v := mineV, recovered := false }] ∧ Below w.heap.size w w' := by
  refine gw_start (N := 3) (vs := [.pointer (some ad)]) Try.func62 rfl rfl (by simp) fun a HF HO => ?_
  replace HO : Own w w [] := HO
  refine wp_region_lit ?_
  refine gw_ev HF (want_none rfl) rfl (by decide) (op_iface (fun _ => by first | rfl | kernel_rfl) rfl (ev_c _ _)) ?_
  intro a1 HF2; clear HF
  refine gw_panic (want_none rfl) (panics_ rfl (HF2.ev rfl)) ?_
  refine gw_pan HF2 ?_
  exact ⟨rfl, HO.below⟩
set_option maxHeartbeats 4000000 in
set_option maxRecDepth 100000 in
theorem goes1_calls (w0 w : World) (p : Nat) (HO : Own w0 w [Chunk.blk p (.cells #[.bool false] 4 (0, 0))]) :
    CallsD Try.prog 61 #[.pointer (some ⟨p, 0, none⟩)] (.panicking [{ v := mineV, recovered := false }, { v := mineV, recovered := true }]) w fun e u' w' => e = .returned (.tuple #[]) ∧ u' = (.panicking [{ v := mineV, recovered := true }, { v := mineV, recovered := true }]) ∧ Own w0 w' [Chunk.blk p (.cells #[.bool true] 4 (0, 0))] := by
  refine gs_start (N := 13) (vs := [.pointer (some ⟨p, 0, none⟩)]) Try.func61 rfl rfl (by simp) fun c0 cs hu a HF => ?_
  refine gs_recoverL (got := .iface 9 (.string (⟨#[109, 105, 110, 101]⟩ : ByteArray))) (u' := (.panicking [{ v := mineV, recovered := true }, { v := mineV, recovered := true }])) HF rfl rfl rfl (by decide) hu (by rfl) (fun _ _ _ h => by obtain ⟨_, h_, _⟩ := h; cases h_) fun K hK0 a HF => ?_
  refine gw_ev HF (want_none rfl) rfl (by decide) (op_tassert (r := .tuple #[.string (⟨#[109, 105, 110, 101]⟩ : ByteArray), .bool true]) (by kernel_rfl) rfl (HF.ev rfl)) ?_
  intro a1 HF2; clear HF
  refine gw_ev HF2 (want_none rfl) rfl (by decide) (op_move rfl (HF2.ev rfl)) ?_
  intro a3 HF4; clear HF2
  refine gw_ev HF4 (want_none rfl) rfl (by decide) (op_extract rfl (HF4.ev rfl) rfl) ?_
  intro a5 HF6; clear HF4
  refine gw_ev HF6 (want_none rfl) rfl (by decide) (op_extract rfl (HF6.ev rfl) rfl) ?_
  intro a7 HF8; clear HF6
  refine gw_ev HF8 (want_none rfl) rfl (by decide) (op_assign rfl (HF8.ev rfl)) ?_
  intro a9 HF10; clear HF8
  refine gw_ev HF10 (want_none rfl) rfl (by decide) (op_assign rfl (HF10.ev rfl)) ?_
  intro a11 HF12; clear HF10
  refine wpList_nil ?_
  refine gw_nx (hK0 _ _ ?_)
  refine wp_region_lit ?_
  refine gw_ev HF12 (want_none rfl) rfl (by decide) (op_move rfl (HF12.ev rfl)) ?_
  intro a13 HF14; clear HF12
  refine gw_ev HF14 (want_none rfl) rfl (by decide) (op_move rfl (HF14.ev rfl)) ?_
  intro a15 HF16; clear HF14
  refine gw_ev HF16 (want_yes HF16 rfl rfl rfl rfl) rfl (by decide) (op_move rfl (HF16.ev rfl)) ?_
  intro a17 HF18; clear HF16
  refine gw_ev HF18 (want_yes HF18 rfl rfl rfl rfl) rfl (by decide) (op_eqs rfl (HF18.ev rfl) (ev_c _ _)) ?_
  intro a19 HF20; clear HF18
  have HF21 := HF20.lit (b := true) (by decide +kernel)
  clear HF20
  refine gw_ev HF21 (want_none rfl) rfl (by decide) (op_pick_t rfl (HF21.ev rfl) (HF21.ev rfl)) ?_
  intro a22 HF23; clear HF21
  refine gw_set 0 HF23 HO rfl (want_none rfl) rfl (op_store1 gwsiz4 rfl (HF23.ev rfl) (HF23.ev rfl) rfl (blk_at (HO.get 0 rfl) rfl) (blkf (HO.get 0 rfl))) ?_
  intro a24 w26 HF25 HO27; clear HF23 HO
  have HO28 : Own w0 w26 [Chunk.blk p (.cells #[.bool true] 4 (0, 0))] := HO27
  clear HO27
  refine wpList_nil ?_
  refine gs_end0 HF25 rfl ?_
  exact ⟨rfl, rfl, HO28⟩
theorem goes_read (A : Option Addr) (c : Nat) (xs : List Int) (w : World) : Calls Try.prog 31 #[.slice A xs.length c, .func (.func 62) #[] #[]] w fun e w' => e = .panicked [{ v := mineV, recovered := false }, { v := mineV, recovered := true }] ∧ Below w.heap.size w w' := by
  refine (read_list w w Chunk.void [] A c xs 62 _ [] (fun _ _ => False) (fun _ => False) (fun qs => True) Try.func62 (by kernel_rfl) rfl ?_ ((Own.start w).void)).mono ?_
  · intro R' g w1 hR hO
    refine (goes2_calls ⟨g, 0, none⟩ w1).mono ?_
    rintro e w2 ⟨rfl, h⟩
    exact .inr (.inr ⟨[], rfl, trivial, (hO.after h).sel [0] (by decide)⟩)
  · rintro e w2 (⟨_, _, _, h, _⟩ | ⟨_, _, h, _⟩ | ⟨_, rfl, _, h⟩)
    · exact h.elim
    · exact h.elim
    · exact ⟨rfl, h.below⟩

set_option maxHeartbeats 4000000 in
set_option maxRecDepth 100000 in
theorem goesOn_calls (A0 : Option Addr) (c0 : Nat) (b : List Int) (w : World) :
    Calls Try.prog 30 #[.slice A0 b.length c0] w fun e w' => e = .returned (.bool true) ∧ Below w.heap.size w w' := by
  refine gw_startD (N := 6) (vs := [.slice A0 b.length c0]) Try.func30 rfl rfl (by simp) fun a HF => ?_
  have HO := Own.start w
  refine gw_seq fun K1 hK1 => ?_
  refine wp_region_lit ?_
  refine gw_new HF HO (want_none rfl) rfl (by decide) (op_alloc gwzer4 rfl) ?_
  intro g2 a3 w4 HF5 HO6; clear HF HO
  have HO7 : Own w w4 [Chunk.blk g2 (.cells #[.bool false] 4 (0, 0))] := HO6
  clear HO6
  refine wpList_nil ?_
  refine gw_nx (hK1 _ _ ?_)
  refine gw_seq fun K8 hK8 => ?_
  refine wp_region_lit ?_
  refine gw_ev HF5 (want_none rfl) rfl (by decide) (op_func rfl (ar_cons (HF5.ev rfl) ar_nil)) ?_
  intro a9 HF10; clear HF5
  refine gw_defer HF10 (want_none rfl) rfl rfl (HF10.ev rfl) ?_
  intro a11 HF12; clear HF10
  refine wpList_nil ?_
  refine gw_nx (hK8 _ _ ?_)
  refine gw_seq fun K13 hK13 => ?_
  refine wp_region_lit ?_
  refine gw_ev HF12 (want_none rfl) rfl (by decide) (op_move rfl (HF12.ev rfl)) ?_
  intro a14 HF15; clear HF12
  refine gw_callP HF15 (want_none rfl) rfl (by decide) (op_callL Try.func31 (by kernel_rfl) rfl rfl (ar_cons (HF15.ev rfl) (ar_cons rfl ar_nil))) (goes_read A0 c0 b _) ?_
  rintro e16 w17 (⟨rfl, hb18⟩)
  skip
  · skip
    refine .inr ⟨_, rfl, ?_⟩
    have HO22 := HO7.after hb18
    refine gw_thp ?_
    refine gw_dpan HF15 ?_
    refine leaves_cons (f := 61) (args := #[.pointer (some ⟨g2, 0, none⟩)]) (by simp) (invoke_fn Try.func61 (by kernel_rfl) rfl _) ?_
    refine (goes1_calls w _ g2 HO22).mono ?_
    rintro e_ u_ w_ ⟨rfl, rfl, hO_⟩
    refine gl_ret1 rfl (rv_cell1 HF15 rfl gwagg4 (blk_at (hO_.get 0 rfl) rfl)) ?_
    exact ⟨rfl, hO_.below⟩
set_option maxHeartbeats 4000000 in
set_option maxRecDepth 100000 in
theorem PackNeeds_calls (A0 : Option Addr) (c0 : Nat) (b : List Int) (at_ : Int) (own : Bool) (w : World) (hr0 : Kd.C (Kd.int .u8) w A0 b.length b) (hc0 : b.length ≤ c0) (ht : True) :
    Calls Try.prog 7 #[.slice A0 b.length c0, .int .i64 at_, .bool own] w fun e w' => e = .returned (.bool true) ∧ Below w.heap.size w w' := by
  refine gw_start (N := 35) (vs := [.slice A0 b.length c0, .int .i64 at_, .bool own]) Try.func7 rfl rfl (by simp) fun a HF HO => ?_
  replace HO : Own w w [] := HO
  refine gw_seq fun K1 hK1 => ?_
  refine wp_region_lit ?_
  refine gw_new HF HO (want_none rfl) rfl (by decide) (op_box rfl (HF.ev rfl)) ?_
  intro g2 a3 w4 HF5 HO6; clear HF HO
  have HO7 : Own w w4 [Chunk.blk g2 (.cells #[.int .i64 at_] 3 (0, 0))] := HO6
  clear HO6
  refine gw_ev HF5 (want_none rfl) rfl (by decide) (op_assign rfl (ev_c _ _)) ?_
  intro a8 HF9; clear HF5
  refine wpList_nil ?_
  refine gw_nx (hK1 _ _ ?_)
  refine gw_seq fun K10 hK10 => ?_
  refine gw_seq fun K11 hK11 => ?_
  refine wp_region_lit ?_
  refine gw_call HF9 (want_none rfl) rfl (by decide) (op_callL Try.func29 (by kernel_rfl) rfl rfl ar_nil) (GReading_.reading_calls _) ?_
  rintro e12 w13 ⟨rfl, hb14⟩
  refine ⟨_, rfl, fun a15 HF16 => ?_⟩
  have HO17 := HO7.after hb14
  clear HF9 HO7 hb14
  refine gw_ev HF16 (want_none rfl) rfl (by decide) (op_not rfl (HF16.ev rfl)) ?_
  intro a19 HF20; clear HF16
  refine wpList_nil ?_
  refine gw_nx (hK11 _ _ ?_)
  refine gw_cond HF20 rfl (fun hb21 => ?_) (fun hb21 => ?_)
  skip
  · cases hb21
  refine wp_skip ?_
  refine gw_nx (hK10 _ _ ?_)
  refine gw_seq fun K22 hK22 => ?_
  refine gw_seq fun K23 hK23 => ?_
  refine wp_region_lit ?_
  refine gw_ev HF20 (want_none rfl) rfl (by decide) (op_move rfl (HF20.ev rfl)) ?_
  intro a24 HF25; clear HF20
  refine wpList_nil ?_
  refine gw_nx (hK23 _ _ ?_)
  refine gw_cond HF25 rfl (fun hb26 => ?_) (fun hb26 => ?_)
  · skip
    have HF27 := HF25.subst_ (d := 11) (b := true) rfl hb26
    clear HF25
    (try simp only [Bool.and_eq_true, Bool.or_eq_true, Bool.and_eq_false_iff, Bool.or_eq_false_iff, Bool.not_and, Bool.not_or, Bool.not_not, decide_eq_true_eq, decide_eq_false_iff_not, Bool.not_eq_true', Bool.not_eq_false', Bool.not_eq_true, Bool.not_eq_false, ne_eq, Decidable.not_not, Int.not_lt, Int.not_le, not_true_eq_false, not_false_eq_true, bne_iff_ne, beq_iff_eq, bne_eq_false_iff_eq, beq_eq_false_iff_ne] at hb26)
    refine gw_seq fun K28 hK28 => ?_
    refine wp_region_lit ?_
    refine gw_ev HF27 (want_none rfl) rfl (by decide) (op_move rfl (HF27.ev rfl)) ?_
    intro a29 HF30; clear HF27
    refine gw_call HF30 (want_none rfl) rfl (by decide) (op_callL Try.func30 (by kernel_rfl) rfl rfl (ar_cons (HF30.ev rfl) ar_nil)) (goesOn_calls A0 c0 b _) ?_
    rintro e31 w32 ⟨rfl, hb33⟩
    refine ⟨_, rfl, fun a34 HF35 => ?_⟩
    have HO36 := HO17.after hb33
    clear HF30 HO17 hb33
    refine gw_ev HF35 (want_none rfl) rfl (by decide) (op_assign rfl (HF35.ev rfl)) ?_
    intro a38 HF39; clear HF35
    refine wpList_nil ?_
    refine gw_nx (hK28 _ _ ?_)
    refine wp_ret ?_
    refine gw_thr ?_
    refine gw_ret1 HF39 rfl rfl ?_
    exact ⟨rfl, HO36.below⟩
  · skip
    have HF40 := HF25.subst_ (d := 11) (b := false) rfl hb26
    clear HF25
    (try simp only [Bool.and_eq_true, Bool.or_eq_true, Bool.and_eq_false_iff, Bool.or_eq_false_iff, Bool.not_and, Bool.not_or, Bool.not_not, decide_eq_true_eq, decide_eq_false_iff_not, Bool.not_eq_true', Bool.not_eq_false', Bool.not_eq_true, Bool.not_eq_false, ne_eq, Decidable.not_not, Int.not_lt, Int.not_le, not_true_eq_false, not_false_eq_true, bne_iff_ne, beq_iff_eq, bne_eq_false_iff_eq, beq_eq_false_iff_ne] at hb26)
    refine wp_skip ?_
    refine gw_nx (hK22 _ _ ?_)
    refine gw_seq fun K41 hK41 => ?_
    refine wp_region_lit ?_
    refine gw_new HF40 HO17 (want_none rfl) rfl (by decide) (op_alloc gwzer3 rfl) ?_
    intro g42 a43 w44 HF45 HO46; clear HF40 HO17
    have HO47 : Own w w44 [Chunk.blk g42 (.cells #[.int .i64 0] 3 (0, 0)), Chunk.blk g2 (.cells #[.int .i64 at_] 3 (0, 0))] := HO46
    clear HO46
    refine gw_set 0 HF45 HO47 rfl (want_none rfl) rfl (op_store1 gwsiz3 rfl (HF45.ev rfl) (ev_c _ _) rfl (blk_at (HO47.get 0 rfl) rfl) (blkf (HO47.get 0 rfl))) ?_
    intro a48 w50 HF49 HO51; clear HF45 HO47
    have HO52 : Own w w50 [Chunk.blk g42 (.cells #[.int .i64 0] 3 (0, 0)), Chunk.blk g2 (.cells #[.int .i64 at_] 3 (0, 0))] := HO51
    clear HO51
    refine wpList_nil ?_
    refine gw_nx (hK41 _ _ ?_)
    refine gw_seq fun K53 hK53 => ?_
    refine wp_region_lit ?_
    refine gw_ev HF49 (want_none rfl) rfl (by decide) (op_func rfl (ar_cons (HF49.ev rfl) (ar_cons (HF49.ev rfl) ar_nil))) ?_
    intro a54 HF55; clear HF49
    have HO62 : Own w _ [(Chunk.all []), Chunk.blk g2 (.cells #[.int .i64 at_] 3 (0, 0)), Chunk.blk g42 (.cells #[.int .i64 0] 3 (0, 0))] := Own.bundle (A := []) (L := [Chunk.blk g2 (.cells #[.int .i64 at_] 3 (0, 0)), Chunk.blk g42 (.cells #[.int .i64 0] 3 (0, 0))]) (HO52.sel [1, 0] (by decide))
    refine gw_call HF55 (want_none rfl) rfl (by decide) (op_callL Try.func31 (by kernel_rfl) rfl rfl (ar_cons (ev_c _ _) (ar_cons (HF55.ev rfl) ar_nil))) (needs_read w _ (Chunk.all []) none 0 ([]) (fun w_ h_ => Kd.C_nil _ _) (Nat.le_refl _) (by intro x hx; simp at hx) rfl g2 g42 at_ HO62) ?_
    rintro e56 w57 ⟨rfl, hb58⟩
    refine ⟨_, rfl, fun a59 HF60 => ?_⟩
    have HO61 : Own w w57 [Chunk.blk g2 (.cells #[.int .i64 at_] 3 (0, 0)), Chunk.blk g42 (.cells #[.int .i64 (if 0 ≤ at_ ∧ at_ < 20 then at_ else 20)] 3 (0, 0))] := Own.unbundle (A := []) (L := [Chunk.blk g2 (.cells #[.int .i64 at_] 3 (0, 0)), Chunk.blk g42 (.cells #[.int .i64 (if 0 ≤ at_ ∧ at_ < 20 then at_ else 20)] 3 (0, 0))]) (hb58.sel [0, 1, 2] (by decide))
    clear HO62
    clear HF55 HO52 hb58
    have HO64 : Own w w57 [Chunk.blk g2 (.cells #[.int .i64 at_] 3 (0, 0)), Chunk.blk g42 (.cells #[.int .i64 (if 0 ≤ at_ ∧ at_ < 20 then at_ else 20)] 3 (0, 0))] := HO61
    clear HO61
    refine gw_ev HF60 (want_none rfl) rfl (by decide) (op_assign rfl (HF60.ev rfl)) ?_
    intro a65 HF66; clear HF60
    refine wpList_nil ?_
    refine gw_nx (hK53 _ _ ?_)
    refine gw_seq fun K67 hK67 => ?_
    refine gw_seq fun K68 hK68 => ?_
    refine wp_region_lit ?_
    refine gw_ev HF66 (want_none rfl) rfl (by decide) (op_load1 gwagg3 rfl (HF66.ev rfl) (blk_at (HO64.get 0 rfl) rfl)) ?_
    intro a69 HF70; clear HF66
    refine gw_ev HF70 (want_none rfl) rfl (by decide) (op_geq rfl (HF70.ev rfl) (ev_c _ _)) ?_
    intro a71 HF72; clear HF70
    refine gw_ev HF72 (want_none rfl) rfl (by decide) (op_move rfl (HF72.ev rfl)) ?_
    intro a73 HF74; clear HF72
    refine gw_evG HF74 rfl rfl rfl rfl (on_t _) rfl (by decide) (fun h_ => (op_load1 gwagg3 rfl (HF74.ev rfl) (blk_at (HO64.get 0 rfl) rfl))) ?_
    intro a75 HF76; clear HF74
    refine gw_evG HF76 rfl rfl rfl rfl (on_t _) rfl (by decide) (fun h_ => (op_lss rfl (ev_gv (HF76.ev rfl) h_) (ev_c _ _))) ?_
    intro a77 HF78; clear HF76
    refine gw_ev HF78 (want_none rfl) rfl (by decide) (op_pick_and rfl (HF78.ev rfl) (fun hp_ => (ev_gv (HF78.ev rfl) hp_)) (ev_c _ _)) ?_
    intro a79 HF80; clear HF78
    refine wpList_nil ?_
    refine gw_nx (hK68 _ _ ?_)
    refine gw_cond HF80 rfl (fun hb81 => ?_) (fun hb81 => ?_)
    · skip
      have HF82 := HF80.subst_ (d := 21) (b := true) rfl hb81
      clear HF80
      (try simp only [Bool.and_eq_true, Bool.or_eq_true, Bool.and_eq_false_iff, Bool.or_eq_false_iff, Bool.not_and, Bool.not_or, Bool.not_not, decide_eq_true_eq, decide_eq_false_iff_not, Bool.not_eq_true', Bool.not_eq_false', Bool.not_eq_true, Bool.not_eq_false, ne_eq, Decidable.not_not, Int.not_lt, Int.not_le, not_true_eq_false, not_false_eq_true, bne_iff_ne, beq_iff_eq, bne_eq_false_iff_eq, beq_eq_false_iff_ne] at hb81)
      refine gw_seq fun K83 hK83 => ?_
      refine wp_region_lit ?_
      refine gw_ev HF82 (want_none rfl) rfl (by decide) (op_move rfl (HF82.ev rfl)) ?_
      intro a84 HF85; clear HF82
      refine gw_ev HF85 (want_none rfl) rfl (by decide) (op_eqi rfl (HF85.ev rfl) (ev_c _ _)) ?_
      intro a86 HF87; clear HF85
      refine gw_ev HF87 (want_none rfl) rfl (by decide) (op_move rfl (HF87.ev rfl)) ?_
      intro a88 HF89; clear HF87
      refine gw_evG HF89 rfl rfl rfl rfl (on_t _) rfl (by decide) (fun h_ => (op_load1 gwagg3 rfl (HF89.ev rfl) (blk_at (HO64.get 1 rfl) rfl))) ?_
      intro a90 HF91; clear HF89
      refine gw_evG HF91 rfl rfl rfl rfl (on_t _) rfl (by decide) (fun h_ => (op_load1 gwagg3 rfl (HF91.ev rfl) (blk_at (HO64.get 0 rfl) rfl))) ?_
      intro a92 HF93; clear HF91
      refine gw_evG HF93 rfl rfl rfl rfl (on_t _) rfl (by decide) (fun h_ => (op_eqi rfl (ev_gv (HF93.ev rfl) h_) (ev_gv (HF93.ev rfl) h_))) ?_
      intro a94 HF95; clear HF93
      refine gw_ev HF95 (want_none rfl) rfl (by decide) (op_pick_and rfl (HF95.ev rfl) (fun hp_ => (ev_gv (HF95.ev rfl) hp_)) (ev_c _ _)) ?_
      intro a96 HF97; clear HF95
      refine gw_ev HF97 (want_none rfl) rfl (by decide) (op_assign rfl (HF97.ev rfl)) ?_
      intro a98 HF99; clear HF97
      refine wpList_nil ?_
      refine gw_nx (hK83 _ _ ?_)
      refine wp_ret ?_
      refine gw_thr ?_
      refine gw_ret1 HF99 rfl rfl ?_
      exact ⟨by congr 2; (first | rw [if_pos (by omega), if_pos (by omega)] | rw [if_neg (by omega), if_neg (by omega)]); simp, HO64.below⟩
    · skip
      have HF100 := HF80.subst_ (d := 21) (b := false) rfl hb81
      clear HF80
      (try simp only [Bool.and_eq_true, Bool.or_eq_true, Bool.and_eq_false_iff, Bool.or_eq_false_iff, Bool.not_and, Bool.not_or, Bool.not_not, decide_eq_true_eq, decide_eq_false_iff_not, Bool.not_eq_true', Bool.not_eq_false', Bool.not_eq_true, Bool.not_eq_false, ne_eq, Decidable.not_not, Int.not_lt, Int.not_le, not_true_eq_false, not_false_eq_true, bne_iff_ne, beq_iff_eq, bne_eq_false_iff_eq, beq_eq_false_iff_ne] at hb81)
      refine wp_skip ?_
      refine gw_nx (hK67 _ _ ?_)
      refine gw_seq fun K101 hK101 => ?_
      refine wp_region_lit ?_
      refine gw_ev HF100 (want_none rfl) rfl (by decide) (op_move rfl (HF100.ev rfl)) ?_
      intro a102 HF103; clear HF100
      refine gw_ev HF103 (want_none rfl) rfl (by decide) (op_eqi rfl (HF103.ev rfl) (ev_c _ _)) ?_
      intro a104 HF105; clear HF103
      refine gw_ev HF105 (want_none rfl) rfl (by decide) (op_move rfl (HF105.ev rfl)) ?_
      intro a106 HF107; clear HF105
      refine gw_evG HF107 rfl rfl rfl rfl (on_t _) rfl (by decide) (fun h_ => (op_load1 gwagg3 rfl (HF107.ev rfl) (blk_at (HO64.get 1 rfl) rfl))) ?_
      intro a108 HF109; clear HF107
      refine gw_evG HF109 rfl rfl rfl rfl (on_t _) rfl (by decide) (fun h_ => (op_eqi rfl (ev_gv (HF109.ev rfl) h_) (ev_c _ _))) ?_
      intro a110 HF111; clear HF109
      refine gw_ev HF111 (want_none rfl) rfl (by decide) (op_pick_and rfl (HF111.ev rfl) (fun hp_ => (ev_gv (HF111.ev rfl) hp_)) (ev_c _ _)) ?_
      intro a112 HF113; clear HF111
      refine gw_ev HF113 (want_none rfl) rfl (by decide) (op_assign rfl (HF113.ev rfl)) ?_
      intro a114 HF115; clear HF113
      refine wpList_nil ?_
      refine gw_nx (hK101 _ _ ?_)
      refine wp_ret ?_
      refine gw_ret1 HF115 rfl rfl ?_
      exact ⟨by congr 2; (first | rw [if_pos (by omega), if_pos (by omega)] | rw [if_neg (by omega), if_neg (by omega)]); simp, HO64.below⟩
end GPackNeeds_
open Classical in
noncomputable def colloquylaw08_PackNeeds.f (l0 : List Int) (a1 : Int) (a2 : Bool) : Option Bool := if (True) then some true else none
theorem colloquylaw08_PackNeeds.calls (A0 : Option Addr) (c0 : Nat) (l0 : List Int) (a1 : Int) (a2 : Bool) (r : Bool) (w : World) (hr0 : Kd.C (Kd.int .u8) w A0 l0.length l0) (hc0 : l0.length ≤ c0) (h : colloquylaw08_PackNeeds.f l0 a1 a2 = some r) :
    Calls Try.prog 7 #[(.slice A0 l0.length c0), (.int .i64 a1), (.bool a2)] w fun e w' => e = .returned (.bool r) ∧ Below w.heap.size w w' := by
  unfold colloquylaw08_PackNeeds.f at h
  split at h
  · cases h; rename_i hh; exact GPackNeeds_.PackNeeds_calls A0 c0 l0 a1 a2 w hr0 hc0 hh
  · cases h
end Go.Proofs.Ytmlemnfleicnfaa.PA
