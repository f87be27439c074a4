/- What this claim uses of this session's own texts, put together by a program: GJour0 GJour1 GVfs0 GVfs1 GVfs2 GVfs3 NameIter HVfsN GVfs4 GVfs5 GJour2. -/
import Derived.Test.YtkdahjnmldeklaaGreatKJournalRaw2
import Derived.Test.YtkdahjnmldeklaaGreatProg
import Derived.Test.YtkdahjnmldeklaaGreatRows
section
namespace Go.Proofs.YtkdahjnmldeklaaGreat.PA
open Go.RowKit Go.Proofs.YtkdahjnmldeklaaGreatW.PrintWords Go.Proofs.YtkdahjnmldeklaaGreatW.PrintLast Go.Proofs.YtkdahjnmldeklaaGreatW.PrintMore
set_option linter.unusedVariables false
set_option linter.unusedSimpArgs false
namespace GJour0_
theorem gwagg2 : ∀ w, (isAgg 2).run Tryz.prog w = .ok false w := fun _ => by kernel_rfl
theorem gwagg3 : ∀ w, (isAgg 3).run Tryz.prog w = .ok false w := fun _ => by kernel_rfl
theorem gwsiz2 : ∀ w, (sizeOf 2).run Tryz.prog w = .ok 1 w := fun _ => by kernel_rfl
theorem gwsiz3 : ∀ w, (sizeOf 3).run Tryz.prog w = .ok 1 w := fun _ => by kernel_rfl
theorem gwsiz5 : ∀ w, (sizeOf 5).run Tryz.prog w = .ok 1 w := fun _ => by kernel_rfl
theorem gwzer2 : ∀ w, (zeroValue 2).run Tryz.prog w = .ok (.int .i64 0) w := fun _ => by kernel_rfl
theorem gwzer3 : ∀ w, (zeroValue 3).run Tryz.prog w = .ok (.int .i64 0) w := fun _ => by kernel_rfl
set_option maxHeartbeats 4000000 in
set_option maxRecDepth 100000 in
theorem entry1_calls (w0 w : World) (R : Chunk) (g : Nat) (A : Option Addr) (c : Nat) (xs : List Int) (hx : ∀ w_, Own w0 w_ [R] → Kd.C (Kd.int .u8) w_ A xs.length xs) (hc : xs.length ≤ c) (hb : ByteL xs) (p q : Nat) (HO : Own w0 w [R, Bk g [.slice A xs.length c] 131, Bk p [.int .i64 0] 2, Bk q [.int .i64 (-1)] 3]) :
    Calls Tryz.prog 55 #[.pointer (some ⟨g, 0, none⟩), .pointer (some ⟨p, 0, none⟩), .pointer (some ⟨q, 0, none⟩)] w fun e w' => (∃ n k A' c', gnum xs = some (n, k) ∧ e = .returned (.tuple #[]) ∧ Own w0 w' [R, rblk g A' (xs.drop k).length c', Chunk.blk p (.cells #[.int .i64 n] 2 (0, 0)), Chunk.blk q (.cells #[.int .i64 ((xs.drop k).length : Int)] 3 (0, 0))]) ∨ (gnum xs = none ∧ e = .panicked badE ∧ Own w0 w' [R, Chunk.blk p (.cells #[.int .i64 0] 2 (0, 0)), Chunk.blk q (.cells #[.int .i64 (-1)] 3 (0, 0))]) := by
 refine gw_startO (N := 8) (vs := [.pointer (some ⟨g, 0, none⟩), .pointer (some ⟨p, 0, none⟩), .pointer (some ⟨q, 0, none⟩)]) Tryz.func55 rfl rfl (by simp) fun a HF => ?_
 refine gR fun K1 hK1 => ?_
 refine V HF (op_move rfl (HF.ev rfl)) ?_
 intro _ H3; clear HF
 have O19 : Own w0 _ [(Chunk.all [R, Bk p [J 0] 2, Bk q [J (-1)] 3]), Bk g [.slice A xs.length c] 131] := Own.bundle (HO.sel [0, 2, 3, 1] (by decide))
 refine gw_callP H3 (want_none rfl) rfl (by decide) (op_callL Tryz.func56 (by kernel_rfl) rfl rfl (ar_cons (H3.ev rfl) ar_nil)) (GRead_.num_calls w0 _ (Chunk.all [R, Bk p [J 0] 2, Bk q [J (-1)] 3]) g A c xs (fun w_ h_ => (hx _ ((Own.unbundle (A := [R, Bk p [J 0] 2, Bk q [J (-1)] 3]) (L := []) h_).sel [0] (by decide)))) hc (by first | exact hb | exact hb.drop _ | exact (hb.drop _).drop _ | assumption) O19) ?_
 rintro e13 w14 (⟨n4, k5, A6, c7, hg8, rfl, hC9, hc10, hb15⟩ | ⟨hg8, rfl, hb15⟩)
 rotate_left
 ·
  refine .inr ⟨_, rfl, ?_⟩
  have O20 : Own w0 w14 [R, Bk p [J 0] 2, Bk q [J (-1)] 3] := Own.unbundle (A := [R, Bk p [J 0] 2, Bk q [J (-1)] 3]) (L := []) hb15
  refine gw_thp ?_
  refine gw_pan H3 ?_
  exact .inr ⟨hg8, rfl, O20.sel [0, 1, 2] (by decide)⟩
 refine .inl ⟨_, rfl, fun _ H17 => ?_⟩
 have O18 : Own w0 w14 [R, Bk p [J 0] 2, Bk q [J (-1)] 3, Bk g [.slice A6 ((xs.drop k5).length) c7] 131] := Own.unbundle (hb15.sel [0, 1] (by decide))
 clear O19
 clear H3 HO hb15
 have hgs12 := gnum_some hg8
 refine gw_set 1 H17 O18 rfl (want_none rfl) rfl (op_store1 gwsiz2 rfl (H17.ev rfl) (H17.ev rfl) rfl (blk_at (O18.get 1 rfl) rfl) (blkf (O18.get 1 rfl))) ?_
 intro _ w24 H23 O25; clear H17 O18
 refine gE hK1 ?_
 refine wp_region_lit ?_
 refine V H23 (op_move rfl (H23.ev rfl)) ?_
 intro _ H27; clear H23
 refine gw_call H27 (want_none rfl) rfl (by decide) (op_callL Tryz.func57 (by kernel_rfl) rfl rfl (ar_cons (H27.ev rfl) ar_nil)) (GRead_.left_calls g A6 ((xs.drop k5).length) c7 _ (O25.get 3 rfl)) ?_
 rintro e28 w29 ⟨rfl, hb30⟩
 refine ⟨_, rfl, fun _ H32 => ?_⟩
 have O33 := O25.after hb30
 clear H27 O25 hb30
 refine gw_set 2 H32 O33 rfl (want_none rfl) rfl (op_store1 gwsiz3 rfl (H32.ev rfl) (H32.ev rfl) rfl (blk_at (O33.get 2 rfl) rfl) (blkf (O33.get 2 rfl))) ?_
 intro _ w37 H36 O38; clear H32 O33
 refine wpList_nil ?_
 refine gw_end0 H36 rfl ?_
 exact .inl ⟨n4, k5, A6, c7, hg8, rfl, O38.sel [0, 3, 1, 2] (by decide)⟩
theorem entry_read_some (w0 w : World) (R : Chunk) (A : Option Addr) (c : Nat) (xs : List Int) (hx : ∀ w_, Own w0 w_ [R] → Kd.C (Kd.int .u8) w_ A xs.length xs) (hc : xs.length ≤ c) (hb : ByteL xs) (p q : Nat) (n : Int) (k : Nat) (hg : gnum xs = some (n, k)) (HO : Own w0 w (R :: [Chunk.blk p (.cells #[.int .i64 0] 2 (0, 0)), Chunk.blk q (.cells #[.int .i64 (-1)] 3 (0, 0))])) :
    Calls Tryz.prog 54 #[.slice A xs.length c, .func (.func 55) #[] #[.pointer (some ⟨p, 0, none⟩), .pointer (some ⟨q, 0, none⟩)]] w fun e w' => (∃ ec, e = .returned (.int .i64 ec)) ∧ Own w0 w' [R, Chunk.blk p (.cells #[.int .i64 n] 2 (0, 0)), Chunk.blk q (.cells #[.int .i64 ((xs.drop k).length : Int)] 3 (0, 0))] := by
  refine (read_list w0 w R [Chunk.blk p (.cells #[.int .i64 0] 2 (0, 0)), Chunk.blk q (.cells #[.int .i64 (-1)] 3 (0, 0))] A c xs 55 _ [.pointer (some ⟨p, 0, none⟩), .pointer (some ⟨q, 0, none⟩)] (fun n' qs => qs = [Chunk.blk p (.cells #[.int .i64 n] 2 (0, 0)), Chunk.blk q (.cells #[.int .i64 ((xs.drop k).length : Int)] 3 (0, 0))]) (fun _ => False) (fun _ => False) Tryz.func55 (by kernel_rfl) rfl ?_ HO).mono ?_
  · intro R' g w1 hR hO
    refine (entry1_calls w0 w1 R' g A c xs (fun w_ h_ => hx w_ (hR w_ h_)) hc hb p q hO).mono ?_
    rintro e w2 (⟨n1, k1, A', c', h1, rfl, h⟩ | ⟨h1, rfl, h⟩)
    · rw [hg] at h1; injection h1 with h1; injection h1 with h1 h2; subst h1 h2; exact .inl ⟨A', _, c', _, rfl, rfl, h⟩
    · rw [hg] at h1; cases h1
  · rintro e w2 (⟨n', qs, rfl, hq, h⟩ | ⟨qs, rfl, hq, h⟩ | ⟨_, _, h, _⟩)
    · rw [hq] at h; exact ⟨⟨_, rfl⟩, h⟩
    · exact hq.elim
    · exact h.elim
theorem entry_read_none (w0 w : World) (R : Chunk) (A : Option Addr) (c : Nat) (xs : List Int) (hx : ∀ w_, Own w0 w_ [R] → Kd.C (Kd.int .u8) w_ A xs.length xs) (hc : xs.length ≤ c) (hb : ByteL xs) (p q : Nat) (hg : gnum xs = none) (HO : Own w0 w (R :: [Chunk.blk p (.cells #[.int .i64 0] 2 (0, 0)), Chunk.blk q (.cells #[.int .i64 (-1)] 3 (0, 0))])) :
    Calls Tryz.prog 54 #[.slice A xs.length c, .func (.func 55) #[] #[.pointer (some ⟨p, 0, none⟩), .pointer (some ⟨q, 0, none⟩)]] w fun e w' => (∃ ec, e = .returned (.int .i64 ec)) ∧ Own w0 w' [R, Chunk.blk p (.cells #[.int .i64 0] 2 (0, 0)), Chunk.blk q (.cells #[.int .i64 (-1)] 3 (0, 0))] := by
  refine (read_list w0 w R [Chunk.blk p (.cells #[.int .i64 0] 2 (0, 0)), Chunk.blk q (.cells #[.int .i64 (-1)] 3 (0, 0))] A c xs 55 _ [.pointer (some ⟨p, 0, none⟩), .pointer (some ⟨q, 0, none⟩)] (fun _ _ => False) (fun qs => qs = [Chunk.blk p (.cells #[.int .i64 0] 2 (0, 0)), Chunk.blk q (.cells #[.int .i64 (-1)] 3 (0, 0))]) (fun _ => False) Tryz.func55 (by kernel_rfl) rfl ?_ HO).mono ?_
  · intro R' g w1 hR hO
    refine (entry1_calls w0 w1 R' g A c xs (fun w_ h_ => hx w_ (hR w_ h_)) hc hb p q hO).mono ?_
    rintro e w2 (⟨n1, k1, A', c', h1, rfl, h⟩ | ⟨h1, rfl, h⟩)
    · rw [hg] at h1; cases h1
    · exact .inr (.inl ⟨_, rfl, rfl, h⟩)
  · rintro e w2 (⟨n', qs, rfl, hq, h⟩ | ⟨qs, rfl, hq, h⟩ | ⟨_, _, h, _⟩)
    · exact hq.elim
    · rw [hq] at h; exact ⟨⟨_, rfl⟩, h⟩
    · exact h.elim
set_option maxHeartbeats 4000000 in
set_option maxRecDepth 100000 in
theorem entry_calls (A : Option Addr) (c : Nat) (xs : List Int) (w : World) (hx : Kd.C (Kd.int .u8) w A xs.length xs) (hc : xs.length ≤ c) (hb : ByteL xs) (hl : xs.length ≤ 1000000) :
    Calls Tryz.prog 33 #[.slice A xs.length c] w fun e w' => (entryP xs = none ∧ e = .returned (.tuple #[.int .i64 0, .slice none 0 0, .bool false]) ∧ Below w.heap.size w w') ∨ (∃ n k A' c', entryP xs = some (n, k) ∧ e = .returned (.tuple #[.int .i64 n, .slice A' (xs.drop k).length c', .bool true]) ∧ (∀ W, Kd.C (Kd.int .u8) W A xs.length xs → Kd.C (Kd.int .u8) W A' (xs.drop k).length (xs.drop k)) ∧ (xs.drop k).length ≤ c' ∧ Below w.heap.size w w') := by
 refine gw_start (N := 26) (vs := [.slice A xs.length c]) Tryz.func33 rfl rfl (by simp) fun a HF HO => ?_
 replace HO : Own w w [] := HO
 rcases hgn : gnum xs with _ | ⟨n, k⟩
 ·
  refine gR fun K1 hK1 => ?_
  refine gw_new HF HO (want_none rfl) rfl (by decide) (op_alloc gwzer2 rfl) ?_
  intro g2 _ w4 H5 O6; clear HF HO
  have O7 : Own w w4 [Bk g2 [J 0] 2] := O6
  clear O6
  refine V H5 (op_assign rfl (ev_c _ _)) ?_
  intro _ H9; clear H5
  refine V H9 (op_assign rfl (ev_c _ _)) ?_
  intro _ H11; clear H9
  refine gE hK1 ?_
  refine gR fun K12 hK12 => ?_
  refine gw_new H11 O7 (want_none rfl) rfl (by decide) (op_alloc gwzer3 rfl) ?_
  intro g13 _ w15 H16 O17; clear H11 O7
  have O18 : Own w w15 [Bk g13 [J 0] 3, Bk g2 [J 0] 2] := O17
  clear O17
  refine gw_set 0 H16 O18 rfl (want_none rfl) rfl (op_store1 gwsiz3 rfl (H16.ev rfl) (ev_c _ _) rfl (blk_at (O18.get 0 rfl) rfl) (blkf (O18.get 0 rfl))) ?_
  intro _ w21 H20 O22; clear H16 O18
  refine gE hK12 ?_
  refine gR fun K23 hK23 => ?_
  refine V H20 (op_move rfl (H20.ev rfl)) ?_
  intro _ H25; clear H20
  refine V H25 (op_func rfl (ar_cons (H25.ev rfl) (ar_cons (H25.ev rfl) ar_nil))) ?_
  intro _ H27; clear H25
  have O35 : Own w _ [(Chunk.all []), Bk g2 [J 0] 2, Bk g13 [J (-1)] 3] := Own.bundle (O22.sel [1, 0] (by decide))
  refine gw_call H27 (want_none rfl) rfl (by decide) (op_callL Tryz.func54 (by kernel_rfl) rfl rfl (ar_cons (H27.ev rfl) (ar_cons (H27.ev rfl) ar_nil))) (entry_read_none w _ (Chunk.all []) A c xs (fun w_ h_ => Kd.C_below hx h_.below) hc hb g2 g13 hgn O35) ?_
  rintro e29 w30 ⟨⟨ec28, rfl⟩, hb31⟩
  refine ⟨_, rfl, fun _ H33 => ?_⟩
  have O34 : Own w w30 [Bk g2 [J 0] 2, Bk g13 [J (-1)] 3] := Own.unbundle (hb31.sel [0, 1, 2] (by decide))
  clear O35
  clear H27 O22 hb31
  refine gE hK23 ?_
  refine gw_seq fun K37 hK37 => ?_
  refine gR fun K38 hK38 => ?_
  refine V H33 (op_load1 gwagg3 rfl (H33.ev rfl) (blk_at (O34.get 1 rfl) rfl)) ?_
  intro _ H40; clear H33
  refine V H40 (op_lss rfl (H40.ev rfl) (ev_c _ _)) ?_
  intro _ H42; clear H40
  have H43 := H42.lit (b := true) (by decide)
  clear H42
  refine V H43 (op_move rfl (H43.ev rfl)) ?_
  intro _ H45; clear H43
  refine Vo H45 (wn H45 rfl rfl rfl rfl) ?_
  intro _ H47; clear H45
  refine Vo H47 (wn H47 rfl rfl rfl rfl) ?_
  intro _ H49; clear H47
  refine V H49 (op_pick_t rfl (H49.ev rfl) (ev_c _ _)) ?_
  intro _ H51; clear H49
  refine V H51 (op_move rfl (H51.ev rfl)) ?_
  intro _ H53; clear H51
  refine Vo H53 (wn H53 rfl rfl rfl rfl) ?_
  intro _ H55; clear H53
  refine Vo H55 (wn H55 rfl rfl rfl rfl) ?_
  intro _ H57; clear H55
  refine V H57 (op_pick_t rfl (H57.ev rfl) (ev_c _ _)) ?_
  intro _ H59; clear H57
  refine gE hK38 ?_
  refine gw_cond H59 rfl (fun hb60 => ?_) (fun hb60 => ?_)
  rotate_left
  ·
   cases hb60
  refine gR fun K61 hK61 => ?_
  refine gw_set 0 H59 O34 rfl (want_none rfl) rfl (op_store1 gwsiz2 rfl (H59.ev rfl) (ev_c _ _) rfl (blk_at (O34.get 0 rfl) rfl) (blkf (O34.get 0 rfl))) ?_
  intro _ w64 H63 O65; clear H59 O34
  refine V H63 (op_assign rfl (ev_c _ _)) ?_
  intro _ H67; clear H63
  refine V H67 (op_assign rfl (ev_c _ _)) ?_
  intro _ H69; clear H67
  refine gE hK61 ?_
  refine wp_ret ?_
  refine gw_thr ?_
  refine gw_rets3 H69 rfl (rv_cell1 H69 rfl gwagg2 (blk_at (O65.get 0 rfl) rfl)) (rv_tmp H69 rfl) (rv_tmp H69 rfl) ?_
  exact .inl ⟨entry_none1 hgn, rfl, O65.below⟩
 ·
  have hgs := gnum_some hgn
  have hle : (xs.drop k).length = xs.length - k := List.length_drop
  have hdr : ((xs.drop k).length : Int) = xs.length - k := by omega
  refine gR fun K70 hK70 => ?_
  refine gw_new HF HO (want_none rfl) rfl (by decide) (op_alloc gwzer2 rfl) ?_
  intro g71 _ w73 H74 O75; clear HF HO
  have O76 : Own w w73 [Bk g71 [J 0] 2] := O75
  clear O75
  refine V H74 (op_assign rfl (ev_c _ _)) ?_
  intro _ H78; clear H74
  refine V H78 (op_assign rfl (ev_c _ _)) ?_
  intro _ H80; clear H78
  refine gE hK70 ?_
  refine gR fun K81 hK81 => ?_
  refine gw_new H80 O76 (want_none rfl) rfl (by decide) (op_alloc gwzer3 rfl) ?_
  intro g82 _ w84 H85 O86; clear H80 O76
  have O87 : Own w w84 [Bk g82 [J 0] 3, Bk g71 [J 0] 2] := O86
  clear O86
  refine gw_set 0 H85 O87 rfl (want_none rfl) rfl (op_store1 gwsiz3 rfl (H85.ev rfl) (ev_c _ _) rfl (blk_at (O87.get 0 rfl) rfl) (blkf (O87.get 0 rfl))) ?_
  intro _ w90 H89 O91; clear H85 O87
  refine gE hK81 ?_
  refine gR fun K92 hK92 => ?_
  refine V H89 (op_move rfl (H89.ev rfl)) ?_
  intro _ H94; clear H89
  refine V H94 (op_func rfl (ar_cons (H94.ev rfl) (ar_cons (H94.ev rfl) ar_nil))) ?_
  intro _ H96; clear H94
  have O104 : Own w _ [(Chunk.all []), Bk g71 [J 0] 2, Bk g82 [J (-1)] 3] := Own.bundle (O91.sel [1, 0] (by decide))
  refine gw_call H96 (want_none rfl) rfl (by decide) (op_callL Tryz.func54 (by kernel_rfl) rfl rfl (ar_cons (H96.ev rfl) (ar_cons (H96.ev rfl) ar_nil))) (entry_read_some w _ (Chunk.all []) A c xs (fun w_ h_ => Kd.C_below hx h_.below) hc hb g71 g82 n k hgn O104) ?_
  rintro e98 w99 ⟨⟨ec97, rfl⟩, hb100⟩
  refine ⟨_, rfl, fun _ H102 => ?_⟩
  have O103 : Own w w99 [Bk g71 [J n] 2, Bk g82 [J ((xs.drop k).length : Int)] 3] := Own.unbundle (hb100.sel [0, 1, 2] (by decide))
  clear O104
  clear H96 O91 hb100
  refine gE hK92 ?_
  refine gw_seq fun K106 hK106 => ?_
  refine gR fun K107 hK107 => ?_
  refine V H102 (op_load1 gwagg3 rfl (H102.ev rfl) (blk_at (O103.get 1 rfl) rfl)) ?_
  intro _ H109; clear H102
  refine V H109 (op_lss rfl (H109.ev rfl) (ev_c _ _)) ?_
  intro _ H111; clear H109
  refine V H111 (op_move rfl (H111.ev rfl)) ?_
  intro _ H113; clear H111
  refine gw_evG H113 rfl rfl rfl rfl (on_f _) rfl (by decide) (fun h_ => (op_load1 gwagg3 rfl (H113.ev rfl) (blk_at (O103.get 1 rfl) rfl))) ?_
  intro _ H115; clear H113
  refine gw_evG H115 rfl rfl rfl rfl (on_f _) rfl (by decide) (fun h_ => (op_gtr rfl (ev_gv (H115.ev rfl) h_) (ev_c _ _))) ?_
  intro _ H117; clear H115
  refine V H117 (op_pick_or rfl (H117.ev rfl) (ev_c _ _) (fun hp_ => (ev_gv (H117.ev rfl) (not_t hp_)))) ?_
  intro _ H119; clear H117
  refine V H119 (op_move rfl (H119.ev rfl)) ?_
  intro _ H121; clear H119
  refine gw_evG H121 rfl rfl rfl rfl (on_f _) rfl (by decide) (fun h_ => (op_load1 gwagg2 rfl (H121.ev rfl) (blk_at (O103.get 0 rfl) rfl))) ?_
  intro _ H123; clear H121
  refine gw_evG H123 rfl rfl rfl rfl (on_f _) rfl (by decide) (fun h_ => (op_gtr rfl (ev_gv (H123.ev rfl) h_) (ev_c _ _))) ?_
  intro _ H125; clear H123
  refine V H125 (op_pick_or rfl (H125.ev rfl) (ev_c _ _) (fun hp_ => (ev_gv (H125.ev rfl) (not_t hp_)))) ?_
  intro _ H127; clear H125
  refine gE hK107 ?_
  refine gw_cond H127 rfl (fun hb128 => ?_) (fun hb128 => ?_)
  ·
   have H129 := H127.subst_ (d := 18) (b := true) rfl hb128
   clear H127
   (try simp only [Bool.or_eq_true, Bool.or_eq_false_iff, decide_eq_true_eq, decide_eq_false_iff_not, Int.not_lt] at hb128)
   refine gR fun K130 hK130 => ?_
   refine gw_set 0 H129 O103 rfl (want_none rfl) rfl (op_store1 gwsiz2 rfl (H129.ev rfl) (ev_c _ _) rfl (blk_at (O103.get 0 rfl) rfl) (blkf (O103.get 0 rfl))) ?_
   intro _ w133 H132 O134; clear H129 O103
   refine V H132 (op_assign rfl (ev_c _ _)) ?_
   intro _ H136; clear H132
   refine V H136 (op_assign rfl (ev_c _ _)) ?_
   intro _ H138; clear H136
   refine gE hK130 ?_
   refine wp_ret ?_
   refine gw_thr ?_
   refine gw_rets3 H138 rfl (rv_cell1 H138 rfl gwagg2 (blk_at (O134.get 0 rfl) rfl)) (rv_tmp H138 rfl) (rv_tmp H138 rfl) ?_
   exact .inl ⟨entry_none2 hgn (by simp only [List.length_drop] at *; omega), rfl, O134.below⟩
  ·
   have H139 := H127.subst_ (d := 18) (b := false) rfl hb128
   clear H127
   (try simp only [Bool.or_eq_true, Bool.or_eq_false_iff, decide_eq_true_eq, decide_eq_false_iff_not, Int.not_lt] at hb128)
   refine wp_skip ?_
   refine gw_nx (hK106 _ _ ?_)
   refine gw_seq fun K140 hK140 => ?_
   refine gx_draw (M := [Bk g71 [J n] 2, Bk g82 [J ((xs.drop k).length : Int)] 3]) (fun j_ => false) O103 (by kernel_rfl) fun w141 O142 => ?_
   clear O103
   refine gx_take 0 rfl (by kernel_rfl) H139 (by exact O142.sel [0, 1] (by decide)) (want_none rfl) rfl (by decide) (fun wq HO => (op_load1 gwagg2 rfl (H139.ev rfl) (blk_at (HO.get 0 rfl) rfl))) ?_
   intro _ H144; clear H139
   refine gx_take 1 rfl (by kernel_rfl) H144 (by exact O142.sel [0, 1] (by decide)) (want_none rfl) rfl (by decide) (fun wq HO => (op_move rfl (H144.ev rfl))) ?_
   intro _ H146; clear H144
   refine gx_take 2 rfl (by kernel_rfl) H146 (by exact O142.sel [0, 1] (by decide)) (want_none rfl) rfl (by decide) (fun wq HO => (op_move rfl (H146.ev rfl))) ?_
   intro _ H148; clear H146
   refine gx_take 3 rfl (by kernel_rfl) H148 (by exact O142.sel [0, 1] (by decide)) (want_none rfl) rfl (by decide) (fun wq HO => (op_len Tryz.underlying22 rfl (H148.ev rfl))) ?_
   intro _ H150; clear H148
   refine gx_take 4 rfl (by kernel_rfl) H150 (by exact O142.sel [0, 1] (by decide)) (want_none rfl) rfl (by decide) (fun wq HO => (op_load1 gwagg3 rfl (H150.ev rfl) (blk_at (HO.get 1 rfl) rfl))) ?_
   intro _ H152; clear H150
   refine gx_take 5 rfl (by kernel_rfl) H152 (by exact O142.sel [0, 1] (by decide)) (want_none rfl) rfl (by decide) (fun wq HO => (op_sub rfl (H152.ev rfl) (H152.ev rfl) (by omega))) ?_
   intro _ H154; clear H152
   have H155 := H154.conv (v' := J (k : Int)) (by congr 1; omega)
   clear H154
   obtain ⟨A156, c157, hr158, hc159, hC160, hA161⟩ := cut_lo (P := Tryz.prog) (d := (Kd.int .u8)) (t := 22) (e := 5) Tryz.underlying22 gwsiz5 A c xs hc (k : Int) (by omega) (by omega)
   refine gx_take 6 rfl (by kernel_rfl) H155 (by exact O142.sel [0, 1] (by decide)) (want_none rfl) rfl (by decide) (fun wq HO => (op_cut Tryz.underlying22 hr158 rfl (H155.ev rfl) (some_ev (H155.ev rfl)) rfl)) ?_
   intro _ H163; clear H155
   refine gx_step 7 rfl (by kernel_rfl) ?_
   refine gw_set 0 H163 O142 rfl (want_none rfl) rfl (op_store1 gwsiz2 rfl (H163.ev rfl) (H163.ev rfl) rfl (blk_at (O142.get 0 rfl) rfl) (blkf (O142.get 0 rfl))) ?_
   intro _ w166 H165 O167; clear H163 O142
   refine gx_on (i := 7) (B := (fun j_ => false)) (fun _ => (by exact O167.sel [0, 1] (by decide))) ?_
   refine gx_take 8 rfl (by kernel_rfl) H165 (by exact O167.sel [0, 1] (by decide)) (want_none rfl) rfl (by decide) (fun wq HO => (op_assign rfl (H165.ev rfl))) ?_
   intro _ H169; clear H165
   refine gx_take 9 rfl (by kernel_rfl) H169 (by exact O167.sel [0, 1] (by decide)) (want_none rfl) rfl (by decide) (fun wq HO => (op_assign rfl (ev_c _ _))) ?_
   intro _ H171; clear H169
   refine gx_done (by kernel_rfl) ?_
   refine gw_nx (hK140 _ _ ?_)
   refine wp_ret ?_
   refine gw_rets3 H171 rfl (rv_cell1 H171 rfl gwagg2 (blk_at (O167.get 0 rfl) rfl)) (rv_tmp H171 rfl) (rv_tmp H171 rfl) ?_
   exact .inr ⟨n, k, A156, c157, entry_some hgn (by simp only [List.length_drop] at *; omega) (by omega), rfl, hC160, hc159, O167.below⟩
end GJour0_
export GJour0_ (entry_calls)
end Go.Proofs.YtkdahjnmldeklaaGreat.PA
end
section
namespace Go.Proofs.YtkdahjnmldeklaaGreat.PA
open Go.RowKit Go.Proofs.YtkdahjnmldeklaaGreatW.PrintWords Go.Proofs.YtkdahjnmldeklaaGreatW.PrintLast Go.Proofs.YtkdahjnmldeklaaGreatW.PrintMore
set_option linter.unusedVariables false
set_option linter.unusedSimpArgs false
namespace GJour1_
theorem gwagg3 : ∀ w, (isAgg 3).run Tryz.prog w = .ok false w := fun _ => by kernel_rfl
theorem gwagg77 : ∀ w, (isAgg 77).run Tryz.prog w = .ok false w := fun _ => by kernel_rfl
theorem gwfld79_2 (g off : Nat) : ∀ w, (Instr.fieldAt 79 (.pointer (some ⟨g, off, none⟩)) 2).run Tryz.prog w = .ok (.pointer (some ⟨g, off + 2, none⟩)) w := fun _ => by kernel_rfl
theorem gwfld79_3 (g off : Nat) : ∀ w, (Instr.fieldAt 79 (.pointer (some ⟨g, off, none⟩)) 3).run Tryz.prog w = .ok (.pointer (some ⟨g, off + 3, none⟩)) w := fun _ => by kernel_rfl
theorem gwzer22 : ∀ w, (zeroValue 22).run Tryz.prog w = .ok (.slice none 0 0) w := fun _ => by kernel_rfl
set_option maxHeartbeats 4000000 in
set_option maxRecDepth 100000 in
theorem has_calls (base gd gj : Nat) (nm : ByteArray) (S : Nat → Prop) (is : List PI) (size : Int) (w : World) (hJ : (Chunk.jour base gd gj nm S is size).P w) (key : Int) (hkw : (Lit.int .i64 key).wf = true) :
    Calls Tryz.prog 21 #[.pointer (some ⟨gj, 0, none⟩), .int .i64 key] w fun e w' => e = .returned (.bool (hasJ key is)) ∧ Below w.heap.size w w' := by
 obtain ⟨gm, xs, hxs, hon, hB, hL, hfs⟩ := jour_blk hJ
 refine gw_start (N := 17) (vs := [.pointer (some ⟨gj, 0, none⟩), J key]) Tryz.func21 rfl rfl (by simp) fun a HF HO => ?_
 replace HO : Own w w [] := HO
 rcases lookJ key xs with ⟨hl, hg0, hno⟩ | ⟨x, hx, hkx, hl, hg0⟩
 ·
  have hgi : getJ key is = none := (getJ_perm hon hxs).symm.trans hg0
  have hhi : hasJ key is = false := by unfold hasJ; rw [hgi]; rfl
  refine gR fun K1 hK1 => ?_
  refine V HF (op_assign rfl (ev_c _ _)) ?_
  intro _ H3; clear HF
  refine gE hK1 ?_
  refine gR fun K4 hK4 => ?_
  refine V H3 (op_move rfl (H3.ev rfl)) ?_
  intro _ H6; clear H3
  refine V H6 (op_nil rfl (H6.ev rfl)) ?_
  intro _ H8; clear H6
  refine V H8 (op_field (gwfld79_2 _ _) rfl (H8.ev rfl)) ?_
  intro _ H10; clear H8
  refine V H10 (op_load1 gwagg77 rfl (H10.ev rfl) (blk_at (argblk HO hB) rfl)) ?_
  intro _ H12; clear H10
  refine V H12 (op_move rfl (H12.ev rfl)) ?_
  intro _ H14; clear H12
  refine V H14 (op_mlok_none (Go.Maps.int_keyed Tryz.underlying2) Tryz.underlying77 gwzer22 rfl (H14.ev rfl) (H14.ev rfl) (Go.Maps.keyOf_int_mk Tryz.underlying2 (hkw)) (lmap_arg HO hL) (hl)) ?_
  intro _ H16; clear H14
  refine V H16 (op_move rfl (H16.ev rfl)) ?_
  intro _ H18; clear H16
  refine V H18 (op_extract rfl (H18.ev rfl) rfl) ?_
  intro _ H20; clear H18
  refine V H20 (op_extract rfl (H20.ev rfl) rfl) ?_
  intro _ H22; clear H20
  refine V H22 (op_assign rfl (H22.ev rfl)) ?_
  intro _ H24; clear H22
  refine V H24 (op_assign rfl (H24.ev rfl)) ?_
  intro _ H26; clear H24
  refine gE hK4 ?_
  refine gR fun K27 hK27 => ?_
  refine V H26 (op_move rfl (H26.ev rfl)) ?_
  intro _ H29; clear H26
  refine V H29 (op_assign rfl (H29.ev rfl)) ?_
  intro _ H31; clear H29
  refine gE hK27 ?_
  refine wp_ret ?_
  refine gw_ret1 H31 rfl rfl ?_
  rw [hhi]
  exact ⟨rfl, HO.below⟩
 ·
  have hgi : getJ key is = some x.b := (getJ_perm hon hxs).symm.trans hg0
  have hhi : hasJ key is = true := by unfold hasJ; rw [hgi]; rfl
  refine gR fun K32 hK32 => ?_
  refine V HF (op_assign rfl (ev_c _ _)) ?_
  intro _ H34; clear HF
  refine gE hK32 ?_
  refine gR fun K35 hK35 => ?_
  refine V H34 (op_move rfl (H34.ev rfl)) ?_
  intro _ H37; clear H34
  refine V H37 (op_nil rfl (H37.ev rfl)) ?_
  intro _ H39; clear H37
  refine V H39 (op_field (gwfld79_2 _ _) rfl (H39.ev rfl)) ?_
  intro _ H41; clear H39
  refine V H41 (op_load1 gwagg77 rfl (H41.ev rfl) (blk_at (argblk HO hB) rfl)) ?_
  intro _ H43; clear H41
  refine V H43 (op_move rfl (H43.ev rfl)) ?_
  intro _ H45; clear H43
  refine V H45 (op_mlok_some (Go.Maps.int_keyed Tryz.underlying2) Tryz.underlying77 gwzer22 rfl (H45.ev rfl) (H45.ev rfl) (Go.Maps.keyOf_int_mk Tryz.underlying2 (hkw)) (lmap_arg HO hL) (hl)) ?_
  intro _ H47; clear H45
  refine V H47 (op_move rfl (H47.ev rfl)) ?_
  intro _ H49; clear H47
  refine V H49 (op_extract rfl (H49.ev rfl) rfl) ?_
  intro _ H51; clear H49
  refine V H51 (op_extract rfl (H51.ev rfl) rfl) ?_
  intro _ H53; clear H51
  refine V H53 (op_assign rfl (H53.ev rfl)) ?_
  intro _ H55; clear H53
  refine V H55 (op_assign rfl (H55.ev rfl)) ?_
  intro _ H57; clear H55
  refine gE hK35 ?_
  refine gR fun K58 hK58 => ?_
  refine V H57 (op_move rfl (H57.ev rfl)) ?_
  intro _ H60; clear H57
  refine V H60 (op_assign rfl (H60.ev rfl)) ?_
  intro _ H62; clear H60
  refine gE hK58 ?_
  refine wp_ret ?_
  refine gw_ret1 H62 rfl rfl ?_
  rw [hhi]
  exact ⟨rfl, HO.below⟩
set_option maxHeartbeats 4000000 in
set_option maxRecDepth 100000 in
theorem get_calls (base gd gj : Nat) (nm : ByteArray) (S : Nat → Prop) (is : List PI) (size : Int) (w : World) (hJ : (Chunk.jour base gd gj nm S is size).P w) (key : Int) (hkw : (Lit.int .i64 key).wf = true) (hlen : ∀ x ∈ is, x.2.length ≤ 1000000) :
    Calls Tryz.prog 23 #[.pointer (some ⟨gj, 0, none⟩), .int .i64 key] w fun e w' => ∃ A c S', e = .returned (.tuple #[.slice A ((getJ key is).getD []).length c, .bool (hasJ key is)]) ∧ Out w w' (fun _ => False) [Chunk.row (Kd.int .u8) 5 w.heap.size S' (.slice A ((getJ key is).getD []).length c) ((getJ key is).getD [])] := by
 obtain ⟨gm, xs, hxs, hon, hB, hL, hfs⟩ := jour_blk hJ
 refine gw_start (N := 20) (vs := [.pointer (some ⟨gj, 0, none⟩), J key]) Tryz.func23 rfl rfl (by simp) fun a HF HO => ?_
 replace HO : Own w w [] := HO
 rcases lookJ key xs with ⟨hl, hg0, hno⟩ | ⟨x, hx, hkx, hl, hg0⟩
 ·
  have hgi : getJ key is = none := (getJ_perm hon hxs).symm.trans hg0
  have hhi : hasJ key is = false := by unfold hasJ; rw [hgi]; rfl
  refine gR fun K1 hK1 => ?_
  refine V HF (op_assign rfl (ev_c _ _)) ?_
  intro _ H3; clear HF
  refine V H3 (op_assign rfl (ev_c _ _)) ?_
  intro _ H5; clear H3
  refine gE hK1 ?_
  refine gR fun K6 hK6 => ?_
  refine V H5 (op_move rfl (H5.ev rfl)) ?_
  intro _ H8; clear H5
  refine V H8 (op_nil rfl (H8.ev rfl)) ?_
  intro _ H10; clear H8
  refine V H10 (op_field (gwfld79_2 _ _) rfl (H10.ev rfl)) ?_
  intro _ H12; clear H10
  refine V H12 (op_load1 gwagg77 rfl (H12.ev rfl) (blk_at (argblk HO hB) rfl)) ?_
  intro _ H14; clear H12
  refine V H14 (op_move rfl (H14.ev rfl)) ?_
  intro _ H16; clear H14
  refine V H16 (op_mlok_none (Go.Maps.int_keyed Tryz.underlying2) Tryz.underlying77 gwzer22 rfl (H16.ev rfl) (H16.ev rfl) (Go.Maps.keyOf_int_mk Tryz.underlying2 (hkw)) (lmap_arg HO hL) (hl)) ?_
  intro _ H18; clear H16
  refine V H18 (op_move rfl (H18.ev rfl)) ?_
  intro _ H20; clear H18
  refine V H20 (op_extract rfl (H20.ev rfl) rfl) ?_
  intro _ H22; clear H20
  refine V H22 (op_extract rfl (H22.ev rfl) rfl) ?_
  intro _ H24; clear H22
  refine V H24 (op_assign rfl (H24.ev rfl)) ?_
  intro _ H26; clear H24
  refine V H26 (op_assign rfl (H26.ev rfl)) ?_
  intro _ H28; clear H26
  refine gE hK6 ?_
  refine gR fun K29 hK29 => ?_
  refine V H28 (op_move rfl (H28.ev rfl)) ?_
  intro _ H31; clear H28
  refine gw_call H31 (want_none rfl) rfl (by decide) (op_callL Tryz.func34 (by kernel_rfl) rfl rfl (ar_cons (H31.ev rfl) ar_nil)) (clone0 none 0 ([]) _ (Kd.C_nil _ _) (Nat.le_refl _) (by first | omega | (show 0 < _; omega))) ?_
  rintro e35 w36 ⟨A32, c33, S34, rfl, hb37⟩
  refine ⟨_, rfl, fun _ H39 => ?_⟩
  have O40 := HO.fresh hb37
  have hbel41 := HO.below
  clear H31 HO hb37
  have O42 := O40.lowrow 0 rfl (base' := w.heap.size) (Below.size hbel41)
  refine V H39 (op_move rfl (H39.ev rfl)) ?_
  intro _ H44; clear H39
  refine V H44 (op_assign rfl (H44.ev rfl)) ?_
  intro _ H46; clear H44
  refine V H46 (op_assign rfl (H46.ev rfl)) ?_
  intro _ H48; clear H46
  refine gE hK29 ?_
  refine wp_ret ?_
  refine gw_ret2 H48 rfl rfl rfl ?_
  rw [hgi, hhi]
  exact ⟨_, _, _, rfl, (O42.sel [0] (by decide)).out⟩
 ·
  have hgi : getJ key is = some x.b := (getJ_perm hon hxs).symm.trans hg0
  have hhi : hasJ key is = true := by unfold hasJ; rw [hgi]; rfl
  obtain ⟨hC, hcx⟩ := hfs x hx
  have hxb : x.b.length ≤ 1000000 := hlen (key, x.b) ((getJ_iff (onceJ_perm hon hxs)).1 hgi)
  refine gR fun K49 hK49 => ?_
  refine V HF (op_assign rfl (ev_c _ _)) ?_
  intro _ H51; clear HF
  refine V H51 (op_assign rfl (ev_c _ _)) ?_
  intro _ H53; clear H51
  refine gE hK49 ?_
  refine gR fun K54 hK54 => ?_
  refine V H53 (op_move rfl (H53.ev rfl)) ?_
  intro _ H56; clear H53
  refine V H56 (op_nil rfl (H56.ev rfl)) ?_
  intro _ H58; clear H56
  refine V H58 (op_field (gwfld79_2 _ _) rfl (H58.ev rfl)) ?_
  intro _ H60; clear H58
  refine V H60 (op_load1 gwagg77 rfl (H60.ev rfl) (blk_at (argblk HO hB) rfl)) ?_
  intro _ H62; clear H60
  refine V H62 (op_move rfl (H62.ev rfl)) ?_
  intro _ H64; clear H62
  refine V H64 (op_mlok_some (Go.Maps.int_keyed Tryz.underlying2) Tryz.underlying77 gwzer22 rfl (H64.ev rfl) (H64.ev rfl) (Go.Maps.keyOf_int_mk Tryz.underlying2 (hkw)) (lmap_arg HO hL) (hl)) ?_
  intro _ H66; clear H64
  refine V H66 (op_move rfl (H66.ev rfl)) ?_
  intro _ H68; clear H66
  refine V H68 (op_extract rfl (H68.ev rfl) rfl) ?_
  intro _ H70; clear H68
  refine V H70 (op_extract rfl (H70.ev rfl) rfl) ?_
  intro _ H72; clear H70
  refine V H72 (op_assign rfl (H72.ev rfl)) ?_
  intro _ H74; clear H72
  refine V H74 (op_assign rfl (H74.ev rfl)) ?_
  intro _ H76; clear H74
  refine gE hK54 ?_
  refine gR fun K77 hK77 => ?_
  refine V H76 (op_move rfl (H76.ev rfl)) ?_
  intro _ H79; clear H76
  refine gw_call H79 (want_none rfl) rfl (by decide) (op_callL Tryz.func34 (by kernel_rfl) rfl rfl (ar_cons (H79.ev rfl) ar_nil)) (clone0 x.A x.c x.b _ (Kd.C_below hC HO.below) hcx (by first | omega | (show 0 < _; omega))) ?_
  rintro e83 w84 ⟨A80, c81, S82, rfl, hb85⟩
  refine ⟨_, rfl, fun _ H87 => ?_⟩
  have O88 := HO.fresh hb85
  have hbel89 := HO.below
  clear H79 HO hb85
  have O90 := O88.lowrow 0 rfl (base' := w.heap.size) (Below.size hbel89)
  refine V H87 (op_move rfl (H87.ev rfl)) ?_
  intro _ H92; clear H87
  refine V H92 (op_assign rfl (H92.ev rfl)) ?_
  intro _ H94; clear H92
  refine V H94 (op_assign rfl (H94.ev rfl)) ?_
  intro _ H96; clear H94
  refine gE hK77 ?_
  refine wp_ret ?_
  refine gw_ret2 H96 rfl rfl rfl ?_
  rw [hgi, hhi]
  exact ⟨_, _, _, rfl, (O90.sel [0] (by decide)).out⟩
set_option maxHeartbeats 4000000 in
set_option maxRecDepth 100000 in
theorem keys_calls (base gd gj : Nat) (nm : ByteArray) (S : Nat → Prop) (is : List PI) (size : Int) (w : World) (hJ : (Chunk.jour base gd gj nm S is size).P w) (hlen : is.length ≤ 1000000) :
    Calls Tryz.prog 24 #[.pointer (some ⟨gj, 0, none⟩)] w fun e w' => ∃ A c S' ks, ks.Pairwise (fun x y => x < y) ∧ ks.Perm (is.map (·.1)) ∧ e = .returned (.slice A ks.length c) ∧ Out w w' (fun _ => False) [Chunk.row (Kd.int .i64) 2 w.heap.size S' (.slice A ks.length c) ks] := by
 obtain ⟨gm, xs, hxs, hon, hB, hL, hfs⟩ := jour_blk hJ
 have hxl : xs.length ≤ 1000000 := by have := hxs.length_eq; rw [List.length_map] at this; omega
 refine gw_start (N := 9) (vs := [.pointer (some ⟨gj, 0, none⟩)]) Tryz.func24 rfl rfl (by simp) fun a HF HO => ?_
 replace HO : Own w w [] := HO
 refine gR fun K1 hK1 => ?_
 refine V HF (op_assign rfl (ev_c _ _)) ?_
 intro _ H3; clear HF
 refine gE hK1 ?_
 refine gR fun K4 hK4 => ?_
 refine V H3 (op_move rfl (H3.ev rfl)) ?_
 intro _ H6; clear H3
 refine V H6 (op_nil rfl (H6.ev rfl)) ?_
 intro _ H8; clear H6
 refine V H8 (op_field (gwfld79_2 _ _) rfl (H8.ev rfl)) ?_
 intro _ H10; clear H8
 refine V H10 (op_load1 gwagg77 rfl (H10.ev rfl) (blk_at (argblk HO hB) rfl)) ?_
 intro _ H12; clear H10
 have hOn := HO
 refine gw_call H12 (want_none rfl) rfl (by decide) (op_callL Tryz.func51 (by kernel_rfl) rfl rfl (ar_cons (H12.ev rfl) ar_nil)) (keysJ_at _ _) ?_
 rintro _ _ ⟨rfl, rfl⟩
 refine ⟨_, rfl, fun _ H17 => ?_⟩
 have O18 := HO.new (.cells #[.map (some gm)] 77)
 clear H12 HO
 have O19 : Own w (w.alloc (.cells #[.map (some gm)] 77)) [Bk w.heap.size [.map (some gm)] 77] := O18
 clear O18
 refine gw_call H17 (want_none rfl) rfl (by decide) (op_callL Tryz.func50 (by kernel_rfl) rfl rfl (ar_cons (H17.ev rfl) ar_nil)) (sortedJ_at gm xs _ (lmap_arg hOn hL) hxl) ?_
 rintro e23 w24 ⟨A20, c21, S22, rfl, hb25⟩
 refine ⟨_, rfl, fun _ H27 => ?_⟩
 have O28 := O19.fresh hb25
 have hbel29 := O19.below
 clear H17 O19 hb25
 have O30 := O28.lowrow 0 rfl (base' := w.heap.size) (Below.size hbel29)
 refine V H27 (op_assign rfl (H27.ev rfl)) ?_
 intro _ H32; clear H27
 refine gE hK4 ?_
 refine wp_ret ?_
 refine gw_ret1 H32 rfl rfl ?_
 exact ⟨_, _, _, _, keys_rise (lmap_rising intKey hL).1, (by have h_ := hxs.map (fun x : PI => x.1); rw [List.map_map] at h_; exact h_), rfl, (O30.sel [0] (by decide)).out⟩
set_option maxHeartbeats 4000000 in
set_option maxRecDepth 100000 in
theorem size_calls (base gd gj : Nat) (nm : ByteArray) (S : Nat → Prop) (is : List PI) (size : Int) (w : World) (hJ : (Chunk.jour base gd gj nm S is size).P w) :
    Calls Tryz.prog 25 #[.pointer (some ⟨gj, 0, none⟩)] w fun e w' => e = .returned (.int .i64 size) ∧ Below w.heap.size w w' := by
 obtain ⟨gm, xs, hxs, hon, hB, hL, hfs⟩ := jour_blk hJ
 refine gw_start (N := 7) (vs := [.pointer (some ⟨gj, 0, none⟩)]) Tryz.func25 rfl rfl (by simp) fun a HF HO => ?_
 replace HO : Own w w [] := HO
 refine gR fun K1 hK1 => ?_
 refine V HF (op_assign rfl (ev_c _ _)) ?_
 intro _ H3; clear HF
 refine gE hK1 ?_
 refine gR fun K4 hK4 => ?_
 refine V H3 (op_move rfl (H3.ev rfl)) ?_
 intro _ H6; clear H3
 refine V H6 (op_nil rfl (H6.ev rfl)) ?_
 intro _ H8; clear H6
 refine V H8 (op_field (gwfld79_3 _ _) rfl (H8.ev rfl)) ?_
 intro _ H10; clear H8
 refine V H10 (op_load1 gwagg3 rfl (H10.ev rfl) (blk_at (argblk HO hB) rfl)) ?_
 intro _ H12; clear H10
 refine V H12 (op_assign rfl (H12.ev rfl)) ?_
 intro _ H14; clear H12
 refine gE hK4 ?_
 refine wp_ret ?_
 refine gw_ret1 H14 rfl rfl ?_
 exact ⟨rfl, HO.below⟩
end GJour1_
export GJour1_ (has_calls get_calls keys_calls size_calls)
end Go.Proofs.YtkdahjnmldeklaaGreat.PA
end
section
namespace Go.Proofs.YtkdahjnmldeklaaGreat.PA
open Go.RowKit Go.Proofs.YtkdahjnmldeklaaGreatW.PrintWords Go.Proofs.YtkdahjnmldeklaaGreatW.PrintLast Go.Proofs.YtkdahjnmldeklaaGreatW.PrintMore
set_option linter.unusedVariables false
set_option linter.unusedSimpArgs false
namespace GVfs0_
theorem gwagg3 : ∀ w, (isAgg 3).run Tryz.prog w = .ok false w := fun _ => by kernel_rfl
theorem gwagg4 : ∀ w, (isAgg 4).run Tryz.prog w = .ok false w := fun _ => by kernel_rfl
theorem gwagg62 : ∀ w, (isAgg 62).run Tryz.prog w = .ok false w := fun _ => by kernel_rfl
theorem gwfld64_0 (g off : Nat) : ∀ w, (Instr.fieldAt 64 (.pointer (some ⟨g, off, none⟩)) 0).run Tryz.prog w = .ok (.pointer (some ⟨g, off + 0, none⟩)) w := fun _ => by kernel_rfl
theorem gwfld64_3 (g off : Nat) : ∀ w, (Instr.fieldAt 64 (.pointer (some ⟨g, off, none⟩)) 3).run Tryz.prog w = .ok (.pointer (some ⟨g, off + 3, none⟩)) w := fun _ => by kernel_rfl
theorem gwfld64_4 (g off : Nat) : ∀ w, (Instr.fieldAt 64 (.pointer (some ⟨g, off, none⟩)) 4).run Tryz.prog w = .ok (.pointer (some ⟨g, off + 4, none⟩)) w := fun _ => by kernel_rfl
theorem gwsiz3 : ∀ w, (sizeOf 3).run Tryz.prog w = .ok 1 w := fun _ => by kernel_rfl
theorem gwsiz4 : ∀ w, (sizeOf 4).run Tryz.prog w = .ok 1 w := fun _ => by kernel_rfl
theorem gwzer71 : ∀ w, (zeroValue 71).run Tryz.prog w = .ok (.pointer none) w := fun _ => by kernel_rfl
set_option maxHeartbeats 4000000 in
set_option maxRecDepth 100000 in
theorem named_calls (s : ByteArray) (w : World) :
    Calls Tryz.prog 26 #[.string s] w fun e w' => e = .returned (.bool (namedB s)) ∧ Below w.heap.size w w' := by
 refine gw_start (N := 11) (vs := [.string s]) Tryz.func26 rfl rfl (by simp) fun a HF HO => ?_
 replace HO : Own w w [] := HO
 refine gR fun K1 hK1 => ?_
 refine V HF (op_assign rfl (ev_c _ _)) ?_
 intro _ H3; clear HF
 refine gE hK1 ?_
 refine gR fun K4 hK4 => ?_
 refine V H3 (op_move rfl (H3.ev rfl)) ?_
 intro _ H6; clear H3
 refine V H6 (op_lens Tryz.underlying9 rfl (H6.ev rfl)) ?_
 intro _ H8; clear H6
 refine V H8 (op_geq rfl (H8.ev rfl) (ev_c _ _)) ?_
 intro _ H10; clear H8
 refine V H10 (op_move rfl (H10.ev rfl)) ?_
 intro _ H12; clear H10
 refine gw_evG H12 rfl rfl rfl rfl (on_t _) rfl (by decide) (fun h_ => (op_move rfl (H12.ev rfl))) ?_
 intro _ H14; clear H12
 refine gw_evG H14 rfl rfl rfl rfl (on_t _) rfl (by decide) (fun h_ => (op_lens Tryz.underlying9 rfl (ev_gv (H14.ev rfl) h_))) ?_
 intro _ H16; clear H14
 refine gw_evG H16 rfl rfl rfl rfl (on_t _) rfl (by decide) (fun h_ => (op_leq rfl (ev_gv (H16.ev rfl) h_) (ev_c _ _))) ?_
 intro _ H18; clear H16
 refine V H18 (op_pick_and rfl (H18.ev rfl) (fun hp_ => (ev_gv (H18.ev rfl) hp_)) (ev_c _ _)) ?_
 intro _ H20; clear H18
 refine V H20 (op_assign rfl (H20.ev rfl)) ?_
 intro _ H22; clear H20
 refine gE hK4 ?_
 refine wp_ret ?_
 refine gw_ret1 H22 rfl rfl ?_
 exact ⟨by rw [named_i], HO.below⟩
set_option maxHeartbeats 4000000 in
set_option maxRecDepth 100000 in
theorem new_own (w0 w : World) (R : Chunk) (room : Int) (HO : Own w0 w [R]) :
    Calls Tryz.prog 5 #[.int .i64 room] w fun e w' => ∃ gd S, e = .returned (.pointer (some ⟨gd, 0, none⟩)) ∧ Own w0 w' [R, Chunk.disk w0.heap.size gd S (newD room)] := by
 refine gw_startO (N := 8) (vs := [J room]) Tryz.func5 rfl rfl (by simp) fun a HF => ?_
 refine gR fun K1 hK1 => ?_
 refine V HF (op_assign rfl (ev_c _ _)) ?_
 intro _ H3; clear HF
 refine gE hK1 ?_
 refine gR fun K4 hK4 => ?_
 refine gw_mkmap (K := 9) H3 HO (want_none rfl) rfl (by decide) rfl ?_
 intro g5 _ w7 H8 O9; clear H3 HO
 have O10 : Own w0 w7 [Chunk.lmap Tryz.prog 9 g5 ([] : List (Lit × Value)), R] := O9
 clear O9
 refine V H8 (op_move rfl (H8.ev rfl)) ?_
 intro _ H12; clear H8
 refine V H12 (op_max rfl (H12.ev rfl) (ev_c _ _)) ?_
 intro _ H14; clear H12
 refine V H14 (op_build (cells := #[.map (some g5), J (mx room 0), J 0, J 0, .bool false]) rfl (pt_cons (H14.ev rfl) (pt_cons (H14.ev rfl) pt_nil)) (by kernel_rfl)) ?_
 intro _ H16; clear H14
 refine gw_new H16 O10 (want_none rfl) rfl (by decide) (op_box rfl (H16.ev rfl)) ?_
 intro g17 _ w19 H20 O21; clear H16 O10
 have O22 : Own w0 w19 [Bk g17 [.map (some g5), J (mx room 0), J 0, J 0, .bool false] 64, Chunk.lmap Tryz.prog 9 g5 ([] : List (Lit × Value)), R] := O21
 clear O21
 refine V H20 (op_assign rfl (H20.ev rfl)) ?_
 intro _ H24; clear H20
 refine gE hK4 ?_
 refine wp_ret ?_
 refine gw_ret1 H24 rfl rfl ?_
 have HOf := Own.files_nil O22 w0.heap.size
 obtain ⟨S', HOd⟩ := disk_close2 (R := R) (base := w0.heap.size) (gd := g17) (gm := g5) (d := newD room) (xs := []) rfl (by exact HOf.sel [3, 1, 2, 0] (by decide))
 exact ⟨_, S', rfl, HOd⟩
set_option maxHeartbeats 4000000 in
set_option maxRecDepth 100000 in
theorem step_calls (w0 w : World) (R : Chunk) (gd gm : Nat) (d : PD) (fid : Nat) (fn0 : Func) (cap : List Value) (Q : World → Prop) (h1 : Tryz.prog.funcs[fid]? = some fn0) (h2 : (fn0.name == "runtime.NumGoroutine") = false) (h3 : fn0.body.isSome = true) (hfu : 0 ≤ d.fuse ∧ d.fuse ≤ 9223372036854775807) (hdo : d.fuse ≠ 1 → ∀ w1, Own w0 w1 [R, Chunk.blk gd (.cells (dcells gm { d with fuse := decF d.fuse }) 64 (0, 0))] → Calls Tryz.prog fid cap.toArray w1 fun e w2 => e = .returned (.tuple #[]) ∧ Q w2) (HO : Own w0 w [R, Bk gd [.map (some gm), .int .i64 d.most, .int .i64 d.used, .int .i64 d.fuse, .bool d.down] 64]) :
    Calls Tryz.prog 27 #[.pointer (some ⟨gd, 0, none⟩), .func (.func fid) #[] cap.toArray] w fun e w' => (d.fuse = 1 ∧ e = .returned (.int .i64 70) ∧ Own w0 w' [R, Chunk.blk gd (.cells (dcells gm { d with fuse := 0, down := true }) 64 (0, 0))]) ∨ (d.fuse ≠ 1 ∧ e = .returned (.int .i64 0) ∧ Q w') := by
 refine gw_startO (N := 27) (vs := [.pointer (some ⟨gd, 0, none⟩), .func (.func fid) #[] cap.toArray]) Tryz.func27 rfl rfl (by simp) fun a HF => ?_
 refine gR fun K1 hK1 => ?_
 refine V HF (op_assign rfl (ev_c _ _)) ?_
 intro _ H3; clear HF
 refine gE hK1 ?_
 refine gw_seq fun K4 hK4 => ?_
 refine gR fun K5 hK5 => ?_
 refine V H3 (op_move rfl (H3.ev rfl)) ?_
 intro _ H7; clear H3
 refine V H7 (op_nil rfl (H7.ev rfl)) ?_
 intro _ H9; clear H7
 refine V H9 (op_field (gwfld64_3 _ _) rfl (H9.ev rfl)) ?_
 intro _ H11; clear H9
 refine V H11 (op_load1 gwagg3 rfl (H11.ev rfl) (blk_at (HO.get 1 rfl) rfl)) ?_
 intro _ H13; clear H11
 refine V H13 (op_gtr rfl (H13.ev rfl) (ev_c _ _)) ?_
 intro _ H15; clear H13
 refine gE hK5 ?_
 refine gw_cond H15 rfl (fun hb16 => ?_) (fun hb16 => ?_)
 ·
  have H17 := H15.subst_ (d := 9) (b := true) rfl hb16
  clear H15
  (try simp only [decide_eq_true_eq] at hb16)
  refine gR fun K18 hK18 => ?_
  refine V H17 (op_move rfl (H17.ev rfl)) ?_
  intro _ H20; clear H17
  refine V H20 (op_nil rfl (H20.ev rfl)) ?_
  intro _ H22; clear H20
  refine V H22 (op_field (gwfld64_3 _ _) rfl (H22.ev rfl)) ?_
  intro _ H24; clear H22
  refine V H24 (op_load1 gwagg3 rfl (H24.ev rfl) (blk_at (HO.get 1 rfl) rfl)) ?_
  intro _ H26; clear H24
  refine V H26 (op_sub rfl (H26.ev rfl) (ev_c _ _) (by omega)) ?_
  intro _ H28; clear H26
  refine V H28 (op_nil rfl (H28.ev rfl)) ?_
  intro _ H30; clear H28
  refine V H30 (op_field (gwfld64_3 _ _) rfl (H30.ev rfl)) ?_
  intro _ H32; clear H30
  refine gw_set 1 H32 HO rfl (want_none rfl) rfl (op_store1 gwsiz3 rfl (H32.ev rfl) (H32.ev rfl) rfl (blk_at (HO.get 1 rfl) rfl) (blkf (HO.get 1 rfl))) ?_
  intro _ w35 H34 O36; clear H32 HO
  refine gE hK18 ?_
  refine gR fun K37 hK37 => ?_
  refine V H34 (op_move rfl (H34.ev rfl)) ?_
  intro _ H39; clear H34
  refine V H39 (op_nil rfl (H39.ev rfl)) ?_
  intro _ H41; clear H39
  refine V H41 (op_field (gwfld64_3 _ _) rfl (H41.ev rfl)) ?_
  intro _ H43; clear H41
  refine V H43 (op_load1 gwagg3 rfl (H43.ev rfl) (blk_at (O36.get 1 rfl) rfl)) ?_
  intro _ H45; clear H43
  refine V H45 (op_eqi rfl (H45.ev rfl) (ev_c _ _)) ?_
  intro _ H47; clear H45
  refine gE hK37 ?_
  refine gw_cond H47 rfl (fun hb48 => ?_) (fun hb48 => ?_)
  ·
   have H49 := H47.subst_ (d := 21) (b := true) rfl hb48
   clear H47
   (try simp only [decide_eq_true_eq] at hb48)
   refine gR fun K50 hK50 => ?_
   refine V H49 (op_move rfl (H49.ev rfl)) ?_
   intro _ H52; clear H49
   refine V H52 (op_nil rfl (H52.ev rfl)) ?_
   intro _ H54; clear H52
   refine V H54 (op_field (gwfld64_4 _ _) rfl (H54.ev rfl)) ?_
   intro _ H56; clear H54
   refine gw_set 1 H56 O36 rfl (want_none rfl) rfl (op_store1 gwsiz4 rfl (H56.ev rfl) (ev_c _ _) rfl (blk_at (O36.get 1 rfl) rfl) (blkf (O36.get 1 rfl))) ?_
   intro _ w59 H58 O60; clear H56 O36
   refine gE hK50 ?_
   refine gR fun K61 hK61 => ?_
   refine V H58 (op_assign rfl (ev_c _ _)) ?_
   intro _ H63; clear H58
   refine gE hK61 ?_
   refine wp_ret ?_
   refine gw_thr ?_
   refine gw_ret1 H63 rfl rfl ?_
   have e_ : d.fuse - 1 = 0 := by omega
   exact .inl ⟨by omega, rfl, by rw [e_] at O60; exact O60.sel [0, 1] (by decide)⟩
  ·
   have H64 := H47.subst_ (d := 21) (b := false) rfl hb48
   clear H47
   (try simp only [decide_eq_false_iff_not] at hb48)
   refine wp_skip ?_
   refine gw_nx (hK4 _ _ ?_)
   refine gR fun K65 hK65 => ?_
   refine V H64 (op_move rfl (H64.ev rfl)) ?_
   intro _ H67; clear H64
   refine gw_call H67 (want_none rfl) rfl (by decide) (op_callV h1 h2 h3 rfl (H67.ev rfl) ar_nil) (hdo (by omega) _ (by rw [show decF d.fuse = d.fuse - 1 by (unfold decF; split <;> omega)]; exact O36.sel [0, 1] (by decide))) ?_
   rintro _ w69 ⟨rfl, hq⟩
   refine ⟨_, rfl, fun _ H72 => ?_⟩
   clear H67 O36
   refine gE hK65 ?_
   refine gR fun K74 hK74 => ?_
   refine V H72 (op_assign rfl (ev_c _ _)) ?_
   intro _ H76; clear H72
   refine gE hK74 ?_
   refine wp_ret ?_
   refine gw_ret1 H76 rfl rfl ?_
   exact .inr ⟨by omega, rfl, hq⟩
 ·
  have H77 := H15.subst_ (d := 9) (b := false) rfl hb16
  clear H15
  (try simp only [decide_eq_false_iff_not, Int.not_lt] at hb16)
  refine wp_skip ?_
  refine gw_nx (hK4 _ _ ?_)
  refine gR fun K78 hK78 => ?_
  refine V H77 (op_move rfl (H77.ev rfl)) ?_
  intro _ H80; clear H77
  refine gw_call H80 (want_none rfl) rfl (by decide) (op_callV h1 h2 h3 rfl (H80.ev rfl) ar_nil) (hdo (by omega) _ (by rw [show decF d.fuse = d.fuse by (unfold decF; split <;> omega)]; exact HO.sel [0, 1] (by decide))) ?_
  rintro _ w82 ⟨rfl, hq⟩
  refine ⟨_, rfl, fun _ H85 => ?_⟩
  clear H80 HO
  refine gE hK78 ?_
  refine gR fun K87 hK87 => ?_
  refine V H85 (op_assign rfl (ev_c _ _)) ?_
  intro _ H89; clear H85
  refine gE hK87 ?_
  refine wp_ret ?_
  refine gw_ret1 H89 rfl rfl ?_
  exact .inr ⟨by omega, rfl, hq⟩
set_option maxHeartbeats 4000000 in
set_option maxRecDepth 100000 in
theorem find_down (gd gm : Nat) (d : PD) (nm : ByteArray) (M : List (Lit × Value)) (w : World) (hD : w.heap[gd]? = some (.cells (dcells gm d) 64 (0, 0))) (hL : (Chunk.lmap Tryz.prog 9 gm M).P w) (hdn : d.down = true) (hn : nm.size ≤ 9223372036854775807) :
    Calls Tryz.prog 29 #[.pointer (some ⟨gd, 0, none⟩), .string nm] w fun e w' => e = .returned (.tuple #[.pointer none, .int .i64 70]) ∧ Below w.heap.size w w' := by
 refine gw_start (N := 20) (vs := [.pointer (some ⟨gd, 0, none⟩), .string nm]) Tryz.func29 rfl rfl (by simp) fun a HF HO => ?_
 replace HO : Own w w [] := HO
 refine gR fun K1 hK1 => ?_
 refine V HF (op_assign rfl (ev_c _ _)) ?_
 intro _ H3; clear HF
 refine V H3 (op_assign rfl (ev_c _ _)) ?_
 intro _ H5; clear H3
 refine gE hK1 ?_
 refine gw_seq fun K6 hK6 => ?_
 refine gR fun K7 hK7 => ?_
 refine V H5 (op_move rfl (H5.ev rfl)) ?_
 intro _ H9; clear H5
 refine V H9 (op_nil rfl (H9.ev rfl)) ?_
 intro _ H11; clear H9
 refine V H11 (op_field (gwfld64_4 _ _) rfl (H11.ev rfl)) ?_
 intro _ H13; clear H11
 refine V H13 (op_load1 gwagg4 rfl (H13.ev rfl) (blk_at (argblk HO hD) rfl)) ?_
 intro _ H15; clear H13
 have H16 := H15.lit (b := true) (hdn)
 clear H15
 refine gE hK7 ?_
 refine gw_cond H16 rfl (fun hb17 => ?_) (fun hb17 => ?_)
 rotate_left
 ·
  cases hb17
 refine gR fun K18 hK18 => ?_
 refine V H16 (op_assign rfl (ev_c _ _)) ?_
 intro _ H20; clear H16
 refine V H20 (op_assign rfl (ev_c _ _)) ?_
 intro _ H22; clear H20
 refine gE hK18 ?_
 refine wp_ret ?_
 refine gw_thr ?_
 refine gw_ret2 H22 rfl rfl rfl ?_
 exact ⟨rfl, HO.below⟩
set_option maxHeartbeats 4000000 in
set_option maxRecDepth 100000 in
theorem find_none (gd gm : Nat) (d : PD) (nm : ByteArray) (M : List (Lit × Value)) (w : World) (hD : w.heap[gd]? = some (.cells (dcells gm d) 64 (0, 0))) (hL : (Chunk.lmap Tryz.prog 9 gm M).P w) (hdn : d.down = false) (hl : lfind (litS nm) M = none) (hn : nm.size ≤ 9223372036854775807) :
    Calls Tryz.prog 29 #[.pointer (some ⟨gd, 0, none⟩), .string nm] w fun e w' => e = .returned (.tuple #[.pointer none, .int .i64 4]) ∧ Below w.heap.size w w' := by
 refine gw_start (N := 20) (vs := [.pointer (some ⟨gd, 0, none⟩), .string nm]) Tryz.func29 rfl rfl (by simp) fun a HF HO => ?_
 replace HO : Own w w [] := HO
 refine gR fun K1 hK1 => ?_
 refine V HF (op_assign rfl (ev_c _ _)) ?_
 intro _ H3; clear HF
 refine V H3 (op_assign rfl (ev_c _ _)) ?_
 intro _ H5; clear H3
 refine gE hK1 ?_
 refine gw_seq fun K6 hK6 => ?_
 refine gR fun K7 hK7 => ?_
 refine V H5 (op_move rfl (H5.ev rfl)) ?_
 intro _ H9; clear H5
 refine V H9 (op_nil rfl (H9.ev rfl)) ?_
 intro _ H11; clear H9
 refine V H11 (op_field (gwfld64_4 _ _) rfl (H11.ev rfl)) ?_
 intro _ H13; clear H11
 refine V H13 (op_load1 gwagg4 rfl (H13.ev rfl) (blk_at (argblk HO hD) rfl)) ?_
 intro _ H15; clear H13
 have H16 := H15.lit (b := false) (hdn)
 clear H15
 refine gE hK7 ?_
 refine gw_cond H16 rfl (fun hb17 => ?_) (fun hb17 => ?_)
 skip
 ·
  cases hb17
 refine wp_skip ?_
 refine gw_nx (hK6 _ _ ?_)
 refine gR fun K18 hK18 => ?_
 refine V H16 (op_move rfl (H16.ev rfl)) ?_
 intro _ H20; clear H16
 refine V H20 (op_nil rfl (H20.ev rfl)) ?_
 intro _ H22; clear H20
 refine V H22 (op_field (gwfld64_0 _ _) rfl (H22.ev rfl)) ?_
 intro _ H24; clear H22
 refine V H24 (op_load1 gwagg62 rfl (H24.ev rfl) (blk_at (argblk HO hD) rfl)) ?_
 intro _ H26; clear H24
 refine V H26 (op_move rfl (H26.ev rfl)) ?_
 intro _ H28; clear H26
 refine V H28 (op_ml_none strKey Tryz.underlying62 gwzer71 rfl (H28.ev rfl) (H28.ev rfl) (keyS (by omega)) (lmap_arg HO hL) (hl)) ?_
 intro _ H30; clear H28
 refine V H30 (op_assign rfl (H30.ev rfl)) ?_
 intro _ H32; clear H30
 refine gE hK18 ?_
 refine gw_seq fun K33 hK33 => ?_
 refine gR fun K34 hK34 => ?_
 refine V H32 (op_move rfl (H32.ev rfl)) ?_
 intro _ H36; clear H32
 refine V H36 (op_eqp_nils Tryz.underlying71 rfl (H36.ev rfl)) ?_
 intro _ H38; clear H36
 refine gE hK34 ?_
 refine gw_cond H38 rfl (fun hb39 => ?_) (fun hb39 => ?_)
 rotate_left
 ·
  cases hb39
 refine gR fun K40 hK40 => ?_
 refine V H38 (op_assign rfl (ev_c _ _)) ?_
 intro _ H42; clear H38
 refine V H42 (op_assign rfl (ev_c _ _)) ?_
 intro _ H44; clear H42
 refine gE hK40 ?_
 refine wp_ret ?_
 refine gw_thr ?_
 refine gw_ret2 H44 rfl rfl rfl ?_
 exact ⟨rfl, HO.below⟩
set_option maxHeartbeats 4000000 in
set_option maxRecDepth 100000 in
theorem find_some (gd gm : Nat) (d : PD) (nm : ByteArray) (M : List (Lit × Value)) (g : Nat) (w : World) (hD : w.heap[gd]? = some (.cells (dcells gm d) 64 (0, 0))) (hL : (Chunk.lmap Tryz.prog 9 gm M).P w) (hdn : d.down = false) (hl : lfind (litS nm) M = some (.pointer (some ⟨g, 0, none⟩))) (hn : nm.size ≤ 9223372036854775807) :
    Calls Tryz.prog 29 #[.pointer (some ⟨gd, 0, none⟩), .string nm] w fun e w' => e = .returned (.tuple #[.pointer (some ⟨g, 0, none⟩), .int .i64 0]) ∧ Below w.heap.size w w' := by
 refine gw_start (N := 20) (vs := [.pointer (some ⟨gd, 0, none⟩), .string nm]) Tryz.func29 rfl rfl (by simp) fun a HF HO => ?_
 replace HO : Own w w [] := HO
 refine gR fun K1 hK1 => ?_
 refine V HF (op_assign rfl (ev_c _ _)) ?_
 intro _ H3; clear HF
 refine V H3 (op_assign rfl (ev_c _ _)) ?_
 intro _ H5; clear H3
 refine gE hK1 ?_
 refine gw_seq fun K6 hK6 => ?_
 refine gR fun K7 hK7 => ?_
 refine V H5 (op_move rfl (H5.ev rfl)) ?_
 intro _ H9; clear H5
 refine V H9 (op_nil rfl (H9.ev rfl)) ?_
 intro _ H11; clear H9
 refine V H11 (op_field (gwfld64_4 _ _) rfl (H11.ev rfl)) ?_
 intro _ H13; clear H11
 refine V H13 (op_load1 gwagg4 rfl (H13.ev rfl) (blk_at (argblk HO hD) rfl)) ?_
 intro _ H15; clear H13
 have H16 := H15.lit (b := false) (hdn)
 clear H15
 refine gE hK7 ?_
 refine gw_cond H16 rfl (fun hb17 => ?_) (fun hb17 => ?_)
 skip
 ·
  cases hb17
 refine wp_skip ?_
 refine gw_nx (hK6 _ _ ?_)
 refine gR fun K18 hK18 => ?_
 refine V H16 (op_move rfl (H16.ev rfl)) ?_
 intro _ H20; clear H16
 refine V H20 (op_nil rfl (H20.ev rfl)) ?_
 intro _ H22; clear H20
 refine V H22 (op_field (gwfld64_0 _ _) rfl (H22.ev rfl)) ?_
 intro _ H24; clear H22
 refine V H24 (op_load1 gwagg62 rfl (H24.ev rfl) (blk_at (argblk HO hD) rfl)) ?_
 intro _ H26; clear H24
 refine V H26 (op_move rfl (H26.ev rfl)) ?_
 intro _ H28; clear H26
 refine V H28 (op_ml_some strKey Tryz.underlying62 gwzer71 rfl (H28.ev rfl) (H28.ev rfl) (keyS (by omega)) (lmap_arg HO hL) (hl)) ?_
 intro _ H30; clear H28
 refine V H30 (op_assign rfl (H30.ev rfl)) ?_
 intro _ H32; clear H30
 refine gE hK18 ?_
 refine gw_seq fun K33 hK33 => ?_
 refine gR fun K34 hK34 => ?_
 refine V H32 (op_move rfl (H32.ev rfl)) ?_
 intro _ H36; clear H32
 refine V H36 (op_eqp_nil Tryz.underlying71 rfl (H36.ev rfl)) ?_
 intro _ H38; clear H36
 refine gE hK34 ?_
 refine gw_cond H38 rfl (fun hb39 => ?_) (fun hb39 => ?_)
 skip
 ·
  cases hb39
 refine wp_skip ?_
 refine gw_nx (hK33 _ _ ?_)
 refine gR fun K40 hK40 => ?_
 refine V H38 (op_move rfl (H38.ev rfl)) ?_
 intro _ H42; clear H38
 refine V H42 (op_assign rfl (H42.ev rfl)) ?_
 intro _ H44; clear H42
 refine V H44 (op_assign rfl (ev_c _ _)) ?_
 intro _ H46; clear H44
 refine gE hK40 ?_
 refine wp_ret ?_
 refine gw_ret2 H46 rfl rfl rfl ?_
 exact ⟨rfl, HO.below⟩
end GVfs0_
export GVfs0_ (named_calls new_own step_calls find_down find_none find_some)
end Go.Proofs.YtkdahjnmldeklaaGreat.PA
end
section
namespace Go.Proofs.YtkdahjnmldeklaaGreat.PA
open Go.RowKit Go.Proofs.YtkdahjnmldeklaaGreatW.PrintWords Go.Proofs.YtkdahjnmldeklaaGreatW.PrintLast Go.Proofs.YtkdahjnmldeklaaGreatW.PrintMore
set_option linter.unusedVariables false
set_option linter.unusedSimpArgs false
namespace GVfs1_
theorem gwagg23 : ∀ w, (isAgg 23).run Tryz.prog w = .ok false w := fun _ => by kernel_rfl
theorem gwagg4 : ∀ w, (isAgg 4).run Tryz.prog w = .ok false w := fun _ => by kernel_rfl
theorem gwagg62 : ∀ w, (isAgg 62).run Tryz.prog w = .ok false w := fun _ => by kernel_rfl
theorem gwagg9 : ∀ w, (isAgg 9).run Tryz.prog w = .ok false w := fun _ => by kernel_rfl
theorem gwfld64_0 (g off : Nat) : ∀ w, (Instr.fieldAt 64 (.pointer (some ⟨g, off, none⟩)) 0).run Tryz.prog w = .ok (.pointer (some ⟨g, off + 0, none⟩)) w := fun _ => by kernel_rfl
theorem gwfld64_4 (g off : Nat) : ∀ w, (Instr.fieldAt 64 (.pointer (some ⟨g, off, none⟩)) 4).run Tryz.prog w = .ok (.pointer (some ⟨g, off + 4, none⟩)) w := fun _ => by kernel_rfl
theorem gwzer71 : ∀ w, (zeroValue 71).run Tryz.prog w = .ok (.pointer none) w := fun _ => by kernel_rfl
set_option maxHeartbeats 4000000 in
set_option maxRecDepth 100000 in
theorem create1 (w0 w : World) (R : Chunk) (gd gm : Nat) (d : PD) (xs : List XF) (nm : ByteArray) (bd bn : Nat) (hn : nm.size ≤ 9223372036854775807) (hl : xs.length < 9223372036854775807) (HO : Own w0 w [R, Bk gd [.map (some gm), .int .i64 d.most, .int .i64 d.used, .int .i64 d.fuse, .bool d.down] 64, Chunk.lmap Tryz.prog 9 gm (xs.map XF.ent), Bk bd [.pointer (some ⟨gd, 0, none⟩)] 23, Bk bn [.string nm] 9]) :
    Calls Tryz.prog 28 #[.pointer (some ⟨bd, 0, none⟩), .pointer (some ⟨bn, 0, none⟩)] w fun e w' => e = .returned (.tuple #[]) ∧ ∃ g : Nat, Own w0 w' [R, Chunk.blk g (.cells #[.slice none 0 0, .int .i64 0] 74 (0, 0)), Chunk.blk gd (.cells (dcells gm d) 64 (0, 0)), Chunk.lmap Tryz.prog 9 gm (lput (litS nm) (.pointer (some ⟨g, 0, none⟩)) (xs.map XF.ent))] := by
 refine gw_startO (N := 9) (vs := [.pointer (some ⟨bd, 0, none⟩), .pointer (some ⟨bn, 0, none⟩)]) Tryz.func28 rfl rfl (by simp) fun a HF => ?_
 refine gx_draw (M := [R, Bk gd [.map (some gm), J d.most, J d.used, J d.fuse, .bool d.down] 64, Chunk.lmap Tryz.prog 9 gm (xs.map XF.ent), Bk bd [.pointer (some ⟨gd, 0, none⟩)] 23, Bk bn [.string nm] 9]) (fun j_ => j_ == 7) HO (by kernel_rfl) fun w1 O2 => ?_
 clear HO
 refine gx_take 0 rfl (by kernel_rfl) HF (by exact O2.sel [0, 1, 2, 3, 4] (by decide)) (want_none rfl) rfl (by decide) (fun wq HO => (op_load1 gwagg23 rfl (HF.ev rfl) (blk_at (HO.get 3 rfl) rfl))) ?_
 intro _ H4; clear HF
 refine gx_take 1 rfl (by kernel_rfl) H4 (by exact O2.sel [0, 1, 2, 3, 4] (by decide)) (want_none rfl) rfl (by decide) (fun wq HO => (op_nil rfl (H4.ev rfl))) ?_
 intro _ H6; clear H4
 refine gx_take 2 rfl (by kernel_rfl) H6 (by exact O2.sel [0, 1, 2, 3, 4] (by decide)) (want_none rfl) rfl (by decide) (fun wq HO => (op_field (gwfld64_0 _ _) rfl (H6.ev rfl))) ?_
 intro _ H8; clear H6
 refine gx_take 3 rfl (by kernel_rfl) H8 (by exact O2.sel [0, 1, 2, 3, 4] (by decide)) (want_none rfl) rfl (by decide) (fun wq HO => (op_load1 gwagg62 rfl (H8.ev rfl) (blk_at (HO.get 1 rfl) rfl))) ?_
 intro _ H10; clear H8
 refine gx_take 4 rfl (by kernel_rfl) H10 (by exact O2.sel [0, 1, 2, 3, 4] (by decide)) (want_none rfl) rfl (by decide) (fun wq HO => (op_load1 gwagg9 rfl (H10.ev rfl) (blk_at (HO.get 4 rfl) rfl))) ?_
 intro _ H12; clear H10
 refine gx_take 5 rfl (by kernel_rfl) H12 (by exact O2.sel [0, 1, 2, 3, 4] (by decide)) (want_none rfl) rfl (by decide) (fun wq HO => (op_build (cells := #[.slice none 0 0, J 0]) rfl pt_nil (by kernel_rfl))) ?_
 intro _ H14; clear H12
 refine gx_step 6 rfl (by kernel_rfl) ?_
 refine gw_new H14 O2 (want_none rfl) rfl (by decide) (op_box rfl (H14.ev rfl)) ?_
 intro g15 _ w17 H18 O19; clear H14 O2
 have O20 : Own w0 w17 [Bk g15 [.slice none 0 0, J 0] 74, R, Bk gd [.map (some gm), J d.most, J d.used, J d.fuse, .bool d.down] 64, Chunk.lmap Tryz.prog 9 gm (xs.map XF.ent), Bk bd [.pointer (some ⟨gd, 0, none⟩)] 23, Bk bn [.string nm] 9] := O19
 clear O19
 refine gx_on (i := 6) (B := (fun j_ => j_ == 7)) (fun _ => (by exact O20.sel [1, 2, 3, 4, 5] (by decide))) ?_
 refine gx_step 7 rfl (by kernel_rfl) ?_
 refine gw_mput 3 strKey Tryz.underlying62 H18 O20 rfl (want_none rfl) rfl rfl (H18.ev rfl) (H18.ev rfl) (H18.ev rfl) (keyS (hn)) (by simpa using hl) ?_
 intro _ w22 H23 O24; clear H18 O20
 have O25 : Own w0 w22 [Bk g15 [.slice none 0 0, J 0] 74, R, Bk gd [.map (some gm), J d.most, J d.used, J d.fuse, .bool d.down] 64, Chunk.lmap Tryz.prog 9 gm (lput (litS nm) (.pointer (some ⟨g15, 0, none⟩)) (xs.map XF.ent)), Bk bd [.pointer (some ⟨gd, 0, none⟩)] 23, Bk bn [.string nm] 9] := O24
 clear O24
 refine gx_on (i := 7) (B := (fun j_ => j_ == 7)) (fun h_ => by cases h_) ?_
 refine gx_done (by kernel_rfl) ?_
 refine gw_end0 H23 rfl ?_
 exact ⟨rfl, _, O25.sel [1, 0, 2, 3] (by decide)⟩
set_option maxHeartbeats 4000000 in
set_option maxRecDepth 100000 in
theorem create_calls (w0 w : World) (R : Chunk) (gd : Nat) (S : Nat → Prop) (d : PD) (nm : ByteArray) (hw : wfD d) (hn : nm.size ≤ 9223372036854775807) (hlen : d.fs.length ≤ 1000000) (HO : Own w0 w [R, Chunk.disk w0.heap.size gd S d]) :
    Calls Tryz.prog 7 #[.pointer (some ⟨gd, 0, none⟩), .string nm] w fun e w' => e = .returned (.int .i64 (createD nm d).2) ∧ ∃ S', Own w0 w' [R, Chunk.disk w0.heap.size gd S' (createD nm d).1] := by
 have hu0 := hw.used
 have hm0 := hw.most
 have hfu := hw.fuse
 obtain ⟨gm, xs, hxs, hon, HO⟩ := disk_open2 HO
 have hxl : xs.length ≤ 1000000 := by rw [← hxs, List.length_map] at hlen; exact hlen
 refine gw_startO (N := 25) (vs := [.pointer (some ⟨gd, 0, none⟩), .string nm]) Tryz.func7 rfl rfl (by simp) fun a HF => ?_
 rcases look3 nm d hxs hon with hdn | ⟨hdn, hl, hgd, hno⟩ | ⟨hdn, pre, x, post, rfl, hnm, hl, hgd, hoth⟩
 ·
  refine gR fun K1 hK1 => ?_
  refine gw_new HF HO (want_none rfl) rfl (by decide) (op_box rfl (HF.ev rfl)) ?_
  intro g2 _ w4 H5 O6; clear HF HO
  have O7 : Own w0 w4 [Bk g2 [.pointer (some ⟨gd, 0, none⟩)] 23, R, Bk gd [.map (some gm), J d.most, J d.used, J d.fuse, .bool d.down] 64, Chunk.lmap Tryz.prog 9 gm (xs.map XF.ent), Chunk.files w0.heap.size xs] := O6
  clear O6
  refine gw_new H5 O7 (want_none rfl) rfl (by decide) (op_box rfl (H5.ev rfl)) ?_
  intro g8 _ w10 H11 O12; clear H5 O7
  have O13 : Own w0 w10 [Bk g8 [.string nm] 9, Bk g2 [.pointer (some ⟨gd, 0, none⟩)] 23, R, Bk gd [.map (some gm), J d.most, J d.used, J d.fuse, .bool d.down] 64, Chunk.lmap Tryz.prog 9 gm (xs.map XF.ent), Chunk.files w0.heap.size xs] := O12
  clear O12
  refine V H11 (op_assign rfl (ev_c _ _)) ?_
  intro _ H15; clear H11
  refine gE hK1 ?_
  refine gw_seq fun K16 hK16 => ?_
  refine wp_block ?_
  refine gR fun K17 hK17 => ?_
  refine V H15 (op_load1 gwagg23 rfl (H15.ev rfl) (blk_at (O13.get 1 rfl) rfl)) ?_
  intro _ H19; clear H15
  refine V H19 (op_nil rfl (H19.ev rfl)) ?_
  intro _ H21; clear H19
  refine V H21 (op_field (gwfld64_4 _ _) rfl (H21.ev rfl)) ?_
  intro _ H23; clear H21
  refine V H23 (op_load1 gwagg4 rfl (H23.ev rfl) (blk_at (O13.get 3 rfl) rfl)) ?_
  intro _ H25; clear H23
  have H26 := H25.lit (b := true) (hdn)
  clear H25
  refine V H26 (op_assign rfl (H26.ev rfl)) ?_
  intro _ H28; clear H26
  refine gE hK17 ?_
  refine gw_cond H28 rfl (fun hb29 => ?_) (fun hb29 => ?_)
  rotate_left
  ·
   cases hb29
  refine gR fun K30 hK30 => ?_
  refine V H28 (op_assign rfl (ev_c _ _)) ?_
  intro _ H32; clear H28
  refine gE hK30 ?_
  refine wp_ret ?_
  refine gw_blr ?_
  refine gw_thr ?_
  refine gw_ret1 H32 rfl rfl ?_
  exact disk_fin (gd := gd) (gm := gm) (d' := d) (xs := xs) (create_down hdn) hxs (by exact O13.sel [2, 3, 4, 5] (by decide))
 ·
  refine gR fun K33 hK33 => ?_
  refine gw_new HF HO (want_none rfl) rfl (by decide) (op_box rfl (HF.ev rfl)) ?_
  intro g34 _ w36 H37 O38; clear HF HO
  have O39 : Own w0 w36 [Bk g34 [.pointer (some ⟨gd, 0, none⟩)] 23, R, Bk gd [.map (some gm), J d.most, J d.used, J d.fuse, .bool d.down] 64, Chunk.lmap Tryz.prog 9 gm (xs.map XF.ent), Chunk.files w0.heap.size xs] := O38
  clear O38
  refine gw_new H37 O39 (want_none rfl) rfl (by decide) (op_box rfl (H37.ev rfl)) ?_
  intro g40 _ w42 H43 O44; clear H37 O39
  have O45 : Own w0 w42 [Bk g40 [.string nm] 9, Bk g34 [.pointer (some ⟨gd, 0, none⟩)] 23, R, Bk gd [.map (some gm), J d.most, J d.used, J d.fuse, .bool d.down] 64, Chunk.lmap Tryz.prog 9 gm (xs.map XF.ent), Chunk.files w0.heap.size xs] := O44
  clear O44
  refine V H43 (op_assign rfl (ev_c _ _)) ?_
  intro _ H47; clear H43
  refine gE hK33 ?_
  refine gw_seq fun K48 hK48 => ?_
  refine wp_block ?_
  refine gR fun K49 hK49 => ?_
  refine V H47 (op_load1 gwagg23 rfl (H47.ev rfl) (blk_at (O45.get 1 rfl) rfl)) ?_
  intro _ H51; clear H47
  refine V H51 (op_nil rfl (H51.ev rfl)) ?_
  intro _ H53; clear H51
  refine V H53 (op_field (gwfld64_4 _ _) rfl (H53.ev rfl)) ?_
  intro _ H55; clear H53
  refine V H55 (op_load1 gwagg4 rfl (H55.ev rfl) (blk_at (O45.get 3 rfl) rfl)) ?_
  intro _ H57; clear H55
  have H58 := H57.lit (b := false) (hdn)
  clear H57
  refine V H58 (op_assign rfl (H58.ev rfl)) ?_
  intro _ H60; clear H58
  refine gE hK49 ?_
  refine gw_cond H60 rfl (fun hb61 => ?_) (fun hb61 => ?_)
  skip
  ·
   cases hb61
  refine gR fun K62 hK62 => ?_
  refine V H60 (op_load1 gwagg9 rfl (H60.ev rfl) (blk_at (O45.get 0 rfl) rfl)) ?_
  intro _ H64; clear H60
  refine gw_call H64 (want_none rfl) rfl (by decide) (op_callL Tryz.func26 (by kernel_rfl) rfl rfl (ar_cons (H64.ev rfl) ar_nil)) (named_calls nm _) ?_
  rintro e65 w66 ⟨rfl, hb67⟩
  refine ⟨_, rfl, fun _ H69 => ?_⟩
  have O70 := O45.after hb67
  clear H64 O45 hb67
  refine V H69 (op_not rfl (H69.ev rfl)) ?_
  intro _ H73; clear H69
  refine V H73 (op_assign rfl (H73.ev rfl)) ?_
  intro _ H75; clear H73
  refine gE hK62 ?_
  refine gw_cond H75 rfl (fun hb76 => ?_) (fun hb76 => ?_)
  ·
   have H77 := H75.subst_ (d := 10) (b := true) rfl hb76
   clear H75
   (try simp only [Bool.and_eq_true, Bool.and_eq_false_iff, Bool.not_and, Bool.or_eq_true, Bool.or_eq_false_iff, Bool.not_or, Bool.not_not, Bool.not_eq_true', Bool.not_eq_false', Bool.not_eq_true, Bool.not_eq_false] at hb76)
   have hnb : namedB nm = false := by simpa using hb76
   refine gR fun K78 hK78 => ?_
   refine V H77 (op_assign rfl (ev_c _ _)) ?_
   intro _ H80; clear H77
   refine gE hK78 ?_
   refine wp_ret ?_
   refine gw_blr ?_
   refine gw_thr ?_
   refine gw_ret1 H80 rfl rfl ?_
   exact disk_fin (gd := gd) (gm := gm) (d' := d) (xs := xs) (create_bad hdn hnb) hxs (by exact O70.sel [2, 3, 4, 5] (by decide))
  ·
   have H81 := H75.subst_ (d := 10) (b := false) rfl hb76
   clear H75
   (try simp only [Bool.and_eq_true, Bool.and_eq_false_iff, Bool.not_and, Bool.or_eq_true, Bool.or_eq_false_iff, Bool.not_or, Bool.not_not, Bool.not_eq_true', Bool.not_eq_false', Bool.not_eq_true, Bool.not_eq_false] at hb76)
   have hnb : namedB nm = true := by simpa using hb76
   refine gw_seq fun K82 hK82 => ?_
   refine gw_drawB O70 (by kernel_rfl) (by kernel_rfl) fun w83 O84 => ?_
   clear O70
   refine gq_ev H81 (want_none rfl) rfl (by decide) (fun wq hq => have HO := O84.after hq; (op_load1 gwagg23 rfl (H81.ev rfl) (blk_at (HO.get 1 rfl) rfl))) ?_
   intro _ H86; clear H81
   refine gq_ev H86 (want_none rfl) rfl (by decide) (fun wq hq => have HO := O84.after hq; (op_nil rfl (H86.ev rfl))) ?_
   intro _ H88; clear H86
   refine gq_ev H88 (want_none rfl) rfl (by decide) (fun wq hq => have HO := O84.after hq; (op_field (gwfld64_0 _ _) rfl (H88.ev rfl))) ?_
   intro _ H90; clear H88
   refine gq_ev H90 (want_none rfl) rfl (by decide) (fun wq hq => have HO := O84.after hq; (op_load1 gwagg62 rfl (H90.ev rfl) (blk_at (HO.get 3 rfl) rfl))) ?_
   intro _ H92; clear H90
   refine gq_ev H92 (want_none rfl) rfl (by decide) (fun wq hq => have HO := O84.after hq; (op_load1 gwagg9 rfl (H92.ev rfl) (blk_at (HO.get 0 rfl) rfl))) ?_
   intro _ H94; clear H92
   refine gq_ev H94 (want_none rfl) rfl (by decide) (fun wq hq => have HO := O84.after hq; (op_ml_none strKey Tryz.underlying62 gwzer71 rfl (H94.ev rfl) (H94.ev rfl) (keyS (hn)) (HO.get 4 rfl) (hl))) ?_
   intro _ H96; clear H94
   refine gq_ev H96 (want_none rfl) rfl (by decide) (fun wq hq => have HO := O84.after hq; (op_nep_nils Tryz.underlying71 rfl (H96.ev rfl))) ?_
   intro _ H98; clear H96
   refine gq_ev H98 (want_none rfl) rfl (by decide) (fun wq hq => have HO := O84.after hq; (op_assign rfl (H98.ev rfl))) ?_
   intro _ H100; clear H98
   refine wpQuiet_nil ?_
   intro w101 hq
   have O102 := O84.after hq
   clear O84 hq
   refine gw_nx (hK82 _ _ ?_)
   refine gw_cond H100 rfl (fun hb103 => ?_) (fun hb103 => ?_)
   skip
   ·
    cases hb103
   refine wp_skip ?_
   refine gw_blk ?_
   refine gw_nx (hK48 _ _ ?_)
   refine gR fun K104 hK104 => ?_
   refine V H100 (op_load1 gwagg23 rfl (H100.ev rfl) (blk_at (O102.get 1 rfl) rfl)) ?_
   intro _ H106; clear H100
   refine V H106 (op_func rfl (ar_cons (H106.ev rfl) (ar_cons (H106.ev rfl) ar_nil))) ?_
   intro _ H108; clear H106
   have O115 : Own w0 _ [(Chunk.all [Bk g40 [.string nm] 9, Bk g34 [.pointer (some ⟨gd, 0, none⟩)] 23, R, Chunk.lmap Tryz.prog 9 gm (xs.map XF.ent), Chunk.files w0.heap.size xs]), Bk gd [.map (some gm), J d.most, J d.used, J d.fuse, .bool d.down] 64] := Own.bundle (O102.sel [0, 1, 2, 4, 5, 3] (by decide))
   refine gw_call H108 (want_none rfl) rfl (by decide) (op_callL Tryz.func27 (by kernel_rfl) rfl rfl (ar_cons (H108.ev rfl) (ar_cons (H108.ev rfl) ar_nil))) (step_calls w0 _ (Chunk.all [Bk g40 [.string nm] 9, Bk g34 [.pointer (some ⟨gd, 0, none⟩)] 23, R, Chunk.lmap Tryz.prog 9 gm (xs.map XF.ent), Chunk.files w0.heap.size xs]) gd gm d 28 _ [.pointer (some ⟨g34, 0, none⟩), .pointer (some ⟨g40, 0, none⟩)] (fun w_ => ∃ g, Own w0 w_ [(Chunk.all [R, Chunk.files w0.heap.size xs]), Bk g [.slice none 0 0, J 0] 74, Bk gd [.map (some gm), J (({ d with fuse := decF d.fuse } : PD).most), J (({ d with fuse := decF d.fuse } : PD).used), J (({ d with fuse := decF d.fuse } : PD).fuse), .bool (({ d with fuse := decF d.fuse } : PD).down)] 64, Chunk.lmap Tryz.prog 9 gm (lput (litS nm) (.pointer (some ⟨g, 0, none⟩)) (xs.map XF.ent))]) Tryz.func28 (by kernel_rfl) rfl hfu (fun hf1 w1 h_ => create1 w0 w1 (Chunk.all [R, Chunk.files w0.heap.size xs]) gd gm ({ d with fuse := decF d.fuse } : PD) xs nm g34 g40 hn (by omega) (Own.bundle (A := [R, Chunk.files w0.heap.size xs]) (L := [Bk gd [.map (some gm), J (({ d with fuse := decF d.fuse } : PD).most), J (({ d with fuse := decF d.fuse } : PD).used), J (({ d with fuse := decF d.fuse } : PD).fuse), .bool (({ d with fuse := decF d.fuse } : PD).down)] 64, Chunk.lmap Tryz.prog 9 gm (xs.map XF.ent), Bk g34 [.pointer (some ⟨gd, 0, none⟩)] 23, Bk g40 [.string nm] 9]) ((Own.unbundle (A := [Bk g40 [.string nm] 9, Bk g34 [.pointer (some ⟨gd, 0, none⟩)] 23, R, Chunk.lmap Tryz.prog 9 gm (xs.map XF.ent), Chunk.files w0.heap.size xs]) (L := [Bk gd [.map (some gm), J (({ d with fuse := decF d.fuse } : PD).most), J (({ d with fuse := decF d.fuse } : PD).used), J (({ d with fuse := decF d.fuse } : PD).fuse), .bool (({ d with fuse := decF d.fuse } : PD).down)] 64]) (by exact h_)).sel [2, 4, 5, 3, 1, 0] (by decide)))) (by exact O115)) ?_
   rintro e109 w110 (⟨hf1, rfl, hb111⟩ | ⟨hf1, rfl, ⟨g, hb111⟩⟩)
   ·
    refine ⟨_, rfl, fun _ H113 => ?_⟩
    have O114 : Own w0 w110 [Bk g40 [.string nm] 9, Bk g34 [.pointer (some ⟨gd, 0, none⟩)] 23, R, Chunk.lmap Tryz.prog 9 gm (xs.map XF.ent), Chunk.files w0.heap.size xs, Bk gd [.map (some gm), J d.most, J d.used, J 0, .bool true] 64] := Own.unbundle (A := [Bk g40 [.string nm] 9, Bk g34 [.pointer (some ⟨gd, 0, none⟩)] 23, R, Chunk.lmap Tryz.prog 9 gm (xs.map XF.ent), Chunk.files w0.heap.size xs]) (L := [Bk gd [.map (some gm), J d.most, J d.used, J 0, .bool true] 64]) (by exact hb111)
    clear O115 hb111
    clear H108 O102
    refine V H113 (op_assign rfl (H113.ev rfl)) ?_
    intro _ H117; clear H113
    refine gE hK104 ?_
    refine wp_ret ?_
    refine gw_ret1 H117 rfl rfl ?_
    exact disk_fin (gd := gd) (gm := gm) (d' := { d with fuse := 0, down := true }) (xs := xs) ((create_go hdn hnb hgd).trans (step_off hf1)) hxs (by exact O114.sel [2, 5, 3, 4] (by decide))
   ·
    refine ⟨_, rfl, fun _ H113 => ?_⟩
    have O114 : Own w0 w110 [R, Chunk.files w0.heap.size xs, Bk g [.slice none 0 0, J 0] 74, Bk gd [.map (some gm), J (({ d with fuse := decF d.fuse } : PD).most), J (({ d with fuse := decF d.fuse } : PD).used), J (({ d with fuse := decF d.fuse } : PD).fuse), .bool (({ d with fuse := decF d.fuse } : PD).down)] 64, Chunk.lmap Tryz.prog 9 gm (lput (litS nm) (.pointer (some ⟨g, 0, none⟩)) (xs.map XF.ent))] := Own.unbundle (A := [R, Chunk.files w0.heap.size xs]) (L := [Bk g [.slice none 0 0, J 0] 74, Bk gd [.map (some gm), J (({ d with fuse := decF d.fuse } : PD).most), J (({ d with fuse := decF d.fuse } : PD).used), J (({ d with fuse := decF d.fuse } : PD).fuse), .bool (({ d with fuse := decF d.fuse } : PD).down)] 64, Chunk.lmap Tryz.prog 9 gm (lput (litS nm) (.pointer (some ⟨g, 0, none⟩)) (xs.map XF.ent))]) hb111
    clear O115 hb111
    clear H108 O102
    refine V H113 (op_assign rfl (H113.ev rfl)) ?_
    intro _ H119; clear H113
    refine gE hK104 ?_
    refine wp_ret ?_
    refine gw_ret1 H119 rfl rfl ?_
    have O120 := Own.file_close (x := (⟨⟨nm, [], 0⟩, g, none, 0, fun _ => False⟩ : XF)) (pre := []) (post := xs) (by exact (O114.row_nil (Kd.int .u8) 5 w0.heap.size).sel [3, 0, 2, 1, 4, 5] (by decide))
    have O121 := Own.files_perm (ys := insX (⟨⟨nm, [], 0⟩, g, none, 0, fun _ => False⟩ : XF) xs) O120 (insX_perm _ _).symm
    have el_ : lput (litS nm) (.pointer (some ⟨g, 0, none⟩)) (xs.map XF.ent) = (insX (⟨⟨nm, [], 0⟩, g, none, 0, fun _ => False⟩ : XF) xs).map XF.ent := by rw [insX_ent]; unfold lput; rw [← delX_ent, delX_none hno]; rfl
    rw [el_] at O121
    exact disk_fin (gd := gd) (gm := gm) (d' := _) (xs := insX (⟨⟨nm, [], 0⟩, g, none, 0, fun _ => False⟩ : XF) xs) ((create_go hdn hnb hgd).trans (step_on hf1 hfu.1)) (by rw [insX_p, hxs]; show _ = insF _ (delF nm d.fs); rw [← hxs, ← delX_p, delX_none hno]) (by exact O121.sel [1, 2, 3, 0] (by decide))
 ·
  have HO := Own.sel (Own.file_open (Own.sel HO [3, 0, 1, 2] (by decide))) [3, 4, 5, 0, 1, 2] (by decide)
  have O122 : Own w0 w [R, Bk gd [.map (some gm), J d.most, J d.used, J d.fuse, .bool d.down] 64, Chunk.lmap Tryz.prog 9 gm ((pre ++ x :: post).map XF.ent), Bk x.g [.slice x.A x.p.b.length x.c, J x.p.sf] 74, Chunk.row (Kd.int .u8) 5 w0.heap.size x.S (.slice x.A x.p.b.length x.c) x.p.b, Chunk.files w0.heap.size (pre ++ post)] := HO
  clear HO
  refine gR fun K123 hK123 => ?_
  refine gw_new HF O122 (want_none rfl) rfl (by decide) (op_box rfl (HF.ev rfl)) ?_
  intro g124 _ w126 H127 O128; clear HF O122
  have O129 : Own w0 w126 [Bk g124 [.pointer (some ⟨gd, 0, none⟩)] 23, R, Bk gd [.map (some gm), J d.most, J d.used, J d.fuse, .bool d.down] 64, Chunk.lmap Tryz.prog 9 gm ((pre ++ x :: post).map XF.ent), Bk x.g [.slice x.A x.p.b.length x.c, J x.p.sf] 74, Chunk.row (Kd.int .u8) 5 w0.heap.size x.S (.slice x.A x.p.b.length x.c) x.p.b, Chunk.files w0.heap.size (pre ++ post)] := O128
  clear O128
  refine gw_new H127 O129 (want_none rfl) rfl (by decide) (op_box rfl (H127.ev rfl)) ?_
  intro g130 _ w132 H133 O134; clear H127 O129
  have O135 : Own w0 w132 [Bk g130 [.string nm] 9, Bk g124 [.pointer (some ⟨gd, 0, none⟩)] 23, R, Bk gd [.map (some gm), J d.most, J d.used, J d.fuse, .bool d.down] 64, Chunk.lmap Tryz.prog 9 gm ((pre ++ x :: post).map XF.ent), Bk x.g [.slice x.A x.p.b.length x.c, J x.p.sf] 74, Chunk.row (Kd.int .u8) 5 w0.heap.size x.S (.slice x.A x.p.b.length x.c) x.p.b, Chunk.files w0.heap.size (pre ++ post)] := O134
  clear O134
  refine V H133 (op_assign rfl (ev_c _ _)) ?_
  intro _ H137; clear H133
  refine gE hK123 ?_
  refine gw_seq fun K138 hK138 => ?_
  refine wp_block ?_
  refine gR fun K139 hK139 => ?_
  refine V H137 (op_load1 gwagg23 rfl (H137.ev rfl) (blk_at (O135.get 1 rfl) rfl)) ?_
  intro _ H141; clear H137
  refine V H141 (op_nil rfl (H141.ev rfl)) ?_
  intro _ H143; clear H141
  refine V H143 (op_field (gwfld64_4 _ _) rfl (H143.ev rfl)) ?_
  intro _ H145; clear H143
  refine V H145 (op_load1 gwagg4 rfl (H145.ev rfl) (blk_at (O135.get 3 rfl) rfl)) ?_
  intro _ H147; clear H145
  have H148 := H147.lit (b := false) (hdn)
  clear H147
  refine V H148 (op_assign rfl (H148.ev rfl)) ?_
  intro _ H150; clear H148
  refine gE hK139 ?_
  refine gw_cond H150 rfl (fun hb151 => ?_) (fun hb151 => ?_)
  skip
  ·
   cases hb151
  refine gR fun K152 hK152 => ?_
  refine V H150 (op_load1 gwagg9 rfl (H150.ev rfl) (blk_at (O135.get 0 rfl) rfl)) ?_
  intro _ H154; clear H150
  refine gw_call H154 (want_none rfl) rfl (by decide) (op_callL Tryz.func26 (by kernel_rfl) rfl rfl (ar_cons (H154.ev rfl) ar_nil)) (named_calls nm _) ?_
  rintro e155 w156 ⟨rfl, hb157⟩
  refine ⟨_, rfl, fun _ H159 => ?_⟩
  have O160 := O135.after hb157
  clear H154 O135 hb157
  refine V H159 (op_not rfl (H159.ev rfl)) ?_
  intro _ H163; clear H159
  refine V H163 (op_assign rfl (H163.ev rfl)) ?_
  intro _ H165; clear H163
  refine gE hK152 ?_
  refine gw_cond H165 rfl (fun hb166 => ?_) (fun hb166 => ?_)
  ·
   have H167 := H165.subst_ (d := 10) (b := true) rfl hb166
   clear H165
   (try simp only [Bool.and_eq_true, Bool.and_eq_false_iff, Bool.not_and, Bool.or_eq_true, Bool.or_eq_false_iff, Bool.not_or, Bool.not_not, Bool.not_eq_true', Bool.not_eq_false', Bool.not_eq_true, Bool.not_eq_false] at hb166)
   have hnb : namedB nm = false := by simpa using hb166
   refine gR fun K168 hK168 => ?_
   refine V H167 (op_assign rfl (ev_c _ _)) ?_
   intro _ H170; clear H167
   refine gE hK168 ?_
   refine wp_ret ?_
   refine gw_blr ?_
   refine gw_thr ?_
   refine gw_ret1 H170 rfl rfl ?_
   have O171 := Own.file_close (x := x) (pre := pre) (post := post) (by exact O160.sel [5, 6, 7, 0, 1, 2, 3, 4] (by decide))
   exact disk_fin (gd := gd) (gm := gm) (d' := d) (xs := pre ++ x :: post) (create_bad hdn hnb) hxs (by exact O171.sel [3, 4, 5, 0] (by decide))
  ·
   have H172 := H165.subst_ (d := 10) (b := false) rfl hb166
   clear H165
   (try simp only [Bool.and_eq_true, Bool.and_eq_false_iff, Bool.not_and, Bool.or_eq_true, Bool.or_eq_false_iff, Bool.not_or, Bool.not_not, Bool.not_eq_true', Bool.not_eq_false', Bool.not_eq_true, Bool.not_eq_false] at hb166)
   have hnb : namedB nm = true := by simpa using hb166
   refine gw_seq fun K173 hK173 => ?_
   refine gw_drawB O160 (by kernel_rfl) (by kernel_rfl) fun w174 O175 => ?_
   clear O160
   refine gq_ev H172 (want_none rfl) rfl (by decide) (fun wq hq => have HO := O175.after hq; (op_load1 gwagg23 rfl (H172.ev rfl) (blk_at (HO.get 1 rfl) rfl))) ?_
   intro _ H177; clear H172
   refine gq_ev H177 (want_none rfl) rfl (by decide) (fun wq hq => have HO := O175.after hq; (op_nil rfl (H177.ev rfl))) ?_
   intro _ H179; clear H177
   refine gq_ev H179 (want_none rfl) rfl (by decide) (fun wq hq => have HO := O175.after hq; (op_field (gwfld64_0 _ _) rfl (H179.ev rfl))) ?_
   intro _ H181; clear H179
   refine gq_ev H181 (want_none rfl) rfl (by decide) (fun wq hq => have HO := O175.after hq; (op_load1 gwagg62 rfl (H181.ev rfl) (blk_at (HO.get 3 rfl) rfl))) ?_
   intro _ H183; clear H181
   refine gq_ev H183 (want_none rfl) rfl (by decide) (fun wq hq => have HO := O175.after hq; (op_load1 gwagg9 rfl (H183.ev rfl) (blk_at (HO.get 0 rfl) rfl))) ?_
   intro _ H185; clear H183
   refine gq_ev H185 (want_none rfl) rfl (by decide) (fun wq hq => have HO := O175.after hq; (op_ml_some strKey Tryz.underlying62 gwzer71 rfl (H185.ev rfl) (H185.ev rfl) (keyS (hn)) (HO.get 4 rfl) (hl))) ?_
   intro _ H187; clear H185
   refine gq_ev H187 (want_none rfl) rfl (by decide) (fun wq hq => have HO := O175.after hq; (op_nep_nil Tryz.underlying71 rfl (H187.ev rfl))) ?_
   intro _ H189; clear H187
   refine gq_ev H189 (want_none rfl) rfl (by decide) (fun wq hq => have HO := O175.after hq; (op_assign rfl (H189.ev rfl))) ?_
   intro _ H191; clear H189
   refine wpQuiet_nil ?_
   intro w192 hq
   have O193 := O175.after hq
   clear O175 hq
   refine gw_nx (hK173 _ _ ?_)
   refine gw_cond H191 rfl (fun hb194 => ?_) (fun hb194 => ?_)
   rotate_left
   ·
    cases hb194
   refine gR fun K195 hK195 => ?_
   refine V H191 (op_assign rfl (ev_c _ _)) ?_
   intro _ H197; clear H191
   refine gE hK195 ?_
   refine wp_ret ?_
   refine gw_blr ?_
   refine gw_thr ?_
   refine gw_ret1 H197 rfl rfl ?_
   have O198 := Own.file_close (x := x) (pre := pre) (post := post) (by exact O193.sel [5, 6, 7, 0, 1, 2, 3, 4] (by decide))
   exact disk_fin (gd := gd) (gm := gm) (d' := d) (xs := pre ++ x :: post) (create_twice hdn hnb hgd) hxs (by exact O198.sel [3, 4, 5, 0] (by decide))
end GVfs1_
export GVfs1_ (create1 create_calls)
end Go.Proofs.YtkdahjnmldeklaaGreat.PA
end
section
namespace Go.Proofs.YtkdahjnmldeklaaGreat.PA
open Go.RowKit Go.Proofs.YtkdahjnmldeklaaGreatW.PrintWords Go.Proofs.YtkdahjnmldeklaaGreatW.PrintLast Go.Proofs.YtkdahjnmldeklaaGreatW.PrintMore
set_option linter.unusedVariables false
set_option linter.unusedSimpArgs false
namespace GVfs2_
theorem gwagg22 : ∀ w, (isAgg 22).run Tryz.prog w = .ok false w := fun _ => by kernel_rfl
theorem gwagg23 : ∀ w, (isAgg 23).run Tryz.prog w = .ok false w := fun _ => by kernel_rfl
theorem gwagg3 : ∀ w, (isAgg 3).run Tryz.prog w = .ok false w := fun _ => by kernel_rfl
theorem gwagg71 : ∀ w, (isAgg 71).run Tryz.prog w = .ok false w := fun _ => by kernel_rfl
theorem gwfld64_1 (g off : Nat) : ∀ w, (Instr.fieldAt 64 (.pointer (some ⟨g, off, none⟩)) 1).run Tryz.prog w = .ok (.pointer (some ⟨g, off + 1, none⟩)) w := fun _ => by kernel_rfl
theorem gwfld64_2 (g off : Nat) : ∀ w, (Instr.fieldAt 64 (.pointer (some ⟨g, off, none⟩)) 2).run Tryz.prog w = .ok (.pointer (some ⟨g, off + 2, none⟩)) w := fun _ => by kernel_rfl
theorem gwfld74_0 (g off : Nat) : ∀ w, (Instr.fieldAt 74 (.pointer (some ⟨g, off, none⟩)) 0).run Tryz.prog w = .ok (.pointer (some ⟨g, off + 0, none⟩)) w := fun _ => by kernel_rfl
theorem gwfld74_1 (g off : Nat) : ∀ w, (Instr.fieldAt 74 (.pointer (some ⟨g, off, none⟩)) 1).run Tryz.prog w = .ok (.pointer (some ⟨g, off + 1, none⟩)) w := fun _ => by kernel_rfl
theorem gwinfo5 : (Tryz.prog.info? 5).map (fun i => (i.zero, i.size, i.bytes)) = some (some (.int .u8 0), 1, 1) := by kernel_rfl
theorem gwsiz22 : ∀ w, (sizeOf 22).run Tryz.prog w = .ok 1 w := fun _ => by kernel_rfl
theorem gwsiz3 : ∀ w, (sizeOf 3).run Tryz.prog w = .ok 1 w := fun _ => by kernel_rfl
theorem gwsiz71 : ∀ w, (sizeOf 71).run Tryz.prog w = .ok 1 w := fun _ => by kernel_rfl
theorem gwzer71 : ∀ w, (zeroValue 71).run Tryz.prog w = .ok (.pointer none) w := fun _ => by kernel_rfl
set_option maxHeartbeats 4000000 in
set_option maxRecDepth 100000 in
theorem append1 (w0 w : World) (R : Chunk) (gd gm : Nat) (d : PD) (x : XF) (bf by_ bd : Nat) (Ay : Option Addr) (cy : Nat) (y : List Int) (hy : ∀ w1, Own w0 w1 [R] → Kd.C (Kd.int .u8) w1 Ay y.length y) (hcy : y.length ≤ cy) (hroom : x.p.b.length + y.length ≤ 140737488355327) (hu : 0 ≤ d.used ∧ d.used + y.length ≤ 9223372036854775807) (HO : Own w0 w [R, Bk gd [.map (some gm), .int .i64 d.most, .int .i64 d.used, .int .i64 d.fuse, .bool d.down] 64, Bk x.g [.slice x.A x.p.b.length x.c, .int .i64 x.p.sf] 74, Chunk.row (Kd.int .u8) 5 w0.heap.size x.S (.slice x.A x.p.b.length x.c) x.p.b, Bk bf [.pointer (some ⟨x.g, 0, none⟩)] 71, Bk by_ [.slice Ay y.length cy] 22, Bk bd [.pointer (some ⟨gd, 0, none⟩)] 23]) :
    Calls Tryz.prog 30 #[.pointer (some ⟨bf, 0, none⟩), .pointer (some ⟨by_, 0, none⟩), .pointer (some ⟨bd, 0, none⟩)] w fun e w' => e = .returned (.tuple #[]) ∧ ∃ A' c' S', Own w0 w' [R, Chunk.blk x.g (.cells #[.slice A' (x.p.b ++ y).length c', .int .i64 x.p.sf] 74 (0, 0)), Chunk.row (Kd.int .u8) 5 w0.heap.size S' (.slice A' (x.p.b ++ y).length c') (x.p.b ++ y), Chunk.blk gd (.cells (dcells gm { d with used := d.used + (y.length : Int) }) 64 (0, 0))] := by
 refine gw_startO (N := 21) (vs := [.pointer (some ⟨bf, 0, none⟩), .pointer (some ⟨by_, 0, none⟩), .pointer (some ⟨bd, 0, none⟩)]) Tryz.func30 rfl rfl (by simp) fun a HF => ?_
 refine gw_seq fun K1 hK1 => ?_
 refine gx_draw (M := [R, Bk gd [.map (some gm), J d.most, J d.used, J d.fuse, .bool d.down] 64, Bk x.g [.slice x.A x.p.b.length x.c, J x.p.sf] 74, Bk bf [.pointer (some ⟨x.g, 0, none⟩)] 71, Bk by_ [.slice Ay y.length cy] 22, Bk bd [.pointer (some ⟨gd, 0, none⟩)] 23]) (fun j_ => j_ == 9) HO (by kernel_rfl) fun w2 O3 => ?_
 clear HO
 refine gx_take 0 rfl (by kernel_rfl) HF (by exact O3.sel [0, 1, 2, 4, 5, 6] (by decide)) (want_none rfl) rfl (by decide) (fun wq HO => (op_load1 gwagg71 rfl (HF.ev rfl) (blk_at (HO.get 3 rfl) rfl))) ?_
 intro _ H5; clear HF
 refine gx_take 1 rfl (by kernel_rfl) H5 (by exact O3.sel [0, 1, 2, 4, 5, 6] (by decide)) (want_none rfl) rfl (by decide) (fun wq HO => (op_load1 gwagg71 rfl (H5.ev rfl) (blk_at (HO.get 3 rfl) rfl))) ?_
 intro _ H7; clear H5
 refine gx_take 2 rfl (by kernel_rfl) H7 (by exact O3.sel [0, 1, 2, 4, 5, 6] (by decide)) (want_none rfl) rfl (by decide) (fun wq HO => (op_nil rfl (H7.ev rfl))) ?_
 intro _ H9; clear H7
 refine gx_take 3 rfl (by kernel_rfl) H9 (by exact O3.sel [0, 1, 2, 4, 5, 6] (by decide)) (want_none rfl) rfl (by decide) (fun wq HO => (op_field (gwfld74_0 _ _) rfl (H9.ev rfl))) ?_
 intro _ H11; clear H9
 refine gx_take 4 rfl (by kernel_rfl) H11 (by exact O3.sel [0, 1, 2, 4, 5, 6] (by decide)) (want_none rfl) rfl (by decide) (fun wq HO => (op_load1 gwagg22 rfl (H11.ev rfl) (blk_at (HO.get 2 rfl) rfl))) ?_
 intro _ H13; clear H11
 refine gx_take 5 rfl (by kernel_rfl) H13 (by exact O3.sel [0, 1, 2, 4, 5, 6] (by decide)) (want_none rfl) rfl (by decide) (fun wq HO => (op_load1 gwagg22 rfl (H13.ev rfl) (blk_at (HO.get 4 rfl) rfl))) ?_
 intro _ H15; clear H13
 refine gx_step 6 rfl (by kernel_rfl) ?_
 refine gw_append (Kd.int .u8) 3 H15 O3 (want_none rfl) rfl (by decide) rfl Tryz.underlying22 gwinfo5 rfl (by decide) (by decide) rfl (H15.ev rfl) (H15.ev rfl) (hy _ (O3.sel [0] (by decide))) (fun _ _ h => h) O3.below.size (by first | omega | (simp; omega)) ?_
 intro A16 c17 S18 _ w20 H21 O22; clear H15 O3
 have O23 : Own w0 w20 [R, Bk gd [.map (some gm), J d.most, J d.used, J d.fuse, .bool d.down] 64, Bk x.g [.slice x.A x.p.b.length x.c, J x.p.sf] 74, Chunk.row (Kd.int .u8) 5 w0.heap.size S18 (.slice A16 ((x.p.b ++ y).length) c17) (x.p.b ++ y), Bk bf [.pointer (some ⟨x.g, 0, none⟩)] 71, Bk by_ [.slice Ay y.length cy] 22, Bk bd [.pointer (some ⟨gd, 0, none⟩)] 23] := O22
 clear O22
 refine gx_on (i := 6) (B := (fun j_ => j_ == 9)) (fun _ => (by exact O23.sel [0, 1, 2, 4, 5, 6] (by decide))) ?_
 refine gx_step 7 rfl (by kernel_rfl) ?_
 refine V H21 (op_nil rfl (H21.ev rfl)) ?_
 intro _ H25; clear H21
 refine gx_on (i := 7) (B := (fun j_ => j_ == 9)) (fun _ => (by exact O23.sel [0, 1, 2, 4, 5, 6] (by decide))) ?_
 refine gx_take 8 rfl (by kernel_rfl) H25 (by exact O23.sel [0, 1, 2, 4, 5, 6] (by decide)) (want_none rfl) rfl (by decide) (fun wq HO => (op_field (gwfld74_0 _ _) rfl (H25.ev rfl))) ?_
 intro _ H27; clear H25
 refine gx_step 9 rfl (by kernel_rfl) ?_
 refine gw_set 2 H27 O23 rfl (want_none rfl) rfl (op_store1 gwsiz22 rfl (H27.ev rfl) (H27.ev rfl) rfl (blk_at (O23.get 2 rfl) rfl) (blkf (O23.get 2 rfl))) ?_
 intro _ w30 H29 O31; clear H27 O23
 refine gx_on (i := 9) (B := (fun j_ => j_ == 9)) (fun h_ => by cases h_) ?_
 refine gx_done (by kernel_rfl) ?_
 refine gw_nx (hK1 _ _ ?_)
 refine gx_draw (M := [R, Bk gd [.map (some gm), J d.most, J d.used, J d.fuse, .bool d.down] 64, Bk x.g [.slice A16 ((x.p.b ++ y).length) c17, J x.p.sf] 74, Chunk.row (Kd.int .u8) 5 w0.heap.size S18 (.slice A16 ((x.p.b ++ y).length) c17) (x.p.b ++ y), Bk bf [.pointer (some ⟨x.g, 0, none⟩)] 71, Bk by_ [.slice Ay y.length cy] 22, Bk bd [.pointer (some ⟨gd, 0, none⟩)] 23]) (fun j_ => j_ == 9) O31 (by kernel_rfl) fun w32 O33 => ?_
 clear O31
 refine gx_take 0 rfl (by kernel_rfl) H29 (by exact O33.sel [0, 1, 2, 3, 4, 5, 6] (by decide)) (want_none rfl) rfl (by decide) (fun wq HO => (op_load1 gwagg23 rfl (H29.ev rfl) (blk_at (HO.get 6 rfl) rfl))) ?_
 intro _ H35; clear H29
 refine gx_take 1 rfl (by kernel_rfl) H35 (by exact O33.sel [0, 1, 2, 3, 4, 5, 6] (by decide)) (want_none rfl) rfl (by decide) (fun wq HO => (op_nil rfl (H35.ev rfl))) ?_
 intro _ H37; clear H35
 refine gx_take 2 rfl (by kernel_rfl) H37 (by exact O33.sel [0, 1, 2, 3, 4, 5, 6] (by decide)) (want_none rfl) rfl (by decide) (fun wq HO => (op_field (gwfld64_2 _ _) rfl (H37.ev rfl))) ?_
 intro _ H39; clear H37
 refine gx_take 3 rfl (by kernel_rfl) H39 (by exact O33.sel [0, 1, 2, 3, 4, 5, 6] (by decide)) (want_none rfl) rfl (by decide) (fun wq HO => (op_load1 gwagg3 rfl (H39.ev rfl) (blk_at (HO.get 1 rfl) rfl))) ?_
 intro _ H41; clear H39
 refine gx_take 4 rfl (by kernel_rfl) H41 (by exact O33.sel [0, 1, 2, 3, 4, 5, 6] (by decide)) (want_none rfl) rfl (by decide) (fun wq HO => (op_load1 gwagg22 rfl (H41.ev rfl) (blk_at (HO.get 5 rfl) rfl))) ?_
 intro _ H43; clear H41
 refine gx_take 5 rfl (by kernel_rfl) H43 (by exact O33.sel [0, 1, 2, 3, 4, 5, 6] (by decide)) (want_none rfl) rfl (by decide) (fun wq HO => (op_len Tryz.underlying22 rfl (H43.ev rfl))) ?_
 intro _ H45; clear H43
 refine gx_take 6 rfl (by kernel_rfl) H45 (by exact O33.sel [0, 1, 2, 3, 4, 5, 6] (by decide)) (want_none rfl) rfl (by decide) (fun wq HO => (op_add rfl (H45.ev rfl) (H45.ev rfl) (by omega))) ?_
 intro _ H47; clear H45
 refine gx_step 7 rfl (by kernel_rfl) ?_
 refine V H47 (op_nil rfl (H47.ev rfl)) ?_
 intro _ H49; clear H47
 refine gx_on (i := 7) (B := (fun j_ => j_ == 9)) (fun _ => (by exact O33.sel [0, 1, 2, 3, 4, 5, 6] (by decide))) ?_
 refine gx_take 8 rfl (by kernel_rfl) H49 (by exact O33.sel [0, 1, 2, 3, 4, 5, 6] (by decide)) (want_none rfl) rfl (by decide) (fun wq HO => (op_field (gwfld64_2 _ _) rfl (H49.ev rfl))) ?_
 intro _ H51; clear H49
 refine gx_step 9 rfl (by kernel_rfl) ?_
 refine gw_set 1 H51 O33 rfl (want_none rfl) rfl (op_store1 gwsiz3 rfl (H51.ev rfl) (H51.ev rfl) rfl (blk_at (O33.get 1 rfl) rfl) (blkf (O33.get 1 rfl))) ?_
 intro _ w54 H53 O55; clear H51 O33
 refine gx_on (i := 9) (B := (fun j_ => j_ == 9)) (fun h_ => by cases h_) ?_
 refine gx_done (by kernel_rfl) ?_
 refine gw_end0 H53 rfl ?_
 exact ⟨rfl, _, _, _, O55.sel [0, 2, 3, 1] (by decide)⟩
set_option maxHeartbeats 4000000 in
set_option maxRecDepth 100000 in
theorem append_calls (w0 w : World) (R : Chunk) (gd : Nat) (S : Nat → Prop) (d : PD) (nm : ByteArray) (Ay : Option Addr) (cy : Nat) (y : List Int) (hy : ∀ w1, Own w0 w1 [R] → Kd.C (Kd.int .u8) w1 Ay y.length y) (hcy : y.length ≤ cy) (hw : wfD d) (hn : nm.size ≤ 9223372036854775807) (hroom : d.used + y.length ≤ 140737488355327) (HO : Own w0 w [R, Chunk.disk w0.heap.size gd S d]) :
    Calls Tryz.prog 8 #[.pointer (some ⟨gd, 0, none⟩), .string nm, .slice Ay y.length cy] w fun e w' => e = .returned (.int .i64 (appendD nm y d).2) ∧ ∃ S', Own w0 w' [R, Chunk.disk w0.heap.size gd S' (appendD nm y d).1] := by
 have hu0 := hw.used
 have hm0 := hw.most
 have hfu := hw.fuse
 obtain ⟨gm, xs, hxs, hon, HO⟩ := disk_open2 HO
 refine gw_startO (N := 35) (vs := [.pointer (some ⟨gd, 0, none⟩), .string nm, .slice Ay y.length cy]) Tryz.func8 rfl rfl (by simp) fun a HF => ?_
 rcases look3 nm d hxs hon with hdn | ⟨hdn, hl, hgd, hno⟩ | ⟨hdn, pre, x, post, rfl, hnm, hl, hgd, hoth⟩
 ·
  refine gR fun K1 hK1 => ?_
  refine gw_new HF HO (want_none rfl) rfl (by decide) (op_box rfl (HF.ev rfl)) ?_
  intro g2 _ w4 H5 O6; clear HF HO
  have O7 : Own w0 w4 [Bk g2 [.pointer (some ⟨gd, 0, none⟩)] 23, R, Bk gd [.map (some gm), J d.most, J d.used, J d.fuse, .bool d.down] 64, Chunk.lmap Tryz.prog 9 gm (xs.map XF.ent), Chunk.files w0.heap.size xs] := O6
  clear O6
  refine gw_new H5 O7 (want_none rfl) rfl (by decide) (op_box rfl (H5.ev rfl)) ?_
  intro g8 _ w10 H11 O12; clear H5 O7
  have O13 : Own w0 w10 [Bk g8 [.slice Ay y.length cy] 22, Bk g2 [.pointer (some ⟨gd, 0, none⟩)] 23, R, Bk gd [.map (some gm), J d.most, J d.used, J d.fuse, .bool d.down] 64, Chunk.lmap Tryz.prog 9 gm (xs.map XF.ent), Chunk.files w0.heap.size xs] := O12
  clear O12
  refine V H11 (op_assign rfl (ev_c _ _)) ?_
  intro _ H15; clear H11
  refine gE hK1 ?_
  refine gR fun K16 hK16 => ?_
  refine V H15 (op_load1 gwagg23 rfl (H15.ev rfl) (blk_at (O13.get 1 rfl) rfl)) ?_
  intro _ H18; clear H15
  refine V H18 (op_move rfl (H18.ev rfl)) ?_
  intro _ H20; clear H18
  refine gw_call H20 (want_none rfl) rfl (by decide) (op_callL Tryz.func29 (by kernel_rfl) rfl rfl (ar_cons (H20.ev rfl) (ar_cons (H20.ev rfl) ar_nil))) (find_down gd gm d nm (xs.map XF.ent) _ (by exact O13.get 3 rfl) (O13.get 4 rfl) hdn hn) ?_
  rintro e21 w22 ⟨rfl, hb23⟩
  refine ⟨_, rfl, fun _ H25 => ?_⟩
  have O26 := O13.after hb23
  clear H20 O13 hb23
  refine V H25 (op_move rfl (H25.ev rfl)) ?_
  intro _ H29; clear H25
  refine V H29 (op_extract rfl (H29.ev rfl) rfl) ?_
  intro _ H31; clear H29
  refine V H31 (op_extract rfl (H31.ev rfl) rfl) ?_
  intro _ H33; clear H31
  refine gw_new H33 O26 (want_none rfl) rfl (by decide) (op_alloc gwzer71 rfl) ?_
  intro g34 _ w36 H37 O38; clear H33 O26
  have O39 : Own w0 w36 [Bk g34 [.pointer none] 71, Bk g8 [.slice Ay y.length cy] 22, Bk g2 [.pointer (some ⟨gd, 0, none⟩)] 23, R, Bk gd [.map (some gm), J d.most, J d.used, J d.fuse, .bool d.down] 64, Chunk.lmap Tryz.prog 9 gm (xs.map XF.ent), Chunk.files w0.heap.size xs] := O38
  clear O38
  refine gw_set 0 H37 O39 rfl (want_none rfl) rfl (op_store1 gwsiz71 rfl (H37.ev rfl) (H37.ev rfl) rfl (blk_at (O39.get 0 rfl) rfl) (blkf (O39.get 0 rfl))) ?_
  intro _ w42 H41 O43; clear H37 O39
  refine V H41 (op_assign rfl (H41.ev rfl)) ?_
  intro _ H45; clear H41
  refine gE hK16 ?_
  refine gw_seq fun K46 hK46 => ?_
  refine wp_block ?_
  refine gR fun K47 hK47 => ?_
  refine V H45 (op_move rfl (H45.ev rfl)) ?_
  intro _ H49; clear H45
  refine V H49 (op_nei rfl (H49.ev rfl) (ev_c _ _)) ?_
  intro _ H51; clear H49
  have H52 := H51.lit (b := true) (by decide)
  clear H51
  refine V H52 (op_assign rfl (H52.ev rfl)) ?_
  intro _ H54; clear H52
  refine gE hK47 ?_
  refine gw_cond H54 rfl (fun hb55 => ?_) (fun hb55 => ?_)
  rotate_left
  ·
   cases hb55
  refine gR fun K56 hK56 => ?_
  refine V H54 (op_move rfl (H54.ev rfl)) ?_
  intro _ H58; clear H54
  refine V H58 (op_assign rfl (H58.ev rfl)) ?_
  intro _ H60; clear H58
  refine gE hK56 ?_
  refine wp_ret ?_
  refine gw_blr ?_
  refine gw_thr ?_
  refine gw_ret1 H60 rfl rfl ?_
  exact disk_fin (gd := gd) (gm := gm) (d' := d) (xs := xs) (with_down hdn) hxs (by exact O43.sel [3, 4, 5, 6] (by decide))
 ·
  refine gR fun K61 hK61 => ?_
  refine gw_new HF HO (want_none rfl) rfl (by decide) (op_box rfl (HF.ev rfl)) ?_
  intro g62 _ w64 H65 O66; clear HF HO
  have O67 : Own w0 w64 [Bk g62 [.pointer (some ⟨gd, 0, none⟩)] 23, R, Bk gd [.map (some gm), J d.most, J d.used, J d.fuse, .bool d.down] 64, Chunk.lmap Tryz.prog 9 gm (xs.map XF.ent), Chunk.files w0.heap.size xs] := O66
  clear O66
  refine gw_new H65 O67 (want_none rfl) rfl (by decide) (op_box rfl (H65.ev rfl)) ?_
  intro g68 _ w70 H71 O72; clear H65 O67
  have O73 : Own w0 w70 [Bk g68 [.slice Ay y.length cy] 22, Bk g62 [.pointer (some ⟨gd, 0, none⟩)] 23, R, Bk gd [.map (some gm), J d.most, J d.used, J d.fuse, .bool d.down] 64, Chunk.lmap Tryz.prog 9 gm (xs.map XF.ent), Chunk.files w0.heap.size xs] := O72
  clear O72
  refine V H71 (op_assign rfl (ev_c _ _)) ?_
  intro _ H75; clear H71
  refine gE hK61 ?_
  refine gR fun K76 hK76 => ?_
  refine V H75 (op_load1 gwagg23 rfl (H75.ev rfl) (blk_at (O73.get 1 rfl) rfl)) ?_
  intro _ H78; clear H75
  refine V H78 (op_move rfl (H78.ev rfl)) ?_
  intro _ H80; clear H78
  refine gw_call H80 (want_none rfl) rfl (by decide) (op_callL Tryz.func29 (by kernel_rfl) rfl rfl (ar_cons (H80.ev rfl) (ar_cons (H80.ev rfl) ar_nil))) (find_none gd gm d nm (xs.map XF.ent) _ (by exact O73.get 3 rfl) (O73.get 4 rfl) hdn hl hn) ?_
  rintro e81 w82 ⟨rfl, hb83⟩
  refine ⟨_, rfl, fun _ H85 => ?_⟩
  have O86 := O73.after hb83
  clear H80 O73 hb83
  refine V H85 (op_move rfl (H85.ev rfl)) ?_
  intro _ H89; clear H85
  refine V H89 (op_extract rfl (H89.ev rfl) rfl) ?_
  intro _ H91; clear H89
  refine V H91 (op_extract rfl (H91.ev rfl) rfl) ?_
  intro _ H93; clear H91
  refine gw_new H93 O86 (want_none rfl) rfl (by decide) (op_alloc gwzer71 rfl) ?_
  intro g94 _ w96 H97 O98; clear H93 O86
  have O99 : Own w0 w96 [Bk g94 [.pointer none] 71, Bk g68 [.slice Ay y.length cy] 22, Bk g62 [.pointer (some ⟨gd, 0, none⟩)] 23, R, Bk gd [.map (some gm), J d.most, J d.used, J d.fuse, .bool d.down] 64, Chunk.lmap Tryz.prog 9 gm (xs.map XF.ent), Chunk.files w0.heap.size xs] := O98
  clear O98
  refine gw_set 0 H97 O99 rfl (want_none rfl) rfl (op_store1 gwsiz71 rfl (H97.ev rfl) (H97.ev rfl) rfl (blk_at (O99.get 0 rfl) rfl) (blkf (O99.get 0 rfl))) ?_
  intro _ w102 H101 O103; clear H97 O99
  refine V H101 (op_assign rfl (H101.ev rfl)) ?_
  intro _ H105; clear H101
  refine gE hK76 ?_
  refine gw_seq fun K106 hK106 => ?_
  refine wp_block ?_
  refine gR fun K107 hK107 => ?_
  refine V H105 (op_move rfl (H105.ev rfl)) ?_
  intro _ H109; clear H105
  refine V H109 (op_nei rfl (H109.ev rfl) (ev_c _ _)) ?_
  intro _ H111; clear H109
  have H112 := H111.lit (b := true) (by decide)
  clear H111
  refine V H112 (op_assign rfl (H112.ev rfl)) ?_
  intro _ H114; clear H112
  refine gE hK107 ?_
  refine gw_cond H114 rfl (fun hb115 => ?_) (fun hb115 => ?_)
  rotate_left
  ·
   cases hb115
  refine gR fun K116 hK116 => ?_
  refine V H114 (op_move rfl (H114.ev rfl)) ?_
  intro _ H118; clear H114
  refine V H118 (op_assign rfl (H118.ev rfl)) ?_
  intro _ H120; clear H118
  refine gE hK116 ?_
  refine wp_ret ?_
  refine gw_blr ?_
  refine gw_thr ?_
  refine gw_ret1 H120 rfl rfl ?_
  exact disk_fin (gd := gd) (gm := gm) (d' := d) (xs := xs) (with_none hdn hgd) hxs (by exact O103.sel [3, 4, 5, 6] (by decide))
 ·
  have HO := Own.sel (Own.file_open (Own.sel HO [3, 0, 1, 2] (by decide))) [3, 4, 5, 0, 1, 2] (by decide)
  have hxl := wf_len hw (getF_mem hgd).1
  have hxs1 := hw.sf _ (getF_mem hgd).1
  have O121 : Own w0 w [R, Bk gd [.map (some gm), J d.most, J d.used, J d.fuse, .bool d.down] 64, Chunk.lmap Tryz.prog 9 gm ((pre ++ x :: post).map XF.ent), Bk x.g [.slice x.A x.p.b.length x.c, J x.p.sf] 74, Chunk.row (Kd.int .u8) 5 w0.heap.size x.S (.slice x.A x.p.b.length x.c) x.p.b, Chunk.files w0.heap.size (pre ++ post)] := HO
  clear HO
  refine gR fun K122 hK122 => ?_
  refine gw_new HF O121 (want_none rfl) rfl (by decide) (op_box rfl (HF.ev rfl)) ?_
  intro g123 _ w125 H126 O127; clear HF O121
  have O128 : Own w0 w125 [Bk g123 [.pointer (some ⟨gd, 0, none⟩)] 23, R, Bk gd [.map (some gm), J d.most, J d.used, J d.fuse, .bool d.down] 64, Chunk.lmap Tryz.prog 9 gm ((pre ++ x :: post).map XF.ent), Bk x.g [.slice x.A x.p.b.length x.c, J x.p.sf] 74, Chunk.row (Kd.int .u8) 5 w0.heap.size x.S (.slice x.A x.p.b.length x.c) x.p.b, Chunk.files w0.heap.size (pre ++ post)] := O127
  clear O127
  refine gw_new H126 O128 (want_none rfl) rfl (by decide) (op_box rfl (H126.ev rfl)) ?_
  intro g129 _ w131 H132 O133; clear H126 O128
  have O134 : Own w0 w131 [Bk g129 [.slice Ay y.length cy] 22, Bk g123 [.pointer (some ⟨gd, 0, none⟩)] 23, R, Bk gd [.map (some gm), J d.most, J d.used, J d.fuse, .bool d.down] 64, Chunk.lmap Tryz.prog 9 gm ((pre ++ x :: post).map XF.ent), Bk x.g [.slice x.A x.p.b.length x.c, J x.p.sf] 74, Chunk.row (Kd.int .u8) 5 w0.heap.size x.S (.slice x.A x.p.b.length x.c) x.p.b, Chunk.files w0.heap.size (pre ++ post)] := O133
  clear O133
  refine V H132 (op_assign rfl (ev_c _ _)) ?_
  intro _ H136; clear H132
  refine gE hK122 ?_
  refine gR fun K137 hK137 => ?_
  refine V H136 (op_load1 gwagg23 rfl (H136.ev rfl) (blk_at (O134.get 1 rfl) rfl)) ?_
  intro _ H139; clear H136
  refine V H139 (op_move rfl (H139.ev rfl)) ?_
  intro _ H141; clear H139
  refine gw_call H141 (want_none rfl) rfl (by decide) (op_callL Tryz.func29 (by kernel_rfl) rfl rfl (ar_cons (H141.ev rfl) (ar_cons (H141.ev rfl) ar_nil))) (find_some gd gm d nm ((pre ++ x :: post).map XF.ent) x.g _ (by exact O134.get 3 rfl) (O134.get 4 rfl) hdn hl hn) ?_
  rintro e142 w143 ⟨rfl, hb144⟩
  refine ⟨_, rfl, fun _ H146 => ?_⟩
  have O147 := O134.after hb144
  clear H141 O134 hb144
  refine V H146 (op_move rfl (H146.ev rfl)) ?_
  intro _ H150; clear H146
  refine V H150 (op_extract rfl (H150.ev rfl) rfl) ?_
  intro _ H152; clear H150
  refine V H152 (op_extract rfl (H152.ev rfl) rfl) ?_
  intro _ H154; clear H152
  refine gw_new H154 O147 (want_none rfl) rfl (by decide) (op_alloc gwzer71 rfl) ?_
  intro g155 _ w157 H158 O159; clear H154 O147
  have O160 : Own w0 w157 [Bk g155 [.pointer none] 71, Bk g129 [.slice Ay y.length cy] 22, Bk g123 [.pointer (some ⟨gd, 0, none⟩)] 23, R, Bk gd [.map (some gm), J d.most, J d.used, J d.fuse, .bool d.down] 64, Chunk.lmap Tryz.prog 9 gm ((pre ++ x :: post).map XF.ent), Bk x.g [.slice x.A x.p.b.length x.c, J x.p.sf] 74, Chunk.row (Kd.int .u8) 5 w0.heap.size x.S (.slice x.A x.p.b.length x.c) x.p.b, Chunk.files w0.heap.size (pre ++ post)] := O159
  clear O159
  refine gw_set 0 H158 O160 rfl (want_none rfl) rfl (op_store1 gwsiz71 rfl (H158.ev rfl) (H158.ev rfl) rfl (blk_at (O160.get 0 rfl) rfl) (blkf (O160.get 0 rfl))) ?_
  intro _ w163 H162 O164; clear H158 O160
  refine V H162 (op_assign rfl (H162.ev rfl)) ?_
  intro _ H166; clear H162
  refine gE hK137 ?_
  refine gw_seq fun K167 hK167 => ?_
  refine wp_block ?_
  refine gR fun K168 hK168 => ?_
  refine V H166 (op_move rfl (H166.ev rfl)) ?_
  intro _ H170; clear H166
  refine V H170 (op_nei rfl (H170.ev rfl) (ev_c _ _)) ?_
  intro _ H172; clear H170
  have H173 := H172.lit (b := false) (by decide)
  clear H172
  refine V H173 (op_assign rfl (H173.ev rfl)) ?_
  intro _ H175; clear H173
  refine gE hK168 ?_
  refine gw_cond H175 rfl (fun hb176 => ?_) (fun hb176 => ?_)
  skip
  ·
   cases hb176
  refine gw_seq fun K177 hK177 => ?_
  refine gw_drawB O164 (by kernel_rfl) (by kernel_rfl) fun w178 O179 => ?_
  clear O164
  refine gq_ev H175 (want_none rfl) rfl (by decide) (fun wq hq => have HO := O179.after hq; (op_load1 gwagg22 rfl (H175.ev rfl) (blk_at (HO.get 1 rfl) rfl))) ?_
  intro _ H181; clear H175
  refine gq_ev H181 (want_none rfl) rfl (by decide) (fun wq hq => have HO := O179.after hq; (op_len Tryz.underlying22 rfl (H181.ev rfl))) ?_
  intro _ H183; clear H181
  refine gq_ev H183 (want_none rfl) rfl (by decide) (fun wq hq => have HO := O179.after hq; (op_load1 gwagg23 rfl (H183.ev rfl) (blk_at (HO.get 2 rfl) rfl))) ?_
  intro _ H185; clear H183
  refine gq_ev H185 (want_none rfl) rfl (by decide) (fun wq hq => have HO := O179.after hq; (op_nil rfl (H185.ev rfl))) ?_
  intro _ H187; clear H185
  refine gq_ev H187 (want_none rfl) rfl (by decide) (fun wq hq => have HO := O179.after hq; (op_field (gwfld64_1 _ _) rfl (H187.ev rfl))) ?_
  intro _ H189; clear H187
  refine gq_ev H189 (want_none rfl) rfl (by decide) (fun wq hq => have HO := O179.after hq; (op_load1 gwagg3 rfl (H189.ev rfl) (blk_at (HO.get 4 rfl) rfl))) ?_
  intro _ H191; clear H189
  refine gq_ev H191 (want_none rfl) rfl (by decide) (fun wq hq => have HO := O179.after hq; (op_load1 gwagg23 rfl (H191.ev rfl) (blk_at (HO.get 2 rfl) rfl))) ?_
  intro _ H193; clear H191
  refine gq_ev H193 (want_none rfl) rfl (by decide) (fun wq hq => have HO := O179.after hq; (op_nil rfl (H193.ev rfl))) ?_
  intro _ H195; clear H193
  refine gq_ev H195 (want_none rfl) rfl (by decide) (fun wq hq => have HO := O179.after hq; (op_field (gwfld64_2 _ _) rfl (H195.ev rfl))) ?_
  intro _ H197; clear H195
  refine gq_ev H197 (want_none rfl) rfl (by decide) (fun wq hq => have HO := O179.after hq; (op_load1 gwagg3 rfl (H197.ev rfl) (blk_at (HO.get 4 rfl) rfl))) ?_
  intro _ H199; clear H197
  refine gq_ev H199 (want_none rfl) rfl (by decide) (fun wq hq => have HO := O179.after hq; (op_sub rfl (H199.ev rfl) (H199.ev rfl) (by omega))) ?_
  intro _ H201; clear H199
  refine gq_ev H201 (want_none rfl) rfl (by decide) (fun wq hq => have HO := O179.after hq; (op_gtr rfl (H201.ev rfl) (H201.ev rfl))) ?_
  intro _ H203; clear H201
  refine gq_ev H203 (want_none rfl) rfl (by decide) (fun wq hq => have HO := O179.after hq; (op_assign rfl (H203.ev rfl))) ?_
  intro _ H205; clear H203
  refine wpQuiet_nil ?_
  intro w206 hq
  have O207 := O179.after hq
  clear O179 hq
  refine gw_nx (hK177 _ _ ?_)
  refine gw_cond H205 rfl (fun hb208 => ?_) (fun hb208 => ?_)
  ·
   have H209 := H205.subst_ (d := 19) (b := true) rfl hb208
   clear H205
   (try simp only [decide_eq_true_eq] at hb208)
   refine gR fun K210 hK210 => ?_
   refine V H209 (op_assign rfl (ev_c _ _)) ?_
   intro _ H212; clear H209
   refine gE hK210 ?_
   refine wp_ret ?_
   refine gw_blr ?_
   refine gw_thr ?_
   refine gw_ret1 H212 rfl rfl ?_
   have O213 := Own.file_close (x := x) (pre := pre) (post := post) (by exact O207.sel [6, 7, 8, 0, 1, 2, 3, 4, 5] (by decide))
   exact disk_fin (gd := gd) (gm := gm) (d' := d) (xs := pre ++ x :: post) (append_full hdn hgd (by omega)) hxs (by exact O213.sel [4, 5, 6, 0] (by decide))
  ·
   have H214 := H205.subst_ (d := 19) (b := false) rfl hb208
   clear H205
   (try simp only [decide_eq_false_iff_not, Int.not_lt] at hb208)
   refine wp_skip ?_
   refine gw_blk ?_
   refine gw_nx (hK167 _ _ ?_)
   refine gR fun K215 hK215 => ?_
   refine V H214 (op_load1 gwagg23 rfl (H214.ev rfl) (blk_at (O207.get 2 rfl) rfl)) ?_
   intro _ H217; clear H214
   refine V H217 (op_func rfl (ar_cons (H217.ev rfl) (ar_cons (H217.ev rfl) (ar_cons (H217.ev rfl) ar_nil)))) ?_
   intro _ H219; clear H217
   have O226 : Own w0 _ [(Chunk.all [Bk g155 [.pointer (some ⟨x.g, 0, none⟩)] 71, Bk g129 [.slice Ay y.length cy] 22, Bk g123 [.pointer (some ⟨gd, 0, none⟩)] 23, R, Chunk.lmap Tryz.prog 9 gm ((pre ++ x :: post).map XF.ent), Bk x.g [.slice x.A x.p.b.length x.c, J x.p.sf] 74, Chunk.row (Kd.int .u8) 5 w0.heap.size x.S (.slice x.A x.p.b.length x.c) x.p.b, Chunk.files w0.heap.size (pre ++ post)]), Bk gd [.map (some gm), J d.most, J d.used, J d.fuse, .bool d.down] 64] := Own.bundle (O207.sel [0, 1, 2, 3, 5, 6, 7, 8, 4] (by decide))
   refine gw_call H219 (want_none rfl) rfl (by decide) (op_callL Tryz.func27 (by kernel_rfl) rfl rfl (ar_cons (H219.ev rfl) (ar_cons (H219.ev rfl) ar_nil))) (step_calls w0 _ (Chunk.all [Bk g155 [.pointer (some ⟨x.g, 0, none⟩)] 71, Bk g129 [.slice Ay y.length cy] 22, Bk g123 [.pointer (some ⟨gd, 0, none⟩)] 23, R, Chunk.lmap Tryz.prog 9 gm ((pre ++ x :: post).map XF.ent), Bk x.g [.slice x.A x.p.b.length x.c, J x.p.sf] 74, Chunk.row (Kd.int .u8) 5 w0.heap.size x.S (.slice x.A x.p.b.length x.c) x.p.b, Chunk.files w0.heap.size (pre ++ post)]) gd gm d 30 _ [.pointer (some ⟨g155, 0, none⟩), .pointer (some ⟨g129, 0, none⟩), .pointer (some ⟨g123, 0, none⟩)] (fun w_ => ∃ A' c' S', Own w0 w_ [(Chunk.all [R, Chunk.lmap Tryz.prog 9 gm ((pre ++ x :: post).map XF.ent), Chunk.files w0.heap.size (pre ++ post)]), Bk x.g [.slice A' ((x.p.b ++ y).length) c', J x.p.sf] 74, Chunk.row (Kd.int .u8) 5 w0.heap.size S' (.slice A' ((x.p.b ++ y).length) c') (x.p.b ++ y), Bk gd [.map (some gm), J (({ d with fuse := decF d.fuse } : PD).most), J (d.used + (y.length : Int)), J (({ d with fuse := decF d.fuse } : PD).fuse), .bool (({ d with fuse := decF d.fuse } : PD).down)] 64]) Tryz.func30 (by kernel_rfl) rfl hfu (fun hf1 w1 h_ => append1 w0 w1 (Chunk.all [R, Chunk.lmap Tryz.prog 9 gm ((pre ++ x :: post).map XF.ent), Chunk.files w0.heap.size (pre ++ post)]) gd gm ({ d with fuse := decF d.fuse } : PD) x g155 g129 g123 Ay cy y (fun w_ h_ => hy w_ ((Own.unbundle (A := [R, Chunk.lmap Tryz.prog 9 gm ((pre ++ x :: post).map XF.ent), Chunk.files w0.heap.size (pre ++ post)]) (L := []) (by exact h_)).sel [0] (by decide))) hcy (by omega) (by show 0 ≤ d.used ∧ d.used + (y.length : Int) ≤ _; omega) (Own.bundle (A := [R, Chunk.lmap Tryz.prog 9 gm ((pre ++ x :: post).map XF.ent), Chunk.files w0.heap.size (pre ++ post)]) (L := [Bk gd [.map (some gm), J (({ d with fuse := decF d.fuse } : PD).most), J (({ d with fuse := decF d.fuse } : PD).used), J (({ d with fuse := decF d.fuse } : PD).fuse), .bool (({ d with fuse := decF d.fuse } : PD).down)] 64, Bk x.g [.slice x.A x.p.b.length x.c, J x.p.sf] 74, Chunk.row (Kd.int .u8) 5 w0.heap.size x.S (.slice x.A x.p.b.length x.c) x.p.b, Bk g155 [.pointer (some ⟨x.g, 0, none⟩)] 71, Bk g129 [.slice Ay y.length cy] 22, Bk g123 [.pointer (some ⟨gd, 0, none⟩)] 23]) ((Own.unbundle (A := [Bk g155 [.pointer (some ⟨x.g, 0, none⟩)] 71, Bk g129 [.slice Ay y.length cy] 22, Bk g123 [.pointer (some ⟨gd, 0, none⟩)] 23, R, Chunk.lmap Tryz.prog 9 gm ((pre ++ x :: post).map XF.ent), Bk x.g [.slice x.A x.p.b.length x.c, J x.p.sf] 74, Chunk.row (Kd.int .u8) 5 w0.heap.size x.S (.slice x.A x.p.b.length x.c) x.p.b, Chunk.files w0.heap.size (pre ++ post)]) (L := [Bk gd [.map (some gm), J (({ d with fuse := decF d.fuse } : PD).most), J (({ d with fuse := decF d.fuse } : PD).used), J (({ d with fuse := decF d.fuse } : PD).fuse), .bool (({ d with fuse := decF d.fuse } : PD).down)] 64]) (by exact h_)).sel [3, 4, 7, 8, 5, 6, 0, 1, 2] (by decide)))) (by exact O226)) ?_
   rintro e220 w221 (⟨hf1, rfl, hb222⟩ | ⟨hf1, rfl, ⟨A', c', S', hb222⟩⟩)
   ·
    refine ⟨_, rfl, fun _ H224 => ?_⟩
    have O225 : Own w0 w221 [Bk g155 [.pointer (some ⟨x.g, 0, none⟩)] 71, Bk g129 [.slice Ay y.length cy] 22, Bk g123 [.pointer (some ⟨gd, 0, none⟩)] 23, R, Chunk.lmap Tryz.prog 9 gm ((pre ++ x :: post).map XF.ent), Bk x.g [.slice x.A x.p.b.length x.c, J x.p.sf] 74, Chunk.row (Kd.int .u8) 5 w0.heap.size x.S (.slice x.A x.p.b.length x.c) x.p.b, Chunk.files w0.heap.size (pre ++ post), Bk gd [.map (some gm), J d.most, J d.used, J 0, .bool true] 64] := Own.unbundle (A := [Bk g155 [.pointer (some ⟨x.g, 0, none⟩)] 71, Bk g129 [.slice Ay y.length cy] 22, Bk g123 [.pointer (some ⟨gd, 0, none⟩)] 23, R, Chunk.lmap Tryz.prog 9 gm ((pre ++ x :: post).map XF.ent), Bk x.g [.slice x.A x.p.b.length x.c, J x.p.sf] 74, Chunk.row (Kd.int .u8) 5 w0.heap.size x.S (.slice x.A x.p.b.length x.c) x.p.b, Chunk.files w0.heap.size (pre ++ post)]) (L := [Bk gd [.map (some gm), J d.most, J d.used, J 0, .bool true] 64]) (by exact hb222)
    clear O226 hb222
    clear H219 O207
    refine V H224 (op_assign rfl (H224.ev rfl)) ?_
    intro _ H228; clear H224
    refine gE hK215 ?_
    refine wp_ret ?_
    refine gw_ret1 H228 rfl rfl ?_
    have O229 := Own.file_close (x := x) (pre := pre) (post := post) (by exact O225.sel [5, 6, 7, 0, 1, 2, 3, 4, 8] (by decide))
    exact disk_fin (gd := gd) (gm := gm) (d' := { d with fuse := 0, down := true }) (xs := pre ++ x :: post) ((append_go hdn hgd (by omega)).trans (step_off hf1)) hxs (by exact O229.sel [4, 6, 5, 0] (by decide))
   ·
    refine ⟨_, rfl, fun _ H224 => ?_⟩
    have O225 : Own w0 w221 [R, Chunk.lmap Tryz.prog 9 gm ((pre ++ x :: post).map XF.ent), Chunk.files w0.heap.size (pre ++ post), Bk x.g [.slice A' ((x.p.b ++ y).length) c', J x.p.sf] 74, Chunk.row (Kd.int .u8) 5 w0.heap.size S' (.slice A' ((x.p.b ++ y).length) c') (x.p.b ++ y), Bk gd [.map (some gm), J (({ d with fuse := decF d.fuse } : PD).most), J (d.used + (y.length : Int)), J (({ d with fuse := decF d.fuse } : PD).fuse), .bool (({ d with fuse := decF d.fuse } : PD).down)] 64] := Own.unbundle (A := [R, Chunk.lmap Tryz.prog 9 gm ((pre ++ x :: post).map XF.ent), Chunk.files w0.heap.size (pre ++ post)]) (L := [Bk x.g [.slice A' ((x.p.b ++ y).length) c', J x.p.sf] 74, Chunk.row (Kd.int .u8) 5 w0.heap.size S' (.slice A' ((x.p.b ++ y).length) c') (x.p.b ++ y), Bk gd [.map (some gm), J (({ d with fuse := decF d.fuse } : PD).most), J (d.used + (y.length : Int)), J (({ d with fuse := decF d.fuse } : PD).fuse), .bool (({ d with fuse := decF d.fuse } : PD).down)] 64]) hb222
    clear O226 hb222
    clear H219 O207
    refine V H224 (op_assign rfl (H224.ev rfl)) ?_
    intro _ H231; clear H224
    refine gE hK215 ?_
    refine wp_ret ?_
    refine gw_ret1 H231 rfl rfl ?_
    have O232 := Own.file_close (x := (⟨⟨x.p.nm, x.p.b ++ y, x.p.sf⟩, x.g, A', c', S'⟩ : XF)) (pre := pre) (post := post) (by exact O225.sel [3, 4, 2, 0, 1, 5] (by decide))
    have el_ : (pre ++ x :: post).map XF.ent = (pre ++ (⟨⟨x.p.nm, x.p.b ++ y, x.p.sf⟩, x.g, A', c', S'⟩ : XF) :: post).map XF.ent := by simp [XF.ent]
    rw [el_] at O232
    exact disk_fin (gd := gd) (gm := gm) (d' := _) (xs := pre ++ (⟨⟨x.p.nm, x.p.b ++ y, x.p.sf⟩, x.g, A', c', S'⟩ : XF) :: post) ((append_go hdn hgd (by omega)).trans (step_on hf1 hfu.1)) (by show _ = updF nm _ d.fs; rw [← hxs, upd_mid hnm hoth]; simp) (by exact O232.sel [1, 3, 2, 0] (by decide))
set_option maxHeartbeats 4000000 in
set_option maxRecDepth 100000 in
theorem sync1 (w0 w : World) (R : Chunk) (gd gm : Nat) (d : PD) (x : XF) (bf : Nat) (HO : Own w0 w [R, Bk gd [.map (some gm), .int .i64 d.most, .int .i64 d.used, .int .i64 d.fuse, .bool d.down] 64, Bk x.g [.slice x.A x.p.b.length x.c, .int .i64 x.p.sf] 74, Bk bf [.pointer (some ⟨x.g, 0, none⟩)] 71]) :
    Calls Tryz.prog 59 #[.pointer (some ⟨bf, 0, none⟩)] w fun e w' => e = .returned (.tuple #[]) ∧ Own w0 w' [R, Chunk.blk x.g (.cells #[.slice x.A (x.p.b).length x.c, .int .i64 (x.p.b.length : Int)] 74 (0, 0)), Chunk.blk gd (.cells (dcells gm d) 64 (0, 0))] := by
 refine gw_startO (N := 9) (vs := [.pointer (some ⟨bf, 0, none⟩)]) Tryz.func59 rfl rfl (by simp) fun a HF => ?_
 refine gx_draw (M := [R, Bk gd [.map (some gm), J d.most, J d.used, J d.fuse, .bool d.down] 64, Bk x.g [.slice x.A x.p.b.length x.c, J x.p.sf] 74, Bk bf [.pointer (some ⟨x.g, 0, none⟩)] 71]) (fun j_ => j_ == 8) HO (by kernel_rfl) fun w1 O2 => ?_
 clear HO
 refine gx_take 0 rfl (by kernel_rfl) HF (by exact O2.sel [0, 1, 2, 3] (by decide)) (want_none rfl) rfl (by decide) (fun wq HO => (op_load1 gwagg71 rfl (HF.ev rfl) (blk_at (HO.get 3 rfl) rfl))) ?_
 intro _ H4; clear HF
 refine gx_take 1 rfl (by kernel_rfl) H4 (by exact O2.sel [0, 1, 2, 3] (by decide)) (want_none rfl) rfl (by decide) (fun wq HO => (op_load1 gwagg71 rfl (H4.ev rfl) (blk_at (HO.get 3 rfl) rfl))) ?_
 intro _ H6; clear H4
 refine gx_take 2 rfl (by kernel_rfl) H6 (by exact O2.sel [0, 1, 2, 3] (by decide)) (want_none rfl) rfl (by decide) (fun wq HO => (op_nil rfl (H6.ev rfl))) ?_
 intro _ H8; clear H6
 refine gx_take 3 rfl (by kernel_rfl) H8 (by exact O2.sel [0, 1, 2, 3] (by decide)) (want_none rfl) rfl (by decide) (fun wq HO => (op_field (gwfld74_0 _ _) rfl (H8.ev rfl))) ?_
 intro _ H10; clear H8
 refine gx_take 4 rfl (by kernel_rfl) H10 (by exact O2.sel [0, 1, 2, 3] (by decide)) (want_none rfl) rfl (by decide) (fun wq HO => (op_load1 gwagg22 rfl (H10.ev rfl) (blk_at (HO.get 2 rfl) rfl))) ?_
 intro _ H12; clear H10
 refine gx_take 5 rfl (by kernel_rfl) H12 (by exact O2.sel [0, 1, 2, 3] (by decide)) (want_none rfl) rfl (by decide) (fun wq HO => (op_len Tryz.underlying22 rfl (H12.ev rfl))) ?_
 intro _ H14; clear H12
 refine gx_step 6 rfl (by kernel_rfl) ?_
 refine V H14 (op_nil rfl (H14.ev rfl)) ?_
 intro _ H16; clear H14
 refine gx_on (i := 6) (B := (fun j_ => j_ == 8)) (fun _ => (by exact O2.sel [0, 1, 2, 3] (by decide))) ?_
 refine gx_take 7 rfl (by kernel_rfl) H16 (by exact O2.sel [0, 1, 2, 3] (by decide)) (want_none rfl) rfl (by decide) (fun wq HO => (op_field (gwfld74_1 _ _) rfl (H16.ev rfl))) ?_
 intro _ H18; clear H16
 refine gx_step 8 rfl (by kernel_rfl) ?_
 refine gw_set 2 H18 O2 rfl (want_none rfl) rfl (op_store1 gwsiz3 rfl (H18.ev rfl) (H18.ev rfl) rfl (blk_at (O2.get 2 rfl) rfl) (blkf (O2.get 2 rfl))) ?_
 intro _ w21 H20 O22; clear H18 O2
 refine gx_on (i := 8) (B := (fun j_ => j_ == 8)) (fun h_ => by cases h_) ?_
 refine gx_done (by kernel_rfl) ?_
 refine gw_end0 H20 rfl ?_
 exact ⟨rfl, O22.sel [0, 2, 1] (by decide)⟩
set_option maxHeartbeats 4000000 in
set_option maxRecDepth 100000 in
theorem sync_calls (w0 w : World) (R : Chunk) (gd : Nat) (S : Nat → Prop) (d : PD) (nm : ByteArray) (hw : wfD d) (hn : nm.size ≤ 9223372036854775807) (HO : Own w0 w [R, Chunk.disk w0.heap.size gd S d]) :
    Calls Tryz.prog 36 #[.pointer (some ⟨gd, 0, none⟩), .string nm] w fun e w' => e = .returned (.int .i64 (syncD nm d).2) ∧ ∃ S', Own w0 w' [R, Chunk.disk w0.heap.size gd S' (syncD nm d).1] := by
 have hu0 := hw.used
 have hm0 := hw.most
 have hfu := hw.fuse
 obtain ⟨gm, xs, hxs, hon, HO⟩ := disk_open2 HO
 refine gw_startO (N := 19) (vs := [.pointer (some ⟨gd, 0, none⟩), .string nm]) Tryz.func36 rfl rfl (by simp) fun a HF => ?_
 rcases look3 nm d hxs hon with hdn | ⟨hdn, hl, hgd, hno⟩ | ⟨hdn, pre, x, post, rfl, hnm, hl, hgd, hoth⟩
 ·
  refine gR fun K1 hK1 => ?_
  refine V HF (op_assign rfl (ev_c _ _)) ?_
  intro _ H3; clear HF
  refine gE hK1 ?_
  refine gR fun K4 hK4 => ?_
  refine V H3 (op_move rfl (H3.ev rfl)) ?_
  intro _ H6; clear H3
  refine V H6 (op_move rfl (H6.ev rfl)) ?_
  intro _ H8; clear H6
  refine gw_call H8 (want_none rfl) rfl (by decide) (op_callL Tryz.func29 (by kernel_rfl) rfl rfl (ar_cons (H8.ev rfl) (ar_cons (H8.ev rfl) ar_nil))) (find_down gd gm d nm (xs.map XF.ent) _ (by exact HO.get 1 rfl) (HO.get 2 rfl) hdn hn) ?_
  rintro e9 w10 ⟨rfl, hb11⟩
  refine ⟨_, rfl, fun _ H13 => ?_⟩
  have O14 := HO.after hb11
  clear H8 HO hb11
  refine V H13 (op_move rfl (H13.ev rfl)) ?_
  intro _ H17; clear H13
  refine V H17 (op_extract rfl (H17.ev rfl) rfl) ?_
  intro _ H19; clear H17
  refine V H19 (op_extract rfl (H19.ev rfl) rfl) ?_
  intro _ H21; clear H19
  refine gw_new H21 O14 (want_none rfl) rfl (by decide) (op_alloc gwzer71 rfl) ?_
  intro g22 _ w24 H25 O26; clear H21 O14
  have O27 : Own w0 w24 [Bk g22 [.pointer none] 71, R, Bk gd [.map (some gm), J d.most, J d.used, J d.fuse, .bool d.down] 64, Chunk.lmap Tryz.prog 9 gm (xs.map XF.ent), Chunk.files w0.heap.size xs] := O26
  clear O26
  refine gw_set 0 H25 O27 rfl (want_none rfl) rfl (op_store1 gwsiz71 rfl (H25.ev rfl) (H25.ev rfl) rfl (blk_at (O27.get 0 rfl) rfl) (blkf (O27.get 0 rfl))) ?_
  intro _ w30 H29 O31; clear H25 O27
  refine V H29 (op_assign rfl (H29.ev rfl)) ?_
  intro _ H33; clear H29
  refine gE hK4 ?_
  refine gw_seq fun K34 hK34 => ?_
  refine gR fun K35 hK35 => ?_
  refine V H33 (op_move rfl (H33.ev rfl)) ?_
  intro _ H37; clear H33
  refine V H37 (op_nei rfl (H37.ev rfl) (ev_c _ _)) ?_
  intro _ H39; clear H37
  have H40 := H39.lit (b := true) (by decide)
  clear H39
  refine gE hK35 ?_
  refine gw_cond H40 rfl (fun hb41 => ?_) (fun hb41 => ?_)
  rotate_left
  ·
   cases hb41
  refine gR fun K42 hK42 => ?_
  refine V H40 (op_move rfl (H40.ev rfl)) ?_
  intro _ H44; clear H40
  refine V H44 (op_assign rfl (H44.ev rfl)) ?_
  intro _ H46; clear H44
  refine gE hK42 ?_
  refine wp_ret ?_
  refine gw_thr ?_
  refine gw_ret1 H46 rfl rfl ?_
  exact disk_fin (gd := gd) (gm := gm) (d' := d) (xs := xs) (with_down hdn) hxs (by exact O31.sel [1, 2, 3, 4] (by decide))
 ·
  refine gR fun K47 hK47 => ?_
  refine V HF (op_assign rfl (ev_c _ _)) ?_
  intro _ H49; clear HF
  refine gE hK47 ?_
  refine gR fun K50 hK50 => ?_
  refine V H49 (op_move rfl (H49.ev rfl)) ?_
  intro _ H52; clear H49
  refine V H52 (op_move rfl (H52.ev rfl)) ?_
  intro _ H54; clear H52
  refine gw_call H54 (want_none rfl) rfl (by decide) (op_callL Tryz.func29 (by kernel_rfl) rfl rfl (ar_cons (H54.ev rfl) (ar_cons (H54.ev rfl) ar_nil))) (find_none gd gm d nm (xs.map XF.ent) _ (by exact HO.get 1 rfl) (HO.get 2 rfl) hdn hl hn) ?_
  rintro e55 w56 ⟨rfl, hb57⟩
  refine ⟨_, rfl, fun _ H59 => ?_⟩
  have O60 := HO.after hb57
  clear H54 HO hb57
  refine V H59 (op_move rfl (H59.ev rfl)) ?_
  intro _ H63; clear H59
  refine V H63 (op_extract rfl (H63.ev rfl) rfl) ?_
  intro _ H65; clear H63
  refine V H65 (op_extract rfl (H65.ev rfl) rfl) ?_
  intro _ H67; clear H65
  refine gw_new H67 O60 (want_none rfl) rfl (by decide) (op_alloc gwzer71 rfl) ?_
  intro g68 _ w70 H71 O72; clear H67 O60
  have O73 : Own w0 w70 [Bk g68 [.pointer none] 71, R, Bk gd [.map (some gm), J d.most, J d.used, J d.fuse, .bool d.down] 64, Chunk.lmap Tryz.prog 9 gm (xs.map XF.ent), Chunk.files w0.heap.size xs] := O72
  clear O72
  refine gw_set 0 H71 O73 rfl (want_none rfl) rfl (op_store1 gwsiz71 rfl (H71.ev rfl) (H71.ev rfl) rfl (blk_at (O73.get 0 rfl) rfl) (blkf (O73.get 0 rfl))) ?_
  intro _ w76 H75 O77; clear H71 O73
  refine V H75 (op_assign rfl (H75.ev rfl)) ?_
  intro _ H79; clear H75
  refine gE hK50 ?_
  refine gw_seq fun K80 hK80 => ?_
  refine gR fun K81 hK81 => ?_
  refine V H79 (op_move rfl (H79.ev rfl)) ?_
  intro _ H83; clear H79
  refine V H83 (op_nei rfl (H83.ev rfl) (ev_c _ _)) ?_
  intro _ H85; clear H83
  have H86 := H85.lit (b := true) (by decide)
  clear H85
  refine gE hK81 ?_
  refine gw_cond H86 rfl (fun hb87 => ?_) (fun hb87 => ?_)
  rotate_left
  ·
   cases hb87
  refine gR fun K88 hK88 => ?_
  refine V H86 (op_move rfl (H86.ev rfl)) ?_
  intro _ H90; clear H86
  refine V H90 (op_assign rfl (H90.ev rfl)) ?_
  intro _ H92; clear H90
  refine gE hK88 ?_
  refine wp_ret ?_
  refine gw_thr ?_
  refine gw_ret1 H92 rfl rfl ?_
  exact disk_fin (gd := gd) (gm := gm) (d' := d) (xs := xs) (with_none hdn hgd) hxs (by exact O77.sel [1, 2, 3, 4] (by decide))
 ·
  have HO := Own.sel (Own.file_open (Own.sel HO [3, 0, 1, 2] (by decide))) [3, 4, 5, 0, 1, 2] (by decide)
  have hxl := wf_len hw (getF_mem hgd).1
  have hxs1 := hw.sf _ (getF_mem hgd).1
  have O93 : Own w0 w [R, Bk gd [.map (some gm), J d.most, J d.used, J d.fuse, .bool d.down] 64, Chunk.lmap Tryz.prog 9 gm ((pre ++ x :: post).map XF.ent), Bk x.g [.slice x.A x.p.b.length x.c, J x.p.sf] 74, Chunk.row (Kd.int .u8) 5 w0.heap.size x.S (.slice x.A x.p.b.length x.c) x.p.b, Chunk.files w0.heap.size (pre ++ post)] := HO
  clear HO
  refine gR fun K94 hK94 => ?_
  refine V HF (op_assign rfl (ev_c _ _)) ?_
  intro _ H96; clear HF
  refine gE hK94 ?_
  refine gR fun K97 hK97 => ?_
  refine V H96 (op_move rfl (H96.ev rfl)) ?_
  intro _ H99; clear H96
  refine V H99 (op_move rfl (H99.ev rfl)) ?_
  intro _ H101; clear H99
  refine gw_call H101 (want_none rfl) rfl (by decide) (op_callL Tryz.func29 (by kernel_rfl) rfl rfl (ar_cons (H101.ev rfl) (ar_cons (H101.ev rfl) ar_nil))) (find_some gd gm d nm ((pre ++ x :: post).map XF.ent) x.g _ (by exact O93.get 1 rfl) (O93.get 2 rfl) hdn hl hn) ?_
  rintro e102 w103 ⟨rfl, hb104⟩
  refine ⟨_, rfl, fun _ H106 => ?_⟩
  have O107 := O93.after hb104
  clear H101 O93 hb104
  refine V H106 (op_move rfl (H106.ev rfl)) ?_
  intro _ H110; clear H106
  refine V H110 (op_extract rfl (H110.ev rfl) rfl) ?_
  intro _ H112; clear H110
  refine V H112 (op_extract rfl (H112.ev rfl) rfl) ?_
  intro _ H114; clear H112
  refine gw_new H114 O107 (want_none rfl) rfl (by decide) (op_alloc gwzer71 rfl) ?_
  intro g115 _ w117 H118 O119; clear H114 O107
  have O120 : Own w0 w117 [Bk g115 [.pointer none] 71, R, Bk gd [.map (some gm), J d.most, J d.used, J d.fuse, .bool d.down] 64, Chunk.lmap Tryz.prog 9 gm ((pre ++ x :: post).map XF.ent), Bk x.g [.slice x.A x.p.b.length x.c, J x.p.sf] 74, Chunk.row (Kd.int .u8) 5 w0.heap.size x.S (.slice x.A x.p.b.length x.c) x.p.b, Chunk.files w0.heap.size (pre ++ post)] := O119
  clear O119
  refine gw_set 0 H118 O120 rfl (want_none rfl) rfl (op_store1 gwsiz71 rfl (H118.ev rfl) (H118.ev rfl) rfl (blk_at (O120.get 0 rfl) rfl) (blkf (O120.get 0 rfl))) ?_
  intro _ w123 H122 O124; clear H118 O120
  refine V H122 (op_assign rfl (H122.ev rfl)) ?_
  intro _ H126; clear H122
  refine gE hK97 ?_
  refine gw_seq fun K127 hK127 => ?_
  refine gR fun K128 hK128 => ?_
  refine V H126 (op_move rfl (H126.ev rfl)) ?_
  intro _ H130; clear H126
  refine V H130 (op_nei rfl (H130.ev rfl) (ev_c _ _)) ?_
  intro _ H132; clear H130
  have H133 := H132.lit (b := false) (by decide)
  clear H132
  refine gE hK128 ?_
  refine gw_cond H133 rfl (fun hb134 => ?_) (fun hb134 => ?_)
  skip
  ·
   cases hb134
  refine wp_skip ?_
  refine gw_nx (hK127 _ _ ?_)
  refine gR fun K135 hK135 => ?_
  refine V H133 (op_move rfl (H133.ev rfl)) ?_
  intro _ H137; clear H133
  refine V H137 (op_func rfl (ar_cons (H137.ev rfl) ar_nil)) ?_
  intro _ H139; clear H137
  have O146 : Own w0 _ [(Chunk.all [Bk g115 [.pointer (some ⟨x.g, 0, none⟩)] 71, R, Chunk.lmap Tryz.prog 9 gm ((pre ++ x :: post).map XF.ent), Bk x.g [.slice x.A x.p.b.length x.c, J x.p.sf] 74, Chunk.row (Kd.int .u8) 5 w0.heap.size x.S (.slice x.A x.p.b.length x.c) x.p.b, Chunk.files w0.heap.size (pre ++ post)]), Bk gd [.map (some gm), J d.most, J d.used, J d.fuse, .bool d.down] 64] := Own.bundle (O124.sel [0, 1, 3, 4, 5, 6, 2] (by decide))
  refine gw_call H139 (want_none rfl) rfl (by decide) (op_callL Tryz.func27 (by kernel_rfl) rfl rfl (ar_cons (H139.ev rfl) (ar_cons (H139.ev rfl) ar_nil))) (step_calls w0 _ (Chunk.all [Bk g115 [.pointer (some ⟨x.g, 0, none⟩)] 71, R, Chunk.lmap Tryz.prog 9 gm ((pre ++ x :: post).map XF.ent), Bk x.g [.slice x.A x.p.b.length x.c, J x.p.sf] 74, Chunk.row (Kd.int .u8) 5 w0.heap.size x.S (.slice x.A x.p.b.length x.c) x.p.b, Chunk.files w0.heap.size (pre ++ post)]) gd gm d 59 _ [.pointer (some ⟨g115, 0, none⟩)] (fun w_ => Own w0 w_ [(Chunk.all [R, Chunk.lmap Tryz.prog 9 gm ((pre ++ x :: post).map XF.ent), Chunk.row (Kd.int .u8) 5 w0.heap.size x.S (.slice x.A x.p.b.length x.c) x.p.b, Chunk.files w0.heap.size (pre ++ post)]), Bk x.g [.slice x.A x.p.b.length x.c, J (x.p.b.length : Int)] 74, Bk gd [.map (some gm), J (({ d with fuse := decF d.fuse } : PD).most), J (({ d with fuse := decF d.fuse } : PD).used), J (({ d with fuse := decF d.fuse } : PD).fuse), .bool (({ d with fuse := decF d.fuse } : PD).down)] 64]) Tryz.func59 (by kernel_rfl) rfl hfu (fun hf1 w1 h_ => sync1 w0 w1 (Chunk.all [R, Chunk.lmap Tryz.prog 9 gm ((pre ++ x :: post).map XF.ent), Chunk.row (Kd.int .u8) 5 w0.heap.size x.S (.slice x.A x.p.b.length x.c) x.p.b, Chunk.files w0.heap.size (pre ++ post)]) gd gm ({ d with fuse := decF d.fuse } : PD) x g115 (Own.bundle (A := [R, Chunk.lmap Tryz.prog 9 gm ((pre ++ x :: post).map XF.ent), Chunk.row (Kd.int .u8) 5 w0.heap.size x.S (.slice x.A x.p.b.length x.c) x.p.b, Chunk.files w0.heap.size (pre ++ post)]) (L := [Bk gd [.map (some gm), J (({ d with fuse := decF d.fuse } : PD).most), J (({ d with fuse := decF d.fuse } : PD).used), J (({ d with fuse := decF d.fuse } : PD).fuse), .bool (({ d with fuse := decF d.fuse } : PD).down)] 64, Bk x.g [.slice x.A x.p.b.length x.c, J x.p.sf] 74, Bk g115 [.pointer (some ⟨x.g, 0, none⟩)] 71]) ((Own.unbundle (A := [Bk g115 [.pointer (some ⟨x.g, 0, none⟩)] 71, R, Chunk.lmap Tryz.prog 9 gm ((pre ++ x :: post).map XF.ent), Bk x.g [.slice x.A x.p.b.length x.c, J x.p.sf] 74, Chunk.row (Kd.int .u8) 5 w0.heap.size x.S (.slice x.A x.p.b.length x.c) x.p.b, Chunk.files w0.heap.size (pre ++ post)]) (L := [Bk gd [.map (some gm), J (({ d with fuse := decF d.fuse } : PD).most), J (({ d with fuse := decF d.fuse } : PD).used), J (({ d with fuse := decF d.fuse } : PD).fuse), .bool (({ d with fuse := decF d.fuse } : PD).down)] 64]) (by exact h_)).sel [1, 2, 4, 5, 6, 3, 0] (by decide)))) (by exact O146)) ?_
  rintro e140 w141 (⟨hf1, rfl, hb142⟩ | ⟨hf1, rfl, hb142⟩)
  ·
   refine ⟨_, rfl, fun _ H144 => ?_⟩
   have O145 : Own w0 w141 [Bk g115 [.pointer (some ⟨x.g, 0, none⟩)] 71, R, Chunk.lmap Tryz.prog 9 gm ((pre ++ x :: post).map XF.ent), Bk x.g [.slice x.A x.p.b.length x.c, J x.p.sf] 74, Chunk.row (Kd.int .u8) 5 w0.heap.size x.S (.slice x.A x.p.b.length x.c) x.p.b, Chunk.files w0.heap.size (pre ++ post), Bk gd [.map (some gm), J d.most, J d.used, J 0, .bool true] 64] := Own.unbundle (A := [Bk g115 [.pointer (some ⟨x.g, 0, none⟩)] 71, R, Chunk.lmap Tryz.prog 9 gm ((pre ++ x :: post).map XF.ent), Bk x.g [.slice x.A x.p.b.length x.c, J x.p.sf] 74, Chunk.row (Kd.int .u8) 5 w0.heap.size x.S (.slice x.A x.p.b.length x.c) x.p.b, Chunk.files w0.heap.size (pre ++ post)]) (L := [Bk gd [.map (some gm), J d.most, J d.used, J 0, .bool true] 64]) (by exact hb142)
   clear O146 hb142
   clear H139 O124
   refine V H144 (op_assign rfl (H144.ev rfl)) ?_
   intro _ H148; clear H144
   refine gE hK135 ?_
   refine wp_ret ?_
   refine gw_ret1 H148 rfl rfl ?_
   have O149 := Own.file_close (x := x) (pre := pre) (post := post) (by exact O145.sel [3, 4, 5, 0, 1, 2, 6] (by decide))
   exact disk_fin (gd := gd) (gm := gm) (d' := { d with fuse := 0, down := true }) (xs := pre ++ x :: post) ((sync_go hdn hgd).trans (step_off hf1)) hxs (by exact O149.sel [2, 4, 3, 0] (by decide))
  ·
   refine ⟨_, rfl, fun _ H144 => ?_⟩
   have O145 : Own w0 w141 [R, Chunk.lmap Tryz.prog 9 gm ((pre ++ x :: post).map XF.ent), Chunk.row (Kd.int .u8) 5 w0.heap.size x.S (.slice x.A x.p.b.length x.c) x.p.b, Chunk.files w0.heap.size (pre ++ post), Bk x.g [.slice x.A x.p.b.length x.c, J (x.p.b.length : Int)] 74, Bk gd [.map (some gm), J (({ d with fuse := decF d.fuse } : PD).most), J (({ d with fuse := decF d.fuse } : PD).used), J (({ d with fuse := decF d.fuse } : PD).fuse), .bool (({ d with fuse := decF d.fuse } : PD).down)] 64] := Own.unbundle (A := [R, Chunk.lmap Tryz.prog 9 gm ((pre ++ x :: post).map XF.ent), Chunk.row (Kd.int .u8) 5 w0.heap.size x.S (.slice x.A x.p.b.length x.c) x.p.b, Chunk.files w0.heap.size (pre ++ post)]) (L := [Bk x.g [.slice x.A x.p.b.length x.c, J (x.p.b.length : Int)] 74, Bk gd [.map (some gm), J (({ d with fuse := decF d.fuse } : PD).most), J (({ d with fuse := decF d.fuse } : PD).used), J (({ d with fuse := decF d.fuse } : PD).fuse), .bool (({ d with fuse := decF d.fuse } : PD).down)] 64]) hb142
   clear O146 hb142
   clear H139 O124
   refine V H144 (op_assign rfl (H144.ev rfl)) ?_
   intro _ H151; clear H144
   refine gE hK135 ?_
   refine wp_ret ?_
   refine gw_ret1 H151 rfl rfl ?_
   have O152 := Own.file_close (x := (⟨⟨x.p.nm, x.p.b, (x.p.b.length : Int)⟩, x.g, x.A, x.c, x.S⟩ : XF)) (pre := pre) (post := post) (by exact O145.sel [4, 2, 3, 0, 1, 5] (by decide))
   have el_ : (pre ++ x :: post).map XF.ent = (pre ++ (⟨⟨x.p.nm, x.p.b, (x.p.b.length : Int)⟩, x.g, x.A, x.c, x.S⟩ : XF) :: post).map XF.ent := by simp [XF.ent]
   rw [el_] at O152
   exact disk_fin (gd := gd) (gm := gm) (d' := _) (xs := pre ++ (⟨⟨x.p.nm, x.p.b, (x.p.b.length : Int)⟩, x.g, x.A, x.c, x.S⟩ : XF) :: post) ((sync_go hdn hgd).trans (step_on hf1 hfu.1)) (by show _ = updF nm _ d.fs; rw [← hxs, upd_mid hnm hoth]; simp) (by exact O152.sel [1, 3, 2, 0] (by decide))
end GVfs2_
export GVfs2_ (append1 append_calls sync1 sync_calls)
end Go.Proofs.YtkdahjnmldeklaaGreat.PA
end
section
namespace Go.Proofs.YtkdahjnmldeklaaGreat.PA
open Go.RowKit Go.Proofs.YtkdahjnmldeklaaGreatW.PrintWords Go.Proofs.YtkdahjnmldeklaaGreatW.PrintLast Go.Proofs.YtkdahjnmldeklaaGreatW.PrintMore
set_option linter.unusedVariables false
set_option linter.unusedSimpArgs false
namespace GVfs3_
theorem gwagg22 : ∀ w, (isAgg 22).run Tryz.prog w = .ok false w := fun _ => by kernel_rfl
theorem gwagg23 : ∀ w, (isAgg 23).run Tryz.prog w = .ok false w := fun _ => by kernel_rfl
theorem gwagg3 : ∀ w, (isAgg 3).run Tryz.prog w = .ok false w := fun _ => by kernel_rfl
theorem gwagg71 : ∀ w, (isAgg 71).run Tryz.prog w = .ok false w := fun _ => by kernel_rfl
theorem gwfld64_2 (g off : Nat) : ∀ w, (Instr.fieldAt 64 (.pointer (some ⟨g, off, none⟩)) 2).run Tryz.prog w = .ok (.pointer (some ⟨g, off + 2, none⟩)) w := fun _ => by kernel_rfl
theorem gwfld74_0 (g off : Nat) : ∀ w, (Instr.fieldAt 74 (.pointer (some ⟨g, off, none⟩)) 0).run Tryz.prog w = .ok (.pointer (some ⟨g, off + 0, none⟩)) w := fun _ => by kernel_rfl
theorem gwfld74_1 (g off : Nat) : ∀ w, (Instr.fieldAt 74 (.pointer (some ⟨g, off, none⟩)) 1).run Tryz.prog w = .ok (.pointer (some ⟨g, off + 1, none⟩)) w := fun _ => by kernel_rfl
theorem gwsiz22 : ∀ w, (sizeOf 22).run Tryz.prog w = .ok 1 w := fun _ => by kernel_rfl
theorem gwsiz3 : ∀ w, (sizeOf 3).run Tryz.prog w = .ok 1 w := fun _ => by kernel_rfl
theorem gwsiz5 : ∀ w, (sizeOf 5).run Tryz.prog w = .ok 1 w := fun _ => by kernel_rfl
theorem gwsiz71 : ∀ w, (sizeOf 71).run Tryz.prog w = .ok 1 w := fun _ => by kernel_rfl
theorem gwzer71 : ∀ w, (zeroValue 71).run Tryz.prog w = .ok (.pointer none) w := fun _ => by kernel_rfl
set_option maxHeartbeats 4000000 in
set_option maxRecDepth 100000 in
theorem cut1 (w0 w : World) (R : Chunk) (gd gm : Nat) (d : PD) (x : XF) (bd bf bk : Nat) (n : Int) (hn0 : 0 ≤ n ∧ n ≤ x.p.b.length) (hu : 0 ≤ d.used ∧ d.used ≤ 9223372036854775807) (hub : (x.p.b.length : Int) ≤ d.used) (HO : Own w0 w [R, Bk gd [.map (some gm), .int .i64 d.most, .int .i64 d.used, .int .i64 d.fuse, .bool d.down] 64, Bk x.g [.slice x.A x.p.b.length x.c, .int .i64 x.p.sf] 74, Chunk.row (Kd.int .u8) 5 w0.heap.size x.S (.slice x.A x.p.b.length x.c) x.p.b, Bk bd [.pointer (some ⟨gd, 0, none⟩)] 23, Bk bf [.pointer (some ⟨x.g, 0, none⟩)] 71, Bk bk [.int .i64 n] 3]) :
    Calls Tryz.prog 58 #[.pointer (some ⟨bd, 0, none⟩), .pointer (some ⟨bf, 0, none⟩), .pointer (some ⟨bk, 0, none⟩)] w fun e w' => e = .returned (.tuple #[]) ∧ Own w0 w' [R, Chunk.blk x.g (.cells #[.slice x.A (x.p.b.take n.toNat).length x.c, .int .i64 (mn x.p.sf n)] 74 (0, 0)), Chunk.row (Kd.int .u8) 5 w0.heap.size x.S (.slice x.A (x.p.b.take n.toNat).length x.c) (x.p.b.take n.toNat), Chunk.blk gd (.cells (dcells gm { d with used := d.used - ((x.p.b.length : Int) - n) }) 64 (0, 0))] := by
 refine gw_startO (N := 35) (vs := [.pointer (some ⟨bd, 0, none⟩), .pointer (some ⟨bf, 0, none⟩), .pointer (some ⟨bk, 0, none⟩)]) Tryz.func58 rfl rfl (by simp) fun a HF => ?_
 refine gw_seq fun K1 hK1 => ?_
 refine gx_draw (M := [R, Bk gd [.map (some gm), J d.most, J d.used, J d.fuse, .bool d.down] 64, Bk x.g [.slice x.A x.p.b.length x.c, J x.p.sf] 74, Chunk.row (Kd.int .u8) 5 w0.heap.size x.S (.slice x.A x.p.b.length x.c) x.p.b, Bk bd [.pointer (some ⟨gd, 0, none⟩)] 23, Bk bf [.pointer (some ⟨x.g, 0, none⟩)] 71, Bk bk [J n] 3]) (fun j_ => j_ == 14) HO (by kernel_rfl) fun w2 O3 => ?_
 clear HO
 refine gx_take 0 rfl (by kernel_rfl) HF (by exact O3.sel [0, 1, 2, 3, 4, 5, 6] (by decide)) (want_none rfl) rfl (by decide) (fun wq HO => (op_load1 gwagg23 rfl (HF.ev rfl) (blk_at (HO.get 4 rfl) rfl))) ?_
 intro _ H5; clear HF
 refine gx_take 1 rfl (by kernel_rfl) H5 (by exact O3.sel [0, 1, 2, 3, 4, 5, 6] (by decide)) (want_none rfl) rfl (by decide) (fun wq HO => (op_nil rfl (H5.ev rfl))) ?_
 intro _ H7; clear H5
 refine gx_take 2 rfl (by kernel_rfl) H7 (by exact O3.sel [0, 1, 2, 3, 4, 5, 6] (by decide)) (want_none rfl) rfl (by decide) (fun wq HO => (op_field (gwfld64_2 _ _) rfl (H7.ev rfl))) ?_
 intro _ H9; clear H7
 refine gx_take 3 rfl (by kernel_rfl) H9 (by exact O3.sel [0, 1, 2, 3, 4, 5, 6] (by decide)) (want_none rfl) rfl (by decide) (fun wq HO => (op_load1 gwagg3 rfl (H9.ev rfl) (blk_at (HO.get 1 rfl) rfl))) ?_
 intro _ H11; clear H9
 refine gx_take 4 rfl (by kernel_rfl) H11 (by exact O3.sel [0, 1, 2, 3, 4, 5, 6] (by decide)) (want_none rfl) rfl (by decide) (fun wq HO => (op_load1 gwagg71 rfl (H11.ev rfl) (blk_at (HO.get 5 rfl) rfl))) ?_
 intro _ H13; clear H11
 refine gx_take 5 rfl (by kernel_rfl) H13 (by exact O3.sel [0, 1, 2, 3, 4, 5, 6] (by decide)) (want_none rfl) rfl (by decide) (fun wq HO => (op_nil rfl (H13.ev rfl))) ?_
 intro _ H15; clear H13
 refine gx_take 6 rfl (by kernel_rfl) H15 (by exact O3.sel [0, 1, 2, 3, 4, 5, 6] (by decide)) (want_none rfl) rfl (by decide) (fun wq HO => (op_field (gwfld74_0 _ _) rfl (H15.ev rfl))) ?_
 intro _ H17; clear H15
 refine gx_take 7 rfl (by kernel_rfl) H17 (by exact O3.sel [0, 1, 2, 3, 4, 5, 6] (by decide)) (want_none rfl) rfl (by decide) (fun wq HO => (op_load1 gwagg22 rfl (H17.ev rfl) (blk_at (HO.get 2 rfl) rfl))) ?_
 intro _ H19; clear H17
 refine gx_take 8 rfl (by kernel_rfl) H19 (by exact O3.sel [0, 1, 2, 3, 4, 5, 6] (by decide)) (want_none rfl) rfl (by decide) (fun wq HO => (op_len Tryz.underlying22 rfl (H19.ev rfl))) ?_
 intro _ H21; clear H19
 refine gx_take 9 rfl (by kernel_rfl) H21 (by exact O3.sel [0, 1, 2, 3, 4, 5, 6] (by decide)) (want_none rfl) rfl (by decide) (fun wq HO => (op_load1 gwagg3 rfl (H21.ev rfl) (blk_at (HO.get 6 rfl) rfl))) ?_
 intro _ H23; clear H21
 refine gx_take 10 rfl (by kernel_rfl) H23 (by exact O3.sel [0, 1, 2, 3, 4, 5, 6] (by decide)) (want_none rfl) rfl (by decide) (fun wq HO => (op_sub rfl (H23.ev rfl) (H23.ev rfl) (by omega))) ?_
 intro _ H25; clear H23
 refine gx_take 11 rfl (by kernel_rfl) H25 (by exact O3.sel [0, 1, 2, 3, 4, 5, 6] (by decide)) (want_none rfl) rfl (by decide) (fun wq HO => (op_sub rfl (H25.ev rfl) (H25.ev rfl) (by omega))) ?_
 intro _ H27; clear H25
 refine gx_step 12 rfl (by kernel_rfl) ?_
 refine V H27 (op_nil rfl (H27.ev rfl)) ?_
 intro _ H29; clear H27
 refine gx_on (i := 12) (B := (fun j_ => j_ == 14)) (fun _ => (by exact O3.sel [0, 1, 2, 3, 4, 5, 6] (by decide))) ?_
 refine gx_take 13 rfl (by kernel_rfl) H29 (by exact O3.sel [0, 1, 2, 3, 4, 5, 6] (by decide)) (want_none rfl) rfl (by decide) (fun wq HO => (op_field (gwfld64_2 _ _) rfl (H29.ev rfl))) ?_
 intro _ H31; clear H29
 refine gx_step 14 rfl (by kernel_rfl) ?_
 refine gw_set 1 H31 O3 rfl (want_none rfl) rfl (op_store1 gwsiz3 rfl (H31.ev rfl) (H31.ev rfl) rfl (blk_at (O3.get 1 rfl) rfl) (blkf (O3.get 1 rfl))) ?_
 intro _ w34 H33 O35; clear H31 O3
 refine gx_on (i := 14) (B := (fun j_ => j_ == 14)) (fun h_ => by cases h_) ?_
 refine gx_done (by kernel_rfl) ?_
 refine gw_nx (hK1 _ _ ?_)
 refine gw_seq fun K36 hK36 => ?_
 refine gx_draw (M := [R, Bk gd [.map (some gm), J d.most, J (d.used - ((x.p.b.length : Int) - n)), J d.fuse, .bool d.down] 64, Bk x.g [.slice x.A x.p.b.length x.c, J x.p.sf] 74, Chunk.row (Kd.int .u8) 5 w0.heap.size x.S (.slice x.A x.p.b.length x.c) x.p.b, Bk bd [.pointer (some ⟨gd, 0, none⟩)] 23, Bk bf [.pointer (some ⟨x.g, 0, none⟩)] 71, Bk bk [J n] 3]) (fun j_ => j_ == 9) O35 (by kernel_rfl) fun w37 O38 => ?_
 clear O35
 refine gx_take 0 rfl (by kernel_rfl) H33 (by exact O38.sel [0, 1, 2, 3, 4, 5, 6] (by decide)) (want_none rfl) rfl (by decide) (fun wq HO => (op_load1 gwagg71 rfl (H33.ev rfl) (blk_at (HO.get 5 rfl) rfl))) ?_
 intro _ H40; clear H33
 refine gx_take 1 rfl (by kernel_rfl) H40 (by exact O38.sel [0, 1, 2, 3, 4, 5, 6] (by decide)) (want_none rfl) rfl (by decide) (fun wq HO => (op_load1 gwagg71 rfl (H40.ev rfl) (blk_at (HO.get 5 rfl) rfl))) ?_
 intro _ H42; clear H40
 refine gx_take 2 rfl (by kernel_rfl) H42 (by exact O38.sel [0, 1, 2, 3, 4, 5, 6] (by decide)) (want_none rfl) rfl (by decide) (fun wq HO => (op_nil rfl (H42.ev rfl))) ?_
 intro _ H44; clear H42
 refine gx_take 3 rfl (by kernel_rfl) H44 (by exact O38.sel [0, 1, 2, 3, 4, 5, 6] (by decide)) (want_none rfl) rfl (by decide) (fun wq HO => (op_field (gwfld74_0 _ _) rfl (H44.ev rfl))) ?_
 intro _ H46; clear H44
 refine gx_take 4 rfl (by kernel_rfl) H46 (by exact O38.sel [0, 1, 2, 3, 4, 5, 6] (by decide)) (want_none rfl) rfl (by decide) (fun wq HO => (op_load1 gwagg22 rfl (H46.ev rfl) (blk_at (HO.get 2 rfl) rfl))) ?_
 intro _ H48; clear H46
 refine gx_take 5 rfl (by kernel_rfl) H48 (by exact O38.sel [0, 1, 2, 3, 4, 5, 6] (by decide)) (want_none rfl) rfl (by decide) (fun wq HO => (op_load1 gwagg3 rfl (H48.ev rfl) (blk_at (HO.get 6 rfl) rfl))) ?_
 intro _ H50; clear H48
 obtain ⟨hr51, hc52, hC53⟩ := cut_hi (P := Tryz.prog) (d := (Kd.int .u8)) (t := 22) (e := 5) Tryz.underlying22 gwsiz5 x.A x.c x.p.b (row_cap (O38.get 3 rfl)) n (by omega) (by omega)
 refine gx_take 6 rfl (by kernel_rfl) H50 (by exact O38.sel [0, 1, 2, 3, 4, 5, 6] (by decide)) (want_none rfl) rfl (by decide) (fun wq HO => (op_cut Tryz.underlying22 hr51 rfl (H50.ev rfl) rfl (some_ev (H50.ev rfl)))) ?_
 intro _ H55; clear H50
 refine gx_step 7 rfl (by kernel_rfl) ?_
 refine V H55 (op_nil rfl (H55.ev rfl)) ?_
 intro _ H57; clear H55
 refine gx_on (i := 7) (B := (fun j_ => j_ == 9)) (fun _ => (by exact O38.sel [0, 1, 2, 3, 4, 5, 6] (by decide))) ?_
 refine gx_take 8 rfl (by kernel_rfl) H57 (by exact O38.sel [0, 1, 2, 3, 4, 5, 6] (by decide)) (want_none rfl) rfl (by decide) (fun wq HO => (op_field (gwfld74_0 _ _) rfl (H57.ev rfl))) ?_
 intro _ H59; clear H57
 refine gx_step 9 rfl (by kernel_rfl) ?_
 refine gw_set 2 H59 O38 rfl (want_none rfl) rfl (op_store1 gwsiz22 rfl (H59.ev rfl) (H59.ev rfl) rfl (blk_at (O38.get 2 rfl) rfl) (blkf (O38.get 2 rfl))) ?_
 intro _ w62 H61 O63; clear H59 O38
 refine gx_on (i := 9) (B := (fun j_ => j_ == 9)) (fun h_ => by cases h_) ?_
 refine gx_done (by kernel_rfl) ?_
 have O64 := O63.row_takeL 3 rfl n.toNat (by omega)
 clear O63
 have O65 : Own w0 w62 [R, Bk gd [.map (some gm), J d.most, J (d.used - ((x.p.b.length : Int) - n)), J d.fuse, .bool d.down] 64, Bk x.g [.slice x.A ((x.p.b.take n.toNat).length) x.c, J x.p.sf] 74, Chunk.row (Kd.int .u8) 5 w0.heap.size x.S (.slice x.A ((x.p.b.take n.toNat).length) x.c) (x.p.b.take n.toNat), Bk bd [.pointer (some ⟨gd, 0, none⟩)] 23, Bk bf [.pointer (some ⟨x.g, 0, none⟩)] 71, Bk bk [J n] 3] := O64
 clear O64
 refine gw_nx (hK36 _ _ ?_)
 refine gx_draw (M := [R, Bk gd [.map (some gm), J d.most, J (d.used - ((x.p.b.length : Int) - n)), J d.fuse, .bool d.down] 64, Bk x.g [.slice x.A ((x.p.b.take n.toNat).length) x.c, J x.p.sf] 74, Chunk.row (Kd.int .u8) 5 w0.heap.size x.S (.slice x.A ((x.p.b.take n.toNat).length) x.c) (x.p.b.take n.toNat), Bk bd [.pointer (some ⟨gd, 0, none⟩)] 23, Bk bf [.pointer (some ⟨x.g, 0, none⟩)] 71, Bk bk [J n] 3]) (fun j_ => j_ == 9) O65 (by kernel_rfl) fun w66 O67 => ?_
 clear O65
 refine gx_take 0 rfl (by kernel_rfl) H61 (by exact O67.sel [0, 1, 2, 3, 4, 5, 6] (by decide)) (want_none rfl) rfl (by decide) (fun wq HO => (op_load1 gwagg71 rfl (H61.ev rfl) (blk_at (HO.get 5 rfl) rfl))) ?_
 intro _ H69; clear H61
 refine gx_take 1 rfl (by kernel_rfl) H69 (by exact O67.sel [0, 1, 2, 3, 4, 5, 6] (by decide)) (want_none rfl) rfl (by decide) (fun wq HO => (op_load1 gwagg71 rfl (H69.ev rfl) (blk_at (HO.get 5 rfl) rfl))) ?_
 intro _ H71; clear H69
 refine gx_take 2 rfl (by kernel_rfl) H71 (by exact O67.sel [0, 1, 2, 3, 4, 5, 6] (by decide)) (want_none rfl) rfl (by decide) (fun wq HO => (op_nil rfl (H71.ev rfl))) ?_
 intro _ H73; clear H71
 refine gx_take 3 rfl (by kernel_rfl) H73 (by exact O67.sel [0, 1, 2, 3, 4, 5, 6] (by decide)) (want_none rfl) rfl (by decide) (fun wq HO => (op_field (gwfld74_1 _ _) rfl (H73.ev rfl))) ?_
 intro _ H75; clear H73
 refine gx_take 4 rfl (by kernel_rfl) H75 (by exact O67.sel [0, 1, 2, 3, 4, 5, 6] (by decide)) (want_none rfl) rfl (by decide) (fun wq HO => (op_load1 gwagg3 rfl (H75.ev rfl) (blk_at (HO.get 2 rfl) rfl))) ?_
 intro _ H77; clear H75
 refine gx_take 5 rfl (by kernel_rfl) H77 (by exact O67.sel [0, 1, 2, 3, 4, 5, 6] (by decide)) (want_none rfl) rfl (by decide) (fun wq HO => (op_load1 gwagg3 rfl (H77.ev rfl) (blk_at (HO.get 6 rfl) rfl))) ?_
 intro _ H79; clear H77
 refine gx_take 6 rfl (by kernel_rfl) H79 (by exact O67.sel [0, 1, 2, 3, 4, 5, 6] (by decide)) (want_none rfl) rfl (by decide) (fun wq HO => (op_min rfl (H79.ev rfl) (H79.ev rfl))) ?_
 intro _ H81; clear H79
 refine gx_step 7 rfl (by kernel_rfl) ?_
 refine V H81 (op_nil rfl (H81.ev rfl)) ?_
 intro _ H83; clear H81
 refine gx_on (i := 7) (B := (fun j_ => j_ == 9)) (fun _ => (by exact O67.sel [0, 1, 2, 3, 4, 5, 6] (by decide))) ?_
 refine gx_take 8 rfl (by kernel_rfl) H83 (by exact O67.sel [0, 1, 2, 3, 4, 5, 6] (by decide)) (want_none rfl) rfl (by decide) (fun wq HO => (op_field (gwfld74_1 _ _) rfl (H83.ev rfl))) ?_
 intro _ H85; clear H83
 refine gx_step 9 rfl (by kernel_rfl) ?_
 refine gw_set 2 H85 O67 rfl (want_none rfl) rfl (op_store1 gwsiz3 rfl (H85.ev rfl) (H85.ev rfl) rfl (blk_at (O67.get 2 rfl) rfl) (blkf (O67.get 2 rfl))) ?_
 intro _ w88 H87 O89; clear H85 O67
 refine gx_on (i := 9) (B := (fun j_ => j_ == 9)) (fun h_ => by cases h_) ?_
 refine gx_done (by kernel_rfl) ?_
 refine gw_end0 H87 rfl ?_
 exact ⟨rfl, O89.sel [0, 2, 3, 1] (by decide)⟩
set_option maxHeartbeats 4000000 in
set_option maxRecDepth 100000 in
theorem cut_calls (w0 w : World) (R : Chunk) (gd : Nat) (S : Nat → Prop) (d : PD) (nm : ByteArray) (n : Int) (hw : wfD d) (hn : nm.size ≤ 9223372036854775807) (HO : Own w0 w [R, Chunk.disk w0.heap.size gd S d]) :
    Calls Tryz.prog 35 #[.pointer (some ⟨gd, 0, none⟩), .string nm, .int .i64 n] w fun e w' => e = .returned (.int .i64 (cutD nm n d).2) ∧ ∃ S', Own w0 w' [R, Chunk.disk w0.heap.size gd S' (cutD nm n d).1] := by
 have hu0 := hw.used
 have hm0 := hw.most
 have hfu := hw.fuse
 obtain ⟨gm, xs, hxs, hon, HO⟩ := disk_open2 HO
 refine gw_startO (N := 34) (vs := [.pointer (some ⟨gd, 0, none⟩), .string nm, J n]) Tryz.func35 rfl rfl (by simp) fun a HF => ?_
 rcases look3 nm d hxs hon with hdn | ⟨hdn, hl, hgd, hno⟩ | ⟨hdn, pre, x, post, rfl, hnm, hl, hgd, hoth⟩
 ·
  refine gR fun K1 hK1 => ?_
  refine gw_new HF HO (want_none rfl) rfl (by decide) (op_box rfl (HF.ev rfl)) ?_
  intro g2 _ w4 H5 O6; clear HF HO
  have O7 : Own w0 w4 [Bk g2 [.pointer (some ⟨gd, 0, none⟩)] 23, R, Bk gd [.map (some gm), J d.most, J d.used, J d.fuse, .bool d.down] 64, Chunk.lmap Tryz.prog 9 gm (xs.map XF.ent), Chunk.files w0.heap.size xs] := O6
  clear O6
  refine gw_new H5 O7 (want_none rfl) rfl (by decide) (op_box rfl (H5.ev rfl)) ?_
  intro g8 _ w10 H11 O12; clear H5 O7
  have O13 : Own w0 w10 [Bk g8 [J n] 3, Bk g2 [.pointer (some ⟨gd, 0, none⟩)] 23, R, Bk gd [.map (some gm), J d.most, J d.used, J d.fuse, .bool d.down] 64, Chunk.lmap Tryz.prog 9 gm (xs.map XF.ent), Chunk.files w0.heap.size xs] := O12
  clear O12
  refine V H11 (op_assign rfl (ev_c _ _)) ?_
  intro _ H15; clear H11
  refine gE hK1 ?_
  refine gR fun K16 hK16 => ?_
  refine V H15 (op_load1 gwagg23 rfl (H15.ev rfl) (blk_at (O13.get 1 rfl) rfl)) ?_
  intro _ H18; clear H15
  refine V H18 (op_move rfl (H18.ev rfl)) ?_
  intro _ H20; clear H18
  refine gw_call H20 (want_none rfl) rfl (by decide) (op_callL Tryz.func29 (by kernel_rfl) rfl rfl (ar_cons (H20.ev rfl) (ar_cons (H20.ev rfl) ar_nil))) (find_down gd gm d nm (xs.map XF.ent) _ (by exact O13.get 3 rfl) (O13.get 4 rfl) hdn hn) ?_
  rintro e21 w22 ⟨rfl, hb23⟩
  refine ⟨_, rfl, fun _ H25 => ?_⟩
  have O26 := O13.after hb23
  clear H20 O13 hb23
  refine V H25 (op_move rfl (H25.ev rfl)) ?_
  intro _ H29; clear H25
  refine V H29 (op_extract rfl (H29.ev rfl) rfl) ?_
  intro _ H31; clear H29
  refine V H31 (op_extract rfl (H31.ev rfl) rfl) ?_
  intro _ H33; clear H31
  refine gw_new H33 O26 (want_none rfl) rfl (by decide) (op_alloc gwzer71 rfl) ?_
  intro g34 _ w36 H37 O38; clear H33 O26
  have O39 : Own w0 w36 [Bk g34 [.pointer none] 71, Bk g8 [J n] 3, Bk g2 [.pointer (some ⟨gd, 0, none⟩)] 23, R, Bk gd [.map (some gm), J d.most, J d.used, J d.fuse, .bool d.down] 64, Chunk.lmap Tryz.prog 9 gm (xs.map XF.ent), Chunk.files w0.heap.size xs] := O38
  clear O38
  refine gw_set 0 H37 O39 rfl (want_none rfl) rfl (op_store1 gwsiz71 rfl (H37.ev rfl) (H37.ev rfl) rfl (blk_at (O39.get 0 rfl) rfl) (blkf (O39.get 0 rfl))) ?_
  intro _ w42 H41 O43; clear H37 O39
  refine V H41 (op_assign rfl (H41.ev rfl)) ?_
  intro _ H45; clear H41
  refine gE hK16 ?_
  refine gw_seq fun K46 hK46 => ?_
  refine wp_block ?_
  refine gR fun K47 hK47 => ?_
  refine V H45 (op_move rfl (H45.ev rfl)) ?_
  intro _ H49; clear H45
  refine V H49 (op_nei rfl (H49.ev rfl) (ev_c _ _)) ?_
  intro _ H51; clear H49
  have H52 := H51.lit (b := true) (by decide)
  clear H51
  refine V H52 (op_assign rfl (H52.ev rfl)) ?_
  intro _ H54; clear H52
  refine gE hK47 ?_
  refine gw_cond H54 rfl (fun hb55 => ?_) (fun hb55 => ?_)
  rotate_left
  ·
   cases hb55
  refine gR fun K56 hK56 => ?_
  refine V H54 (op_move rfl (H54.ev rfl)) ?_
  intro _ H58; clear H54
  refine V H58 (op_assign rfl (H58.ev rfl)) ?_
  intro _ H60; clear H58
  refine gE hK56 ?_
  refine wp_ret ?_
  refine gw_blr ?_
  refine gw_thr ?_
  refine gw_ret1 H60 rfl rfl ?_
  exact disk_fin (gd := gd) (gm := gm) (d' := d) (xs := xs) (with_down hdn) hxs (by exact O43.sel [3, 4, 5, 6] (by decide))
 ·
  refine gR fun K61 hK61 => ?_
  refine gw_new HF HO (want_none rfl) rfl (by decide) (op_box rfl (HF.ev rfl)) ?_
  intro g62 _ w64 H65 O66; clear HF HO
  have O67 : Own w0 w64 [Bk g62 [.pointer (some ⟨gd, 0, none⟩)] 23, R, Bk gd [.map (some gm), J d.most, J d.used, J d.fuse, .bool d.down] 64, Chunk.lmap Tryz.prog 9 gm (xs.map XF.ent), Chunk.files w0.heap.size xs] := O66
  clear O66
  refine gw_new H65 O67 (want_none rfl) rfl (by decide) (op_box rfl (H65.ev rfl)) ?_
  intro g68 _ w70 H71 O72; clear H65 O67
  have O73 : Own w0 w70 [Bk g68 [J n] 3, Bk g62 [.pointer (some ⟨gd, 0, none⟩)] 23, R, Bk gd [.map (some gm), J d.most, J d.used, J d.fuse, .bool d.down] 64, Chunk.lmap Tryz.prog 9 gm (xs.map XF.ent), Chunk.files w0.heap.size xs] := O72
  clear O72
  refine V H71 (op_assign rfl (ev_c _ _)) ?_
  intro _ H75; clear H71
  refine gE hK61 ?_
  refine gR fun K76 hK76 => ?_
  refine V H75 (op_load1 gwagg23 rfl (H75.ev rfl) (blk_at (O73.get 1 rfl) rfl)) ?_
  intro _ H78; clear H75
  refine V H78 (op_move rfl (H78.ev rfl)) ?_
  intro _ H80; clear H78
  refine gw_call H80 (want_none rfl) rfl (by decide) (op_callL Tryz.func29 (by kernel_rfl) rfl rfl (ar_cons (H80.ev rfl) (ar_cons (H80.ev rfl) ar_nil))) (find_none gd gm d nm (xs.map XF.ent) _ (by exact O73.get 3 rfl) (O73.get 4 rfl) hdn hl hn) ?_
  rintro e81 w82 ⟨rfl, hb83⟩
  refine ⟨_, rfl, fun _ H85 => ?_⟩
  have O86 := O73.after hb83
  clear H80 O73 hb83
  refine V H85 (op_move rfl (H85.ev rfl)) ?_
  intro _ H89; clear H85
  refine V H89 (op_extract rfl (H89.ev rfl) rfl) ?_
  intro _ H91; clear H89
  refine V H91 (op_extract rfl (H91.ev rfl) rfl) ?_
  intro _ H93; clear H91
  refine gw_new H93 O86 (want_none rfl) rfl (by decide) (op_alloc gwzer71 rfl) ?_
  intro g94 _ w96 H97 O98; clear H93 O86
  have O99 : Own w0 w96 [Bk g94 [.pointer none] 71, Bk g68 [J n] 3, Bk g62 [.pointer (some ⟨gd, 0, none⟩)] 23, R, Bk gd [.map (some gm), J d.most, J d.used, J d.fuse, .bool d.down] 64, Chunk.lmap Tryz.prog 9 gm (xs.map XF.ent), Chunk.files w0.heap.size xs] := O98
  clear O98
  refine gw_set 0 H97 O99 rfl (want_none rfl) rfl (op_store1 gwsiz71 rfl (H97.ev rfl) (H97.ev rfl) rfl (blk_at (O99.get 0 rfl) rfl) (blkf (O99.get 0 rfl))) ?_
  intro _ w102 H101 O103; clear H97 O99
  refine V H101 (op_assign rfl (H101.ev rfl)) ?_
  intro _ H105; clear H101
  refine gE hK76 ?_
  refine gw_seq fun K106 hK106 => ?_
  refine wp_block ?_
  refine gR fun K107 hK107 => ?_
  refine V H105 (op_move rfl (H105.ev rfl)) ?_
  intro _ H109; clear H105
  refine V H109 (op_nei rfl (H109.ev rfl) (ev_c _ _)) ?_
  intro _ H111; clear H109
  have H112 := H111.lit (b := true) (by decide)
  clear H111
  refine V H112 (op_assign rfl (H112.ev rfl)) ?_
  intro _ H114; clear H112
  refine gE hK107 ?_
  refine gw_cond H114 rfl (fun hb115 => ?_) (fun hb115 => ?_)
  rotate_left
  ·
   cases hb115
  refine gR fun K116 hK116 => ?_
  refine V H114 (op_move rfl (H114.ev rfl)) ?_
  intro _ H118; clear H114
  refine V H118 (op_assign rfl (H118.ev rfl)) ?_
  intro _ H120; clear H118
  refine gE hK116 ?_
  refine wp_ret ?_
  refine gw_blr ?_
  refine gw_thr ?_
  refine gw_ret1 H120 rfl rfl ?_
  exact disk_fin (gd := gd) (gm := gm) (d' := d) (xs := xs) (with_none hdn hgd) hxs (by exact O103.sel [3, 4, 5, 6] (by decide))
 ·
  have HO := Own.sel (Own.file_open (Own.sel HO [3, 0, 1, 2] (by decide))) [3, 4, 5, 0, 1, 2] (by decide)
  have hxl := wf_len hw (getF_mem hgd).1
  have hxs1 := hw.sf _ (getF_mem hgd).1
  have O121 : Own w0 w [R, Bk gd [.map (some gm), J d.most, J d.used, J d.fuse, .bool d.down] 64, Chunk.lmap Tryz.prog 9 gm ((pre ++ x :: post).map XF.ent), Bk x.g [.slice x.A x.p.b.length x.c, J x.p.sf] 74, Chunk.row (Kd.int .u8) 5 w0.heap.size x.S (.slice x.A x.p.b.length x.c) x.p.b, Chunk.files w0.heap.size (pre ++ post)] := HO
  clear HO
  refine gR fun K122 hK122 => ?_
  refine gw_new HF O121 (want_none rfl) rfl (by decide) (op_box rfl (HF.ev rfl)) ?_
  intro g123 _ w125 H126 O127; clear HF O121
  have O128 : Own w0 w125 [Bk g123 [.pointer (some ⟨gd, 0, none⟩)] 23, R, Bk gd [.map (some gm), J d.most, J d.used, J d.fuse, .bool d.down] 64, Chunk.lmap Tryz.prog 9 gm ((pre ++ x :: post).map XF.ent), Bk x.g [.slice x.A x.p.b.length x.c, J x.p.sf] 74, Chunk.row (Kd.int .u8) 5 w0.heap.size x.S (.slice x.A x.p.b.length x.c) x.p.b, Chunk.files w0.heap.size (pre ++ post)] := O127
  clear O127
  refine gw_new H126 O128 (want_none rfl) rfl (by decide) (op_box rfl (H126.ev rfl)) ?_
  intro g129 _ w131 H132 O133; clear H126 O128
  have O134 : Own w0 w131 [Bk g129 [J n] 3, Bk g123 [.pointer (some ⟨gd, 0, none⟩)] 23, R, Bk gd [.map (some gm), J d.most, J d.used, J d.fuse, .bool d.down] 64, Chunk.lmap Tryz.prog 9 gm ((pre ++ x :: post).map XF.ent), Bk x.g [.slice x.A x.p.b.length x.c, J x.p.sf] 74, Chunk.row (Kd.int .u8) 5 w0.heap.size x.S (.slice x.A x.p.b.length x.c) x.p.b, Chunk.files w0.heap.size (pre ++ post)] := O133
  clear O133
  refine V H132 (op_assign rfl (ev_c _ _)) ?_
  intro _ H136; clear H132
  refine gE hK122 ?_
  refine gR fun K137 hK137 => ?_
  refine V H136 (op_load1 gwagg23 rfl (H136.ev rfl) (blk_at (O134.get 1 rfl) rfl)) ?_
  intro _ H139; clear H136
  refine V H139 (op_move rfl (H139.ev rfl)) ?_
  intro _ H141; clear H139
  refine gw_call H141 (want_none rfl) rfl (by decide) (op_callL Tryz.func29 (by kernel_rfl) rfl rfl (ar_cons (H141.ev rfl) (ar_cons (H141.ev rfl) ar_nil))) (find_some gd gm d nm ((pre ++ x :: post).map XF.ent) x.g _ (by exact O134.get 3 rfl) (O134.get 4 rfl) hdn hl hn) ?_
  rintro e142 w143 ⟨rfl, hb144⟩
  refine ⟨_, rfl, fun _ H146 => ?_⟩
  have O147 := O134.after hb144
  clear H141 O134 hb144
  refine V H146 (op_move rfl (H146.ev rfl)) ?_
  intro _ H150; clear H146
  refine V H150 (op_extract rfl (H150.ev rfl) rfl) ?_
  intro _ H152; clear H150
  refine V H152 (op_extract rfl (H152.ev rfl) rfl) ?_
  intro _ H154; clear H152
  refine gw_new H154 O147 (want_none rfl) rfl (by decide) (op_alloc gwzer71 rfl) ?_
  intro g155 _ w157 H158 O159; clear H154 O147
  have O160 : Own w0 w157 [Bk g155 [.pointer none] 71, Bk g129 [J n] 3, Bk g123 [.pointer (some ⟨gd, 0, none⟩)] 23, R, Bk gd [.map (some gm), J d.most, J d.used, J d.fuse, .bool d.down] 64, Chunk.lmap Tryz.prog 9 gm ((pre ++ x :: post).map XF.ent), Bk x.g [.slice x.A x.p.b.length x.c, J x.p.sf] 74, Chunk.row (Kd.int .u8) 5 w0.heap.size x.S (.slice x.A x.p.b.length x.c) x.p.b, Chunk.files w0.heap.size (pre ++ post)] := O159
  clear O159
  refine gw_set 0 H158 O160 rfl (want_none rfl) rfl (op_store1 gwsiz71 rfl (H158.ev rfl) (H158.ev rfl) rfl (blk_at (O160.get 0 rfl) rfl) (blkf (O160.get 0 rfl))) ?_
  intro _ w163 H162 O164; clear H158 O160
  refine V H162 (op_assign rfl (H162.ev rfl)) ?_
  intro _ H166; clear H162
  refine gE hK137 ?_
  refine gw_seq fun K167 hK167 => ?_
  refine wp_block ?_
  refine gR fun K168 hK168 => ?_
  refine V H166 (op_move rfl (H166.ev rfl)) ?_
  intro _ H170; clear H166
  refine V H170 (op_nei rfl (H170.ev rfl) (ev_c _ _)) ?_
  intro _ H172; clear H170
  have H173 := H172.lit (b := false) (by decide)
  clear H172
  refine V H173 (op_assign rfl (H173.ev rfl)) ?_
  intro _ H175; clear H173
  refine gE hK168 ?_
  refine gw_cond H175 rfl (fun hb176 => ?_) (fun hb176 => ?_)
  skip
  ·
   cases hb176
  refine gw_seq fun K177 hK177 => ?_
  refine gw_drawB O164 (by kernel_rfl) (by kernel_rfl) fun w178 O179 => ?_
  clear O164
  refine gq_ev H175 (want_none rfl) rfl (by decide) (fun wq hq => have HO := O179.after hq; (op_load1 gwagg3 rfl (H175.ev rfl) (blk_at (HO.get 1 rfl) rfl))) ?_
  intro _ H181; clear H175
  refine gq_ev H181 (want_none rfl) rfl (by decide) (fun wq hq => have HO := O179.after hq; (op_lss rfl (H181.ev rfl) (ev_c _ _))) ?_
  intro _ H183; clear H181
  refine gq_ev H183 (want_none rfl) rfl (by decide) (fun wq hq => have HO := O179.after hq; (op_move rfl (H183.ev rfl))) ?_
  intro _ H185; clear H183
  refine gq_evG H185 rfl rfl rfl rfl (on_f _) rfl (by decide) (fun h_ wq hq => have HO := O179.after hq; (op_load1 gwagg3 rfl (H185.ev rfl) (blk_at (HO.get 1 rfl) rfl))) ?_
  intro _ H187; clear H185
  refine gq_evG H187 rfl rfl rfl rfl (on_f _) rfl (by decide) (fun h_ wq hq => have HO := O179.after hq; (op_load1 gwagg71 rfl (H187.ev rfl) (blk_at (HO.get 0 rfl) rfl))) ?_
  intro _ H189; clear H187
  refine gq_evG H189 rfl rfl rfl rfl (on_f _) rfl (by decide) (fun h_ wq hq => have HO := O179.after hq; (op_nil rfl (ev_gv (H189.ev rfl) h_))) ?_
  intro _ H191; clear H189
  refine gq_evG H191 rfl rfl rfl rfl (on_f _) rfl (by decide) (fun h_ wq hq => have HO := O179.after hq; (op_field (gwfld74_0 _ _) rfl (ev_gv (H191.ev rfl) h_))) ?_
  intro _ H193; clear H191
  refine gq_evG H193 rfl rfl rfl rfl (on_f _) rfl (by decide) (fun h_ wq hq => have HO := O179.after hq; (op_load1 gwagg22 rfl (ev_gv (H193.ev rfl) h_) (blk_at (HO.get 6 rfl) rfl))) ?_
  intro _ H195; clear H193
  refine gq_evG H195 rfl rfl rfl rfl (on_f _) rfl (by decide) (fun h_ wq hq => have HO := O179.after hq; (op_len Tryz.underlying22 rfl (ev_gv (H195.ev rfl) h_))) ?_
  intro _ H197; clear H195
  refine gq_evG H197 rfl rfl rfl rfl (on_f _) rfl (by decide) (fun h_ wq hq => have HO := O179.after hq; (op_gtr rfl (ev_gv (H197.ev rfl) h_) (ev_gv (H197.ev rfl) h_))) ?_
  intro _ H199; clear H197
  refine gq_ev H199 (want_none rfl) rfl (by decide) (fun wq hq => have HO := O179.after hq; (op_pick_or rfl (H199.ev rfl) (ev_c _ _) (fun hp_ => (ev_gv (H199.ev rfl) (not_t hp_))))) ?_
  intro _ H201; clear H199
  refine gq_ev H201 (want_none rfl) rfl (by decide) (fun wq hq => have HO := O179.after hq; (op_assign rfl (H201.ev rfl))) ?_
  intro _ H203; clear H201
  refine wpQuiet_nil ?_
  intro w204 hq
  have O205 := O179.after hq
  clear O179 hq
  refine gw_nx (hK177 _ _ ?_)
  refine gw_cond H203 rfl (fun hb206 => ?_) (fun hb206 => ?_)
  ·
   have H207 := H203.subst_ (d := 19) (b := true) rfl hb206
   clear H203
   (try simp only [Bool.or_eq_true, Bool.or_eq_false_iff, decide_eq_true_eq, decide_eq_false_iff_not, Int.not_lt] at hb206)
   refine gR fun K208 hK208 => ?_
   refine V H207 (op_assign rfl (ev_c _ _)) ?_
   intro _ H210; clear H207
   refine gE hK208 ?_
   refine wp_ret ?_
   refine gw_blr ?_
   refine gw_thr ?_
   refine gw_ret1 H210 rfl rfl ?_
   have O211 := Own.file_close (x := x) (pre := pre) (post := post) (by exact O205.sel [6, 7, 8, 0, 1, 2, 3, 4, 5] (by decide))
   exact disk_fin (gd := gd) (gm := gm) (d' := d) (xs := pre ++ x :: post) (cut_bad hdn hgd (by omega)) hxs (by exact O211.sel [4, 5, 6, 0] (by decide))
  ·
   have H212 := H203.subst_ (d := 19) (b := false) rfl hb206
   clear H203
   (try simp only [Bool.or_eq_true, Bool.or_eq_false_iff, decide_eq_true_eq, decide_eq_false_iff_not, Int.not_lt] at hb206)
   refine wp_skip ?_
   refine gw_blk ?_
   refine gw_nx (hK167 _ _ ?_)
   refine gR fun K213 hK213 => ?_
   refine V H212 (op_load1 gwagg23 rfl (H212.ev rfl) (blk_at (O205.get 2 rfl) rfl)) ?_
   intro _ H215; clear H212
   refine V H215 (op_func rfl (ar_cons (H215.ev rfl) (ar_cons (H215.ev rfl) (ar_cons (H215.ev rfl) ar_nil)))) ?_
   intro _ H217; clear H215
   have O224 : Own w0 _ [(Chunk.all [Bk g155 [.pointer (some ⟨x.g, 0, none⟩)] 71, Bk g129 [J n] 3, Bk g123 [.pointer (some ⟨gd, 0, none⟩)] 23, R, Chunk.lmap Tryz.prog 9 gm ((pre ++ x :: post).map XF.ent), Bk x.g [.slice x.A x.p.b.length x.c, J x.p.sf] 74, Chunk.row (Kd.int .u8) 5 w0.heap.size x.S (.slice x.A x.p.b.length x.c) x.p.b, Chunk.files w0.heap.size (pre ++ post)]), Bk gd [.map (some gm), J d.most, J d.used, J d.fuse, .bool d.down] 64] := Own.bundle (O205.sel [0, 1, 2, 3, 5, 6, 7, 8, 4] (by decide))
   refine gw_call H217 (want_none rfl) rfl (by decide) (op_callL Tryz.func27 (by kernel_rfl) rfl rfl (ar_cons (H217.ev rfl) (ar_cons (H217.ev rfl) ar_nil))) (step_calls w0 _ (Chunk.all [Bk g155 [.pointer (some ⟨x.g, 0, none⟩)] 71, Bk g129 [J n] 3, Bk g123 [.pointer (some ⟨gd, 0, none⟩)] 23, R, Chunk.lmap Tryz.prog 9 gm ((pre ++ x :: post).map XF.ent), Bk x.g [.slice x.A x.p.b.length x.c, J x.p.sf] 74, Chunk.row (Kd.int .u8) 5 w0.heap.size x.S (.slice x.A x.p.b.length x.c) x.p.b, Chunk.files w0.heap.size (pre ++ post)]) gd gm d 58 _ [.pointer (some ⟨g123, 0, none⟩), .pointer (some ⟨g155, 0, none⟩), .pointer (some ⟨g129, 0, none⟩)] (fun w_ => Own w0 w_ [(Chunk.all [R, Chunk.lmap Tryz.prog 9 gm ((pre ++ x :: post).map XF.ent), Chunk.files w0.heap.size (pre ++ post)]), Bk x.g [.slice x.A ((x.p.b.take n.toNat).length) x.c, J (mn x.p.sf n)] 74, Chunk.row (Kd.int .u8) 5 w0.heap.size x.S (.slice x.A ((x.p.b.take n.toNat).length) x.c) (x.p.b.take n.toNat), Bk gd [.map (some gm), J (({ d with fuse := decF d.fuse } : PD).most), J (d.used - ((x.p.b.length : Int) - n)), J (({ d with fuse := decF d.fuse } : PD).fuse), .bool (({ d with fuse := decF d.fuse } : PD).down)] 64]) Tryz.func58 (by kernel_rfl) rfl hfu (fun hf1 w1 h_ => cut1 w0 w1 (Chunk.all [R, Chunk.lmap Tryz.prog 9 gm ((pre ++ x :: post).map XF.ent), Chunk.files w0.heap.size (pre ++ post)]) gd gm ({ d with fuse := decF d.fuse } : PD) x g123 g155 g129 n (by omega) (by show 0 ≤ d.used ∧ d.used ≤ _; omega) (by show _ ≤ d.used; omega) (Own.bundle (A := [R, Chunk.lmap Tryz.prog 9 gm ((pre ++ x :: post).map XF.ent), Chunk.files w0.heap.size (pre ++ post)]) (L := [Bk gd [.map (some gm), J (({ d with fuse := decF d.fuse } : PD).most), J (({ d with fuse := decF d.fuse } : PD).used), J (({ d with fuse := decF d.fuse } : PD).fuse), .bool (({ d with fuse := decF d.fuse } : PD).down)] 64, Bk x.g [.slice x.A x.p.b.length x.c, J x.p.sf] 74, Chunk.row (Kd.int .u8) 5 w0.heap.size x.S (.slice x.A x.p.b.length x.c) x.p.b, Bk g123 [.pointer (some ⟨gd, 0, none⟩)] 23, Bk g155 [.pointer (some ⟨x.g, 0, none⟩)] 71, Bk g129 [J n] 3]) ((Own.unbundle (A := [Bk g155 [.pointer (some ⟨x.g, 0, none⟩)] 71, Bk g129 [J n] 3, Bk g123 [.pointer (some ⟨gd, 0, none⟩)] 23, R, Chunk.lmap Tryz.prog 9 gm ((pre ++ x :: post).map XF.ent), Bk x.g [.slice x.A x.p.b.length x.c, J x.p.sf] 74, Chunk.row (Kd.int .u8) 5 w0.heap.size x.S (.slice x.A x.p.b.length x.c) x.p.b, Chunk.files w0.heap.size (pre ++ post)]) (L := [Bk gd [.map (some gm), J (({ d with fuse := decF d.fuse } : PD).most), J (({ d with fuse := decF d.fuse } : PD).used), J (({ d with fuse := decF d.fuse } : PD).fuse), .bool (({ d with fuse := decF d.fuse } : PD).down)] 64]) (by exact h_)).sel [3, 4, 7, 8, 5, 6, 2, 0, 1] (by decide)))) (by exact O224)) ?_
   rintro e218 w219 (⟨hf1, rfl, hb220⟩ | ⟨hf1, rfl, hb220⟩)
   ·
    refine ⟨_, rfl, fun _ H222 => ?_⟩
    have O223 : Own w0 w219 [Bk g155 [.pointer (some ⟨x.g, 0, none⟩)] 71, Bk g129 [J n] 3, Bk g123 [.pointer (some ⟨gd, 0, none⟩)] 23, R, Chunk.lmap Tryz.prog 9 gm ((pre ++ x :: post).map XF.ent), Bk x.g [.slice x.A x.p.b.length x.c, J x.p.sf] 74, Chunk.row (Kd.int .u8) 5 w0.heap.size x.S (.slice x.A x.p.b.length x.c) x.p.b, Chunk.files w0.heap.size (pre ++ post), Bk gd [.map (some gm), J d.most, J d.used, J 0, .bool true] 64] := Own.unbundle (A := [Bk g155 [.pointer (some ⟨x.g, 0, none⟩)] 71, Bk g129 [J n] 3, Bk g123 [.pointer (some ⟨gd, 0, none⟩)] 23, R, Chunk.lmap Tryz.prog 9 gm ((pre ++ x :: post).map XF.ent), Bk x.g [.slice x.A x.p.b.length x.c, J x.p.sf] 74, Chunk.row (Kd.int .u8) 5 w0.heap.size x.S (.slice x.A x.p.b.length x.c) x.p.b, Chunk.files w0.heap.size (pre ++ post)]) (L := [Bk gd [.map (some gm), J d.most, J d.used, J 0, .bool true] 64]) (by exact hb220)
    clear O224 hb220
    clear H217 O205
    refine V H222 (op_assign rfl (H222.ev rfl)) ?_
    intro _ H226; clear H222
    refine gE hK213 ?_
    refine wp_ret ?_
    refine gw_ret1 H226 rfl rfl ?_
    have O227 := Own.file_close (x := x) (pre := pre) (post := post) (by exact O223.sel [5, 6, 7, 0, 1, 2, 3, 4, 8] (by decide))
    exact disk_fin (gd := gd) (gm := gm) (d' := { d with fuse := 0, down := true }) (xs := pre ++ x :: post) ((cut_go hdn hgd (by omega)).trans (step_off hf1)) hxs (by exact O227.sel [4, 6, 5, 0] (by decide))
   ·
    refine ⟨_, rfl, fun _ H222 => ?_⟩
    have O223 : Own w0 w219 [R, Chunk.lmap Tryz.prog 9 gm ((pre ++ x :: post).map XF.ent), Chunk.files w0.heap.size (pre ++ post), Bk x.g [.slice x.A ((x.p.b.take n.toNat).length) x.c, J (mn x.p.sf n)] 74, Chunk.row (Kd.int .u8) 5 w0.heap.size x.S (.slice x.A ((x.p.b.take n.toNat).length) x.c) (x.p.b.take n.toNat), Bk gd [.map (some gm), J (({ d with fuse := decF d.fuse } : PD).most), J (d.used - ((x.p.b.length : Int) - n)), J (({ d with fuse := decF d.fuse } : PD).fuse), .bool (({ d with fuse := decF d.fuse } : PD).down)] 64] := Own.unbundle (A := [R, Chunk.lmap Tryz.prog 9 gm ((pre ++ x :: post).map XF.ent), Chunk.files w0.heap.size (pre ++ post)]) (L := [Bk x.g [.slice x.A ((x.p.b.take n.toNat).length) x.c, J (mn x.p.sf n)] 74, Chunk.row (Kd.int .u8) 5 w0.heap.size x.S (.slice x.A ((x.p.b.take n.toNat).length) x.c) (x.p.b.take n.toNat), Bk gd [.map (some gm), J (({ d with fuse := decF d.fuse } : PD).most), J (d.used - ((x.p.b.length : Int) - n)), J (({ d with fuse := decF d.fuse } : PD).fuse), .bool (({ d with fuse := decF d.fuse } : PD).down)] 64]) hb220
    clear O224 hb220
    clear H217 O205
    refine V H222 (op_assign rfl (H222.ev rfl)) ?_
    intro _ H229; clear H222
    refine gE hK213 ?_
    refine wp_ret ?_
    refine gw_ret1 H229 rfl rfl ?_
    have O230 := Own.file_close (x := (⟨⟨x.p.nm, x.p.b.take n.toNat, mn x.p.sf n⟩, x.g, x.A, x.c, x.S⟩ : XF)) (pre := pre) (post := post) (by exact O223.sel [3, 4, 2, 0, 1, 5] (by decide))
    have el_ : (pre ++ x :: post).map XF.ent = (pre ++ (⟨⟨x.p.nm, x.p.b.take n.toNat, mn x.p.sf n⟩, x.g, x.A, x.c, x.S⟩ : XF) :: post).map XF.ent := by simp [XF.ent]
    rw [el_] at O230
    exact disk_fin (gd := gd) (gm := gm) (d' := _) (xs := pre ++ (⟨⟨x.p.nm, x.p.b.take n.toNat, mn x.p.sf n⟩, x.g, x.A, x.c, x.S⟩ : XF) :: post) ((cut_go hdn hgd (by omega)).trans (step_on hf1 hfu.1)) (by show _ = updF nm _ d.fs; rw [← hxs, upd_mid hnm hoth]; simp) (by exact O230.sel [1, 3, 2, 0] (by decide))
end GVfs3_
export GVfs3_ (cut_calls)
end Go.Proofs.YtkdahjnmldeklaaGreat.PA
end
section
namespace Go.Proofs
open Go.RowKit Go.Maps Go.Sort Go.Shelf
shelf_lay_g SlLaysZ.n7 Ggz 7 at Tryz 67 as Tryz.keys67
shelf_lay_g SlLaysZ.n6 Ggz 6 at Tryz 66 as Tryz.sorted66
shelf_lay_g SlLaysM.n6 Slgm 6 at Tryz 81 as Tryz.sort81
theorem Tryz.sorts66 (m : Nat) : AnyZ.SortsIn Tryz.prog Tryz.sorted66_ren Fence.wide m :=
  ⟨fun blk off cap ss W hH hblk hsz => callsIn_wide.2 (AnyM.slices_Sort_string Tryz.sort81 blk off cap ss W hH hblk hsz),
   fun p cap W => callsIn_wide.2 (AnyM.slices_Sort_string_none Tryz.sort81 p cap W)⟩
theorem Tryz.maps_Keys_67 (mb : Option Nat) (W : World) : CallsIn Fence.wide 5 Tryz.prog 67 #[.map mb] W fun e w' => e = .returned (.func (.func 82) #[] #[.pointer (some ⟨W.heap.size, 0, none⟩)]) ∧ w' = W.alloc (.cells #[.map mb] 62) :=
  AnyZ.keys_in Tryz.keys67 Fence.wide 5 trivial rfl mb W
set_option maxHeartbeats 1000000 in
theorem Tryz.slices_Sorted_keys_66_67 {H : Type} (b nn : Nat) (D0 : DataW H) (R : Value → Option (DataW H × List MemPlace)) (w : World) (hown : w.ownsMap Tryz.prog 9 R b nn D0) (hmax : Maps.size D0 ≤ maxLen) (hbytes : Maps.size D0 * 16 ≤ 140737488355328) :
    CallsIn Fence.wide 5 Tryz.prog 66 #[.func (.func 82) #[] #[.pointer (some ⟨w.heap.size, 0, none⟩)]] (w.alloc (.cells #[.map (some b)] 62)) fun e w' => ∃ (v : Value) (ss : List (List UInt8)), e = .returned v ∧ ss.Perm (strKeys D0) ∧
      w'.ownsRow (w.alloc (.cells #[.map (some b)] 62)).heap.size 9 1 v ss.length ((ss.mergeSort (fun x y => decide (x ≤ y))).map encStr) ∧ (v = .slice none 0 0 ↔ ss = []) ∧ Below (w.alloc (.cells #[.map (some b)] 62)).heap.size (w.alloc (.cells #[.map (some b)] 62)) w' := by
  have hbl := hown.lt
  have hseq : SeqGives Fence.wide 2 Tryz.prog 82 #[.pointer (some ⟨w.heap.size, 0, none⟩)] encStr (fun ss => ss.Perm (strKeys D0)) (Maps.size D0) (w.alloc (.cells #[.map (some b)] 62)) :=
    AnyZ.keys_gives (ρ := Tryz.keys67_ren) { Tryz.keys67 with } Fence.wide _ trivial rfl (by omega) w.heap.size b nn D0 _ (by simp) (by simp) (by
      obtain ⟨es, clock, hb, Ft, hs, hD⟩ := hown
      exact ⟨es, clock, (Below.heap_alloc _ _ b hbl).trans hb, Ft, hs, hD⟩)
  exact AnyZ.sorted_in Tryz.sorted66 Fence.wide 5 trivial trivial trivial trivial rfl (by omega) (Tryz.sorts66 _) (enters_of Tryz.func81 (by kernel_rfl) rfl) 82 #[.pointer (some ⟨w.heap.size, 0, none⟩)] trivial (enters_of Tryz.func82 (by kernel_rfl) rfl) _ _ hmax hbytes _ hseq
end Go.Proofs
end
section
namespace Go.Proofs.YtkdahjnmldeklaaGreat.PA
open Go.RowKit Go.Maps Go.Sort Go.Proofs.YtkdahjnmldeklaaGreatW.PrintWords Go.Proofs.YtkdahjnmldeklaaGreatW.PrintLast Go.Proofs.YtkdahjnmldeklaaGreatW.PrintMore
set_option linter.unusedVariables false
set_option linter.unusedSimpArgs false
theorem before_lt : ∀ (a b : List UInt8), bytesBefore a b = true → a < b
  | [], [], h => by simp [bytesBefore] at h
  | [], _ :: _, _ => List.nil_lt_cons _ _
  | _ :: _, [], h => by simp [bytesBefore] at h
  | a :: r, b :: s, h => by
    simp only [bytesBefore, Bool.or_eq_true, decide_eq_true_eq, Bool.and_eq_true, beq_iff_eq] at h
    rcases h with h | ⟨rfl, h⟩
    · exact List.cons_lt_cons_iff.2 (.inl h)
    · exact List.cons_lt_cons_iff.2 (.inr ⟨rfl, before_lt r s h⟩)
theorem keys_at (mb : Option Nat) (W : World) : Calls Tryz.prog 67 #[.map mb] W fun e w' => e = .returned (.func (.func 82) #[] #[.pointer (some ⟨W.heap.size, 0, none⟩)]) ∧ w' = W.alloc (.cells #[.map mb] 62) :=
  (callsIn_wide (n := 5)).1 (Tryz.maps_Keys_67 mb W)
theorem names_sorted {xs : List XF} (h : risingL (xs.map XF.ent)) : ((strKeys (lmap (xs.map XF.ent))).mergeSort (fun x y => decide (x ≤ y))).map encStr = encs Value.string (xs.map fun x => x.p.nm) := by
  have e1 : strKeys (lmap (xs.map XF.ent)) = xs.map fun x => x.p.nm.data.toList := by
    show ((xs.map XF.ent).map held1).map (fun p => strOf p.1) = _
    rw [List.map_map, List.map_map]
    rfl
  rw [e1]
  have hp : (xs.map fun x => x.p.nm.data.toList).Pairwise (fun x y => decide (x ≤ y) = true) := by
    refine List.pairwise_map.2 ((List.pairwise_map.1 h).imp fun {x y} hb => ?_)
    have hb' : bytesBefore x.p.nm.data.toList y.p.nm.data.toList = true := hb
    exact decide_eq_true (List.le_of_lt (before_lt _ _ hb'))
  rw [List.mergeSort_of_pairwise hp]
  unfold encs
  rw [List.map_map, List.map_map]
  exact List.map_congr_left fun x _ => by simp [encStr]
theorem sorted_at (b : Nat) (xs : List XF) (w : World) (hm : (Chunk.lmap Tryz.prog 9 b (xs.map XF.ent)).P w) (hl : xs.length ≤ 1000000) :
    Calls Tryz.prog 66 #[.func (.func 82) #[] #[.pointer (some ⟨w.heap.size, 0, none⟩)]] (w.alloc (.cells #[.map (some b)] 62)) fun e w' => ∃ A c S, e = .returned (.slice A (xs.map fun x => x.p.nm).length c) ∧ Out (w.alloc (.cells #[.map (some b)] 62)) w' (fun _ => False) [Chunk.row Kd.string 9 (w.alloc (.cells #[.map (some b)] 62)).heap.size S (.slice A (xs.map fun x => x.p.nm).length c) (xs.map fun x => x.p.nm)] := by
  have hr := (lmap_rising strKey hm).1
  have hm' : w.ownsMap Tryz.prog 9 anyR b (xs.map XF.ent).length (lmap (xs.map XF.ent)) := hm
  refine ((callsIn_wide (n := 5)).1 (Tryz.slices_Sorted_keys_66_67 b _ (lmap (xs.map XF.ent)) _ w hm' (by rw [lmap_size, List.length_map]; simp only [maxLen]; omega) (by rw [lmap_size, List.length_map]; omega))).mono fun e w' h => ?_
  obtain ⟨v, ss, rfl, hS, hrow, hnil, hb⟩ := h
  have hlen : (xs.map fun x => x.p.nm).length = ss.length := by
    rw [hS.length_eq]
    show _ = (((xs.map XF.ent).map held1).map (fun p => strOf p.1)).length
    simp only [List.length_map]
  rw [mergeSort_of_perm hS, names_sorted hr, ← hlen] at hrow
  obtain ⟨A, c, rfl⟩ := own_slice hrow
  exact ⟨A, c, _, rfl, Out.row (d := Kd.string) (ok := fun _ => True) (Kd.R_of_own hrow (fun _ _ => trivial)) hb⟩
end Go.Proofs.YtkdahjnmldeklaaGreat.PA
end
section
namespace Go.Proofs.YtkdahjnmldeklaaGreat.PA
open Go.RowKit Go.Proofs.YtkdahjnmldeklaaGreatW.PrintWords Go.Proofs.YtkdahjnmldeklaaGreatW.PrintLast Go.Proofs.YtkdahjnmldeklaaGreatW.PrintMore
set_option linter.unusedVariables false
set_option linter.unusedSimpArgs false
namespace GVfs4_
theorem gwagg22 : ∀ w, (isAgg 22).run Tryz.prog w = .ok false w := fun _ => by kernel_rfl
theorem gwagg4 : ∀ w, (isAgg 4).run Tryz.prog w = .ok false w := fun _ => by kernel_rfl
theorem gwagg62 : ∀ w, (isAgg 62).run Tryz.prog w = .ok false w := fun _ => by kernel_rfl
theorem gwfld64_0 (g off : Nat) : ∀ w, (Instr.fieldAt 64 (.pointer (some ⟨g, off, none⟩)) 0).run Tryz.prog w = .ok (.pointer (some ⟨g, off + 0, none⟩)) w := fun _ => by kernel_rfl
theorem gwfld64_4 (g off : Nat) : ∀ w, (Instr.fieldAt 64 (.pointer (some ⟨g, off, none⟩)) 4).run Tryz.prog w = .ok (.pointer (some ⟨g, off + 4, none⟩)) w := fun _ => by kernel_rfl
theorem gwfld74_0 (g off : Nat) : ∀ w, (Instr.fieldAt 74 (.pointer (some ⟨g, off, none⟩)) 0).run Tryz.prog w = .ok (.pointer (some ⟨g, off + 0, none⟩)) w := fun _ => by kernel_rfl
set_option maxHeartbeats 4000000 in
set_option maxRecDepth 100000 in
theorem down_calls (base gd : Nat) (S : Nat → Prop) (d : PD) (w : World) (hD : (Chunk.disk base gd S d).P w) :
    Calls Tryz.prog 42 #[.pointer (some ⟨gd, 0, none⟩)] w fun e w' => e = .returned (.bool d.down) ∧ Below w.heap.size w w' := by
 obtain ⟨gm, xs, hxs, hon, hB, hL, hfs⟩ := disk_blk hD
 refine gw_start (N := 7) (vs := [.pointer (some ⟨gd, 0, none⟩)]) Tryz.func42 rfl rfl (by simp) fun a HF HO => ?_
 replace HO : Own w w [] := HO
 refine gR fun K1 hK1 => ?_
 refine V HF (op_assign rfl (ev_c _ _)) ?_
 intro _ H3; clear HF
 refine gE hK1 ?_
 refine gR fun K4 hK4 => ?_
 refine V H3 (op_move rfl (H3.ev rfl)) ?_
 intro _ H6; clear H3
 refine V H6 (op_nil rfl (H6.ev rfl)) ?_
 intro _ H8; clear H6
 refine V H8 (op_field (gwfld64_4 _ _) rfl (H8.ev rfl)) ?_
 intro _ H10; clear H8
 refine V H10 (op_load1 gwagg4 rfl (H10.ev rfl) (blk_at (argblk HO hB) rfl)) ?_
 intro _ H12; clear H10
 refine V H12 (op_assign rfl (H12.ev rfl)) ?_
 intro _ H14; clear H12
 refine gE hK4 ?_
 refine wp_ret ?_
 refine gw_ret1 H14 rfl rfl ?_
 exact ⟨rfl, HO.below⟩
set_option maxHeartbeats 4000000 in
set_option maxRecDepth 100000 in
theorem read_calls (base gd : Nat) (S : Nat → Prop) (d : PD) (nm : ByteArray) (w : World) (hD : (Chunk.disk base gd S d).P w) (hn : nm.size ≤ 9223372036854775807) (hw : wfD d) (hroom : d.used ≤ 140737488355327) :
    Calls Tryz.prog 31 #[.pointer (some ⟨gd, 0, none⟩), .string nm] w fun e w' => ∃ A c S', e = .returned (.tuple #[.slice A (readD nm d).1.length c, .int .i64 (readD nm d).2]) ∧ Out w w' (fun _ => False) [Chunk.row (Kd.int .u8) 5 w.heap.size S' (.slice A (readD nm d).1.length c) (readD nm d).1] := by
 obtain ⟨gm, xs, hxs, hon, hB, hL, hfs⟩ := disk_blk hD
 refine gw_start (N := 22) (vs := [.pointer (some ⟨gd, 0, none⟩), .string nm]) Tryz.func31 rfl rfl (by simp) fun a HF HO => ?_
 replace HO : Own w w [] := HO
 rcases look3 nm d hxs hon with hdn | ⟨hdn, hl, hgd, hno⟩ | ⟨hdn, pre, x, post, rfl, hnm, hl, hgd, hoth⟩
 ·
  refine gR fun K1 hK1 => ?_
  refine V HF (op_assign rfl (ev_c _ _)) ?_
  intro _ H3; clear HF
  refine V H3 (op_assign rfl (ev_c _ _)) ?_
  intro _ H5; clear H3
  refine gE hK1 ?_
  refine gR fun K6 hK6 => ?_
  refine V H5 (op_move rfl (H5.ev rfl)) ?_
  intro _ H8; clear H5
  refine V H8 (op_move rfl (H8.ev rfl)) ?_
  intro _ H10; clear H8
  refine gw_call H10 (want_none rfl) rfl (by decide) (op_callL Tryz.func29 (by kernel_rfl) rfl rfl (ar_cons (H10.ev rfl) (ar_cons (H10.ev rfl) ar_nil))) (find_down gd gm d nm (xs.map XF.ent) _ (argblk HO hB) (lmap_arg HO hL) hdn hn) ?_
  rintro e11 w12 ⟨rfl, hb13⟩
  refine ⟨_, rfl, fun _ H15 => ?_⟩
  have O16 := HO.after hb13
  clear H10 HO hb13
  refine V H15 (op_move rfl (H15.ev rfl)) ?_
  intro _ H19; clear H15
  refine V H19 (op_extract rfl (H19.ev rfl) rfl) ?_
  intro _ H21; clear H19
  refine V H21 (op_extract rfl (H21.ev rfl) rfl) ?_
  intro _ H23; clear H21
  refine V H23 (op_assign rfl (H23.ev rfl)) ?_
  intro _ H25; clear H23
  refine V H25 (op_assign rfl (H25.ev rfl)) ?_
  intro _ H27; clear H25
  refine gE hK6 ?_
  refine gw_seq fun K28 hK28 => ?_
  refine gR fun K29 hK29 => ?_
  refine V H27 (op_move rfl (H27.ev rfl)) ?_
  intro _ H31; clear H27
  refine V H31 (op_nei rfl (H31.ev rfl) (ev_c _ _)) ?_
  intro _ H33; clear H31
  have H34 := H33.lit (b := true) (by decide)
  clear H33
  refine gE hK29 ?_
  refine gw_cond H34 rfl (fun hb35 => ?_) (fun hb35 => ?_)
  rotate_left
  ·
   cases hb35
  refine gR fun K36 hK36 => ?_
  refine V H34 (op_move rfl (H34.ev rfl)) ?_
  intro _ H38; clear H34
  refine V H38 (op_assign rfl (ev_c _ _)) ?_
  intro _ H40; clear H38
  refine V H40 (op_assign rfl (H40.ev rfl)) ?_
  intro _ H42; clear H40
  refine gE hK36 ?_
  refine wp_ret ?_
  refine gw_thr ?_
  refine gw_ret2 H42 rfl rfl rfl ?_
  rw [read_down hdn]
  exact ⟨none, 0, _, rfl, ((O16.row_nil (Kd.int .u8) 5 w.heap.size).sel [0] (by decide)).out⟩
 ·
  refine gR fun K43 hK43 => ?_
  refine V HF (op_assign rfl (ev_c _ _)) ?_
  intro _ H45; clear HF
  refine V H45 (op_assign rfl (ev_c _ _)) ?_
  intro _ H47; clear H45
  refine gE hK43 ?_
  refine gR fun K48 hK48 => ?_
  refine V H47 (op_move rfl (H47.ev rfl)) ?_
  intro _ H50; clear H47
  refine V H50 (op_move rfl (H50.ev rfl)) ?_
  intro _ H52; clear H50
  refine gw_call H52 (want_none rfl) rfl (by decide) (op_callL Tryz.func29 (by kernel_rfl) rfl rfl (ar_cons (H52.ev rfl) (ar_cons (H52.ev rfl) ar_nil))) (find_none gd gm d nm (xs.map XF.ent) _ (argblk HO hB) (lmap_arg HO hL) hdn hl hn) ?_
  rintro e53 w54 ⟨rfl, hb55⟩
  refine ⟨_, rfl, fun _ H57 => ?_⟩
  have O58 := HO.after hb55
  clear H52 HO hb55
  refine V H57 (op_move rfl (H57.ev rfl)) ?_
  intro _ H61; clear H57
  refine V H61 (op_extract rfl (H61.ev rfl) rfl) ?_
  intro _ H63; clear H61
  refine V H63 (op_extract rfl (H63.ev rfl) rfl) ?_
  intro _ H65; clear H63
  refine V H65 (op_assign rfl (H65.ev rfl)) ?_
  intro _ H67; clear H65
  refine V H67 (op_assign rfl (H67.ev rfl)) ?_
  intro _ H69; clear H67
  refine gE hK48 ?_
  refine gw_seq fun K70 hK70 => ?_
  refine gR fun K71 hK71 => ?_
  refine V H69 (op_move rfl (H69.ev rfl)) ?_
  intro _ H73; clear H69
  refine V H73 (op_nei rfl (H73.ev rfl) (ev_c _ _)) ?_
  intro _ H75; clear H73
  have H76 := H75.lit (b := true) (by decide)
  clear H75
  refine gE hK71 ?_
  refine gw_cond H76 rfl (fun hb77 => ?_) (fun hb77 => ?_)
  rotate_left
  ·
   cases hb77
  refine gR fun K78 hK78 => ?_
  refine V H76 (op_move rfl (H76.ev rfl)) ?_
  intro _ H80; clear H76
  refine V H80 (op_assign rfl (ev_c _ _)) ?_
  intro _ H82; clear H80
  refine V H82 (op_assign rfl (H82.ev rfl)) ?_
  intro _ H84; clear H82
  refine gE hK78 ?_
  refine wp_ret ?_
  refine gw_thr ?_
  refine gw_ret2 H84 rfl rfl rfl ?_
  rw [read_none hdn hgd]
  exact ⟨none, 0, _, rfl, ((O58.row_nil (Kd.int .u8) 5 w.heap.size).sel [0] (by decide)).out⟩
 ·
  obtain ⟨hB2, hC, hcx⟩ := hfs x (by simp)
  refine gR fun K85 hK85 => ?_
  refine V HF (op_assign rfl (ev_c _ _)) ?_
  intro _ H87; clear HF
  refine V H87 (op_assign rfl (ev_c _ _)) ?_
  intro _ H89; clear H87
  refine gE hK85 ?_
  refine gR fun K90 hK90 => ?_
  refine V H89 (op_move rfl (H89.ev rfl)) ?_
  intro _ H92; clear H89
  refine V H92 (op_move rfl (H92.ev rfl)) ?_
  intro _ H94; clear H92
  refine gw_call H94 (want_none rfl) rfl (by decide) (op_callL Tryz.func29 (by kernel_rfl) rfl rfl (ar_cons (H94.ev rfl) (ar_cons (H94.ev rfl) ar_nil))) (find_some gd gm d nm ((pre ++ x :: post).map XF.ent) x.g _ (argblk HO hB) (lmap_arg HO hL) hdn hl hn) ?_
  rintro e95 w96 ⟨rfl, hb97⟩
  refine ⟨_, rfl, fun _ H99 => ?_⟩
  have O100 := HO.after hb97
  clear H94 HO hb97
  refine V H99 (op_move rfl (H99.ev rfl)) ?_
  intro _ H103; clear H99
  refine V H103 (op_extract rfl (H103.ev rfl) rfl) ?_
  intro _ H105; clear H103
  refine V H105 (op_extract rfl (H105.ev rfl) rfl) ?_
  intro _ H107; clear H105
  refine V H107 (op_assign rfl (H107.ev rfl)) ?_
  intro _ H109; clear H107
  refine V H109 (op_assign rfl (H109.ev rfl)) ?_
  intro _ H111; clear H109
  refine gE hK90 ?_
  refine gw_seq fun K112 hK112 => ?_
  refine gR fun K113 hK113 => ?_
  refine V H111 (op_move rfl (H111.ev rfl)) ?_
  intro _ H115; clear H111
  refine V H115 (op_nei rfl (H115.ev rfl) (ev_c _ _)) ?_
  intro _ H117; clear H115
  have H118 := H117.lit (b := false) (by decide)
  clear H117
  refine gE hK113 ?_
  refine gw_cond H118 rfl (fun hb119 => ?_) (fun hb119 => ?_)
  skip
  ·
   cases hb119
  refine wp_skip ?_
  refine gw_nx (hK112 _ _ ?_)
  refine gR fun K120 hK120 => ?_
  refine V H118 (op_move rfl (H118.ev rfl)) ?_
  intro _ H122; clear H118
  refine V H122 (op_nil rfl (H122.ev rfl)) ?_
  intro _ H124; clear H122
  refine V H124 (op_field (gwfld74_0 _ _) rfl (H124.ev rfl)) ?_
  intro _ H126; clear H124
  refine V H126 (op_load1 gwagg22 rfl (H126.ev rfl) (blk_at (argblk O100 hB2) rfl)) ?_
  intro _ H128; clear H126
  refine gw_call H128 (want_none rfl) rfl (by decide) (op_callL Tryz.func34 (by kernel_rfl) rfl rfl (ar_cons (H128.ev rfl) ar_nil)) (clone0 x.A x.c x.p.b _ (Kd.C_below hC O100.below) hcx (by have h_ := wf_len hw (getF_mem hgd).1; omega)) ?_
  rintro e132 w133 ⟨A129, c130, S131, rfl, hb134⟩
  refine ⟨_, rfl, fun _ H136 => ?_⟩
  have O137 := O100.fresh hb134
  have hbel138 := O100.below
  clear H128 O100 hb134
  have O139 := O137.lowrow 0 rfl (base' := w.heap.size) (Below.size hbel138)
  refine V H136 (op_assign rfl (H136.ev rfl)) ?_
  intro _ H141; clear H136
  refine V H141 (op_assign rfl (ev_c _ _)) ?_
  intro _ H143; clear H141
  refine gE hK120 ?_
  refine wp_ret ?_
  refine gw_ret2 H143 rfl rfl rfl ?_
  rw [read_some hdn hgd]
  exact ⟨_, _, _, rfl, (O139.sel [0] (by decide)).out⟩
set_option maxHeartbeats 4000000 in
set_option maxRecDepth 100000 in
theorem names_calls (base gd : Nat) (S : Nat → Prop) (d : PD) (w : World) (hD : (Chunk.disk base gd S d).P w) (hlen : d.fs.length ≤ 1000000) :
    Calls Tryz.prog 45 #[.pointer (some ⟨gd, 0, none⟩)] w fun e w' => ∃ A c S', e = .returned (.slice A (namesD d).length c) ∧ Out w w' (fun _ => False) [Chunk.row Kd.string 9 w.heap.size S' (.slice A (namesD d).length c) (namesD d)] := by
 obtain ⟨gm, xs, hxs, hon, hB, hL, hfs⟩ := disk_blk hD
 have hxl : xs.length ≤ 1000000 := by rw [← hxs, List.length_map] at hlen; exact hlen
 have en_ : (xs.map fun x => x.p.nm) = namesD d := by unfold namesD; rw [← hxs, List.map_map]; rfl
 refine gw_start (N := 9) (vs := [.pointer (some ⟨gd, 0, none⟩)]) Tryz.func45 rfl rfl (by simp) fun a HF HO => ?_
 replace HO : Own w w [] := HO
 refine gR fun K1 hK1 => ?_
 refine V HF (op_assign rfl (ev_c _ _)) ?_
 intro _ H3; clear HF
 refine gE hK1 ?_
 refine gR fun K4 hK4 => ?_
 refine V H3 (op_move rfl (H3.ev rfl)) ?_
 intro _ H6; clear H3
 refine V H6 (op_nil rfl (H6.ev rfl)) ?_
 intro _ H8; clear H6
 refine V H8 (op_field (gwfld64_0 _ _) rfl (H8.ev rfl)) ?_
 intro _ H10; clear H8
 refine V H10 (op_load1 gwagg62 rfl (H10.ev rfl) (blk_at (argblk HO hB) rfl)) ?_
 intro _ H12; clear H10
 have hOn := HO
 refine gw_call H12 (want_none rfl) rfl (by decide) (op_callL Tryz.func67 (by kernel_rfl) rfl rfl (ar_cons (H12.ev rfl) ar_nil)) (keys_at _ _) ?_
 rintro _ _ ⟨rfl, rfl⟩
 refine ⟨_, rfl, fun _ H17 => ?_⟩
 have O18 := HO.new (.cells #[.map (some gm)] 62)
 clear H12 HO
 have O19 : Own w (w.alloc (.cells #[.map (some gm)] 62)) [Bk w.heap.size [.map (some gm)] 62] := O18
 clear O18
 refine gw_call H17 (want_none rfl) rfl (by decide) (op_callL Tryz.func66 (by kernel_rfl) rfl rfl (ar_cons (H17.ev rfl) ar_nil)) (sorted_at gm xs _ (lmap_arg hOn hL) hxl) ?_
 rintro e23 w24 ⟨A20, c21, S22, rfl, hb25⟩
 refine ⟨_, rfl, fun _ H27 => ?_⟩
 have O28 := O19.fresh hb25
 have hbel29 := O19.below
 clear H17 O19 hb25
 have O30 := O28.lowrow 0 rfl (base' := w.heap.size) (Below.size hbel29)
 refine V H27 (op_assign rfl (H27.ev rfl)) ?_
 intro _ H32; clear H27
 refine gE hK4 ?_
 refine wp_ret ?_
 refine gw_ret1 H32 rfl rfl ?_
 rw [← en_]
 exact ⟨_, _, _, rfl, (O30.sel [0] (by decide)).out⟩
end GVfs4_
export GVfs4_ (down_calls read_calls names_calls)
end Go.Proofs.YtkdahjnmldeklaaGreat.PA
end
section
namespace Go.Proofs.YtkdahjnmldeklaaGreat.PA
open Go.RowKit Go.Proofs.YtkdahjnmldeklaaGreatW.PrintWords Go.Proofs.YtkdahjnmldeklaaGreatW.PrintLast Go.Proofs.YtkdahjnmldeklaaGreatW.PrintMore
set_option linter.unusedVariables false
set_option linter.unusedSimpArgs false
namespace GVfs5_
theorem gwagg22 : ∀ w, (isAgg 22).run Tryz.prog w = .ok false w := fun _ => by kernel_rfl
theorem gwagg3 : ∀ w, (isAgg 3).run Tryz.prog w = .ok false w := fun _ => by kernel_rfl
theorem gwagg62 : ∀ w, (isAgg 62).run Tryz.prog w = .ok false w := fun _ => by kernel_rfl
theorem gwagg9 : ∀ w, (isAgg 9).run Tryz.prog w = .ok false w := fun _ => by kernel_rfl
theorem gwfld64_0 (g off : Nat) : ∀ w, (Instr.fieldAt 64 (.pointer (some ⟨g, off, none⟩)) 0).run Tryz.prog w = .ok (.pointer (some ⟨g, off + 0, none⟩)) w := fun _ => by kernel_rfl
theorem gwfld64_2 (g off : Nat) : ∀ w, (Instr.fieldAt 64 (.pointer (some ⟨g, off, none⟩)) 2).run Tryz.prog w = .ok (.pointer (some ⟨g, off + 2, none⟩)) w := fun _ => by kernel_rfl
theorem gwfld64_3 (g off : Nat) : ∀ w, (Instr.fieldAt 64 (.pointer (some ⟨g, off, none⟩)) 3).run Tryz.prog w = .ok (.pointer (some ⟨g, off + 3, none⟩)) w := fun _ => by kernel_rfl
theorem gwfld64_4 (g off : Nat) : ∀ w, (Instr.fieldAt 64 (.pointer (some ⟨g, off, none⟩)) 4).run Tryz.prog w = .ok (.pointer (some ⟨g, off + 4, none⟩)) w := fun _ => by kernel_rfl
theorem gwfld74_0 (g off : Nat) : ∀ w, (Instr.fieldAt 74 (.pointer (some ⟨g, off, none⟩)) 0).run Tryz.prog w = .ok (.pointer (some ⟨g, off + 0, none⟩)) w := fun _ => by kernel_rfl
theorem gwfld74_1 (g off : Nat) : ∀ w, (Instr.fieldAt 74 (.pointer (some ⟨g, off, none⟩)) 1).run Tryz.prog w = .ok (.pointer (some ⟨g, off + 1, none⟩)) w := fun _ => by kernel_rfl
theorem gwsiz22 : ∀ w, (sizeOf 22).run Tryz.prog w = .ok 1 w := fun _ => by kernel_rfl
theorem gwsiz3 : ∀ w, (sizeOf 3).run Tryz.prog w = .ok 1 w := fun _ => by kernel_rfl
theorem gwsiz4 : ∀ w, (sizeOf 4).run Tryz.prog w = .ok 1 w := fun _ => by kernel_rfl
theorem gwsiz5 : ∀ w, (sizeOf 5).run Tryz.prog w = .ok 1 w := fun _ => by kernel_rfl
theorem gwsiz9 : ∀ w, (sizeOf 9).run Tryz.prog w = .ok 1 w := fun _ => by kernel_rfl
theorem gwzer71 : ∀ w, (zeroValue 71).run Tryz.prog w = .ok (.pointer none) w := fun _ => by kernel_rfl
set_option maxHeartbeats 4000000 in
set_option maxRecDepth 100000 in
theorem crash_calls (w0 w : World) (R : Chunk) (gd : Nat) (S : Nat → Prop) (d : PD) (Ak0 : Option Addr) (ck0 : Nat) (keep : List Int) (hk0 : ∀ w1, Own w0 w1 [R] → Kd.C (Kd.int .i64) w1 Ak0 keep.length keep) (hc0 : keep.length ≤ ck0) (hw : wfD d) (hlen : d.fs.length ≤ 1000000) (HO : Own w0 w [R, Chunk.disk w0.heap.size gd S d]) :
    Calls Tryz.prog 14 #[.pointer (some ⟨gd, 0, none⟩), .slice Ak0 keep.length ck0] w fun e w' => e = .returned (.tuple #[]) ∧ ∃ S', Own w0 w' [R, Chunk.disk w0.heap.size gd S' (crashD keep d)] := by
 have hu0 := hw.used
 have hm0 := hw.most
 have hfu := hw.fuse
 obtain ⟨gm, xs, hxs, hon, HO⟩ := disk_open2 HO
 have hnl : (xs.map fun x => x.p.nm).length ≤ 1000000 := by rw [← hxs, List.length_map] at hlen; rw [List.length_map]; exact hlen
 refine gw_startO (N := 84) (vs := [.pointer (some ⟨gd, 0, none⟩), .slice Ak0 keep.length ck0]) Tryz.func14 rfl rfl (by simp) fun a HF => ?_
 refine gR fun K1 hK1 => ?_
 refine V HF (op_move rfl (HF.ev rfl)) ?_
 intro _ H3; clear HF
 refine V H3 (op_move rfl (H3.ev rfl)) ?_
 intro _ H5; clear H3
 refine V H5 (op_nil rfl (H5.ev rfl)) ?_
 intro _ H7; clear H5
 refine V H7 (op_field (gwfld64_4 _ _) rfl (H7.ev rfl)) ?_
 intro _ H9; clear H7
 refine gw_set 1 H9 HO rfl (want_none rfl) rfl (op_store1 gwsiz4 rfl (H9.ev rfl) (ev_c _ _) rfl (blk_at (HO.get 1 rfl) rfl) (blkf (HO.get 1 rfl))) ?_
 intro _ w12 H11 O13; clear H9 HO
 refine V H11 (op_nil rfl (H11.ev rfl)) ?_
 intro _ H15; clear H11
 refine V H15 (op_field (gwfld64_3 _ _) rfl (H15.ev rfl)) ?_
 intro _ H17; clear H15
 refine gw_set 1 H17 O13 rfl (want_none rfl) rfl (op_store1 gwsiz3 rfl (H17.ev rfl) (ev_c _ _) rfl (blk_at (O13.get 1 rfl) rfl) (blkf (O13.get 1 rfl))) ?_
 intro _ w20 H19 O21; clear H17 O13
 refine gE hK1 ?_
 refine gR fun K22 hK22 => ?_
 refine V H19 (op_move rfl (H19.ev rfl)) ?_
 intro _ H24; clear H19
 obtain ⟨S_d, HOd⟩ := disk_close2 (R := R) (base := w0.heap.size) (gd := gd) (gm := gm) (d := { d with down := false, fuse := 0 }) (xs := xs) hxs (by exact O21.sel [0, 1, 2, 3] (by decide))
 refine gw_call H24 (want_none rfl) rfl (by decide) (op_callL Tryz.func45 (by kernel_rfl) rfl rfl (ar_cons (H24.ev rfl) ar_nil)) (by have h_ := names_calls _ _ _ _ _ (HOd.get 1 rfl) hlen; rw [show namesD { d with down := false, fuse := 0 } = (xs.map fun x => x.p.nm) by (unfold namesD; show d.fs.map PF.nm = _; rw [← hxs, List.map_map]; rfl)] at h_; exact h_) ?_
 rintro e28 w29 ⟨A25, c26, S27, rfl, hb30⟩
 refine ⟨_, rfl, fun _ H32 => ?_⟩
 have O33 := O21.fresh hb30
 have hbel34 := O21.below
 clear H24 O21 hb30
 have O35 := O33.lowrow 0 rfl (base' := w0.heap.size) (Below.size hbel34)
 have O36 := O35.row_view 0 rfl
 clear O35
 have O37 : Own w0 w29 [Chunk.view Kd.string S27 A25 ((xs.map fun x => x.p.nm).length) c26 (xs.map fun x => x.p.nm), R, Bk gd [.map (some gm), J d.most, J d.used, J 0, .bool false] 64, Chunk.lmap Tryz.prog 9 gm (xs.map XF.ent), Chunk.files w0.heap.size xs] := O36
 clear O36
 refine V H32 (op_len Tryz.underlying99 rfl (H32.ev rfl)) ?_
 intro _ H39; clear H32
 refine V H39 (op_move rfl (ev_c _ _)) ?_
 intro _ H41; clear H39
 refine gE hK22 ?_
 refine wp_block ?_
 refine gw_loop (fun m_ a_ w_ => ∃ (i : Int) (ys : List XF) (zs : List XF) (us : Int) (Ak : Option Addr) (ck : Nat) (kl : List Int), Fr 84 a_ [(18, J i), (1, .slice Ak kl.length ck), (0, .pointer (some ⟨gd, 0, none⟩)), (16, .slice A25 ((xs.map fun x => x.p.nm).length) c26), (17, J (((xs.map fun x => x.p.nm).length) : Int))] ∧ Own w0 w_ [R, Bk gd [.map (some gm), J d.most, J us, J 0, .bool false] 64, Chunk.lmap Tryz.prog 9 gm ((ys ++ zs).map XF.ent), Chunk.files w0.heap.size (ys ++ zs), Chunk.view Kd.string S27 A25 ((xs.map fun x => x.p.nm).length) c26 (xs.map fun x => x.p.nm)] ∧ (i = ys.length ∧ i ≤ (xs.map fun x => x.p.nm).length) ∧ ((xs.map fun x => x.p.nm) = (ys ++ zs).map fun x => x.p.nm) ∧ (onceX (ys ++ zs)) ∧ (us = (((ys ++ zs).map fun x => x.p.b.length).sum : Nat) ∧ us ≤ d.used) ∧ (∀ x ∈ zs, 0 ≤ x.p.sf ∧ x.p.sf ≤ x.p.b.length ∧ x.p.nm.size ≤ 40) ∧ ((crashF d.fs keep).1 = ys.map XF.p ++ (crashF (zs.map XF.p) kl).1 ∧ d.used - (crashF d.fs keep).2 = us - (crashF (zs.map XF.p) kl).2) ∧ (∀ w1, Own w0 w1 [R] → Kd.C (Kd.int .i64) w1 Ak kl.length kl) ∧ (kl.length ≤ ck) ∧ m_ = ((xs.map fun x => x.p.nm).length - i.toNat)) (((xs.map fun x => x.p.nm).length - (0 : Int).toNat)) ?_ ?_
 ·
  refine ⟨0, [], xs, d.used, Ak0, ck0, keep, (H41.pick (t := 18) rfl (H41.pick (t := 1) rfl (H41.pick (t := 0) rfl (H41.pick (t := 16) rfl (H41.pick (t := 17) rfl H41.nil))))), O37.sel [1, 2, 3, 4, 0] (by decide), ?_, ?_, ?_, ?_, ?_, ?_, ?_, ?_, rfl⟩
  ·
   simp
  ·
   simp
  ·
   exact hon
  ·
   rw [List.nil_append]; exact ⟨by rw [hw.used, ← hxs, List.map_map]; rfl, Int.le_refl _⟩
  ·
   intro x_ hx_; have h1_ : x_.p ∈ d.fs := by rw [← hxs]; exact List.mem_map_of_mem hx_
   exact ⟨(hw.sf _ h1_).1, (hw.sf _ h1_).2, hw.nm _ h1_⟩
  ·
   rw [hxs]; simp
  ·
   exact hk0
  ·
   exact hc0
 ·
  rintro m43 _ w45 ⟨i, ys, zs, us, Ak, ck, kl, H46, O47, hi, hnm, hon2, hus, hsf, hcr, hkc, hkl, hm48⟩
  refine gR fun K49 hK49 => ?_
  refine V H46 (op_lss rfl (H46.ev rfl) (H46.ev rfl)) ?_
  intro _ H51; clear H46
  refine gE hK49 ?_
  refine gw_seq fun K52 hK52 => ?_
  refine gw_cond H51 rfl (fun hb53 => ?_) (fun hb53 => ?_)
  ·
   have H54 := H51.subst_ (d := 19) (b := true) rfl hb53
   clear H51
   (try simp only [decide_eq_true_eq] at hb53)
   have hb_ := hb53
   have hz_ : zs ≠ [] := by intro e; rw [hnm, e] at hb_; simp at hb_; omega
   obtain ⟨x, zs', rfl⟩ := List.exists_cons_of_ne_nil hz_
   clear hb_ hz_
   have hx1 := hsf x (List.mem_cons_self ..)
   have hus2 := hus
   rw [totalX_mid] at hus2
   have hex : (xs.map fun x => x.p.nm).getD i.toNat (⟨#[]⟩ : ByteArray) = x.p.nm := by rw [hnm]; simp [hi.1]
   have hl1 := look_mid hon2
   have O55 := Own.file_open (pre := ys) (x := x) (post := zs') (by exact O47.sel [3, 0, 1, 2, 4] (by decide))
   have O56 : Own w0 w45 [Bk x.g [.slice x.A x.p.b.length x.c, J x.p.sf] 74, Chunk.row (Kd.int .u8) 5 w0.heap.size x.S (.slice x.A x.p.b.length x.c) x.p.b, Chunk.files w0.heap.size (ys ++ zs'), R, Bk gd [.map (some gm), J d.most, J us, J 0, .bool false] 64, Chunk.lmap Tryz.prog 9 gm ((ys ++ x :: zs').map XF.ent), Chunk.view Kd.string S27 A25 ((xs.map fun x => x.p.nm).length) c26 (xs.map fun x => x.p.nm)] := O55
   clear O55
   refine wp_skip ?_
   refine gw_nx (hK52 _ _ ?_)
   refine gw_seq fun K57 hK57 => ?_
   refine wp_block ?_
   refine gR fun K58 hK58 => ?_
   have O65 := O56.pin 6 rfl
   clear O56
   have O66 : Own w0 w45 [Bk x.g [.slice x.A x.p.b.length x.c, J x.p.sf] 74, Chunk.row (Kd.int .u8) 5 w0.heap.size x.S (.slice x.A x.p.b.length x.c) x.p.b, Chunk.files w0.heap.size (ys ++ zs'), R, Bk gd [.map (some gm), J d.most, J us, J 0, .bool false] 64, Chunk.lmap Tryz.prog 9 gm ((ys ++ x :: zs').map XF.ent), Chunk.viewAt w45 Kd.string S27 A25 ((xs.map fun x => x.p.nm).length) c26 (xs.map fun x => x.p.nm)] := O65
   clear O65
   obtain ⟨ad59, cs62, hA60, hl63, hK64, hc61, _⟩ := Kd.F_get (viewAt_F (O66.get 6 rfl)) (⟨#[]⟩ : ByteArray) i (by omega) (by omega)
   obtain rfl := str_openF hK64
   clear hl63
   refine V H54 (op_index Tryz.underlying99 gwsiz9 rfl (H54.ev rfl) (H54.ev rfl) hA60 (⟨by omega, by omega⟩)) ?_
   intro _ H68; clear H54
   refine V H68 (op_load1 gwagg9 rfl (H68.ev rfl) (((pin_cells (O66.get 6 rfl) hA60 hc61) 0 _ rfl))) ?_
   intro _ H70; clear H68
   have H71 := H70.conv (v' := .string x.p.nm) (congrArg Value.string hex)
   clear H70
   refine V H71 (op_assign rfl (H71.ev rfl)) ?_
   intro _ H73; clear H71
   refine gE hK58 ?_
   refine gR fun K74 hK74 => ?_
   refine V H73 (op_move rfl (H73.ev rfl)) ?_
   intro _ H76; clear H73
   refine V H76 (op_nil rfl (H76.ev rfl)) ?_
   intro _ H78; clear H76
   refine V H78 (op_field (gwfld64_0 _ _) rfl (H78.ev rfl)) ?_
   intro _ H80; clear H78
   refine V H80 (op_load1 gwagg62 rfl (H80.ev rfl) (blk_at (O66.get 4 rfl) rfl)) ?_
   intro _ H82; clear H80
   refine V H82 (op_move rfl (H82.ev rfl)) ?_
   intro _ H84; clear H82
   refine V H84 (op_ml_some strKey Tryz.underlying62 gwzer71 rfl (H84.ev rfl) (H84.ev rfl) (keyS (by omega)) (O66.get 5 rfl) (hl1)) ?_
   intro _ H86; clear H84
   refine V H86 (op_assign rfl (H86.ev rfl)) ?_
   intro _ H88; clear H86
   refine gE hK74 ?_
   refine gw_seq fun K89 hK89 => ?_
   refine gw_drawB O66 (by kernel_rfl) (by kernel_rfl) fun w90 O91 => ?_
   clear O66
   refine gq_ev H88 (want_none rfl) rfl (by decide) (fun wq hq => have HO := O91.after hq; (op_move rfl (H88.ev rfl))) ?_
   intro _ H93; clear H88
   refine gq_ev H93 (want_none rfl) rfl (by decide) (fun wq hq => have HO := O91.after hq; (op_nil rfl (H93.ev rfl))) ?_
   intro _ H95; clear H93
   refine gq_ev H95 (want_none rfl) rfl (by decide) (fun wq hq => have HO := O91.after hq; (op_field (gwfld74_0 _ _) rfl (H95.ev rfl))) ?_
   intro _ H97; clear H95
   refine gq_ev H97 (want_none rfl) rfl (by decide) (fun wq hq => have HO := O91.after hq; (op_load1 gwagg22 rfl (H97.ev rfl) (blk_at (HO.get 0 rfl) rfl))) ?_
   intro _ H99; clear H97
   refine gq_ev H99 (want_none rfl) rfl (by decide) (fun wq hq => have HO := O91.after hq; (op_len Tryz.underlying22 rfl (H99.ev rfl))) ?_
   intro _ H101; clear H99
   refine gq_ev H101 (want_none rfl) rfl (by decide) (fun wq hq => have HO := O91.after hq; (op_move rfl (H101.ev rfl))) ?_
   intro _ H103; clear H101
   refine gq_ev H103 (want_none rfl) rfl (by decide) (fun wq hq => have HO := O91.after hq; (op_nil rfl (H103.ev rfl))) ?_
   intro _ H105; clear H103
   refine gq_ev H105 (want_none rfl) rfl (by decide) (fun wq hq => have HO := O91.after hq; (op_field (gwfld74_1 _ _) rfl (H105.ev rfl))) ?_
   intro _ H107; clear H105
   refine gq_ev H107 (want_none rfl) rfl (by decide) (fun wq hq => have HO := O91.after hq; (op_load1 gwagg3 rfl (H107.ev rfl) (blk_at (HO.get 0 rfl) rfl))) ?_
   intro _ H109; clear H107
   refine gq_ev H109 (want_none rfl) rfl (by decide) (fun wq hq => have HO := O91.after hq; (op_sub rfl (H109.ev rfl) (H109.ev rfl) (by omega))) ?_
   intro _ H111; clear H109
   refine gq_ev H111 (want_none rfl) rfl (by decide) (fun wq hq => have HO := O91.after hq; (op_assign rfl (H111.ev rfl))) ?_
   intro _ H113; clear H111
   refine wpQuiet_nil ?_
   intro w114 hq
   have O115 := O91.after hq
   clear O91 hq
   refine gw_nx (hK89 _ _ ?_)
   refine gw_seq fun K116 hK116 => ?_
   refine gR fun K117 hK117 => ?_
   refine V H113 (op_move rfl (H113.ev rfl)) ?_
   intro _ H119; clear H113
   refine V H119 (op_eqi rfl (H119.ev rfl) (ev_c _ _)) ?_
   intro _ H121; clear H119
   refine gE hK117 ?_
   refine gw_cond H121 rfl (fun hb122 => ?_) (fun hb122 => ?_)
   ·
    have H123 := H121.subst_ (d := 39) (b := true) rfl hb122
    clear H121
    (try simp only [decide_eq_true_eq] at hb122)
    have h1z : (x.p.b.length : Int) - x.p.sf = 0 := by omega
    refine wp_exit ?_
    refine gw_thx ?_
    refine gw_in ?_
    refine gw_nx (hK57 _ _ ?_)
    refine wp_region_lit ?_
    refine V H123 (op_add rfl (H123.ev rfl) (ev_c _ _) (by omega)) ?_
    intro _ H125; clear H123
    refine V H125 (op_move rfl (H125.ev rfl)) ?_
    intro _ H127; clear H125
    refine wpList_nil ?_
    have O128 := O115.unpin 6 rfl
    clear O115
    have O129 : Own w0 w114 [Bk x.g [.slice x.A x.p.b.length x.c, J x.p.sf] 74, Chunk.row (Kd.int .u8) 5 w0.heap.size x.S (.slice x.A x.p.b.length x.c) x.p.b, Chunk.files w0.heap.size (ys ++ zs'), R, Bk gd [.map (some gm), J d.most, J us, J 0, .bool false] 64, Chunk.lmap Tryz.prog 9 gm ((ys ++ x :: zs').map XF.ent), Chunk.view Kd.string S27 A25 ((xs.map fun x => x.p.nm).length) c26 (xs.map fun x => x.p.nm)] := O128
    clear O128
    have O130 := Own.file_close (x := x) (pre := ys) (post := zs') (by exact O129.sel [0, 1, 2, 3, 4, 5, 6] (by decide))
    have el_ : (ys ++ x :: zs').map XF.ent = (ys ++ x :: zs').map XF.ent := by simp [XF.ent]
    rw [el_] at O130
    have ea_ : ys ++ x :: zs' = (ys ++ [x]) ++ zs' := by simp
    rw [ea_] at O130
    refine gw_nx ⟨_, ?_, i + 1, ys ++ [x], zs', us, Ak, ck, kl, (H127.pick (t := 18) rfl (H127.pick (t := 1) rfl (H127.pick (t := 0) rfl (H127.pick (t := 16) rfl (H127.pick (t := 17) rfl H127.nil))))), O130.sel [1, 2, 3, 0, 4] (by decide), ?_, ?_, ?_, ?_, ?_, ?_, ?_, ?_, rfl⟩
    ·
     rw [hm48]; omega
    ·
     exact ⟨by rw [List.length_append, List.length_singleton]; omega, by omega⟩
    ·
     rw [hnm, ea_.symm]; try simp
    ·
     rw [← ea_]; exact once_same hon2 rfl
    ·
     rw [← ea_]; exact hus
    ·
     intro x_ hx_; exact hsf x_ (List.mem_cons_of_mem _ hx_)
    ·
     exact ⟨by rw [hcr.1, List.map_cons, crash_keep h1z]; simp, by rw [hcr.2, List.map_cons, crash_keep h1z]⟩
    ·
     intro w_ h_; exact hkc w_ h_
    ·
     exact hkl
   ·
    have H132 := H121.subst_ (d := 39) (b := false) rfl hb122
    clear H121
    (try simp only [decide_eq_false_iff_not] at hb122)
    have h1_ := hb122
    refine wp_skip ?_
    refine gw_nx (hK116 _ _ ?_)
    refine gR fun K133 hK133 => ?_
    refine V H132 (op_assign rfl (ev_c _ _)) ?_
    intro _ H135; clear H132
    refine gE hK133 ?_
    refine gw_seq fun K136 hK136 => ?_
    refine gR fun K137 hK137 => ?_
    refine V H135 (op_move rfl (H135.ev rfl)) ?_
    intro _ H139; clear H135
    refine V H139 (op_len Tryz.underlying48 rfl (H139.ev rfl)) ?_
    intro _ H141; clear H139
    refine V H141 (op_gtr rfl (H141.ev rfl) (ev_c _ _)) ?_
    intro _ H143; clear H141
    refine gE hK137 ?_
    refine gw_cond H143 rfl (fun hb144 => ?_) (fun hb144 => ?_)
    ·
     have H145 := H143.subst_ (d := 42) (b := true) rfl hb144
     clear H143
     (try simp only [decide_eq_true_eq] at hb144)
     have hke : 0 ≤ keepN kl ((x.p.b.length : Int) - x.p.sf) ∧ keepN kl ((x.p.b.length : Int) - x.p.sf) ≤ ((x.p.b.length : Int) - x.p.sf) := keepN_in kl (by omega)
     have hkn1 : keepN kl ((x.p.b.length : Int) - x.p.sf) = (keepN kl ((x.p.b.length : Int) - x.p.sf)) := rfl
     have hkd : kl.drop 1 = (kl.drop (1 : Int).toNat) := rfl
     have hl2 : ((x.p.b.take (x.p.sf + (keepN kl ((x.p.b.length : Int) - x.p.sf))).toNat).length : Int) = x.p.sf + (keepN kl ((x.p.b.length : Int) - x.p.sf)) := by rw [List.length_take]; omega
     refine gw_drawB O115 (by kernel_rfl) (by kernel_rfl) fun w146 O147 => ?_
     clear O115
     refine gq_ev H145 (want_none rfl) rfl (by decide) (fun wq hq => have HO := O147.after hq; (op_move rfl (H145.ev rfl))) ?_
     intro _ H149; clear H145
     obtain ⟨ad150, cs153, hA151, hl154, hK155, hc152⟩ := Kd.C_get (hkc _ (O147.sel [3] (by decide))) (0 : Int) 0 (by omega) (by omega)
     obtain rfl := id hK155
     clear hl154
     refine gq_ev H149 (want_none rfl) rfl (by decide) (fun wq hq => have HO := O147.after hq; (op_index Tryz.underlying48 gwsiz3 rfl (H149.ev rfl) (ev_c _ _) hA151 (⟨by omega, by omega⟩))) ?_
     intro _ H157; clear H149
     refine gq_ev H157 (want_none rfl) rfl (by decide) (fun wq hq => have HO := O147.after hq; (op_load1 gwagg3 rfl (H157.ev rfl) ((cellb hq (at0 hc152))))) ?_
     intro _ H159; clear H157
     refine gq_ev H159 (want_none rfl) rfl (by decide) (fun wq hq => have HO := O147.after hq; (op_max rfl (H159.ev rfl) (ev_c _ _))) ?_
     intro _ H161; clear H159
     refine gq_ev H161 (want_none rfl) rfl (by decide) (fun wq hq => have HO := O147.after hq; (op_move rfl (H161.ev rfl))) ?_
     intro _ H163; clear H161
     refine gq_ev H163 (want_none rfl) rfl (by decide) (fun wq hq => have HO := O147.after hq; (op_min rfl (H163.ev rfl) (H163.ev rfl))) ?_
     intro _ H165; clear H163
     have H166 := H165.conv (v' := J (keepN kl ((x.p.b.length : Int) - x.p.sf))) (congrArg (Value.int .i64) (keepN_pos (by omega)))
     clear H165
     refine gq_ev H166 (want_none rfl) rfl (by decide) (fun wq hq => have HO := O147.after hq; (op_move rfl (H166.ev rfl))) ?_
     intro _ H168; clear H166
     obtain ⟨A169, c170, hr171, hc172, hC173, hA174⟩ := cut_lo (P := Tryz.prog) (d := (Kd.int .i64)) (t := 48) (e := 3) Tryz.underlying48 gwsiz3 Ak ck kl hkl 1 (by omega) (by omega)
     refine gq_ev H168 (want_none rfl) rfl (by decide) (fun wq hq => have HO := O147.after hq; (op_cut Tryz.underlying48 hr171 rfl (H168.ev rfl) (some_ev (ev_c _ _)) rfl)) ?_
     intro _ H176; clear H168
     refine gq_ev H176 (want_none rfl) rfl (by decide) (fun wq hq => have HO := O147.after hq; (op_assign rfl (H176.ev rfl))) ?_
     intro _ H178; clear H176
     refine gq_ev H178 (want_none rfl) rfl (by decide) (fun wq hq => have HO := O147.after hq; (op_assign rfl (H178.ev rfl))) ?_
     intro _ H180; clear H178
     refine wpQuiet_nil ?_
     intro w181 hq
     have O182 := O147.after hq
     clear O147 hq
     refine gw_nx (hK136 _ _ ?_)
     refine gR fun K183 hK183 => ?_
     refine V H180 (op_move rfl (H180.ev rfl)) ?_
     intro _ H185; clear H180
     refine V H185 (op_nil rfl (H185.ev rfl)) ?_
     intro _ H187; clear H185
     refine V H187 (op_field (gwfld64_2 _ _) rfl (H187.ev rfl)) ?_
     intro _ H189; clear H187
     refine V H189 (op_load1 gwagg3 rfl (H189.ev rfl) (blk_at (O182.get 4 rfl) rfl)) ?_
     intro _ H191; clear H189
     refine V H191 (op_move rfl (H191.ev rfl)) ?_
     intro _ H193; clear H191
     refine V H193 (op_move rfl (H193.ev rfl)) ?_
     intro _ H195; clear H193
     refine V H195 (op_sub rfl (H195.ev rfl) (H195.ev rfl) (by omega)) ?_
     intro _ H197; clear H195
     refine V H197 (op_sub rfl (H197.ev rfl) (H197.ev rfl) (by omega)) ?_
     intro _ H199; clear H197
     refine V H199 (op_nil rfl (H199.ev rfl)) ?_
     intro _ H201; clear H199
     refine V H201 (op_field (gwfld64_2 _ _) rfl (H201.ev rfl)) ?_
     intro _ H203; clear H201
     refine gw_set 4 H203 O182 rfl (want_none rfl) rfl (op_store1 gwsiz3 rfl (H203.ev rfl) (H203.ev rfl) rfl (blk_at (O182.get 4 rfl) rfl) (blkf (O182.get 4 rfl))) ?_
     intro _ w206 H205 O207; clear H203 O182
     refine gE hK183 ?_
     refine gw_seq fun K208 hK208 => ?_
     refine gx_draw (M := [Bk x.g [.slice x.A x.p.b.length x.c, J x.p.sf] 74, Chunk.row (Kd.int .u8) 5 w0.heap.size x.S (.slice x.A x.p.b.length x.c) x.p.b, Chunk.files w0.heap.size (ys ++ zs'), R, Bk gd [.map (some gm), J d.most, J (us - (((x.p.b.length : Int) - x.p.sf) - (keepN kl ((x.p.b.length : Int) - x.p.sf)))), J 0, .bool false] 64, Chunk.lmap Tryz.prog 9 gm ((ys ++ x :: zs').map XF.ent), Chunk.viewAt w45 Kd.string S27 A25 ((xs.map fun x => x.p.nm).length) c26 (xs.map fun x => x.p.nm)]) (fun j_ => j_ == 14) O207 (by kernel_rfl) fun w209 O210 => ?_
     clear O207
     refine gx_take 0 rfl (by kernel_rfl) H205 (by exact O210.sel [0, 1, 2, 3, 4, 5, 6] (by decide)) (want_none rfl) rfl (by decide) (fun wq HO => (op_move rfl (H205.ev rfl))) ?_
     intro _ H212; clear H205
     refine gx_take 1 rfl (by kernel_rfl) H212 (by exact O210.sel [0, 1, 2, 3, 4, 5, 6] (by decide)) (want_none rfl) rfl (by decide) (fun wq HO => (op_move rfl (H212.ev rfl))) ?_
     intro _ H214; clear H212
     refine gx_take 2 rfl (by kernel_rfl) H214 (by exact O210.sel [0, 1, 2, 3, 4, 5, 6] (by decide)) (want_none rfl) rfl (by decide) (fun wq HO => (op_nil rfl (H214.ev rfl))) ?_
     intro _ H216; clear H214
     refine gx_take 3 rfl (by kernel_rfl) H216 (by exact O210.sel [0, 1, 2, 3, 4, 5, 6] (by decide)) (want_none rfl) rfl (by decide) (fun wq HO => (op_field (gwfld74_0 _ _) rfl (H216.ev rfl))) ?_
     intro _ H218; clear H216
     refine gx_take 4 rfl (by kernel_rfl) H218 (by exact O210.sel [0, 1, 2, 3, 4, 5, 6] (by decide)) (want_none rfl) rfl (by decide) (fun wq HO => (op_load1 gwagg22 rfl (H218.ev rfl) (blk_at (HO.get 0 rfl) rfl))) ?_
     intro _ H220; clear H218
     refine gx_take 5 rfl (by kernel_rfl) H220 (by exact O210.sel [0, 1, 2, 3, 4, 5, 6] (by decide)) (want_none rfl) rfl (by decide) (fun wq HO => (op_move rfl (H220.ev rfl))) ?_
     intro _ H222; clear H220
     refine gx_take 6 rfl (by kernel_rfl) H222 (by exact O210.sel [0, 1, 2, 3, 4, 5, 6] (by decide)) (want_none rfl) rfl (by decide) (fun wq HO => (op_nil rfl (H222.ev rfl))) ?_
     intro _ H224; clear H222
     refine gx_take 7 rfl (by kernel_rfl) H224 (by exact O210.sel [0, 1, 2, 3, 4, 5, 6] (by decide)) (want_none rfl) rfl (by decide) (fun wq HO => (op_field (gwfld74_1 _ _) rfl (H224.ev rfl))) ?_
     intro _ H226; clear H224
     refine gx_take 8 rfl (by kernel_rfl) H226 (by exact O210.sel [0, 1, 2, 3, 4, 5, 6] (by decide)) (want_none rfl) rfl (by decide) (fun wq HO => (op_load1 gwagg3 rfl (H226.ev rfl) (blk_at (HO.get 0 rfl) rfl))) ?_
     intro _ H228; clear H226
     refine gx_take 9 rfl (by kernel_rfl) H228 (by exact O210.sel [0, 1, 2, 3, 4, 5, 6] (by decide)) (want_none rfl) rfl (by decide) (fun wq HO => (op_move rfl (H228.ev rfl))) ?_
     intro _ H230; clear H228
     refine gx_take 10 rfl (by kernel_rfl) H230 (by exact O210.sel [0, 1, 2, 3, 4, 5, 6] (by decide)) (want_none rfl) rfl (by decide) (fun wq HO => (op_add rfl (H230.ev rfl) (H230.ev rfl) (by omega))) ?_
     intro _ H232; clear H230
     obtain ⟨hr233, hc234, hC235⟩ := cut_hi (P := Tryz.prog) (d := (Kd.int .u8)) (t := 22) (e := 5) Tryz.underlying22 gwsiz5 x.A x.c x.p.b (row_cap (O210.get 1 rfl)) (x.p.sf + (keepN kl ((x.p.b.length : Int) - x.p.sf))) (by omega) (by omega)
     refine gx_take 11 rfl (by kernel_rfl) H232 (by exact O210.sel [0, 1, 2, 3, 4, 5, 6] (by decide)) (want_none rfl) rfl (by decide) (fun wq HO => (op_cut Tryz.underlying22 hr233 rfl (H232.ev rfl) rfl (some_ev (H232.ev rfl)))) ?_
     intro _ H237; clear H232
     refine gx_step 12 rfl (by kernel_rfl) ?_
     refine V H237 (op_nil rfl (H237.ev rfl)) ?_
     intro _ H239; clear H237
     refine gx_on (i := 12) (B := (fun j_ => j_ == 14)) (fun _ => (by exact O210.sel [0, 1, 2, 3, 4, 5, 6] (by decide))) ?_
     refine gx_take 13 rfl (by kernel_rfl) H239 (by exact O210.sel [0, 1, 2, 3, 4, 5, 6] (by decide)) (want_none rfl) rfl (by decide) (fun wq HO => (op_field (gwfld74_0 _ _) rfl (H239.ev rfl))) ?_
     intro _ H241; clear H239
     refine gx_step 14 rfl (by kernel_rfl) ?_
     refine gw_set 0 H241 O210 rfl (want_none rfl) rfl (op_store1 gwsiz22 rfl (H241.ev rfl) (H241.ev rfl) rfl (blk_at (O210.get 0 rfl) rfl) (blkf (O210.get 0 rfl))) ?_
     intro _ w244 H243 O245; clear H241 O210
     refine gx_on (i := 14) (B := (fun j_ => j_ == 14)) (fun h_ => by cases h_) ?_
     refine gx_done (by kernel_rfl) ?_
     have O246 := O245.row_takeL 1 rfl ((x.p.sf + (keepN kl ((x.p.b.length : Int) - x.p.sf))).toNat) (by omega)
     clear O245
     have O247 : Own w0 w244 [Bk x.g [.slice x.A ((x.p.b.take (x.p.sf + (keepN kl ((x.p.b.length : Int) - x.p.sf))).toNat).length) x.c, J x.p.sf] 74, Chunk.row (Kd.int .u8) 5 w0.heap.size x.S (.slice x.A ((x.p.b.take (x.p.sf + (keepN kl ((x.p.b.length : Int) - x.p.sf))).toNat).length) x.c) (x.p.b.take (x.p.sf + (keepN kl ((x.p.b.length : Int) - x.p.sf))).toNat), Chunk.files w0.heap.size (ys ++ zs'), R, Bk gd [.map (some gm), J d.most, J (us - (((x.p.b.length : Int) - x.p.sf) - (keepN kl ((x.p.b.length : Int) - x.p.sf)))), J 0, .bool false] 64, Chunk.lmap Tryz.prog 9 gm ((ys ++ x :: zs').map XF.ent), Chunk.viewAt w45 Kd.string S27 A25 ((xs.map fun x => x.p.nm).length) c26 (xs.map fun x => x.p.nm)] := O246
     clear O246
     refine gw_nx (hK208 _ _ ?_)
     refine wp_region_lit ?_
     refine V H243 (op_move rfl (H243.ev rfl)) ?_
     intro _ H249; clear H243
     refine V H249 (op_move rfl (H249.ev rfl)) ?_
     intro _ H251; clear H249
     refine V H251 (op_nil rfl (H251.ev rfl)) ?_
     intro _ H253; clear H251
     refine V H253 (op_field (gwfld74_0 _ _) rfl (H253.ev rfl)) ?_
     intro _ H255; clear H253
     refine V H255 (op_load1 gwagg22 rfl (H255.ev rfl) (blk_at (O247.get 0 rfl) rfl)) ?_
     intro _ H257; clear H255
     refine V H257 (op_len Tryz.underlying22 rfl (H257.ev rfl)) ?_
     intro _ H259; clear H257
     have H260 := H259.conv (v' := J (x.p.sf + (keepN kl ((x.p.b.length : Int) - x.p.sf)))) (congrArg (Value.int .i64) hl2)
     clear H259
     refine V H260 (op_nil rfl (H260.ev rfl)) ?_
     intro _ H262; clear H260
     refine V H262 (op_field (gwfld74_1 _ _) rfl (H262.ev rfl)) ?_
     intro _ H264; clear H262
     refine gw_set 0 H264 O247 rfl (want_none rfl) rfl (op_store1 gwsiz3 rfl (H264.ev rfl) (H264.ev rfl) rfl (blk_at (O247.get 0 rfl) rfl) (blkf (O247.get 0 rfl))) ?_
     intro _ w267 H266 O268; clear H264 O247
     refine wpList_nil ?_
     refine gw_blk ?_
     refine gw_nx (hK57 _ _ ?_)
     refine wp_region_lit ?_
     refine V H266 (op_add rfl (H266.ev rfl) (ev_c _ _) (by omega)) ?_
     intro _ H270; clear H266
     refine V H270 (op_move rfl (H270.ev rfl)) ?_
     intro _ H272; clear H270
     refine wpList_nil ?_
     have O273 := O268.unpin 6 rfl
     clear O268
     have O274 : Own w0 w267 [Bk x.g [.slice x.A ((x.p.b.take (x.p.sf + (keepN kl ((x.p.b.length : Int) - x.p.sf))).toNat).length) x.c, J (x.p.sf + (keepN kl ((x.p.b.length : Int) - x.p.sf)))] 74, Chunk.row (Kd.int .u8) 5 w0.heap.size x.S (.slice x.A ((x.p.b.take (x.p.sf + (keepN kl ((x.p.b.length : Int) - x.p.sf))).toNat).length) x.c) (x.p.b.take (x.p.sf + (keepN kl ((x.p.b.length : Int) - x.p.sf))).toNat), Chunk.files w0.heap.size (ys ++ zs'), R, Bk gd [.map (some gm), J d.most, J (us - (((x.p.b.length : Int) - x.p.sf) - (keepN kl ((x.p.b.length : Int) - x.p.sf)))), J 0, .bool false] 64, Chunk.lmap Tryz.prog 9 gm ((ys ++ x :: zs').map XF.ent), Chunk.view Kd.string S27 A25 ((xs.map fun x => x.p.nm).length) c26 (xs.map fun x => x.p.nm)] := O273
     clear O273
     have O275 := Own.file_close (x := (⟨⟨x.p.nm, (x.p.b.take (x.p.sf + (keepN kl ((x.p.b.length : Int) - x.p.sf))).toNat), x.p.sf + (keepN kl ((x.p.b.length : Int) - x.p.sf))⟩, x.g, x.A, x.c, x.S⟩ : XF)) (pre := ys) (post := zs') (by exact O274.sel [0, 1, 2, 3, 4, 5, 6] (by decide))
     have el_ : (ys ++ x :: zs').map XF.ent = (ys ++ (⟨⟨x.p.nm, (x.p.b.take (x.p.sf + (keepN kl ((x.p.b.length : Int) - x.p.sf))).toNat), x.p.sf + (keepN kl ((x.p.b.length : Int) - x.p.sf))⟩, x.g, x.A, x.c, x.S⟩ : XF) :: zs').map XF.ent := by simp [XF.ent]
     rw [el_] at O275
     have ea_ : ys ++ (⟨⟨x.p.nm, (x.p.b.take (x.p.sf + (keepN kl ((x.p.b.length : Int) - x.p.sf))).toNat), x.p.sf + (keepN kl ((x.p.b.length : Int) - x.p.sf))⟩, x.g, x.A, x.c, x.S⟩ : XF) :: zs' = (ys ++ [(⟨⟨x.p.nm, (x.p.b.take (x.p.sf + (keepN kl ((x.p.b.length : Int) - x.p.sf))).toNat), x.p.sf + (keepN kl ((x.p.b.length : Int) - x.p.sf))⟩, x.g, x.A, x.c, x.S⟩ : XF)]) ++ zs' := by simp
     rw [ea_] at O275
     refine gw_nx ⟨_, ?_, i + 1, ys ++ [(⟨⟨x.p.nm, (x.p.b.take (x.p.sf + (keepN kl ((x.p.b.length : Int) - x.p.sf))).toNat), x.p.sf + (keepN kl ((x.p.b.length : Int) - x.p.sf))⟩, x.g, x.A, x.c, x.S⟩ : XF)], zs', (us - (((x.p.b.length : Int) - x.p.sf) - (keepN kl ((x.p.b.length : Int) - x.p.sf)))), A169, c170, (kl.drop (1 : Int).toNat), (H272.pick (t := 18) rfl (H272.pick (t := 1) rfl (H272.pick (t := 0) rfl (H272.pick (t := 16) rfl (H272.pick (t := 17) rfl H272.nil))))), O275.sel [1, 2, 3, 0, 4] (by decide), ?_, ?_, ?_, ?_, ?_, ?_, ?_, ?_, rfl⟩
     ·
      rw [hm48]; omega
     ·
      exact ⟨by rw [List.length_append, List.length_singleton]; omega, by omega⟩
     ·
      rw [hnm, ea_.symm]; try simp
     ·
      rw [← ea_]; exact once_same hon2 rfl
     ·
      rw [← ea_, totalX_mid]; exact ⟨by show _ = ((_ + (x.p.b.take (x.p.sf + (keepN kl ((x.p.b.length : Int) - x.p.sf))).toNat).length : Nat) : Int); omega, by omega⟩
     ·
      intro x_ hx_; exact hsf x_ (List.mem_cons_of_mem _ hx_)
     ·
      exact ⟨by rw [hcr.1, List.map_cons, crash_go h1_ hkn1 hkd]; simp, by rw [hcr.2, List.map_cons, crash_go h1_ hkn1 hkd]; show us - (_ + _) = _; omega⟩
     ·
      intro w_ h_; exact hC173 _ (hkc w_ h_)
     ·
      exact hc172
    ·
     have H277 := H143.subst_ (d := 42) (b := false) rfl hb144
     clear H143
     (try simp only [decide_eq_false_iff_not, Int.not_lt] at hb144)
     have hke : 0 ≤ keepN kl ((x.p.b.length : Int) - x.p.sf) ∧ keepN kl ((x.p.b.length : Int) - x.p.sf) ≤ ((x.p.b.length : Int) - x.p.sf) := keepN_in kl (by omega)
     have hkn1 : keepN kl ((x.p.b.length : Int) - x.p.sf) = 0 := keepN_zero (by omega)
     have hkd : kl.drop 1 = kl := List.drop_eq_nil_of_le (by omega) |>.trans (List.length_eq_zero_iff.1 (by omega)).symm
     have hl2 : ((x.p.b.take (x.p.sf + 0).toNat).length : Int) = x.p.sf + 0 := by rw [List.length_take]; omega
     refine wp_skip ?_
     refine gw_nx (hK136 _ _ ?_)
     refine gR fun K278 hK278 => ?_
     refine V H277 (op_move rfl (H277.ev rfl)) ?_
     intro _ H280; clear H277
     refine V H280 (op_nil rfl (H280.ev rfl)) ?_
     intro _ H282; clear H280
     refine V H282 (op_field (gwfld64_2 _ _) rfl (H282.ev rfl)) ?_
     intro _ H284; clear H282
     refine V H284 (op_load1 gwagg3 rfl (H284.ev rfl) (blk_at (O115.get 4 rfl) rfl)) ?_
     intro _ H286; clear H284
     refine V H286 (op_move rfl (H286.ev rfl)) ?_
     intro _ H288; clear H286
     refine V H288 (op_move rfl (H288.ev rfl)) ?_
     intro _ H290; clear H288
     refine V H290 (op_sub rfl (H290.ev rfl) (H290.ev rfl) (by omega)) ?_
     intro _ H292; clear H290
     refine V H292 (op_sub rfl (H292.ev rfl) (H292.ev rfl) (by omega)) ?_
     intro _ H294; clear H292
     refine V H294 (op_nil rfl (H294.ev rfl)) ?_
     intro _ H296; clear H294
     refine V H296 (op_field (gwfld64_2 _ _) rfl (H296.ev rfl)) ?_
     intro _ H298; clear H296
     refine gw_set 4 H298 O115 rfl (want_none rfl) rfl (op_store1 gwsiz3 rfl (H298.ev rfl) (H298.ev rfl) rfl (blk_at (O115.get 4 rfl) rfl) (blkf (O115.get 4 rfl))) ?_
     intro _ w301 H300 O302; clear H298 O115
     refine gE hK278 ?_
     refine gw_seq fun K303 hK303 => ?_
     refine gx_draw (M := [Bk x.g [.slice x.A x.p.b.length x.c, J x.p.sf] 74, Chunk.row (Kd.int .u8) 5 w0.heap.size x.S (.slice x.A x.p.b.length x.c) x.p.b, Chunk.files w0.heap.size (ys ++ zs'), R, Bk gd [.map (some gm), J d.most, J (us - (((x.p.b.length : Int) - x.p.sf) - 0)), J 0, .bool false] 64, Chunk.lmap Tryz.prog 9 gm ((ys ++ x :: zs').map XF.ent), Chunk.viewAt w45 Kd.string S27 A25 ((xs.map fun x => x.p.nm).length) c26 (xs.map fun x => x.p.nm)]) (fun j_ => j_ == 14) O302 (by kernel_rfl) fun w304 O305 => ?_
     clear O302
     refine gx_take 0 rfl (by kernel_rfl) H300 (by exact O305.sel [0, 1, 2, 3, 4, 5, 6] (by decide)) (want_none rfl) rfl (by decide) (fun wq HO => (op_move rfl (H300.ev rfl))) ?_
     intro _ H307; clear H300
     refine gx_take 1 rfl (by kernel_rfl) H307 (by exact O305.sel [0, 1, 2, 3, 4, 5, 6] (by decide)) (want_none rfl) rfl (by decide) (fun wq HO => (op_move rfl (H307.ev rfl))) ?_
     intro _ H309; clear H307
     refine gx_take 2 rfl (by kernel_rfl) H309 (by exact O305.sel [0, 1, 2, 3, 4, 5, 6] (by decide)) (want_none rfl) rfl (by decide) (fun wq HO => (op_nil rfl (H309.ev rfl))) ?_
     intro _ H311; clear H309
     refine gx_take 3 rfl (by kernel_rfl) H311 (by exact O305.sel [0, 1, 2, 3, 4, 5, 6] (by decide)) (want_none rfl) rfl (by decide) (fun wq HO => (op_field (gwfld74_0 _ _) rfl (H311.ev rfl))) ?_
     intro _ H313; clear H311
     refine gx_take 4 rfl (by kernel_rfl) H313 (by exact O305.sel [0, 1, 2, 3, 4, 5, 6] (by decide)) (want_none rfl) rfl (by decide) (fun wq HO => (op_load1 gwagg22 rfl (H313.ev rfl) (blk_at (HO.get 0 rfl) rfl))) ?_
     intro _ H315; clear H313
     refine gx_take 5 rfl (by kernel_rfl) H315 (by exact O305.sel [0, 1, 2, 3, 4, 5, 6] (by decide)) (want_none rfl) rfl (by decide) (fun wq HO => (op_move rfl (H315.ev rfl))) ?_
     intro _ H317; clear H315
     refine gx_take 6 rfl (by kernel_rfl) H317 (by exact O305.sel [0, 1, 2, 3, 4, 5, 6] (by decide)) (want_none rfl) rfl (by decide) (fun wq HO => (op_nil rfl (H317.ev rfl))) ?_
     intro _ H319; clear H317
     refine gx_take 7 rfl (by kernel_rfl) H319 (by exact O305.sel [0, 1, 2, 3, 4, 5, 6] (by decide)) (want_none rfl) rfl (by decide) (fun wq HO => (op_field (gwfld74_1 _ _) rfl (H319.ev rfl))) ?_
     intro _ H321; clear H319
     refine gx_take 8 rfl (by kernel_rfl) H321 (by exact O305.sel [0, 1, 2, 3, 4, 5, 6] (by decide)) (want_none rfl) rfl (by decide) (fun wq HO => (op_load1 gwagg3 rfl (H321.ev rfl) (blk_at (HO.get 0 rfl) rfl))) ?_
     intro _ H323; clear H321
     refine gx_take 9 rfl (by kernel_rfl) H323 (by exact O305.sel [0, 1, 2, 3, 4, 5, 6] (by decide)) (want_none rfl) rfl (by decide) (fun wq HO => (op_move rfl (H323.ev rfl))) ?_
     intro _ H325; clear H323
     refine gx_take 10 rfl (by kernel_rfl) H325 (by exact O305.sel [0, 1, 2, 3, 4, 5, 6] (by decide)) (want_none rfl) rfl (by decide) (fun wq HO => (op_add rfl (H325.ev rfl) (H325.ev rfl) (by omega))) ?_
     intro _ H327; clear H325
     obtain ⟨hr328, hc329, hC330⟩ := cut_hi (P := Tryz.prog) (d := (Kd.int .u8)) (t := 22) (e := 5) Tryz.underlying22 gwsiz5 x.A x.c x.p.b (row_cap (O305.get 1 rfl)) (x.p.sf + 0) (by omega) (by omega)
     refine gx_take 11 rfl (by kernel_rfl) H327 (by exact O305.sel [0, 1, 2, 3, 4, 5, 6] (by decide)) (want_none rfl) rfl (by decide) (fun wq HO => (op_cut Tryz.underlying22 hr328 rfl (H327.ev rfl) rfl (some_ev (H327.ev rfl)))) ?_
     intro _ H332; clear H327
     refine gx_step 12 rfl (by kernel_rfl) ?_
     refine V H332 (op_nil rfl (H332.ev rfl)) ?_
     intro _ H334; clear H332
     refine gx_on (i := 12) (B := (fun j_ => j_ == 14)) (fun _ => (by exact O305.sel [0, 1, 2, 3, 4, 5, 6] (by decide))) ?_
     refine gx_take 13 rfl (by kernel_rfl) H334 (by exact O305.sel [0, 1, 2, 3, 4, 5, 6] (by decide)) (want_none rfl) rfl (by decide) (fun wq HO => (op_field (gwfld74_0 _ _) rfl (H334.ev rfl))) ?_
     intro _ H336; clear H334
     refine gx_step 14 rfl (by kernel_rfl) ?_
     refine gw_set 0 H336 O305 rfl (want_none rfl) rfl (op_store1 gwsiz22 rfl (H336.ev rfl) (H336.ev rfl) rfl (blk_at (O305.get 0 rfl) rfl) (blkf (O305.get 0 rfl))) ?_
     intro _ w339 H338 O340; clear H336 O305
     refine gx_on (i := 14) (B := (fun j_ => j_ == 14)) (fun h_ => by cases h_) ?_
     refine gx_done (by kernel_rfl) ?_
     have O341 := O340.row_takeL 1 rfl ((x.p.sf + 0).toNat) (by omega)
     clear O340
     have O342 : Own w0 w339 [Bk x.g [.slice x.A ((x.p.b.take (x.p.sf + 0).toNat).length) x.c, J x.p.sf] 74, Chunk.row (Kd.int .u8) 5 w0.heap.size x.S (.slice x.A ((x.p.b.take (x.p.sf + 0).toNat).length) x.c) (x.p.b.take (x.p.sf + 0).toNat), Chunk.files w0.heap.size (ys ++ zs'), R, Bk gd [.map (some gm), J d.most, J (us - (((x.p.b.length : Int) - x.p.sf) - 0)), J 0, .bool false] 64, Chunk.lmap Tryz.prog 9 gm ((ys ++ x :: zs').map XF.ent), Chunk.viewAt w45 Kd.string S27 A25 ((xs.map fun x => x.p.nm).length) c26 (xs.map fun x => x.p.nm)] := O341
     clear O341
     refine gw_nx (hK303 _ _ ?_)
     refine wp_region_lit ?_
     refine V H338 (op_move rfl (H338.ev rfl)) ?_
     intro _ H344; clear H338
     refine V H344 (op_move rfl (H344.ev rfl)) ?_
     intro _ H346; clear H344
     refine V H346 (op_nil rfl (H346.ev rfl)) ?_
     intro _ H348; clear H346
     refine V H348 (op_field (gwfld74_0 _ _) rfl (H348.ev rfl)) ?_
     intro _ H350; clear H348
     refine V H350 (op_load1 gwagg22 rfl (H350.ev rfl) (blk_at (O342.get 0 rfl) rfl)) ?_
     intro _ H352; clear H350
     refine V H352 (op_len Tryz.underlying22 rfl (H352.ev rfl)) ?_
     intro _ H354; clear H352
     have H355 := H354.conv (v' := J (x.p.sf + 0)) (congrArg (Value.int .i64) hl2)
     clear H354
     refine V H355 (op_nil rfl (H355.ev rfl)) ?_
     intro _ H357; clear H355
     refine V H357 (op_field (gwfld74_1 _ _) rfl (H357.ev rfl)) ?_
     intro _ H359; clear H357
     refine gw_set 0 H359 O342 rfl (want_none rfl) rfl (op_store1 gwsiz3 rfl (H359.ev rfl) (H359.ev rfl) rfl (blk_at (O342.get 0 rfl) rfl) (blkf (O342.get 0 rfl))) ?_
     intro _ w362 H361 O363; clear H359 O342
     refine wpList_nil ?_
     refine gw_blk ?_
     refine gw_nx (hK57 _ _ ?_)
     refine wp_region_lit ?_
     refine V H361 (op_add rfl (H361.ev rfl) (ev_c _ _) (by omega)) ?_
     intro _ H365; clear H361
     refine V H365 (op_move rfl (H365.ev rfl)) ?_
     intro _ H367; clear H365
     refine wpList_nil ?_
     have O368 := O363.unpin 6 rfl
     clear O363
     have O369 : Own w0 w362 [Bk x.g [.slice x.A ((x.p.b.take (x.p.sf + 0).toNat).length) x.c, J (x.p.sf + 0)] 74, Chunk.row (Kd.int .u8) 5 w0.heap.size x.S (.slice x.A ((x.p.b.take (x.p.sf + 0).toNat).length) x.c) (x.p.b.take (x.p.sf + 0).toNat), Chunk.files w0.heap.size (ys ++ zs'), R, Bk gd [.map (some gm), J d.most, J (us - (((x.p.b.length : Int) - x.p.sf) - 0)), J 0, .bool false] 64, Chunk.lmap Tryz.prog 9 gm ((ys ++ x :: zs').map XF.ent), Chunk.view Kd.string S27 A25 ((xs.map fun x => x.p.nm).length) c26 (xs.map fun x => x.p.nm)] := O368
     clear O368
     have O370 := Own.file_close (x := (⟨⟨x.p.nm, (x.p.b.take (x.p.sf + 0).toNat), x.p.sf + 0⟩, x.g, x.A, x.c, x.S⟩ : XF)) (pre := ys) (post := zs') (by exact O369.sel [0, 1, 2, 3, 4, 5, 6] (by decide))
     have el_ : (ys ++ x :: zs').map XF.ent = (ys ++ (⟨⟨x.p.nm, (x.p.b.take (x.p.sf + 0).toNat), x.p.sf + 0⟩, x.g, x.A, x.c, x.S⟩ : XF) :: zs').map XF.ent := by simp [XF.ent]
     rw [el_] at O370
     have ea_ : ys ++ (⟨⟨x.p.nm, (x.p.b.take (x.p.sf + 0).toNat), x.p.sf + 0⟩, x.g, x.A, x.c, x.S⟩ : XF) :: zs' = (ys ++ [(⟨⟨x.p.nm, (x.p.b.take (x.p.sf + 0).toNat), x.p.sf + 0⟩, x.g, x.A, x.c, x.S⟩ : XF)]) ++ zs' := by simp
     rw [ea_] at O370
     refine gw_nx ⟨_, ?_, i + 1, ys ++ [(⟨⟨x.p.nm, (x.p.b.take (x.p.sf + 0).toNat), x.p.sf + 0⟩, x.g, x.A, x.c, x.S⟩ : XF)], zs', (us - (((x.p.b.length : Int) - x.p.sf) - 0)), Ak, ck, kl, (H367.pick (t := 18) rfl (H367.pick (t := 1) rfl (H367.pick (t := 0) rfl (H367.pick (t := 16) rfl (H367.pick (t := 17) rfl H367.nil))))), O370.sel [1, 2, 3, 0, 4] (by decide), ?_, ?_, ?_, ?_, ?_, ?_, ?_, ?_, rfl⟩
     ·
      rw [hm48]; omega
     ·
      exact ⟨by rw [List.length_append, List.length_singleton]; omega, by omega⟩
     ·
      rw [hnm, ea_.symm]; try simp
     ·
      rw [← ea_]; exact once_same hon2 rfl
     ·
      rw [← ea_, totalX_mid]; exact ⟨by show _ = ((_ + (x.p.b.take (x.p.sf + 0).toNat).length : Nat) : Int); omega, by omega⟩
     ·
      intro x_ hx_; exact hsf x_ (List.mem_cons_of_mem _ hx_)
     ·
      exact ⟨by rw [hcr.1, List.map_cons, crash_go h1_ hkn1 hkd]; simp, by rw [hcr.2, List.map_cons, crash_go h1_ hkn1 hkd]; show us - (_ + _) = _; omega⟩
     ·
      intro w_ h_; exact hkc w_ h_
     ·
      exact hkl
  ·
   have H372 := H51.subst_ (d := 19) (b := false) rfl hb53
   clear H51
   (try simp only [decide_eq_false_iff_not, Int.not_lt] at hb53)
   refine wp_exit ?_
   refine gw_thx ?_
   refine gw_thx ?_
   refine gw_in ?_
   refine gw_end0 H372 rfl ?_
   have hz0 : zs = [] := by cases zs with | nil => rfl | cons a r => exfalso; rw [hnm] at hb53; simp at hb53; omega
   subst hz0
   have hu_ : us = d.used - (crashF d.fs keep).2 := by rw [hcr.2]; simp [crash_nil]
   rw [hu_] at O47
   exact ⟨rfl, disk_close2 (d := crashD keep d) (xs := ys ++ []) (by show _ = (crashF d.fs keep).1; rw [hcr.1]; simp [crash_nil]) (by exact O47.sel [0, 1, 2, 3] (by decide))⟩
end GVfs5_
export GVfs5_ (crash_calls)
end Go.Proofs.YtkdahjnmldeklaaGreat.PA
end
section
namespace Go.Proofs.YtkdahjnmldeklaaGreat.PA
open Go.RowKit Go.Proofs.YtkdahjnmldeklaaGreatW.PrintWords Go.Proofs.YtkdahjnmldeklaaGreatW.PrintLast Go.Proofs.YtkdahjnmldeklaaGreatW.PrintMore
set_option linter.unusedVariables false
set_option linter.unusedSimpArgs false
namespace GJour2_
theorem gwagg23 : ∀ w, (isAgg 23).run Tryz.prog w = .ok false w := fun _ => by kernel_rfl
theorem gwagg3 : ∀ w, (isAgg 3).run Tryz.prog w = .ok false w := fun _ => by kernel_rfl
theorem gwagg77 : ∀ w, (isAgg 77).run Tryz.prog w = .ok false w := fun _ => by kernel_rfl
theorem gwagg9 : ∀ w, (isAgg 9).run Tryz.prog w = .ok false w := fun _ => by kernel_rfl
theorem gwfld79_0 (g off : Nat) : ∀ w, (Instr.fieldAt 79 (.pointer (some ⟨g, off, none⟩)) 0).run Tryz.prog w = .ok (.pointer (some ⟨g, off + 0, none⟩)) w := fun _ => by kernel_rfl
theorem gwfld79_1 (g off : Nat) : ∀ w, (Instr.fieldAt 79 (.pointer (some ⟨g, off, none⟩)) 1).run Tryz.prog w = .ok (.pointer (some ⟨g, off + 1, none⟩)) w := fun _ => by kernel_rfl
theorem gwfld79_2 (g off : Nat) : ∀ w, (Instr.fieldAt 79 (.pointer (some ⟨g, off, none⟩)) 2).run Tryz.prog w = .ok (.pointer (some ⟨g, off + 2, none⟩)) w := fun _ => by kernel_rfl
theorem gwfld79_3 (g off : Nat) : ∀ w, (Instr.fieldAt 79 (.pointer (some ⟨g, off, none⟩)) 3).run Tryz.prog w = .ok (.pointer (some ⟨g, off + 3, none⟩)) w := fun _ => by kernel_rfl
theorem gwinfo5 : (Tryz.prog.info? 5).map (fun i => (i.zero, i.size, i.bytes)) = some (some (.int .u8 0), 1, 1) := by kernel_rfl
theorem gwsiz3 : ∀ w, (sizeOf 3).run Tryz.prog w = .ok 1 w := fun _ => by kernel_rfl
set_option maxHeartbeats 4000000 in
set_option maxRecDepth 100000 in
theorem jsync_calls (w0 w : World) (R : Chunk) (gd gj : Nat) (S SJ : Nat → Prop) (d : PD) (nm : ByteArray) (is : List PI) (size : Int) (hw : wfD d) (hn : nm.size ≤ 9223372036854775807) (HO : Own w0 w [R, Chunk.disk w0.heap.size gd S d, Chunk.jour w0.heap.size gd gj nm SJ is size]) :
    Calls Tryz.prog 17 #[.pointer (some ⟨gj, 0, none⟩)] w fun e w' => e = .returned (.int .i64 (syncD nm d).2) ∧ ∃ S' SJ', Own w0 w' [R, Chunk.disk w0.heap.size gd S' (syncD nm d).1, Chunk.jour w0.heap.size gd gj nm SJ' is size] := by
 obtain ⟨gm, xs, hxs, hon, HO⟩ := jour_open2 HO
 refine gw_startO (N := 12) (vs := [.pointer (some ⟨gj, 0, none⟩)]) Tryz.func17 rfl rfl (by simp) fun a HF => ?_
 refine gR fun K1 hK1 => ?_
 refine V HF (op_assign rfl (ev_c _ _)) ?_
 intro _ H3; clear HF
 refine gE hK1 ?_
 refine gw_seq fun K4 hK4 => ?_
 refine gx_draw (M := [R, Bk gj [.pointer (some ⟨gd, 0, none⟩), .string nm, .map (some gm), J size] 79, Chunk.lmap Tryz.prog 2 gm (xs.map XJ.ent), Chunk.jrows w0.heap.size xs]) (fun j_ => false) HO (by kernel_rfl) fun w5 O6 => ?_
 clear HO
 refine gx_take 0 rfl (by kernel_rfl) H3 (by exact O6.sel [0, 2, 3, 4] (by decide)) (want_none rfl) rfl (by decide) (fun wq HO => (op_move rfl (H3.ev rfl))) ?_
 intro _ H8; clear H3
 refine gx_take 1 rfl (by kernel_rfl) H8 (by exact O6.sel [0, 2, 3, 4] (by decide)) (want_none rfl) rfl (by decide) (fun wq HO => (op_nil rfl (H8.ev rfl))) ?_
 intro _ H10; clear H8
 refine gx_take 2 rfl (by kernel_rfl) H10 (by exact O6.sel [0, 2, 3, 4] (by decide)) (want_none rfl) rfl (by decide) (fun wq HO => (op_field (gwfld79_0 _ _) rfl (H10.ev rfl))) ?_
 intro _ H12; clear H10
 refine gx_take 3 rfl (by kernel_rfl) H12 (by exact O6.sel [0, 2, 3, 4] (by decide)) (want_none rfl) rfl (by decide) (fun wq HO => (op_load1 gwagg23 rfl (H12.ev rfl) (blk_at (HO.get 1 rfl) rfl))) ?_
 intro _ H14; clear H12
 refine gx_take 4 rfl (by kernel_rfl) H14 (by exact O6.sel [0, 2, 3, 4] (by decide)) (want_none rfl) rfl (by decide) (fun wq HO => (op_move rfl (H14.ev rfl))) ?_
 intro _ H16; clear H14
 refine gx_take 5 rfl (by kernel_rfl) H16 (by exact O6.sel [0, 2, 3, 4] (by decide)) (want_none rfl) rfl (by decide) (fun wq HO => (op_nil rfl (H16.ev rfl))) ?_
 intro _ H18; clear H16
 refine gx_take 6 rfl (by kernel_rfl) H18 (by exact O6.sel [0, 2, 3, 4] (by decide)) (want_none rfl) rfl (by decide) (fun wq HO => (op_field (gwfld79_1 _ _) rfl (H18.ev rfl))) ?_
 intro _ H20; clear H18
 refine gx_take 7 rfl (by kernel_rfl) H20 (by exact O6.sel [0, 2, 3, 4] (by decide)) (want_none rfl) rfl (by decide) (fun wq HO => (op_load1 gwagg9 rfl (H20.ev rfl) (blk_at (HO.get 1 rfl) rfl))) ?_
 intro _ H22; clear H20
 refine gx_step 8 rfl (by kernel_rfl) ?_
 have O31 : Own w0 _ [(Chunk.all [R, Bk gj [.pointer (some ⟨gd, 0, none⟩), .string nm, .map (some gm), J size] 79, Chunk.lmap Tryz.prog 2 gm (xs.map XJ.ent), Chunk.jrows w0.heap.size xs]), Chunk.disk w0.heap.size gd S d] := Own.bundle (O6.sel [0, 2, 3, 4, 1] (by decide))
 refine gw_call H22 (want_none rfl) rfl (by decide) (op_callL Tryz.func36 (by kernel_rfl) rfl rfl (ar_cons (H22.ev rfl) (ar_cons (H22.ev rfl) ar_nil))) (sync_calls w0 _ (Chunk.all [R, Bk gj [.pointer (some ⟨gd, 0, none⟩), .string nm, .map (some gm), J size] 79, Chunk.lmap Tryz.prog 2 gm (xs.map XJ.ent), Chunk.jrows w0.heap.size xs]) gd S d nm hw hn (by exact O31)) ?_
 rintro e25 w26 ⟨rfl, S23, hb27⟩
 refine ⟨_, rfl, fun _ H29 => ?_⟩
 have O30 : Own w0 w26 [R, Bk gj [.pointer (some ⟨gd, 0, none⟩), .string nm, .map (some gm), J size] 79, Chunk.lmap Tryz.prog 2 gm (xs.map XJ.ent), Chunk.jrows w0.heap.size xs, Chunk.disk w0.heap.size gd S23 ((syncD nm d).1)] := Own.unbundle (hb27.sel [0, 1] (by decide))
 clear O31
 clear H22 O6 hb27
 have hwf24 : wfD ((syncD nm d).1) := wf_sync hw
 refine gx_on (i := 8) (B := (fun j_ => false)) (fun _ => (by exact O30.sel [0, 1, 2, 3] (by decide))) ?_
 refine gx_take 9 rfl (by kernel_rfl) H29 (by exact O30.sel [0, 1, 2, 3] (by decide)) (want_none rfl) rfl (by decide) (fun wq HO => (op_assign rfl (H29.ev rfl))) ?_
 intro _ H34; clear H29
 refine gx_done (by kernel_rfl) ?_
 refine gw_nx (hK4 _ _ ?_)
 refine wp_ret ?_
 refine gw_ret1 H34 rfl rfl ?_
 obtain ⟨SJ', HOj⟩ := jour_close2 (xs := xs) hxs (by exact O30.sel [0, 4, 1, 2, 3] (by decide))
 exact ⟨rfl, _, SJ', HOj⟩
set_option maxHeartbeats 4000000 in
set_option maxRecDepth 100000 in
theorem put_calls (w0 w : World) (R : Chunk) (gd gj : Nat) (S SJ : Nat → Prop) (d : PD) (nm : ByteArray) (is : List PI) (size : Int) (hw : wfD d) (hn : nm.size ≤ 9223372036854775807) (key : Int) (hkw : (Lit.int .i64 key).wf = true) (Ab : Option Addr) (cb : Nat) (b : List Int) (hy : ∀ w1, Own w0 w1 [R] → Kd.C (Kd.int .u8) w1 Ab b.length b) (hcy : b.length ≤ cb) (hbb : ByteL b) (hbl : b.length ≤ 900000) (hroom : d.used + (recI (key, b)).length ≤ 140737488355327) (his : is.length ≤ 1000000) (hsz : 0 ≤ size ∧ size ≤ 140737488355327) (HO : Own w0 w [R, Chunk.disk w0.heap.size gd S d, Chunk.jour w0.heap.size gd gj nm SJ is size]) :
    Calls Tryz.prog 15 #[.pointer (some ⟨gj, 0, none⟩), .int .i64 key, .slice Ab b.length cb] w fun e w' => e = .returned (.int .i64 (putJ nm key b is size d).1.2) ∧ ∃ S' SJ', Own w0 w' [R, Chunk.disk w0.heap.size gd S' (putJ nm key b is size d).1.1, Chunk.jour w0.heap.size gd gj nm SJ' (putJ nm key b is size d).2.1 (putJ nm key b is size d).2.2] := by
 have hel := encN_len key
 have hrl : (recI (key, b)).length = (encN key).length + b.length + 8 := recI_len _
 refine gw_startO (N := 58) (vs := [.pointer (some ⟨gj, 0, none⟩), J key, .slice Ab b.length cb]) Tryz.func15 rfl rfl (by simp) fun a HF => ?_
 refine gR fun K1 hK1 => ?_
 refine V HF (op_assign rfl (ev_c _ _)) ?_
 intro _ H3; clear HF
 refine gE hK1 ?_
 refine gw_seq fun K4 hK4 => ?_
 refine wp_block ?_
 refine gR fun K5 hK5 => ?_
 refine V H3 (op_move rfl (H3.ev rfl)) ?_
 intro _ H7; clear H3
 refine V H7 (op_lss rfl (H7.ev rfl) (ev_c _ _)) ?_
 intro _ H9; clear H7
 refine V H9 (op_move rfl (H9.ev rfl)) ?_
 intro _ H11; clear H9
 refine gw_evG H11 rfl rfl rfl rfl (on_f _) rfl (by decide) (fun h_ => (op_move rfl (H11.ev rfl))) ?_
 intro _ H13; clear H11
 refine gw_evG H13 rfl rfl rfl rfl (on_f _) rfl (by decide) (fun h_ => (op_gtr rfl (ev_gv (H13.ev rfl) h_) (ev_c _ _))) ?_
 intro _ H15; clear H13
 refine V H15 (op_pick_or rfl (H15.ev rfl) (ev_c _ _) (fun hp_ => (ev_gv (H15.ev rfl) (not_t hp_)))) ?_
 intro _ H17; clear H15
 refine V H17 (op_assign rfl (H17.ev rfl)) ?_
 intro _ H19; clear H17
 refine gE hK5 ?_
 refine gw_cond H19 rfl (fun hb20 => ?_) (fun hb20 => ?_)
 ·
  have H21 := H19.subst_ (d := 9) (b := true) rfl hb20
  clear H19
  (try simp only [Bool.or_eq_true, Bool.or_eq_false_iff, decide_eq_true_eq, decide_eq_false_iff_not, Int.not_lt] at hb20)
  refine gR fun K22 hK22 => ?_
  refine V H21 (op_assign rfl (ev_c _ _)) ?_
  intro _ H24; clear H21
  refine gE hK22 ?_
  refine wp_ret ?_
  refine gw_blr ?_
  refine gw_thr ?_
  refine gw_ret1 H24 rfl rfl ?_
  rw [put_arg (by omega)]
  exact ⟨rfl, _, _, HO⟩
 ·
  have H25 := H19.subst_ (d := 9) (b := false) rfl hb20
  clear H19
  (try simp only [Bool.or_eq_true, Bool.or_eq_false_iff, decide_eq_true_eq, decide_eq_false_iff_not, Int.not_lt] at hb20)
  refine gR fun K26 hK26 => ?_
  refine V H25 (op_move rfl (H25.ev rfl)) ?_
  intro _ H28; clear H25
  refine V H28 (op_len Tryz.underlying22 rfl (H28.ev rfl)) ?_
  intro _ H30; clear H28
  refine V H30 (op_gtr rfl (H30.ev rfl) (ev_c _ _)) ?_
  intro _ H32; clear H30
  refine V H32 (op_assign rfl (H32.ev rfl)) ?_
  intro _ H34; clear H32
  refine gE hK26 ?_
  refine gw_cond H34 rfl (fun hb35 => ?_) (fun hb35 => ?_)
  ·
   have H36 := H34.subst_ (d := 16) (b := true) rfl hb35
   clear H34
   (try simp only [decide_eq_true_eq] at hb35)
   refine gR fun K37 hK37 => ?_
   refine V H36 (op_assign rfl (ev_c _ _)) ?_
   intro _ H39; clear H36
   refine gE hK37 ?_
   refine wp_ret ?_
   refine gw_blr ?_
   refine gw_thr ?_
   refine gw_ret1 H39 rfl rfl ?_
   rw [put_long (by omega) (by omega)]
   exact ⟨rfl, _, _, HO⟩
  ·
   have H40 := H34.subst_ (d := 16) (b := false) rfl hb35
   clear H34
   (try simp only [decide_eq_false_iff_not, Int.not_lt] at hb35)
   refine gR fun K41 hK41 => ?_
   refine V H40 (op_move rfl (H40.ev rfl)) ?_
   intro _ H43; clear H40
   refine V H43 (op_move rfl (H43.ev rfl)) ?_
   intro _ H45; clear H43
   refine gw_call H45 (want_none rfl) rfl (by decide) (op_callL Tryz.func21 (by kernel_rfl) rfl rfl (ar_cons (H45.ev rfl) (ar_cons (H45.ev rfl) ar_nil))) (has_calls w0.heap.size gd gj nm SJ is size _ (HO.get 2 rfl) key hkw) ?_
   rintro e46 w47 ⟨rfl, hb48⟩
   refine ⟨_, rfl, fun _ H50 => ?_⟩
   have O51 := HO.after hb48
   clear H45 HO hb48
   refine V H50 (op_assign rfl (H50.ev rfl)) ?_
   intro _ H54; clear H50
   refine gE hK41 ?_
   refine gw_cond H54 rfl (fun hb55 => ?_) (fun hb55 => ?_)
   ·
    have H56 := H54.subst_ (d := 20) (b := true) rfl hb55
    clear H54
    (try simp only [Bool.not_eq_true] at hb55)
    have hhas := hb55
    refine gR fun K57 hK57 => ?_
    refine V H56 (op_assign rfl (ev_c _ _)) ?_
    intro _ H59; clear H56
    refine gE hK57 ?_
    refine wp_ret ?_
    refine gw_blr ?_
    refine gw_thr ?_
    refine gw_ret1 H59 rfl rfl ?_
    rw [put_twice (by omega) (by omega) hhas]
    exact ⟨rfl, _, _, O51⟩
   ·
    have H60 := H54.subst_ (d := 20) (b := false) rfl hb55
    clear H54
    (try simp only [Bool.not_eq_true] at hb55)
    have hhas := hb55
    obtain ⟨gm, xs, hxs, hon, O61⟩ := jour_open2 (by exact O51.sel [0, 1, 2] (by decide))
    have hno := none_key hxs hhas
    have hxn := hxs.length_eq
    rw [List.length_map] at hxn
    refine wp_skip ?_
    refine gw_blk ?_
    refine gw_nx (hK4 _ _ ?_)
    refine gR fun K62 hK62 => ?_
    refine V H60 (op_move rfl (H60.ev rfl)) ?_
    intro _ H64; clear H60
    refine gw_call H64 (want_none rfl) rfl (by decide) (op_callL Tryz.func47 (by kernel_rfl) rfl rfl (ar_cons (ev_c _ _) (ar_cons (H64.ev rfl) ar_nil))) (num_new key _) ?_
    rintro e68 w69 ⟨A65, c66, S67, rfl, hb70⟩
    refine ⟨_, rfl, fun _ H72 => ?_⟩
    have O73 := O61.fresh hb70
    have hbel74 := O61.below
    clear H64 O61 hb70
    have O75 := O73.lowrow 0 rfl (base' := w0.heap.size) (Below.size hbel74)
    refine V H72 (op_move rfl (H72.ev rfl)) ?_
    intro _ H77; clear H72
    refine gw_append (Kd.int .u8) 0 H77 O75 (want_none rfl) rfl (by decide) rfl Tryz.underlying22 gwinfo5 rfl (by decide) (by decide) rfl (H77.ev rfl) (H77.ev rfl) (hy _ (O75.sel [1] (by decide))) (fun _ _ h => h) O75.below.size (by omega) ?_
    intro A78 c79 S80 _ w82 H83 O84; clear H77 O75
    have O85 : Own w0 w82 [Chunk.row (Kd.int .u8) 5 w0.heap.size S80 (.slice A78 (((encN key) ++ b).length) c79) ((encN key) ++ b), R, Chunk.disk w0.heap.size gd S d, Bk gj [.pointer (some ⟨gd, 0, none⟩), .string nm, .map (some gm), J size] 79, Chunk.lmap Tryz.prog 2 gm (xs.map XJ.ent), Chunk.jrows w0.heap.size xs] := O84
    clear O84
    refine gw_call H83 (want_none rfl) rfl (by decide) (op_callL Tryz.func46 (by kernel_rfl) rfl rfl (ar_cons (H83.ev rfl) ar_nil)) (recI_own key b A78 c79 _ (Kd.R_reads' (O85.get 0 rfl)).2.2 (row_cap (O85.get 0 rfl)) hbb hbl) ?_
    rintro e89 w90 ⟨A86, c87, S88, rfl, hb91⟩
    refine ⟨_, rfl, fun _ H93 => ?_⟩
    have O94 := O85.fresh hb91
    have hbel95 := O85.below
    clear H83 O85 hb91
    have O96 := O94.lowrow 0 rfl (base' := w0.heap.size) (Below.size hbel95)
    refine V H93 (op_assign rfl (H93.ev rfl)) ?_
    intro _ H98; clear H93
    refine gE hK62 ?_
    refine gw_seq fun K99 hK99 => ?_
    refine gw_seq fun K100 hK100 => ?_
    refine gx_draw (M := [R, Bk gj [.pointer (some ⟨gd, 0, none⟩), .string nm, .map (some gm), J size] 79, Chunk.lmap Tryz.prog 2 gm (xs.map XJ.ent), Chunk.jrows w0.heap.size xs]) (fun j_ => false) O96 (by kernel_rfl) fun w101 O102 => ?_
    clear O96
    refine gx_take 0 rfl (by kernel_rfl) H98 (by exact O102.sel [2, 4, 5, 6] (by decide)) (want_none rfl) rfl (by decide) (fun wq HO => (op_move rfl (H98.ev rfl))) ?_
    intro _ H104; clear H98
    refine gx_take 1 rfl (by kernel_rfl) H104 (by exact O102.sel [2, 4, 5, 6] (by decide)) (want_none rfl) rfl (by decide) (fun wq HO => (op_nil rfl (H104.ev rfl))) ?_
    intro _ H106; clear H104
    refine gx_take 2 rfl (by kernel_rfl) H106 (by exact O102.sel [2, 4, 5, 6] (by decide)) (want_none rfl) rfl (by decide) (fun wq HO => (op_field (gwfld79_0 _ _) rfl (H106.ev rfl))) ?_
    intro _ H108; clear H106
    refine gx_take 3 rfl (by kernel_rfl) H108 (by exact O102.sel [2, 4, 5, 6] (by decide)) (want_none rfl) rfl (by decide) (fun wq HO => (op_load1 gwagg23 rfl (H108.ev rfl) (blk_at (HO.get 1 rfl) rfl))) ?_
    intro _ H110; clear H108
    refine gx_take 4 rfl (by kernel_rfl) H110 (by exact O102.sel [2, 4, 5, 6] (by decide)) (want_none rfl) rfl (by decide) (fun wq HO => (op_move rfl (H110.ev rfl))) ?_
    intro _ H112; clear H110
    refine gx_take 5 rfl (by kernel_rfl) H112 (by exact O102.sel [2, 4, 5, 6] (by decide)) (want_none rfl) rfl (by decide) (fun wq HO => (op_nil rfl (H112.ev rfl))) ?_
    intro _ H114; clear H112
    refine gx_take 6 rfl (by kernel_rfl) H114 (by exact O102.sel [2, 4, 5, 6] (by decide)) (want_none rfl) rfl (by decide) (fun wq HO => (op_field (gwfld79_1 _ _) rfl (H114.ev rfl))) ?_
    intro _ H116; clear H114
    refine gx_take 7 rfl (by kernel_rfl) H116 (by exact O102.sel [2, 4, 5, 6] (by decide)) (want_none rfl) rfl (by decide) (fun wq HO => (op_load1 gwagg9 rfl (H116.ev rfl) (blk_at (HO.get 1 rfl) rfl))) ?_
    intro _ H118; clear H116
    refine gx_take 8 rfl (by kernel_rfl) H118 (by exact O102.sel [2, 4, 5, 6] (by decide)) (want_none rfl) rfl (by decide) (fun wq HO => (op_move rfl (H118.ev rfl))) ?_
    intro _ H120; clear H118
    refine gx_step 9 rfl (by kernel_rfl) ?_
    have O129 : Own w0 _ [(Chunk.all [Chunk.row (Kd.int .u8) 5 w0.heap.size S88 (.slice A86 ((recI (key, b)).length) c87) (recI (key, b)), Chunk.row (Kd.int .u8) 5 w0.heap.size S80 (.slice A78 (((encN key) ++ b).length) c79) ((encN key) ++ b), R, Bk gj [.pointer (some ⟨gd, 0, none⟩), .string nm, .map (some gm), J size] 79, Chunk.lmap Tryz.prog 2 gm (xs.map XJ.ent), Chunk.jrows w0.heap.size xs]), Chunk.disk w0.heap.size gd S d] := Own.bundle (O102.sel [0, 1, 2, 4, 5, 6, 3] (by decide))
    refine gw_call H120 (want_none rfl) rfl (by decide) (op_callL Tryz.func8 (by kernel_rfl) rfl rfl (ar_cons (H120.ev rfl) (ar_cons (H120.ev rfl) (ar_cons (H120.ev rfl) ar_nil)))) (append_calls w0 _ (Chunk.all [Chunk.row (Kd.int .u8) 5 w0.heap.size S88 (.slice A86 ((recI (key, b)).length) c87) (recI (key, b)), Chunk.row (Kd.int .u8) 5 w0.heap.size S80 (.slice A78 (((encN key) ++ b).length) c79) ((encN key) ++ b), R, Bk gj [.pointer (some ⟨gd, 0, none⟩), .string nm, .map (some gm), J size] 79, Chunk.lmap Tryz.prog 2 gm (xs.map XJ.ent), Chunk.jrows w0.heap.size xs]) gd S d nm A86 c87 (recI (key, b)) (fun w_ h_ => (Kd.R_reads' ((Own.unbundle (A := [Chunk.row (Kd.int .u8) 5 w0.heap.size S88 (.slice A86 ((recI (key, b)).length) c87) (recI (key, b)), Chunk.row (Kd.int .u8) 5 w0.heap.size S80 (.slice A78 (((encN key) ++ b).length) c79) ((encN key) ++ b), R, Bk gj [.pointer (some ⟨gd, 0, none⟩), .string nm, .map (some gm), J size] 79, Chunk.lmap Tryz.prog 2 gm (xs.map XJ.ent), Chunk.jrows w0.heap.size xs]) (L := []) h_).get 0 rfl)).2.2) (row_cap (O102.get 0 rfl)) hw hn hroom (by exact O129)) ?_
    rintro e123 w124 ⟨rfl, S121, hb125⟩
    refine ⟨_, rfl, fun _ H127 => ?_⟩
    have O128 : Own w0 w124 [Chunk.row (Kd.int .u8) 5 w0.heap.size S88 (.slice A86 ((recI (key, b)).length) c87) (recI (key, b)), Chunk.row (Kd.int .u8) 5 w0.heap.size S80 (.slice A78 (((encN key) ++ b).length) c79) ((encN key) ++ b), R, Bk gj [.pointer (some ⟨gd, 0, none⟩), .string nm, .map (some gm), J size] 79, Chunk.lmap Tryz.prog 2 gm (xs.map XJ.ent), Chunk.jrows w0.heap.size xs, Chunk.disk w0.heap.size gd S121 ((appendD nm (recI (key, b)) d).1)] := Own.unbundle (hb125.sel [0, 1] (by decide))
    clear O129
    clear H120 O102 hb125
    have hwf122 : wfD ((appendD nm (recI (key, b)) d).1) := wf_append hw
    refine gx_on (i := 9) (B := (fun j_ => false)) (fun _ => (by exact O128.sel [2, 3, 4, 5] (by decide))) ?_
    refine gx_take 10 rfl (by kernel_rfl) H127 (by exact O128.sel [2, 3, 4, 5] (by decide)) (want_none rfl) rfl (by decide) (fun wq HO => (op_assign rfl (H127.ev rfl))) ?_
    intro _ H132; clear H127
    refine gx_done (by kernel_rfl) ?_
    refine gw_nx (hK100 _ _ ?_)
    refine gR fun K133 hK133 => ?_
    refine V H132 (op_move rfl (H132.ev rfl)) ?_
    intro _ H135; clear H132
    refine V H135 (op_nei rfl (H135.ev rfl) (ev_c _ _)) ?_
    intro _ H137; clear H135
    refine gE hK133 ?_
    refine gw_cond H137 rfl (fun hb138 => ?_) (fun hb138 => ?_)
    ·
     have H139 := H137.subst_ (d := 40) (b := true) rfl hb138
     clear H137
     (try simp only [decide_eq_true_eq, ne_eq] at hb138)
     refine gR fun K140 hK140 => ?_
     refine V H139 (op_move rfl (H139.ev rfl)) ?_
     intro _ H142; clear H139
     refine V H142 (op_assign rfl (H142.ev rfl)) ?_
     intro _ H144; clear H142
     refine gE hK140 ?_
     refine wp_ret ?_
     refine gw_thr ?_
     refine gw_ret1 H144 rfl rfl ?_
     obtain ⟨SJ', HOj⟩ := jour_close2 (xs := xs) hxs (by exact O128.sel [2, 6, 3, 4, 5] (by decide))
     rw [put_fail (by omega) (by omega) hhas (by omega)]
     exact ⟨rfl, _, SJ', HOj⟩
    ·
     have H145 := H137.subst_ (d := 40) (b := false) rfl hb138
     clear H137
     (try simp only [decide_eq_false_iff_not, ne_eq, Decidable.not_not] at hb138)
     have happ := hb138
     refine wp_skip ?_
     refine gw_nx (hK99 _ _ ?_)
     refine gw_seq fun K146 hK146 => ?_
     refine gx_draw (M := [Chunk.row (Kd.int .u8) 5 w0.heap.size S88 (.slice A86 ((recI (key, b)).length) c87) (recI (key, b)), Chunk.row (Kd.int .u8) 5 w0.heap.size S80 (.slice A78 (((encN key) ++ b).length) c79) ((encN key) ++ b), R, Bk gj [.pointer (some ⟨gd, 0, none⟩), .string nm, .map (some gm), J size] 79, Chunk.lmap Tryz.prog 2 gm (xs.map XJ.ent), Chunk.jrows w0.heap.size xs, Chunk.disk w0.heap.size gd S121 ((appendD nm (recI (key, b)) d).1)]) (fun j_ => j_ == 7) O128 (by kernel_rfl) fun w147 O148 => ?_
     clear O128
     refine gx_take 0 rfl (by kernel_rfl) H145 (by exact O148.sel [0, 1, 2, 3, 4, 5, 6] (by decide)) (want_none rfl) rfl (by decide) (fun wq HO => (op_move rfl (H145.ev rfl))) ?_
     intro _ H150; clear H145
     refine gx_take 1 rfl (by kernel_rfl) H150 (by exact O148.sel [0, 1, 2, 3, 4, 5, 6] (by decide)) (want_none rfl) rfl (by decide) (fun wq HO => (op_nil rfl (H150.ev rfl))) ?_
     intro _ H152; clear H150
     refine gx_take 2 rfl (by kernel_rfl) H152 (by exact O148.sel [0, 1, 2, 3, 4, 5, 6] (by decide)) (want_none rfl) rfl (by decide) (fun wq HO => (op_field (gwfld79_2 _ _) rfl (H152.ev rfl))) ?_
     intro _ H154; clear H152
     refine gx_take 3 rfl (by kernel_rfl) H154 (by exact O148.sel [0, 1, 2, 3, 4, 5, 6] (by decide)) (want_none rfl) rfl (by decide) (fun wq HO => (op_load1 gwagg77 rfl (H154.ev rfl) (blk_at (HO.get 3 rfl) rfl))) ?_
     intro _ H156; clear H154
     refine gx_take 4 rfl (by kernel_rfl) H156 (by exact O148.sel [0, 1, 2, 3, 4, 5, 6] (by decide)) (want_none rfl) rfl (by decide) (fun wq HO => (op_move rfl (H156.ev rfl))) ?_
     intro _ H158; clear H156
     refine gx_take 5 rfl (by kernel_rfl) H158 (by exact O148.sel [0, 1, 2, 3, 4, 5, 6] (by decide)) (want_none rfl) rfl (by decide) (fun wq HO => (op_move rfl (H158.ev rfl))) ?_
     intro _ H160; clear H158
     refine gx_step 6 rfl (by kernel_rfl) ?_
     refine gw_call H160 (want_none rfl) rfl (by decide) (op_callL Tryz.func34 (by kernel_rfl) rfl rfl (ar_cons (H160.ev rfl) ar_nil)) (clone0 Ab cb b _ (hy _ (O148.sel [2] (by decide))) hcy (by omega)) ?_
     rintro e164 w165 ⟨A161, c162, S163, rfl, hb166⟩
     refine ⟨_, rfl, fun _ H168 => ?_⟩
     have O169 := O148.fresh hb166
     have hbel170 := O148.below
     clear H160 O148 hb166
     have O171 := O169.lowrow 0 rfl (base' := w0.heap.size) (Below.size hbel170)
     refine gx_on (i := 6) (B := (fun j_ => j_ == 7)) (fun _ => (by exact O171.sel [1, 2, 3, 4, 5, 6, 7] (by decide))) ?_
     refine gx_step 7 rfl (by kernel_rfl) ?_
     refine gw_mput 5 (Go.Maps.int_keyed Tryz.underlying2) Tryz.underlying77 H168 O171 rfl (want_none rfl) rfl rfl (H168.ev rfl) (H168.ev rfl) (H168.ev rfl) (Go.Maps.keyOf_int_mk Tryz.underlying2 (hkw)) (by rw [List.length_map]; omega) ?_
     intro _ w173 H174 O175; clear H168 O171
     have O176 : Own w0 w173 [Chunk.row (Kd.int .u8) 5 w0.heap.size S163 (.slice A161 b.length c162) b, Chunk.row (Kd.int .u8) 5 w0.heap.size S88 (.slice A86 ((recI (key, b)).length) c87) (recI (key, b)), Chunk.row (Kd.int .u8) 5 w0.heap.size S80 (.slice A78 (((encN key) ++ b).length) c79) ((encN key) ++ b), R, Bk gj [.pointer (some ⟨gd, 0, none⟩), .string nm, .map (some gm), J size] 79, Chunk.lmap Tryz.prog 2 gm (lput (Lit.int .i64 key) (.slice A161 b.length c162) (xs.map XJ.ent)), Chunk.jrows w0.heap.size xs, Chunk.disk w0.heap.size gd S121 ((appendD nm (recI (key, b)) d).1)] := O175
     clear O175
     have elp_ := lput_new (x := (⟨key, b, A161, c162, S163⟩ : XJ)) (xs := xs) hno
     have O177 : Own w0 w173 [Chunk.row (Kd.int .u8) 5 w0.heap.size S163 (.slice A161 b.length c162) b, Chunk.row (Kd.int .u8) 5 w0.heap.size S88 (.slice A86 ((recI (key, b)).length) c87) (recI (key, b)), Chunk.row (Kd.int .u8) 5 w0.heap.size S80 (.slice A78 (((encN key) ++ b).length) c79) ((encN key) ++ b), R, Bk gj [.pointer (some ⟨gd, 0, none⟩), .string nm, .map (some gm), J size] 79, Chunk.lmap Tryz.prog 2 gm ((insJ (⟨key, b, A161, c162, S163⟩ : XJ) xs).map XJ.ent), Chunk.jrows w0.heap.size xs, Chunk.disk w0.heap.size gd S121 ((appendD nm (recI (key, b)) d).1)] := by have h_ := O176; rw [show lput (Lit.int .i64 key) (.slice A161 b.length c162) (xs.map XJ.ent) = (insJ (⟨key, b, A161, c162, S163⟩ : XJ) xs).map XJ.ent from elp_] at h_; exact h_
     refine gx_on (i := 7) (B := (fun j_ => j_ == 7)) (fun h_ => by cases h_) ?_
     refine gx_done (by kernel_rfl) ?_
     refine gw_nx (hK146 _ _ ?_)
     refine gR fun K178 hK178 => ?_
     refine V H174 (op_move rfl (H174.ev rfl)) ?_
     intro _ H180; clear H174
     refine V H180 (op_nil rfl (H180.ev rfl)) ?_
     intro _ H182; clear H180
     refine V H182 (op_field (gwfld79_3 _ _) rfl (H182.ev rfl)) ?_
     intro _ H184; clear H182
     refine V H184 (op_load1 gwagg3 rfl (H184.ev rfl) (blk_at (O177.get 4 rfl) rfl)) ?_
     intro _ H186; clear H184
     refine V H186 (op_move rfl (H186.ev rfl)) ?_
     intro _ H188; clear H186
     refine V H188 (op_len Tryz.underlying22 rfl (H188.ev rfl)) ?_
     intro _ H190; clear H188
     refine V H190 (op_add rfl (H190.ev rfl) (H190.ev rfl) (by omega)) ?_
     intro _ H192; clear H190
     refine V H192 (op_nil rfl (H192.ev rfl)) ?_
     intro _ H194; clear H192
     refine V H194 (op_field (gwfld79_3 _ _) rfl (H194.ev rfl)) ?_
     intro _ H196; clear H194
     refine gw_set 4 H196 O177 rfl (want_none rfl) rfl (op_store1 gwsiz3 rfl (H196.ev rfl) (H196.ev rfl) rfl (blk_at (O177.get 4 rfl) rfl) (blkf (O177.get 4 rfl))) ?_
     intro _ w199 H198 O200; clear H196 O177
     refine gE hK178 ?_
     refine gR fun K201 hK201 => ?_
     refine V H198 (op_assign rfl (ev_c _ _)) ?_
     intro _ H203; clear H198
     refine gE hK201 ?_
     refine wp_ret ?_
     refine gw_ret1 H203 rfl rfl ?_
     have O204 := Own.jrow_in (x := (⟨key, b, A161, c162, S163⟩ : XJ)) (xs := xs) (by exact O200.sel [0, 6, 3, 7, 4, 5] (by decide))
     obtain ⟨SJ', HOj⟩ := jour_close2 (R := R) (xs := insJ (⟨key, b, A161, c162, S163⟩ : XJ) xs) (is := is ++ [(key, b)]) (ins_items hxs) (by exact O204.sel [1, 2, 3, 4, 0] (by decide))
     rw [put_ok (by omega) (by omega) hhas happ, happ]
     exact ⟨rfl, _, SJ', HOj⟩
end GJour2_
export GJour2_ (jsync_calls put_calls)
end Go.Proofs.YtkdahjnmldeklaaGreat.PA
end
