/- What this claim uses of this session's own texts, put together by a program: GTabs GRefR GTable HRefP GRefI GRefK GRefO. -/
import Derived.Test.YtelbgmpeghhakaaGreatKGlobMatches2
import Derived.Test.YtelbgmpeghhakaaGreatProg
import Derived.Test.YtelbgmpeghhakaaGreatRows
section
namespace Go.Proofs.YtelbgmpeghhakaaGreat.PA
open Go.RowKit Go.Proofs.YtelbgmpeghhakaaGreatW.PrintWords Go.Proofs.YtelbgmpeghhakaaGreatW.PrintLast Go.Proofs.YtelbgmpeghhakaaGreatW.PrintMore
set_option linter.unusedVariables false
set_option linter.unusedSimpArgs false
namespace GTabs_
theorem gwagg35 : ∀ w, (isAgg 35).run Tryz.prog w = .ok false w := fun _ => by kernel_rfl
theorem gwagg4 : ∀ w, (isAgg 4).run Tryz.prog w = .ok false w := fun _ => by kernel_rfl
theorem gwsiz35 : ∀ w, (sizeOf 35).run Tryz.prog w = .ok 1 w := fun _ => by kernel_rfl
theorem gwsiz4 : ∀ w, (sizeOf 4).run Tryz.prog w = .ok 1 w := fun _ => by kernel_rfl
set_option maxHeartbeats 4000000 in
set_option maxRecDepth 100000 in
theorem same_walk (a0 : Int) (n : Nat) (w : World) (ha : a0 = n) (h0 : 0 < n) (hn : n ≤ 1000) :
    Calls Tryz.prog 28 #[.int .i64 a0] w fun e w' => ∃ Z_ S_ T_, e = .returned (.slice (some ⟨Z_.g, 0, none⟩) n Z_.c) ∧ Out w w' (fun _ => False) [Chunk.tab S_ Z_ n T_] ∧ ∀ x y, x < n → y < n → (T_ x y = true ↔ x = y) := by
 refine gw_start (N := 19) (vs := [J a0]) Tryz.func28 rfl rfl (by simp) fun a HF HO => ?_
 replace HO : Own w w [] := HO
 refine gR fun K1 hK1 => ?_
 refine V HF (op_assign rfl (ev_c _ _)) ?_
 intro _ H3; clear HF
 refine gE hK1 ?_
 refine gR fun K4 hK4 => ?_
 refine V H3 (op_move rfl (H3.ev rfl)) ?_
 intro _ H6; clear H3
 refine gw_call H6 (want_none rfl) rfl (by decide) (op_callL Tryz.func26 (by kernel_rfl) rfl rfl (ar_cons (H6.ev rfl) ar_nil)) (tnone_calls a0 n _ (by omega) (by omega) (by omega)) ?_
 rintro e10 w11 ⟨Z7, S8, rfl, hb12⟩
 refine ⟨_, rfl, fun _ H14 => ?_⟩
 have O15 := HO.fresh hb12
 clear H6 HO hb12
 refine V H14 (op_assign rfl (H14.ev rfl)) ?_
 intro _ H18; clear H14
 refine gE hK4 ?_
 refine gw_seq fun K19 hK19 => ?_
 refine gR fun K20 hK20 => ?_
 refine V H18 (op_assign rfl (ev_c _ _)) ?_
 intro _ H22; clear H18
 refine gE hK20 ?_
 refine wp_block ?_
 refine gw_loop (fun m_ a_ w_ => ∃ (i : Int) (T1 : Nat → Nat → Bool), Fr 19 a_ [(4, J i), (0, J a0), (2, .slice none 0 0), (3, .slice (some ⟨Z7.g, 0, none⟩) n Z7.c)] ∧ Own w w_ [Chunk.tab S8 Z7 n T1] ∧ (0 ≤ i ∧ i ≤ n) ∧ (sameI n T1 i.toNat) ∧ m_ = (n - i.toNat)) ((n - (0 : Int).toNat)) ?_ ?_
 ·
  refine ⟨0, (fun _ _ => false), (H22.pick (t := 4) rfl (H22.pick (t := 0) rfl (H22.pick (t := 2) rfl (H22.pick (t := 3) rfl H22.nil)))), O15.sel [0] (by decide), ?_, ?_, rfl⟩
  ·
   omega
  ·
   exact sameI0 n
 ·
  rintro m24 _ w26 ⟨i, T1, H27, O28, hii, hT1, hm29⟩
  refine gw_seq fun K30 hK30 => ?_
  refine gR fun K31 hK31 => ?_
  refine V H27 (op_move rfl (H27.ev rfl)) ?_
  intro _ H33; clear H27
  refine V H33 (op_move rfl (H33.ev rfl)) ?_
  intro _ H35; clear H33
  refine V H35 (op_lss rfl (H35.ev rfl) (H35.ev rfl)) ?_
  intro _ H37; clear H35
  refine gE hK31 ?_
  refine gw_cond H37 rfl (fun hb38 => ?_) (fun hb38 => ?_)
  ·
   have H39 := H37.subst_ (d := 9) (b := true) rfl hb38
   clear H37
   (try simp only [decide_eq_true_eq] at hb38)
   refine wp_skip ?_
   refine gw_nx (hK30 _ _ ?_)
   refine gw_seq fun K40 hK40 => ?_
   refine wp_block ?_
   refine wp_region_lit ?_
   refine V H39 (op_move rfl (H39.ev rfl)) ?_
   intro _ H42; clear H39
   refine V H42 (op_move rfl (H42.ev rfl)) ?_
   intro _ H44; clear H42
   refine V H44 (op_index Tryz.underlying36 gwsiz35 rfl (H44.ev rfl) (H44.ev rfl) rfl (⟨by omega, by omega⟩)) ?_
   intro _ H49; clear H44
   refine V H49 (op_load1 gwagg35 rfl (H49.ev rfl) (tab_row (O28.get 0 rfl) i (by omega) (by omega))) ?_
   intro _ H51; clear H49
   refine V H51 (op_move rfl (H51.ev rfl)) ?_
   intro _ H53; clear H51
   refine V H53 (op_index Tryz.underlying35 gwsiz4 rfl (H53.ev rfl) (H53.ev rfl) rfl (⟨by omega, by omega⟩)) ?_
   intro _ H58; clear H53
   refine gw_tab (it := i) (jt := i) 0 H58 O28 rfl (want_none rfl) rfl gwsiz4 (by omega) (by omega) (by omega) (by omega) rfl (H58.ev rfl) (ev_c _ _) ?_
   intro _ w61 H60 O62; clear H58 O28
   have O63 : Own w w61 [Chunk.tab S8 Z7 n (tset T1 i.toNat i.toNat true)] := O62
   clear O62
   refine wpList_nil ?_
   refine gw_blk ?_
   refine gw_nx (hK40 _ _ ?_)
   refine wp_region_lit ?_
   refine V H60 (op_move rfl (H60.ev rfl)) ?_
   intro _ H65; clear H60
   refine V H65 (op_add rfl (H65.ev rfl) (ev_c _ _) (by omega)) ?_
   intro _ H67; clear H65
   refine V H67 (op_assign rfl (H67.ev rfl)) ?_
   intro _ H69; clear H67
   refine wpList_nil ?_
   refine gw_nx ⟨_, ?_, i + 1, tset T1 i.toNat i.toNat true, (H69.pick (t := 4) rfl (H69.pick (t := 0) rfl (H69.pick (t := 2) rfl (H69.pick (t := 3) rfl H69.nil)))), O63.sel [0] (by decide), ?_, ?_, rfl⟩
   ·
    rw [hm29]; omega
   ·
    omega
   ·
    rw [show (i + 1).toNat = i.toNat + 1 by omega]; exact sameI_step hT1
  ·
   have H70 := H37.subst_ (d := 9) (b := false) rfl hb38
   clear H37
   (try simp only [decide_eq_false_iff_not, Int.not_lt] at hb38)
   refine wp_exit ?_
   refine gw_thx ?_
   refine gw_thx ?_
   refine gw_in ?_
   refine gw_nx (hK19 _ _ ?_)
   refine gR fun K71 hK71 => ?_
   refine V H70 (op_move rfl (H70.ev rfl)) ?_
   intro _ H73; clear H70
   refine V H73 (op_assign rfl (H73.ev rfl)) ?_
   intro _ H75; clear H73
   refine gE hK71 ?_
   refine wp_ret ?_
   refine gw_ret1 H75 rfl rfl ?_
   have hT2 : sameI n T1 n := by rw [show i.toNat = n by omega] at hT1; exact hT1
   exact ⟨_, _, _, rfl, (O28.sel [0] (by decide)).out, sameI_end hT2⟩
set_option maxHeartbeats 4000000 in
set_option maxRecDepth 100000 in
theorem both_walk (w0 w : World) (R : Chunk) (SA SB : Nat → Prop) (ZA ZB : Tb) (n : Nat) (TA TB : Nat → Nat → Bool) (h0 : 0 < n) (hn : n ≤ 1000) (HO : Own w0 w [R, Chunk.tab SA ZA n TA, Chunk.tab SB ZB n TB]) :
    Calls Tryz.prog 29 #[.slice (some ⟨ZA.g, 0, none⟩) n ZA.c, .slice (some ⟨ZB.g, 0, none⟩) n ZB.c] w fun e w' => ∃ Z_ S_ T_, e = .returned (.slice (some ⟨Z_.g, 0, none⟩) n Z_.c) ∧ Own w0 w' [Chunk.tab S_ Z_ n T_, R] ∧ ∀ x y, x < n → y < n → (T_ x y = true ↔ ∃ m, m < n ∧ TA x m = true ∧ TB m y = true) := by
 refine gw_startO (N := 62) (vs := [.slice (some ⟨ZA.g, 0, none⟩) n ZA.c, .slice (some ⟨ZB.g, 0, none⟩) n ZB.c]) Tryz.func29 rfl rfl (by simp) fun a HF => ?_
 refine gR fun K1 hK1 => ?_
 refine V HF (op_assign rfl (ev_c _ _)) ?_
 intro _ H3; clear HF
 refine gE hK1 ?_
 refine gR fun K4 hK4 => ?_
 refine V H3 (op_move rfl (H3.ev rfl)) ?_
 intro _ H6; clear H3
 refine V H6 (op_len Tryz.underlying36 rfl (H6.ev rfl)) ?_
 intro _ H8; clear H6
 refine gw_call H8 (want_none rfl) rfl (by decide) (op_callL Tryz.func26 (by kernel_rfl) rfl rfl (ar_cons (H8.ev rfl) ar_nil)) (tnone_calls (n : Int) n _ (by omega) (by omega) (by omega)) ?_
 rintro e12 w13 ⟨Z9, S10, rfl, hb14⟩
 refine ⟨_, rfl, fun _ H16 => ?_⟩
 have O17 := HO.fresh hb14
 clear H8 HO hb14
 refine V H16 (op_assign rfl (H16.ev rfl)) ?_
 intro _ H20; clear H16
 refine gE hK4 ?_
 refine gw_seq fun K21 hK21 => ?_
 refine gR fun K22 hK22 => ?_
 refine V H20 (op_assign rfl (ev_c _ _)) ?_
 intro _ H24; clear H20
 refine gE hK22 ?_
 refine wp_block ?_
 refine gw_loop (fun m_ a_ w_ => ∃ (i : Int) (T1 : Nat → Nat → Bool), Fr 62 a_ [(6, J i), (0, .slice (some ⟨ZA.g, 0, none⟩) n ZA.c), (1, .slice (some ⟨ZB.g, 0, none⟩) n ZB.c), (4, .slice none 0 0), (5, .slice (some ⟨Z9.g, 0, none⟩) n Z9.c)] ∧ Own w0 w_ [Chunk.tab S10 Z9 n T1, R, Chunk.tab SA ZA n TA, Chunk.tab SB ZB n TB] ∧ (0 ≤ i ∧ i ≤ n) ∧ (bothI TA TB n T1 i.toNat 0 0) ∧ m_ = (n - i.toNat)) ((n - (0 : Int).toNat)) ?_ ?_
 ·
  refine ⟨0, (fun _ _ => false), (H24.pick (t := 6) rfl (H24.pick (t := 0) rfl (H24.pick (t := 1) rfl (H24.pick (t := 4) rfl (H24.pick (t := 5) rfl H24.nil))))), O17.sel [0, 1, 2, 3] (by decide), ?_, ?_, rfl⟩
  ·
   omega
  ·
   exact bothI0 TA TB n
 ·
  rintro m26 _ w28 ⟨i, T1, H29, O30, hii, hT1, hm31⟩
  refine gw_seq fun K32 hK32 => ?_
  refine gR fun K33 hK33 => ?_
  refine V H29 (op_move rfl (H29.ev rfl)) ?_
  intro _ H35; clear H29
  refine V H35 (op_move rfl (H35.ev rfl)) ?_
  intro _ H37; clear H35
  refine V H37 (op_len Tryz.underlying36 rfl (H37.ev rfl)) ?_
  intro _ H39; clear H37
  refine V H39 (op_lss rfl (H39.ev rfl) (H39.ev rfl)) ?_
  intro _ H41; clear H39
  refine gE hK33 ?_
  refine gw_cond H41 rfl (fun hb42 => ?_) (fun hb42 => ?_)
  ·
   have H43 := H41.subst_ (d := 15) (b := true) rfl hb42
   clear H41
   (try simp only [decide_eq_true_eq] at hb42)
   refine wp_skip ?_
   refine gw_nx (hK32 _ _ ?_)
   refine gw_seq fun K44 hK44 => ?_
   refine wp_block ?_
   refine gR fun K45 hK45 => ?_
   refine V H43 (op_assign rfl (ev_c _ _)) ?_
   intro _ H47; clear H43
   refine gE hK45 ?_
   refine wp_block ?_
   refine gw_loop (fun m_ a_ w_ => ∃ (k : Int) (T2 : Nat → Nat → Bool), Fr 62 a_ [(7, J k), (6, J i), (0, .slice (some ⟨ZA.g, 0, none⟩) n ZA.c), (1, .slice (some ⟨ZB.g, 0, none⟩) n ZB.c), (4, .slice none 0 0), (5, .slice (some ⟨Z9.g, 0, none⟩) n Z9.c), (12, J i), (13, .slice (some ⟨ZA.g, 0, none⟩) n ZA.c), (14, J (n : Int)), (15, .bool true)] ∧ Own w0 w_ [Chunk.tab S10 Z9 n T2, R, Chunk.tab SA ZA n TA, Chunk.tab SB ZB n TB] ∧ (0 ≤ k ∧ k ≤ n) ∧ (bothI TA TB n T2 i.toNat k.toNat 0) ∧ m_ = (n - k.toNat)) ((n - (0 : Int).toNat)) ?_ ?_
   ·
    refine ⟨0, T1, (H47.pick (t := 7) rfl (H47.pick (t := 6) rfl (H47.pick (t := 0) rfl (H47.pick (t := 1) rfl (H47.pick (t := 4) rfl (H47.pick (t := 5) rfl (H47.pick (t := 12) rfl (H47.pick (t := 13) rfl (H47.pick (t := 14) rfl (H47.pick (t := 15) rfl H47.nil)))))))))), O30.sel [0, 1, 2, 3] (by decide), ?_, ?_, rfl⟩
    ·
     omega
    ·
     exact hT1
   ·
    rintro m49 _ w51 ⟨k, T2, H52, O53, hik, hT2, hm54⟩
    refine gw_seq fun K55 hK55 => ?_
    refine gR fun K56 hK56 => ?_
    refine V H52 (op_move rfl (H52.ev rfl)) ?_
    intro _ H58; clear H52
    refine V H58 (op_move rfl (H58.ev rfl)) ?_
    intro _ H60; clear H58
    refine V H60 (op_len Tryz.underlying36 rfl (H60.ev rfl)) ?_
    intro _ H62; clear H60
    refine V H62 (op_lss rfl (H62.ev rfl) (H62.ev rfl)) ?_
    intro _ H64; clear H62
    refine gE hK56 ?_
    refine gw_cond H64 rfl (fun hb65 => ?_) (fun hb65 => ?_)
    ·
     have H66 := H64.subst_ (d := 21) (b := true) rfl hb65
     clear H64
     (try simp only [decide_eq_true_eq] at hb65)
     refine wp_skip ?_
     refine gw_nx (hK55 _ _ ?_)
     refine gw_seq fun K67 hK67 => ?_
     refine wp_block ?_
     refine gR fun K68 hK68 => ?_
     refine V H66 (op_assign rfl (ev_c _ _)) ?_
     intro _ H70; clear H66
     refine gE hK68 ?_
     refine wp_block ?_
     refine gw_loop (fun m_ a_ w_ => ∃ (j : Int) (T3 : Nat → Nat → Bool), Fr 62 a_ [(8, J j), (7, J k), (6, J i), (0, .slice (some ⟨ZA.g, 0, none⟩) n ZA.c), (1, .slice (some ⟨ZB.g, 0, none⟩) n ZB.c), (4, .slice none 0 0), (5, .slice (some ⟨Z9.g, 0, none⟩) n Z9.c), (12, J i), (13, .slice (some ⟨ZA.g, 0, none⟩) n ZA.c), (14, J (n : Int)), (15, .bool true), (18, J k), (19, .slice (some ⟨ZA.g, 0, none⟩) n ZA.c), (20, J (n : Int)), (21, .bool true)] ∧ Own w0 w_ [Chunk.tab S10 Z9 n T3, R, Chunk.tab SA ZA n TA, Chunk.tab SB ZB n TB] ∧ (0 ≤ j ∧ j ≤ n) ∧ (bothI TA TB n T3 i.toNat k.toNat j.toNat) ∧ m_ = (n - j.toNat)) ((n - (0 : Int).toNat)) ?_ ?_
     ·
      refine ⟨0, T2, (H70.pick (t := 8) rfl (H70.pick (t := 7) rfl (H70.pick (t := 6) rfl (H70.pick (t := 0) rfl (H70.pick (t := 1) rfl (H70.pick (t := 4) rfl (H70.pick (t := 5) rfl (H70.pick (t := 12) rfl (H70.pick (t := 13) rfl (H70.pick (t := 14) rfl (H70.pick (t := 15) rfl (H70.pick (t := 18) rfl (H70.pick (t := 19) rfl (H70.pick (t := 20) rfl (H70.pick (t := 21) rfl H70.nil))))))))))))))), O53.sel [0, 1, 2, 3] (by decide), ?_, ?_, rfl⟩
      ·
       omega
      ·
       exact hT2
     ·
      rintro m72 _ w74 ⟨j, T3, H75, O76, hij, hT3, hm77⟩
      refine gw_seq fun K78 hK78 => ?_
      refine gR fun K79 hK79 => ?_
      refine V H75 (op_move rfl (H75.ev rfl)) ?_
      intro _ H81; clear H75
      refine V H81 (op_move rfl (H81.ev rfl)) ?_
      intro _ H83; clear H81
      refine V H83 (op_len Tryz.underlying36 rfl (H83.ev rfl)) ?_
      intro _ H85; clear H83
      refine V H85 (op_lss rfl (H85.ev rfl) (H85.ev rfl)) ?_
      intro _ H87; clear H85
      refine V H87 (op_move rfl (H87.ev rfl)) ?_
      intro _ H89; clear H87
      refine gw_evG H89 rfl rfl rfl rfl (on_t _) rfl (by decide) (fun h_ => (op_move rfl (H89.ev rfl))) ?_
      intro _ H91; clear H89
      refine gw_evG H91 rfl rfl rfl rfl (on_t _) rfl (by decide) (fun h_ => (op_move rfl (H91.ev rfl))) ?_
      intro _ H93; clear H91
      refine gw_evG H93 rfl rfl rfl rfl (on_t _) rfl (by decide) (fun h_ => (op_index Tryz.underlying36 gwsiz35 rfl (ev_gv (H93.ev rfl) h_) (ev_gv (H93.ev rfl) h_) rfl (⟨by (try simp only [Bool.and_eq_true, Bool.or_eq_true, Bool.and_eq_false_iff, Bool.or_eq_false_iff, Bool.not_and, Bool.not_or, Bool.not_not, decide_eq_true_eq, decide_eq_false_iff_not, Bool.not_eq_true', Bool.not_eq_false', Bool.not_eq_true, Bool.not_eq_false, ne_eq, Decidable.not_not, Int.not_lt, Int.not_le, not_true_eq_false, not_false_eq_true, bne_iff_ne, beq_iff_eq, bne_eq_false_iff_eq, beq_eq_false_iff_ne] at h_); omega, by (try simp only [Bool.and_eq_true, Bool.or_eq_true, Bool.and_eq_false_iff, Bool.or_eq_false_iff, Bool.not_and, Bool.not_or, Bool.not_not, decide_eq_true_eq, decide_eq_false_iff_not, Bool.not_eq_true', Bool.not_eq_false', Bool.not_eq_true, Bool.not_eq_false, ne_eq, Decidable.not_not, Int.not_lt, Int.not_le, not_true_eq_false, not_false_eq_true, bne_iff_ne, beq_iff_eq, bne_eq_false_iff_eq, beq_eq_false_iff_ne] at h_); omega⟩))) ?_
      intro _ H98; clear H93
      refine gw_evG H98 rfl rfl rfl rfl (on_t _) rfl (by decide) (fun h_ => (op_load1 gwagg35 rfl (ev_gv (H98.ev rfl) h_) (tab_row (O76.get 2 rfl) i (by (try simp only [Bool.and_eq_true, Bool.or_eq_true, Bool.and_eq_false_iff, Bool.or_eq_false_iff, Bool.not_and, Bool.not_or, Bool.not_not, decide_eq_true_eq, decide_eq_false_iff_not, Bool.not_eq_true', Bool.not_eq_false', Bool.not_eq_true, Bool.not_eq_false, ne_eq, Decidable.not_not, Int.not_lt, Int.not_le, not_true_eq_false, not_false_eq_true, bne_iff_ne, beq_iff_eq, bne_eq_false_iff_eq, beq_eq_false_iff_ne] at h_); omega) (by (try simp only [Bool.and_eq_true, Bool.or_eq_true, Bool.and_eq_false_iff, Bool.or_eq_false_iff, Bool.not_and, Bool.not_or, Bool.not_not, decide_eq_true_eq, decide_eq_false_iff_not, Bool.not_eq_true', Bool.not_eq_false', Bool.not_eq_true, Bool.not_eq_false, ne_eq, Decidable.not_not, Int.not_lt, Int.not_le, not_true_eq_false, not_false_eq_true, bne_iff_ne, beq_iff_eq, bne_eq_false_iff_eq, beq_eq_false_iff_ne] at h_); omega)))) ?_
      intro _ H100; clear H98
      refine gw_evG H100 rfl rfl rfl rfl (on_t _) rfl (by decide) (fun h_ => (op_move rfl (H100.ev rfl))) ?_
      intro _ H102; clear H100
      refine gw_evG H102 rfl rfl rfl rfl (on_t _) rfl (by decide) (fun h_ => (op_index Tryz.underlying35 gwsiz4 rfl (ev_gv (H102.ev rfl) h_) (ev_gv (H102.ev rfl) h_) rfl (⟨by (try simp only [Bool.and_eq_true, Bool.or_eq_true, Bool.and_eq_false_iff, Bool.or_eq_false_iff, Bool.not_and, Bool.not_or, Bool.not_not, decide_eq_true_eq, decide_eq_false_iff_not, Bool.not_eq_true', Bool.not_eq_false', Bool.not_eq_true, Bool.not_eq_false, ne_eq, Decidable.not_not, Int.not_lt, Int.not_le, not_true_eq_false, not_false_eq_true, bne_iff_ne, beq_iff_eq, bne_eq_false_iff_eq, beq_eq_false_iff_ne] at h_); omega, by (try simp only [Bool.and_eq_true, Bool.or_eq_true, Bool.and_eq_false_iff, Bool.or_eq_false_iff, Bool.not_and, Bool.not_or, Bool.not_not, decide_eq_true_eq, decide_eq_false_iff_not, Bool.not_eq_true', Bool.not_eq_false', Bool.not_eq_true, Bool.not_eq_false, ne_eq, Decidable.not_not, Int.not_lt, Int.not_le, not_true_eq_false, not_false_eq_true, bne_iff_ne, beq_iff_eq, bne_eq_false_iff_eq, beq_eq_false_iff_ne] at h_); omega⟩))) ?_
      intro _ H107; clear H102
      refine gw_evG H107 rfl rfl rfl rfl (on_t _) rfl (by decide) (fun h_ => (op_load1 gwagg4 rfl (ev_gv (H107.ev rfl) h_) (tab_cell (O76.get 2 rfl) i k (by (try simp only [Bool.and_eq_true, Bool.or_eq_true, Bool.and_eq_false_iff, Bool.or_eq_false_iff, Bool.not_and, Bool.not_or, Bool.not_not, decide_eq_true_eq, decide_eq_false_iff_not, Bool.not_eq_true', Bool.not_eq_false', Bool.not_eq_true, Bool.not_eq_false, ne_eq, Decidable.not_not, Int.not_lt, Int.not_le, not_true_eq_false, not_false_eq_true, bne_iff_ne, beq_iff_eq, bne_eq_false_iff_eq, beq_eq_false_iff_ne] at h_); omega) (by (try simp only [Bool.and_eq_true, Bool.or_eq_true, Bool.and_eq_false_iff, Bool.or_eq_false_iff, Bool.not_and, Bool.not_or, Bool.not_not, decide_eq_true_eq, decide_eq_false_iff_not, Bool.not_eq_true', Bool.not_eq_false', Bool.not_eq_true, Bool.not_eq_false, ne_eq, Decidable.not_not, Int.not_lt, Int.not_le, not_true_eq_false, not_false_eq_true, bne_iff_ne, beq_iff_eq, bne_eq_false_iff_eq, beq_eq_false_iff_ne] at h_); omega) (by (try simp only [Bool.and_eq_true, Bool.or_eq_true, Bool.and_eq_false_iff, Bool.or_eq_false_iff, Bool.not_and, Bool.not_or, Bool.not_not, decide_eq_true_eq, decide_eq_false_iff_not, Bool.not_eq_true', Bool.not_eq_false', Bool.not_eq_true, Bool.not_eq_false, ne_eq, Decidable.not_not, Int.not_lt, Int.not_le, not_true_eq_false, not_false_eq_true, bne_iff_ne, beq_iff_eq, bne_eq_false_iff_eq, beq_eq_false_iff_ne] at h_); omega) (by (try simp only [Bool.and_eq_true, Bool.or_eq_true, Bool.and_eq_false_iff, Bool.or_eq_false_iff, Bool.not_and, Bool.not_or, Bool.not_not, decide_eq_true_eq, decide_eq_false_iff_not, Bool.not_eq_true', Bool.not_eq_false', Bool.not_eq_true, Bool.not_eq_false, ne_eq, Decidable.not_not, Int.not_lt, Int.not_le, not_true_eq_false, not_false_eq_true, bne_iff_ne, beq_iff_eq, bne_eq_false_iff_eq, beq_eq_false_iff_ne] at h_); omega)))) ?_
      intro _ H109; clear H107
      refine V H109 (op_pick_and rfl (H109.ev rfl) (fun hp_ => (ev_gv (H109.ev rfl) hp_)) (ev_c _ _)) ?_
      intro _ H111; clear H109
      refine gE hK79 ?_
      refine gw_cond H111 rfl (fun hb112 => ?_) (fun hb112 => ?_)
      ·
       have H113 := H111.subst_ (d := 36) (b := true) rfl hb112
       clear H111
       (try simp only [Bool.and_eq_true, Bool.and_eq_false_iff, decide_eq_true_eq, decide_eq_false_iff_not, Int.not_lt] at hb112)
       have hx := hb112
       refine wp_skip ?_
       refine gw_nx (hK78 _ _ ?_)
       refine gw_seq fun K114 hK114 => ?_
       refine wp_block ?_
       refine gx_draw (M := [Chunk.tab S10 Z9 n T3, R, Chunk.tab SA ZA n TA, Chunk.tab SB ZB n TB]) (fun j_ => j_ == 22) O76 (by kernel_rfl) fun w115 O116 => ?_
       clear O76
       refine gx_take 0 rfl (by kernel_rfl) H113 (by exact O116.sel [0, 1, 2, 3] (by decide)) (want_none rfl) rfl (by decide) (fun wq HO => (op_move rfl (H113.ev rfl))) ?_
       intro _ H118; clear H113
       refine gx_take 1 rfl (by kernel_rfl) H118 (by exact O116.sel [0, 1, 2, 3] (by decide)) (want_none rfl) rfl (by decide) (fun wq HO => (op_move rfl (H118.ev rfl))) ?_
       intro _ H120; clear H118
       refine gx_take 2 rfl (by kernel_rfl) H120 (by exact O116.sel [0, 1, 2, 3] (by decide)) (want_none rfl) rfl (by decide) (fun wq HO => (op_index Tryz.underlying36 gwsiz35 rfl (H120.ev rfl) (H120.ev rfl) rfl (⟨by omega, by omega⟩))) ?_
       intro _ H125; clear H120
       refine gx_take 3 rfl (by kernel_rfl) H125 (by exact O116.sel [0, 1, 2, 3] (by decide)) (want_none rfl) rfl (by decide) (fun wq HO => (op_load1 gwagg35 rfl (H125.ev rfl) (tab_row (HO.get 0 rfl) i (by omega) (by omega)))) ?_
       intro _ H127; clear H125
       refine gx_take 4 rfl (by kernel_rfl) H127 (by exact O116.sel [0, 1, 2, 3] (by decide)) (want_none rfl) rfl (by decide) (fun wq HO => (op_move rfl (H127.ev rfl))) ?_
       intro _ H129; clear H127
       refine gx_take 5 rfl (by kernel_rfl) H129 (by exact O116.sel [0, 1, 2, 3] (by decide)) (want_none rfl) rfl (by decide) (fun wq HO => (op_move rfl (H129.ev rfl))) ?_
       intro _ H131; clear H129
       refine gx_take 6 rfl (by kernel_rfl) H131 (by exact O116.sel [0, 1, 2, 3] (by decide)) (want_none rfl) rfl (by decide) (fun wq HO => (op_move rfl (H131.ev rfl))) ?_
       intro _ H133; clear H131
       refine gx_take 7 rfl (by kernel_rfl) H133 (by exact O116.sel [0, 1, 2, 3] (by decide)) (want_none rfl) rfl (by decide) (fun wq HO => (op_index Tryz.underlying36 gwsiz35 rfl (H133.ev rfl) (H133.ev rfl) rfl (⟨by omega, by omega⟩))) ?_
       intro _ H138; clear H133
       refine gx_take 8 rfl (by kernel_rfl) H138 (by exact O116.sel [0, 1, 2, 3] (by decide)) (want_none rfl) rfl (by decide) (fun wq HO => (op_load1 gwagg35 rfl (H138.ev rfl) (tab_row (HO.get 0 rfl) i (by omega) (by omega)))) ?_
       intro _ H140; clear H138
       refine gx_take 9 rfl (by kernel_rfl) H140 (by exact O116.sel [0, 1, 2, 3] (by decide)) (want_none rfl) rfl (by decide) (fun wq HO => (op_move rfl (H140.ev rfl))) ?_
       intro _ H142; clear H140
       refine gx_take 10 rfl (by kernel_rfl) H142 (by exact O116.sel [0, 1, 2, 3] (by decide)) (want_none rfl) rfl (by decide) (fun wq HO => (op_index Tryz.underlying35 gwsiz4 rfl (H142.ev rfl) (H142.ev rfl) rfl (⟨by omega, by omega⟩))) ?_
       intro _ H147; clear H142
       refine gx_take 11 rfl (by kernel_rfl) H147 (by exact O116.sel [0, 1, 2, 3] (by decide)) (want_none rfl) rfl (by decide) (fun wq HO => (op_load1 gwagg4 rfl (H147.ev rfl) (tab_cell (HO.get 0 rfl) i j (by omega) (by omega) (by omega) (by omega)))) ?_
       intro _ H149; clear H147
       refine gx_take 12 rfl (by kernel_rfl) H149 (by exact O116.sel [0, 1, 2, 3] (by decide)) (want_none rfl) rfl (by decide) (fun wq HO => (op_move rfl (H149.ev rfl))) ?_
       intro _ H151; clear H149
       refine gx_takeG 13 rfl (by kernel_rfl) H151 (by exact O116.sel [0, 1, 2, 3] (by decide)) rfl rfl rfl rfl (on_f _) rfl (by decide) (fun h_ wq HO => (op_move rfl (H151.ev rfl))) ?_
       intro _ H153; clear H151
       refine gx_takeG 14 rfl (by kernel_rfl) H153 (by exact O116.sel [0, 1, 2, 3] (by decide)) rfl rfl rfl rfl (on_f _) rfl (by decide) (fun h_ wq HO => (op_move rfl (H153.ev rfl))) ?_
       intro _ H155; clear H153
       refine gx_takeG 15 rfl (by kernel_rfl) H155 (by exact O116.sel [0, 1, 2, 3] (by decide)) rfl rfl rfl rfl (on_f _) rfl (by decide) (fun h_ wq HO => (op_index Tryz.underlying36 gwsiz35 rfl (ev_gv (H155.ev rfl) h_) (ev_gv (H155.ev rfl) h_) rfl (⟨by (try simp only [Bool.and_eq_true, Bool.or_eq_true, Bool.and_eq_false_iff, Bool.or_eq_false_iff, Bool.not_and, Bool.not_or, Bool.not_not, decide_eq_true_eq, decide_eq_false_iff_not, Bool.not_eq_true', Bool.not_eq_false', Bool.not_eq_true, Bool.not_eq_false, ne_eq, Decidable.not_not, Int.not_lt, Int.not_le, not_true_eq_false, not_false_eq_true, bne_iff_ne, beq_iff_eq, bne_eq_false_iff_eq, beq_eq_false_iff_ne] at h_); omega, by (try simp only [Bool.and_eq_true, Bool.or_eq_true, Bool.and_eq_false_iff, Bool.or_eq_false_iff, Bool.not_and, Bool.not_or, Bool.not_not, decide_eq_true_eq, decide_eq_false_iff_not, Bool.not_eq_true', Bool.not_eq_false', Bool.not_eq_true, Bool.not_eq_false, ne_eq, Decidable.not_not, Int.not_lt, Int.not_le, not_true_eq_false, not_false_eq_true, bne_iff_ne, beq_iff_eq, bne_eq_false_iff_eq, beq_eq_false_iff_ne] at h_); omega⟩))) ?_
       intro _ H160; clear H155
       refine gx_takeG 16 rfl (by kernel_rfl) H160 (by exact O116.sel [0, 1, 2, 3] (by decide)) rfl rfl rfl rfl (on_f _) rfl (by decide) (fun h_ wq HO => (op_load1 gwagg35 rfl (ev_gv (H160.ev rfl) h_) (tab_row (HO.get 3 rfl) k (by (try simp only [Bool.and_eq_true, Bool.or_eq_true, Bool.and_eq_false_iff, Bool.or_eq_false_iff, Bool.not_and, Bool.not_or, Bool.not_not, decide_eq_true_eq, decide_eq_false_iff_not, Bool.not_eq_true', Bool.not_eq_false', Bool.not_eq_true, Bool.not_eq_false, ne_eq, Decidable.not_not, Int.not_lt, Int.not_le, not_true_eq_false, not_false_eq_true, bne_iff_ne, beq_iff_eq, bne_eq_false_iff_eq, beq_eq_false_iff_ne] at h_); omega) (by (try simp only [Bool.and_eq_true, Bool.or_eq_true, Bool.and_eq_false_iff, Bool.or_eq_false_iff, Bool.not_and, Bool.not_or, Bool.not_not, decide_eq_true_eq, decide_eq_false_iff_not, Bool.not_eq_true', Bool.not_eq_false', Bool.not_eq_true, Bool.not_eq_false, ne_eq, Decidable.not_not, Int.not_lt, Int.not_le, not_true_eq_false, not_false_eq_true, bne_iff_ne, beq_iff_eq, bne_eq_false_iff_eq, beq_eq_false_iff_ne] at h_); omega)))) ?_
       intro _ H162; clear H160
       refine gx_takeG 17 rfl (by kernel_rfl) H162 (by exact O116.sel [0, 1, 2, 3] (by decide)) rfl rfl rfl rfl (on_f _) rfl (by decide) (fun h_ wq HO => (op_move rfl (H162.ev rfl))) ?_
       intro _ H164; clear H162
       refine gx_takeG 18 rfl (by kernel_rfl) H164 (by exact O116.sel [0, 1, 2, 3] (by decide)) rfl rfl rfl rfl (on_f _) rfl (by decide) (fun h_ wq HO => (op_index Tryz.underlying35 gwsiz4 rfl (ev_gv (H164.ev rfl) h_) (ev_gv (H164.ev rfl) h_) rfl (⟨by (try simp only [Bool.and_eq_true, Bool.or_eq_true, Bool.and_eq_false_iff, Bool.or_eq_false_iff, Bool.not_and, Bool.not_or, Bool.not_not, decide_eq_true_eq, decide_eq_false_iff_not, Bool.not_eq_true', Bool.not_eq_false', Bool.not_eq_true, Bool.not_eq_false, ne_eq, Decidable.not_not, Int.not_lt, Int.not_le, not_true_eq_false, not_false_eq_true, bne_iff_ne, beq_iff_eq, bne_eq_false_iff_eq, beq_eq_false_iff_ne] at h_); omega, by (try simp only [Bool.and_eq_true, Bool.or_eq_true, Bool.and_eq_false_iff, Bool.or_eq_false_iff, Bool.not_and, Bool.not_or, Bool.not_not, decide_eq_true_eq, decide_eq_false_iff_not, Bool.not_eq_true', Bool.not_eq_false', Bool.not_eq_true, Bool.not_eq_false, ne_eq, Decidable.not_not, Int.not_lt, Int.not_le, not_true_eq_false, not_false_eq_true, bne_iff_ne, beq_iff_eq, bne_eq_false_iff_eq, beq_eq_false_iff_ne] at h_); omega⟩))) ?_
       intro _ H169; clear H164
       refine gx_takeG 19 rfl (by kernel_rfl) H169 (by exact O116.sel [0, 1, 2, 3] (by decide)) rfl rfl rfl rfl (on_f _) rfl (by decide) (fun h_ wq HO => (op_load1 gwagg4 rfl (ev_gv (H169.ev rfl) h_) (tab_cell (HO.get 3 rfl) k j (by (try simp only [Bool.and_eq_true, Bool.or_eq_true, Bool.and_eq_false_iff, Bool.or_eq_false_iff, Bool.not_and, Bool.not_or, Bool.not_not, decide_eq_true_eq, decide_eq_false_iff_not, Bool.not_eq_true', Bool.not_eq_false', Bool.not_eq_true, Bool.not_eq_false, ne_eq, Decidable.not_not, Int.not_lt, Int.not_le, not_true_eq_false, not_false_eq_true, bne_iff_ne, beq_iff_eq, bne_eq_false_iff_eq, beq_eq_false_iff_ne] at h_); omega) (by (try simp only [Bool.and_eq_true, Bool.or_eq_true, Bool.and_eq_false_iff, Bool.or_eq_false_iff, Bool.not_and, Bool.not_or, Bool.not_not, decide_eq_true_eq, decide_eq_false_iff_not, Bool.not_eq_true', Bool.not_eq_false', Bool.not_eq_true, Bool.not_eq_false, ne_eq, Decidable.not_not, Int.not_lt, Int.not_le, not_true_eq_false, not_false_eq_true, bne_iff_ne, beq_iff_eq, bne_eq_false_iff_eq, beq_eq_false_iff_ne] at h_); omega) (by (try simp only [Bool.and_eq_true, Bool.or_eq_true, Bool.and_eq_false_iff, Bool.or_eq_false_iff, Bool.not_and, Bool.not_or, Bool.not_not, decide_eq_true_eq, decide_eq_false_iff_not, Bool.not_eq_true', Bool.not_eq_false', Bool.not_eq_true, Bool.not_eq_false, ne_eq, Decidable.not_not, Int.not_lt, Int.not_le, not_true_eq_false, not_false_eq_true, bne_iff_ne, beq_iff_eq, bne_eq_false_iff_eq, beq_eq_false_iff_ne] at h_); omega) (by (try simp only [Bool.and_eq_true, Bool.or_eq_true, Bool.and_eq_false_iff, Bool.or_eq_false_iff, Bool.not_and, Bool.not_or, Bool.not_not, decide_eq_true_eq, decide_eq_false_iff_not, Bool.not_eq_true', Bool.not_eq_false', Bool.not_eq_true, Bool.not_eq_false, ne_eq, Decidable.not_not, Int.not_lt, Int.not_le, not_true_eq_false, not_false_eq_true, bne_iff_ne, beq_iff_eq, bne_eq_false_iff_eq, beq_eq_false_iff_ne] at h_); omega)))) ?_
       intro _ H171; clear H169
       refine gx_take 20 rfl (by kernel_rfl) H171 (by exact O116.sel [0, 1, 2, 3] (by decide)) (want_none rfl) rfl (by decide) (fun wq HO => (op_pick_or rfl (H171.ev rfl) (ev_c _ _) (fun hp_ => (ev_gv (H171.ev rfl) (not_t hp_))))) ?_
       intro _ H173; clear H171
       refine gx_take 21 rfl (by kernel_rfl) H173 (by exact O116.sel [0, 1, 2, 3] (by decide)) (want_none rfl) rfl (by decide) (fun wq HO => (op_index Tryz.underlying35 gwsiz4 rfl (H173.ev rfl) (H173.ev rfl) rfl (⟨by omega, by omega⟩))) ?_
       intro _ H178; clear H173
       refine gx_step 22 rfl (by kernel_rfl) ?_
       refine gw_tab (it := i) (jt := j) 0 H178 O116 rfl (want_none rfl) rfl gwsiz4 (by omega) (by omega) (by omega) (by omega) rfl (H178.ev rfl) (H178.ev rfl) ?_
       intro _ w181 H180 O182; clear H178 O116
       have O183 : Own w0 w181 [Chunk.tab S10 Z9 n (tset T3 i.toNat j.toNat ((T3 i.toNat j.toNat) || (TB k.toNat j.toNat))), R, Chunk.tab SA ZA n TA, Chunk.tab SB ZB n TB] := O182
       clear O182
       refine gx_on (i := 22) (B := (fun j_ => j_ == 22)) (fun h_ => by cases h_) ?_
       refine gx_done (by kernel_rfl) ?_
       refine gw_blk ?_
       refine gw_nx (hK114 _ _ ?_)
       refine wp_region_lit ?_
       refine V H180 (op_move rfl (H180.ev rfl)) ?_
       intro _ H185; clear H180
       refine V H185 (op_add rfl (H185.ev rfl) (ev_c _ _) (by omega)) ?_
       intro _ H187; clear H185
       refine V H187 (op_assign rfl (H187.ev rfl)) ?_
       intro _ H189; clear H187
       refine wpList_nil ?_
       refine gw_nx ⟨_, ?_, j + 1, tset T3 i.toNat j.toNat ((T3 i.toNat j.toNat) || (TB k.toNat j.toNat)), (H189.pick (t := 8) rfl (H189.pick (t := 7) rfl (H189.pick (t := 6) rfl (H189.pick (t := 0) rfl (H189.pick (t := 1) rfl (H189.pick (t := 4) rfl (H189.pick (t := 5) rfl (H189.pick (t := 12) rfl (H189.pick (t := 13) rfl (H189.pick (t := 14) rfl (H189.pick (t := 15) rfl (H189.pick (t := 18) rfl (H189.pick (t := 19) rfl (H189.pick (t := 20) rfl (H189.pick (t := 21) rfl H189.nil))))))))))))))), O183.sel [0, 1, 2, 3] (by decide), ?_, ?_, rfl⟩
       ·
        rw [hm77]; omega
       ·
        omega
       ·
        rw [show (j + 1).toNat = j.toNat + 1 by omega]; exact bothI_j hT3 (by omega) (by omega) (by omega) hx.2
      ·
       have H190 := H111.subst_ (d := 36) (b := false) rfl hb112
       clear H111
       (try simp only [Bool.and_eq_true, Bool.and_eq_false_iff, decide_eq_true_eq, decide_eq_false_iff_not, Int.not_lt] at hb112)
       have hx := hb112
       refine wp_exit ?_
       refine gw_thx ?_
       refine gw_thx ?_
       refine gw_in ?_
       refine gw_blk ?_
       refine gw_nx (hK67 _ _ ?_)
       refine wp_region_lit ?_
       refine V H190 (op_move rfl (H190.ev rfl)) ?_
       intro _ H192; clear H190
       refine V H192 (op_add rfl (H192.ev rfl) (ev_c _ _) (by omega)) ?_
       intro _ H194; clear H192
       refine V H194 (op_assign rfl (H194.ev rfl)) ?_
       intro _ H196; clear H194
       refine wpList_nil ?_
       refine gw_nx ⟨_, ?_, k + 1, T3, (H196.pick (t := 7) rfl (H196.pick (t := 6) rfl (H196.pick (t := 0) rfl (H196.pick (t := 1) rfl (H196.pick (t := 4) rfl (H196.pick (t := 5) rfl (H196.pick (t := 12) rfl (H196.pick (t := 13) rfl (H196.pick (t := 14) rfl (H196.pick (t := 15) rfl H196.nil)))))))))), O76.sel [0, 1, 2, 3] (by decide), ?_, ?_, rfl⟩
       ·
        rw [hm54]; omega
       ·
        omega
       ·
        rw [show (k + 1).toNat = k.toNat + 1 by omega]; exact bothI_k hT3 (by rintro ⟨h1_, h2_⟩; rcases hx with h3_ | h3_; (omega); (rw [h3_] at h2_; cases h2_))
    ·
     have H197 := H64.subst_ (d := 21) (b := false) rfl hb65
     clear H64
     (try simp only [decide_eq_false_iff_not, Int.not_lt] at hb65)
     refine wp_exit ?_
     refine gw_thx ?_
     refine gw_thx ?_
     refine gw_in ?_
     refine gw_blk ?_
     refine gw_nx (hK44 _ _ ?_)
     refine wp_region_lit ?_
     refine V H197 (op_move rfl (H197.ev rfl)) ?_
     intro _ H199; clear H197
     refine V H199 (op_add rfl (H199.ev rfl) (ev_c _ _) (by omega)) ?_
     intro _ H201; clear H199
     refine V H201 (op_assign rfl (H201.ev rfl)) ?_
     intro _ H203; clear H201
     refine wpList_nil ?_
     refine gw_nx ⟨_, ?_, i + 1, T2, (H203.pick (t := 6) rfl (H203.pick (t := 0) rfl (H203.pick (t := 1) rfl (H203.pick (t := 4) rfl (H203.pick (t := 5) rfl H203.nil))))), O53.sel [0, 1, 2, 3] (by decide), ?_, ?_, rfl⟩
     ·
      rw [hm31]; omega
     ·
      omega
     ·
      rw [show (i + 1).toNat = i.toNat + 1 by omega]; exact bothI_i hT2 (by omega)
  ·
   have H204 := H41.subst_ (d := 15) (b := false) rfl hb42
   clear H41
   (try simp only [decide_eq_false_iff_not, Int.not_lt] at hb42)
   refine wp_exit ?_
   refine gw_thx ?_
   refine gw_thx ?_
   refine gw_in ?_
   refine gw_nx (hK21 _ _ ?_)
   refine gR fun K205 hK205 => ?_
   refine V H204 (op_move rfl (H204.ev rfl)) ?_
   intro _ H207; clear H204
   refine V H207 (op_assign rfl (H207.ev rfl)) ?_
   intro _ H209; clear H207
   refine gE hK205 ?_
   refine wp_ret ?_
   refine gw_ret1 H209 rfl rfl ?_
   exact ⟨_, _, _, rfl, O30.sel [0, 1] (by decide), bothI_end hT1 (by omega)⟩
set_option maxHeartbeats 4000000 in
set_option maxRecDepth 100000 in
theorem either_walk (w0 w : World) (R : Chunk) (SA SB : Nat → Prop) (ZA ZB : Tb) (n : Nat) (TA TB : Nat → Nat → Bool) (h0 : 0 < n) (hn : n ≤ 1000) (HO : Own w0 w [R, Chunk.tab SA ZA n TA, Chunk.tab SB ZB n TB]) :
    Calls Tryz.prog 30 #[.slice (some ⟨ZA.g, 0, none⟩) n ZA.c, .slice (some ⟨ZB.g, 0, none⟩) n ZB.c] w fun e w' => ∃ Z_ S_ T_, e = .returned (.slice (some ⟨Z_.g, 0, none⟩) n Z_.c) ∧ Own w0 w' [Chunk.tab S_ Z_ n T_, R] ∧ ∀ x y, x < n → y < n → (T_ x y = true ↔ TA x y = true ∨ TB x y = true) := by
 refine gw_startO (N := 46) (vs := [.slice (some ⟨ZA.g, 0, none⟩) n ZA.c, .slice (some ⟨ZB.g, 0, none⟩) n ZB.c]) Tryz.func30 rfl rfl (by simp) fun a HF => ?_
 refine gR fun K1 hK1 => ?_
 refine V HF (op_assign rfl (ev_c _ _)) ?_
 intro _ H3; clear HF
 refine gE hK1 ?_
 refine gR fun K4 hK4 => ?_
 refine V H3 (op_move rfl (H3.ev rfl)) ?_
 intro _ H6; clear H3
 refine V H6 (op_len Tryz.underlying36 rfl (H6.ev rfl)) ?_
 intro _ H8; clear H6
 refine gw_call H8 (want_none rfl) rfl (by decide) (op_callL Tryz.func26 (by kernel_rfl) rfl rfl (ar_cons (H8.ev rfl) ar_nil)) (tnone_calls (n : Int) n _ (by omega) (by omega) (by omega)) ?_
 rintro e12 w13 ⟨Z9, S10, rfl, hb14⟩
 refine ⟨_, rfl, fun _ H16 => ?_⟩
 have O17 := HO.fresh hb14
 clear H8 HO hb14
 refine V H16 (op_assign rfl (H16.ev rfl)) ?_
 intro _ H20; clear H16
 refine gE hK4 ?_
 refine gw_seq fun K21 hK21 => ?_
 refine gR fun K22 hK22 => ?_
 refine V H20 (op_assign rfl (ev_c _ _)) ?_
 intro _ H24; clear H20
 refine gE hK22 ?_
 refine wp_block ?_
 refine gw_loop (fun m_ a_ w_ => ∃ (i : Int) (T1 : Nat → Nat → Bool), Fr 46 a_ [(6, J i), (0, .slice (some ⟨ZA.g, 0, none⟩) n ZA.c), (1, .slice (some ⟨ZB.g, 0, none⟩) n ZB.c), (4, .slice none 0 0), (5, .slice (some ⟨Z9.g, 0, none⟩) n Z9.c)] ∧ Own w0 w_ [Chunk.tab S10 Z9 n T1, R, Chunk.tab SA ZA n TA, Chunk.tab SB ZB n TB] ∧ (0 ≤ i ∧ i ≤ n) ∧ (eithI TA TB n T1 i.toNat 0) ∧ m_ = (n - i.toNat)) ((n - (0 : Int).toNat)) ?_ ?_
 ·
  refine ⟨0, (fun _ _ => false), (H24.pick (t := 6) rfl (H24.pick (t := 0) rfl (H24.pick (t := 1) rfl (H24.pick (t := 4) rfl (H24.pick (t := 5) rfl H24.nil))))), O17.sel [0, 1, 2, 3] (by decide), ?_, ?_, rfl⟩
  ·
   omega
  ·
   exact eithI0 TA TB n
 ·
  rintro m26 _ w28 ⟨i, T1, H29, O30, hii, hT1, hm31⟩
  refine gw_seq fun K32 hK32 => ?_
  refine gR fun K33 hK33 => ?_
  refine V H29 (op_move rfl (H29.ev rfl)) ?_
  intro _ H35; clear H29
  refine V H35 (op_move rfl (H35.ev rfl)) ?_
  intro _ H37; clear H35
  refine V H37 (op_len Tryz.underlying36 rfl (H37.ev rfl)) ?_
  intro _ H39; clear H37
  refine V H39 (op_lss rfl (H39.ev rfl) (H39.ev rfl)) ?_
  intro _ H41; clear H39
  refine gE hK33 ?_
  refine gw_cond H41 rfl (fun hb42 => ?_) (fun hb42 => ?_)
  ·
   have H43 := H41.subst_ (d := 14) (b := true) rfl hb42
   clear H41
   (try simp only [decide_eq_true_eq] at hb42)
   refine wp_skip ?_
   refine gw_nx (hK32 _ _ ?_)
   refine gw_seq fun K44 hK44 => ?_
   refine wp_block ?_
   refine gR fun K45 hK45 => ?_
   refine V H43 (op_assign rfl (ev_c _ _)) ?_
   intro _ H47; clear H43
   refine gE hK45 ?_
   refine wp_block ?_
   refine gw_loop (fun m_ a_ w_ => ∃ (j : Int) (T2 : Nat → Nat → Bool), Fr 46 a_ [(7, J j), (6, J i), (0, .slice (some ⟨ZA.g, 0, none⟩) n ZA.c), (1, .slice (some ⟨ZB.g, 0, none⟩) n ZB.c), (4, .slice none 0 0), (5, .slice (some ⟨Z9.g, 0, none⟩) n Z9.c), (11, J i), (12, .slice (some ⟨ZA.g, 0, none⟩) n ZA.c), (13, J (n : Int)), (14, .bool true)] ∧ Own w0 w_ [Chunk.tab S10 Z9 n T2, R, Chunk.tab SA ZA n TA, Chunk.tab SB ZB n TB] ∧ (0 ≤ j ∧ j ≤ n) ∧ (eithI TA TB n T2 i.toNat j.toNat) ∧ m_ = (n - j.toNat)) ((n - (0 : Int).toNat)) ?_ ?_
   ·
    refine ⟨0, T1, (H47.pick (t := 7) rfl (H47.pick (t := 6) rfl (H47.pick (t := 0) rfl (H47.pick (t := 1) rfl (H47.pick (t := 4) rfl (H47.pick (t := 5) rfl (H47.pick (t := 11) rfl (H47.pick (t := 12) rfl (H47.pick (t := 13) rfl (H47.pick (t := 14) rfl H47.nil)))))))))), O30.sel [0, 1, 2, 3] (by decide), ?_, ?_, rfl⟩
    ·
     omega
    ·
     exact hT1
   ·
    rintro m49 _ w51 ⟨j, T2, H52, O53, hij, hT2, hm54⟩
    refine gw_seq fun K55 hK55 => ?_
    refine gR fun K56 hK56 => ?_
    refine V H52 (op_move rfl (H52.ev rfl)) ?_
    intro _ H58; clear H52
    refine V H58 (op_move rfl (H58.ev rfl)) ?_
    intro _ H60; clear H58
    refine V H60 (op_len Tryz.underlying36 rfl (H60.ev rfl)) ?_
    intro _ H62; clear H60
    refine V H62 (op_lss rfl (H62.ev rfl) (H62.ev rfl)) ?_
    intro _ H64; clear H62
    refine gE hK56 ?_
    refine gw_cond H64 rfl (fun hb65 => ?_) (fun hb65 => ?_)
    ·
     have H66 := H64.subst_ (d := 20) (b := true) rfl hb65
     clear H64
     (try simp only [decide_eq_true_eq] at hb65)
     refine wp_skip ?_
     refine gw_nx (hK55 _ _ ?_)
     refine gw_seq fun K67 hK67 => ?_
     refine wp_block ?_
     refine gx_draw (M := [Chunk.tab S10 Z9 n T2, R, Chunk.tab SA ZA n TA, Chunk.tab SB ZB n TB]) (fun j_ => j_ == 22) O53 (by kernel_rfl) fun w68 O69 => ?_
     clear O53
     refine gx_take 0 rfl (by kernel_rfl) H66 (by exact O69.sel [0, 1, 2, 3] (by decide)) (want_none rfl) rfl (by decide) (fun wq HO => (op_move rfl (H66.ev rfl))) ?_
     intro _ H71; clear H66
     refine gx_take 1 rfl (by kernel_rfl) H71 (by exact O69.sel [0, 1, 2, 3] (by decide)) (want_none rfl) rfl (by decide) (fun wq HO => (op_move rfl (H71.ev rfl))) ?_
     intro _ H73; clear H71
     refine gx_take 2 rfl (by kernel_rfl) H73 (by exact O69.sel [0, 1, 2, 3] (by decide)) (want_none rfl) rfl (by decide) (fun wq HO => (op_index Tryz.underlying36 gwsiz35 rfl (H73.ev rfl) (H73.ev rfl) rfl (⟨by omega, by omega⟩))) ?_
     intro _ H78; clear H73
     refine gx_take 3 rfl (by kernel_rfl) H78 (by exact O69.sel [0, 1, 2, 3] (by decide)) (want_none rfl) rfl (by decide) (fun wq HO => (op_load1 gwagg35 rfl (H78.ev rfl) (tab_row (HO.get 0 rfl) i (by omega) (by omega)))) ?_
     intro _ H80; clear H78
     refine gx_take 4 rfl (by kernel_rfl) H80 (by exact O69.sel [0, 1, 2, 3] (by decide)) (want_none rfl) rfl (by decide) (fun wq HO => (op_move rfl (H80.ev rfl))) ?_
     intro _ H82; clear H80
     refine gx_take 5 rfl (by kernel_rfl) H82 (by exact O69.sel [0, 1, 2, 3] (by decide)) (want_none rfl) rfl (by decide) (fun wq HO => (op_move rfl (H82.ev rfl))) ?_
     intro _ H84; clear H82
     refine gx_take 6 rfl (by kernel_rfl) H84 (by exact O69.sel [0, 1, 2, 3] (by decide)) (want_none rfl) rfl (by decide) (fun wq HO => (op_move rfl (H84.ev rfl))) ?_
     intro _ H86; clear H84
     refine gx_take 7 rfl (by kernel_rfl) H86 (by exact O69.sel [0, 1, 2, 3] (by decide)) (want_none rfl) rfl (by decide) (fun wq HO => (op_index Tryz.underlying36 gwsiz35 rfl (H86.ev rfl) (H86.ev rfl) rfl (⟨by omega, by omega⟩))) ?_
     intro _ H91; clear H86
     refine gx_take 8 rfl (by kernel_rfl) H91 (by exact O69.sel [0, 1, 2, 3] (by decide)) (want_none rfl) rfl (by decide) (fun wq HO => (op_load1 gwagg35 rfl (H91.ev rfl) (tab_row (HO.get 2 rfl) i (by omega) (by omega)))) ?_
     intro _ H93; clear H91
     refine gx_take 9 rfl (by kernel_rfl) H93 (by exact O69.sel [0, 1, 2, 3] (by decide)) (want_none rfl) rfl (by decide) (fun wq HO => (op_move rfl (H93.ev rfl))) ?_
     intro _ H95; clear H93
     refine gx_take 10 rfl (by kernel_rfl) H95 (by exact O69.sel [0, 1, 2, 3] (by decide)) (want_none rfl) rfl (by decide) (fun wq HO => (op_index Tryz.underlying35 gwsiz4 rfl (H95.ev rfl) (H95.ev rfl) rfl (⟨by omega, by omega⟩))) ?_
     intro _ H100; clear H95
     refine gx_take 11 rfl (by kernel_rfl) H100 (by exact O69.sel [0, 1, 2, 3] (by decide)) (want_none rfl) rfl (by decide) (fun wq HO => (op_load1 gwagg4 rfl (H100.ev rfl) (tab_cell (HO.get 2 rfl) i j (by omega) (by omega) (by omega) (by omega)))) ?_
     intro _ H102; clear H100
     refine gx_take 12 rfl (by kernel_rfl) H102 (by exact O69.sel [0, 1, 2, 3] (by decide)) (want_none rfl) rfl (by decide) (fun wq HO => (op_move rfl (H102.ev rfl))) ?_
     intro _ H104; clear H102
     refine gx_takeG 13 rfl (by kernel_rfl) H104 (by exact O69.sel [0, 1, 2, 3] (by decide)) rfl rfl rfl rfl (on_f _) rfl (by decide) (fun h_ wq HO => (op_move rfl (H104.ev rfl))) ?_
     intro _ H106; clear H104
     refine gx_takeG 14 rfl (by kernel_rfl) H106 (by exact O69.sel [0, 1, 2, 3] (by decide)) rfl rfl rfl rfl (on_f _) rfl (by decide) (fun h_ wq HO => (op_move rfl (H106.ev rfl))) ?_
     intro _ H108; clear H106
     refine gx_takeG 15 rfl (by kernel_rfl) H108 (by exact O69.sel [0, 1, 2, 3] (by decide)) rfl rfl rfl rfl (on_f _) rfl (by decide) (fun h_ wq HO => (op_index Tryz.underlying36 gwsiz35 rfl (ev_gv (H108.ev rfl) h_) (ev_gv (H108.ev rfl) h_) rfl (⟨by (try simp only [Bool.and_eq_true, Bool.or_eq_true, Bool.and_eq_false_iff, Bool.or_eq_false_iff, Bool.not_and, Bool.not_or, Bool.not_not, decide_eq_true_eq, decide_eq_false_iff_not, Bool.not_eq_true', Bool.not_eq_false', Bool.not_eq_true, Bool.not_eq_false, ne_eq, Decidable.not_not, Int.not_lt, Int.not_le, not_true_eq_false, not_false_eq_true, bne_iff_ne, beq_iff_eq, bne_eq_false_iff_eq, beq_eq_false_iff_ne] at h_); omega, by (try simp only [Bool.and_eq_true, Bool.or_eq_true, Bool.and_eq_false_iff, Bool.or_eq_false_iff, Bool.not_and, Bool.not_or, Bool.not_not, decide_eq_true_eq, decide_eq_false_iff_not, Bool.not_eq_true', Bool.not_eq_false', Bool.not_eq_true, Bool.not_eq_false, ne_eq, Decidable.not_not, Int.not_lt, Int.not_le, not_true_eq_false, not_false_eq_true, bne_iff_ne, beq_iff_eq, bne_eq_false_iff_eq, beq_eq_false_iff_ne] at h_); omega⟩))) ?_
     intro _ H113; clear H108
     refine gx_takeG 16 rfl (by kernel_rfl) H113 (by exact O69.sel [0, 1, 2, 3] (by decide)) rfl rfl rfl rfl (on_f _) rfl (by decide) (fun h_ wq HO => (op_load1 gwagg35 rfl (ev_gv (H113.ev rfl) h_) (tab_row (HO.get 3 rfl) i (by (try simp only [Bool.and_eq_true, Bool.or_eq_true, Bool.and_eq_false_iff, Bool.or_eq_false_iff, Bool.not_and, Bool.not_or, Bool.not_not, decide_eq_true_eq, decide_eq_false_iff_not, Bool.not_eq_true', Bool.not_eq_false', Bool.not_eq_true, Bool.not_eq_false, ne_eq, Decidable.not_not, Int.not_lt, Int.not_le, not_true_eq_false, not_false_eq_true, bne_iff_ne, beq_iff_eq, bne_eq_false_iff_eq, beq_eq_false_iff_ne] at h_); omega) (by (try simp only [Bool.and_eq_true, Bool.or_eq_true, Bool.and_eq_false_iff, Bool.or_eq_false_iff, Bool.not_and, Bool.not_or, Bool.not_not, decide_eq_true_eq, decide_eq_false_iff_not, Bool.not_eq_true', Bool.not_eq_false', Bool.not_eq_true, Bool.not_eq_false, ne_eq, Decidable.not_not, Int.not_lt, Int.not_le, not_true_eq_false, not_false_eq_true, bne_iff_ne, beq_iff_eq, bne_eq_false_iff_eq, beq_eq_false_iff_ne] at h_); omega)))) ?_
     intro _ H115; clear H113
     refine gx_takeG 17 rfl (by kernel_rfl) H115 (by exact O69.sel [0, 1, 2, 3] (by decide)) rfl rfl rfl rfl (on_f _) rfl (by decide) (fun h_ wq HO => (op_move rfl (H115.ev rfl))) ?_
     intro _ H117; clear H115
     refine gx_takeG 18 rfl (by kernel_rfl) H117 (by exact O69.sel [0, 1, 2, 3] (by decide)) rfl rfl rfl rfl (on_f _) rfl (by decide) (fun h_ wq HO => (op_index Tryz.underlying35 gwsiz4 rfl (ev_gv (H117.ev rfl) h_) (ev_gv (H117.ev rfl) h_) rfl (⟨by (try simp only [Bool.and_eq_true, Bool.or_eq_true, Bool.and_eq_false_iff, Bool.or_eq_false_iff, Bool.not_and, Bool.not_or, Bool.not_not, decide_eq_true_eq, decide_eq_false_iff_not, Bool.not_eq_true', Bool.not_eq_false', Bool.not_eq_true, Bool.not_eq_false, ne_eq, Decidable.not_not, Int.not_lt, Int.not_le, not_true_eq_false, not_false_eq_true, bne_iff_ne, beq_iff_eq, bne_eq_false_iff_eq, beq_eq_false_iff_ne] at h_); omega, by (try simp only [Bool.and_eq_true, Bool.or_eq_true, Bool.and_eq_false_iff, Bool.or_eq_false_iff, Bool.not_and, Bool.not_or, Bool.not_not, decide_eq_true_eq, decide_eq_false_iff_not, Bool.not_eq_true', Bool.not_eq_false', Bool.not_eq_true, Bool.not_eq_false, ne_eq, Decidable.not_not, Int.not_lt, Int.not_le, not_true_eq_false, not_false_eq_true, bne_iff_ne, beq_iff_eq, bne_eq_false_iff_eq, beq_eq_false_iff_ne] at h_); omega⟩))) ?_
     intro _ H122; clear H117
     refine gx_takeG 19 rfl (by kernel_rfl) H122 (by exact O69.sel [0, 1, 2, 3] (by decide)) rfl rfl rfl rfl (on_f _) rfl (by decide) (fun h_ wq HO => (op_load1 gwagg4 rfl (ev_gv (H122.ev rfl) h_) (tab_cell (HO.get 3 rfl) i j (by (try simp only [Bool.and_eq_true, Bool.or_eq_true, Bool.and_eq_false_iff, Bool.or_eq_false_iff, Bool.not_and, Bool.not_or, Bool.not_not, decide_eq_true_eq, decide_eq_false_iff_not, Bool.not_eq_true', Bool.not_eq_false', Bool.not_eq_true, Bool.not_eq_false, ne_eq, Decidable.not_not, Int.not_lt, Int.not_le, not_true_eq_false, not_false_eq_true, bne_iff_ne, beq_iff_eq, bne_eq_false_iff_eq, beq_eq_false_iff_ne] at h_); omega) (by (try simp only [Bool.and_eq_true, Bool.or_eq_true, Bool.and_eq_false_iff, Bool.or_eq_false_iff, Bool.not_and, Bool.not_or, Bool.not_not, decide_eq_true_eq, decide_eq_false_iff_not, Bool.not_eq_true', Bool.not_eq_false', Bool.not_eq_true, Bool.not_eq_false, ne_eq, Decidable.not_not, Int.not_lt, Int.not_le, not_true_eq_false, not_false_eq_true, bne_iff_ne, beq_iff_eq, bne_eq_false_iff_eq, beq_eq_false_iff_ne] at h_); omega) (by (try simp only [Bool.and_eq_true, Bool.or_eq_true, Bool.and_eq_false_iff, Bool.or_eq_false_iff, Bool.not_and, Bool.not_or, Bool.not_not, decide_eq_true_eq, decide_eq_false_iff_not, Bool.not_eq_true', Bool.not_eq_false', Bool.not_eq_true, Bool.not_eq_false, ne_eq, Decidable.not_not, Int.not_lt, Int.not_le, not_true_eq_false, not_false_eq_true, bne_iff_ne, beq_iff_eq, bne_eq_false_iff_eq, beq_eq_false_iff_ne] at h_); omega) (by (try simp only [Bool.and_eq_true, Bool.or_eq_true, Bool.and_eq_false_iff, Bool.or_eq_false_iff, Bool.not_and, Bool.not_or, Bool.not_not, decide_eq_true_eq, decide_eq_false_iff_not, Bool.not_eq_true', Bool.not_eq_false', Bool.not_eq_true, Bool.not_eq_false, ne_eq, Decidable.not_not, Int.not_lt, Int.not_le, not_true_eq_false, not_false_eq_true, bne_iff_ne, beq_iff_eq, bne_eq_false_iff_eq, beq_eq_false_iff_ne] at h_); omega)))) ?_
     intro _ H124; clear H122
     refine gx_take 20 rfl (by kernel_rfl) H124 (by exact O69.sel [0, 1, 2, 3] (by decide)) (want_none rfl) rfl (by decide) (fun wq HO => (op_pick_or rfl (H124.ev rfl) (ev_c _ _) (fun hp_ => (ev_gv (H124.ev rfl) (not_t hp_))))) ?_
     intro _ H126; clear H124
     refine gx_take 21 rfl (by kernel_rfl) H126 (by exact O69.sel [0, 1, 2, 3] (by decide)) (want_none rfl) rfl (by decide) (fun wq HO => (op_index Tryz.underlying35 gwsiz4 rfl (H126.ev rfl) (H126.ev rfl) rfl (⟨by omega, by omega⟩))) ?_
     intro _ H131; clear H126
     refine gx_step 22 rfl (by kernel_rfl) ?_
     refine gw_tab (it := i) (jt := j) 0 H131 O69 rfl (want_none rfl) rfl gwsiz4 (by omega) (by omega) (by omega) (by omega) rfl (H131.ev rfl) (H131.ev rfl) ?_
     intro _ w134 H133 O135; clear H131 O69
     have O136 : Own w0 w134 [Chunk.tab S10 Z9 n (tset T2 i.toNat j.toNat ((TA i.toNat j.toNat) || (TB i.toNat j.toNat))), R, Chunk.tab SA ZA n TA, Chunk.tab SB ZB n TB] := O135
     clear O135
     refine gx_on (i := 22) (B := (fun j_ => j_ == 22)) (fun h_ => by cases h_) ?_
     refine gx_done (by kernel_rfl) ?_
     refine gw_blk ?_
     refine gw_nx (hK67 _ _ ?_)
     refine wp_region_lit ?_
     refine V H133 (op_move rfl (H133.ev rfl)) ?_
     intro _ H138; clear H133
     refine V H138 (op_add rfl (H138.ev rfl) (ev_c _ _) (by omega)) ?_
     intro _ H140; clear H138
     refine V H140 (op_assign rfl (H140.ev rfl)) ?_
     intro _ H142; clear H140
     refine wpList_nil ?_
     refine gw_nx ⟨_, ?_, j + 1, tset T2 i.toNat j.toNat ((TA i.toNat j.toNat) || (TB i.toNat j.toNat)), (H142.pick (t := 7) rfl (H142.pick (t := 6) rfl (H142.pick (t := 0) rfl (H142.pick (t := 1) rfl (H142.pick (t := 4) rfl (H142.pick (t := 5) rfl (H142.pick (t := 11) rfl (H142.pick (t := 12) rfl (H142.pick (t := 13) rfl (H142.pick (t := 14) rfl H142.nil)))))))))), O136.sel [0, 1, 2, 3] (by decide), ?_, ?_, rfl⟩
     ·
      rw [hm54]; omega
     ·
      omega
     ·
      rw [show (j + 1).toNat = j.toNat + 1 by omega]; exact eithI_j hT2
    ·
     have H143 := H64.subst_ (d := 20) (b := false) rfl hb65
     clear H64
     (try simp only [decide_eq_false_iff_not, Int.not_lt] at hb65)
     refine wp_exit ?_
     refine gw_thx ?_
     refine gw_thx ?_
     refine gw_in ?_
     refine gw_blk ?_
     refine gw_nx (hK44 _ _ ?_)
     refine wp_region_lit ?_
     refine V H143 (op_move rfl (H143.ev rfl)) ?_
     intro _ H145; clear H143
     refine V H145 (op_add rfl (H145.ev rfl) (ev_c _ _) (by omega)) ?_
     intro _ H147; clear H145
     refine V H147 (op_assign rfl (H147.ev rfl)) ?_
     intro _ H149; clear H147
     refine wpList_nil ?_
     refine gw_nx ⟨_, ?_, i + 1, T2, (H149.pick (t := 6) rfl (H149.pick (t := 0) rfl (H149.pick (t := 1) rfl (H149.pick (t := 4) rfl (H149.pick (t := 5) rfl H149.nil))))), O53.sel [0, 1, 2, 3] (by decide), ?_, ?_, rfl⟩
     ·
      rw [hm31]; omega
     ·
      omega
     ·
      rw [show (i + 1).toNat = i.toNat + 1 by omega]; exact eithI_i hT2 (by omega)
  ·
   have H150 := H41.subst_ (d := 14) (b := false) rfl hb42
   clear H41
   (try simp only [decide_eq_false_iff_not, Int.not_lt] at hb42)
   refine wp_exit ?_
   refine gw_thx ?_
   refine gw_thx ?_
   refine gw_in ?_
   refine gw_nx (hK21 _ _ ?_)
   refine gR fun K151 hK151 => ?_
   refine V H150 (op_move rfl (H150.ev rfl)) ?_
   intro _ H153; clear H150
   refine V H153 (op_assign rfl (H153.ev rfl)) ?_
   intro _ H155; clear H153
   refine gE hK151 ?_
   refine wp_ret ?_
   refine gw_ret1 H155 rfl rfl ?_
   exact ⟨_, _, _, rfl, O30.sel [0, 1] (by decide), eithI_end hT1 (by omega)⟩
end GTabs_
export GTabs_ (same_walk both_walk either_walk)
end Go.Proofs.YtelbgmpeghhakaaGreat.PA
end
section
namespace Go.Proofs.YtelbgmpeghhakaaGreat.PA
open Go.RowKit Go.Proofs.YtelbgmpeghhakaaGreatW.PrintWords Go.Proofs.YtelbgmpeghhakaaGreatW.PrintLast Go.Proofs.YtelbgmpeghhakaaGreatW.PrintMore
set_option linter.unusedVariables false
set_option linter.unusedSimpArgs false
namespace GRefR_
theorem gwagg5 : ∀ w, (isAgg 5).run Tryz.prog w = .ok false w := fun _ => by kernel_rfl
theorem gwagg55 : ∀ w, (isAgg 55).run Tryz.prog w = .ok true w := fun _ => by kernel_rfl
theorem gwfld55_0 (g off : Nat) : ∀ w, (Instr.fieldAt 55 (.pointer (some ⟨g, off, none⟩)) 0).run Tryz.prog w = .ok (.pointer (some ⟨g, off + 0, none⟩)) w := fun _ => by kernel_rfl
theorem gwflda55_0 (ad : Addr) : ∀ w, (Instr.fieldAt 55 (.pointer (some ad)) 0).run Tryz.prog w = .ok (.pointer (some (ad.add 0))) w := fun _ => by kernel_rfl
theorem gwflda55_1 (ad : Addr) : ∀ w, (Instr.fieldAt 55 (.pointer (some ad)) 1).run Tryz.prog w = .ok (.pointer (some (ad.add 1))) w := fun _ => by kernel_rfl
theorem gwinfo55 : (Tryz.prog.info? 55).map (fun i => (i.zero, i.size, i.bytes)) = some (some (.agg #[.int .u8 0, .int .u8 0]), 2, 2) := by kernel_rfl
theorem gwsiz55 : ∀ w, (sizeOf 55).run Tryz.prog w = .ok 2 w := fun _ => by kernel_rfl
theorem gwzer55 : ∀ w, (zeroValue 55).run Tryz.prog w = .ok (.agg #[.int .u8 0, .int .u8 0]) w := fun _ => by kernel_rfl
set_option maxHeartbeats 4000000 in
set_option maxRecDepth 100000 in
theorem rIn_walk (A0 : Option Addr) (c0 : Nat) (l : List S55) (c1 : Int) (w : World) (hr : Kd.C k55 w A0 l.length l) (hc : l.length ≤ c0) (hb : ∀ r ∈ l, 0 ≤ r.f0 ∧ r.f0 ≤ 255 ∧ 0 ≤ r.f1 ∧ r.f1 ≤ 255) :
    Calls Tryz.prog 27 #[.slice A0 l.length c0, .int .i64 c1] w fun e w' => e = .returned (.bool (inR l c1)) ∧ Below w.heap.size w w' := by
 have hlc := len_C hr
 refine gw_start (N := 30) (vs := [.slice A0 l.length c0, J c1]) Tryz.func27 rfl rfl (by simp) fun a HF HO => ?_
 replace HO : Own w w [] := HO
 refine gR fun K1 hK1 => ?_
 refine V HF (op_assign rfl (ev_c _ _)) ?_
 intro _ H3; clear HF
 refine gE hK1 ?_
 refine gw_seq fun K4 hK4 => ?_
 refine gR fun K5 hK5 => ?_
 refine V H3 (op_assign rfl (ev_c _ _)) ?_
 intro _ H7; clear H3
 refine gE hK5 ?_
 refine wp_block ?_
 refine gw_loop (fun m_ a_ w_ => ∃ (i : Int), Fr 30 a_ [(5, J i), (0, .slice A0 l.length c0), (1, J c1)] ∧ Own w w_ [] ∧ (0 ≤ i ∧ i ≤ l.length) ∧ (∀ j : Nat, j < i.toNat → ¬ ((l.getD j z55).f0 ≤ c1 ∧ c1 ≤ (l.getD j z55).f1)) ∧ m_ = (l.length - i.toNat)) ((l.length - (0 : Int).toNat)) ?_ ?_
 ·
  refine ⟨0, (H7.pick (t := 5) rfl (H7.pick (t := 0) rfl (H7.pick (t := 1) rfl H7.nil))), HO.sel [] (by decide), ?_, ?_, rfl⟩
  ·
   omega
  ·
   intro j hj; simp at hj
 ·
  rintro m9 _ w11 ⟨i, H12, O13, hi, hq, hm14⟩
  refine gw_seq fun K15 hK15 => ?_
  refine gR fun K16 hK16 => ?_
  refine V H12 (op_move rfl (H12.ev rfl)) ?_
  intro _ H18; clear H12
  refine V H18 (op_move rfl (H18.ev rfl)) ?_
  intro _ H20; clear H18
  refine V H20 (op_len Tryz.underlying23 rfl (H20.ev rfl)) ?_
  intro _ H22; clear H20
  refine V H22 (op_lss rfl (H22.ev rfl) (H22.ev rfl)) ?_
  intro _ H24; clear H22
  refine gE hK16 ?_
  refine gw_cond H24 rfl (fun hb25 => ?_) (fun hb25 => ?_)
  ·
   have H26 := H24.subst_ (d := 9) (b := true) rfl hb25
   clear H24
   (try simp only [decide_eq_true_eq] at hb25)
   refine wp_skip ?_
   refine gw_nx (hK15 _ _ ?_)
   refine gw_seq fun K27 hK27 => ?_
   refine wp_block ?_
   refine gR fun K28 hK28 => ?_
   refine V H26 (op_move rfl (H26.ev rfl)) ?_
   intro _ H30; clear H26
   refine V H30 (op_move rfl (H30.ev rfl)) ?_
   intro _ H32; clear H30
   refine V H32 (op_move rfl (H32.ev rfl)) ?_
   intro _ H34; clear H32
   obtain ⟨ad35, cs38, hA36, hl39, hK40, hc37⟩ := Kd.C_get hr z55 i (by omega) (by omega)
   obtain rfl := k55_open hK40
   clear hl39
   refine V H34 (op_index Tryz.underlying23 gwsiz55 rfl (H34.ev rfl) (H34.ev rfl) hA36 (⟨by omega, by omega⟩)) ?_
   intro _ H42; clear H34
   refine V H42 (op_field (gwflda55_0 _) rfl (H42.ev rfl)) ?_
   intro _ H44; clear H42
   refine V H44 (op_load1 gwagg5 rfl (H44.ev rfl) ((cells0 O13 hc37 0 _ rfl))) ?_
   intro _ H46; clear H44
   refine V H46 (op_conv_inb Tryz.underlying5 Tryz.underlying3 rfl (H46.ev rfl) (by have h2_ := hb _ (getD_mem (z := z55) l i.toNat (by omega)); omega)) ?_
   intro _ H48; clear H46
   refine V H48 (op_geq rfl (H48.ev rfl) (H48.ev rfl)) ?_
   intro _ H50; clear H48
   refine V H50 (op_move rfl (H50.ev rfl)) ?_
   intro _ H52; clear H50
   refine gw_evG H52 rfl rfl rfl rfl (on_t _) rfl (by decide) (fun h_ => (op_move rfl (H52.ev rfl))) ?_
   intro _ H54; clear H52
   refine gw_evG H54 rfl rfl rfl rfl (on_t _) rfl (by decide) (fun h_ => (op_move rfl (H54.ev rfl))) ?_
   intro _ H56; clear H54
   refine gw_evG H56 rfl rfl rfl rfl (on_t _) rfl (by decide) (fun h_ => (op_move rfl (H56.ev rfl))) ?_
   intro _ H58; clear H56
   obtain ⟨ad62, cs65, hA63, hl66, hK67, hc64⟩ := C_getT hr z55 i (⟨_, k55_mk _ z55⟩)
   obtain rfl := k55_open hK67
   clear hl66
   refine gw_evG H58 rfl rfl rfl rfl (on_t _) rfl (by decide) (fun h_ => (op_index Tryz.underlying23 gwsiz55 rfl (ev_gv (H58.ev rfl) h_) (ev_gv (H58.ev rfl) h_) (hA63 ⟨by (try simp only [Bool.and_eq_true, Bool.or_eq_true, Bool.and_eq_false_iff, Bool.or_eq_false_iff, Bool.not_and, Bool.not_or, Bool.not_not, decide_eq_true_eq, decide_eq_false_iff_not, Bool.not_eq_true', Bool.not_eq_false', Bool.not_eq_true, Bool.not_eq_false, ne_eq, Decidable.not_not, Int.not_lt, Int.not_le, not_true_eq_false, not_false_eq_true, bne_iff_ne, beq_iff_eq, bne_eq_false_iff_eq, beq_eq_false_iff_ne] at h_); omega, by (try simp only [Bool.and_eq_true, Bool.or_eq_true, Bool.and_eq_false_iff, Bool.or_eq_false_iff, Bool.not_and, Bool.not_or, Bool.not_not, decide_eq_true_eq, decide_eq_false_iff_not, Bool.not_eq_true', Bool.not_eq_false', Bool.not_eq_true, Bool.not_eq_false, ne_eq, Decidable.not_not, Int.not_lt, Int.not_le, not_true_eq_false, not_false_eq_true, bne_iff_ne, beq_iff_eq, bne_eq_false_iff_eq, beq_eq_false_iff_ne] at h_); omega⟩) (⟨by (try simp only [Bool.and_eq_true, Bool.or_eq_true, Bool.and_eq_false_iff, Bool.or_eq_false_iff, Bool.not_and, Bool.not_or, Bool.not_not, decide_eq_true_eq, decide_eq_false_iff_not, Bool.not_eq_true', Bool.not_eq_false', Bool.not_eq_true, Bool.not_eq_false, ne_eq, Decidable.not_not, Int.not_lt, Int.not_le, not_true_eq_false, not_false_eq_true, bne_iff_ne, beq_iff_eq, bne_eq_false_iff_eq, beq_eq_false_iff_ne] at h_); omega, by (try simp only [Bool.and_eq_true, Bool.or_eq_true, Bool.and_eq_false_iff, Bool.or_eq_false_iff, Bool.not_and, Bool.not_or, Bool.not_not, decide_eq_true_eq, decide_eq_false_iff_not, Bool.not_eq_true', Bool.not_eq_false', Bool.not_eq_true, Bool.not_eq_false, ne_eq, Decidable.not_not, Int.not_lt, Int.not_le, not_true_eq_false, not_false_eq_true, bne_iff_ne, beq_iff_eq, bne_eq_false_iff_eq, beq_eq_false_iff_ne] at h_); omega⟩))) ?_
   intro _ H69; clear H58
   refine gw_evG H69 rfl rfl rfl rfl (on_t _) rfl (by decide) (fun h_ => (op_field (gwflda55_1 _) rfl (ev_gv (H69.ev rfl) h_))) ?_
   intro _ H71; clear H69
   refine gw_evG H71 rfl rfl rfl rfl (on_t _) rfl (by decide) (fun h_ => (op_load1 gwagg5 rfl (ev_gv (H71.ev rfl) h_) ((cells0 O13 (hc64 ⟨by (try simp only [Bool.and_eq_true, Bool.or_eq_true, Bool.and_eq_false_iff, Bool.or_eq_false_iff, Bool.not_and, Bool.not_or, Bool.not_not, decide_eq_true_eq, decide_eq_false_iff_not, Bool.not_eq_true', Bool.not_eq_false', Bool.not_eq_true, Bool.not_eq_false, ne_eq, Decidable.not_not, Int.not_lt, Int.not_le, not_true_eq_false, not_false_eq_true, bne_iff_ne, beq_iff_eq, bne_eq_false_iff_eq, beq_eq_false_iff_ne] at h_); omega, by (try simp only [Bool.and_eq_true, Bool.or_eq_true, Bool.and_eq_false_iff, Bool.or_eq_false_iff, Bool.not_and, Bool.not_or, Bool.not_not, decide_eq_true_eq, decide_eq_false_iff_not, Bool.not_eq_true', Bool.not_eq_false', Bool.not_eq_true, Bool.not_eq_false, ne_eq, Decidable.not_not, Int.not_lt, Int.not_le, not_true_eq_false, not_false_eq_true, bne_iff_ne, beq_iff_eq, bne_eq_false_iff_eq, beq_eq_false_iff_ne] at h_); omega⟩) 1 _ rfl)))) ?_
   intro _ H73; clear H71
   refine gw_evG H73 rfl rfl rfl rfl (on_t _) rfl (by decide) (fun h_ => (op_conv_inb Tryz.underlying5 Tryz.underlying3 rfl (ev_gv (H73.ev rfl) h_) (by have h2_ := hb _ (getD_mem (z := z55) l i.toNat (by (try simp only [Bool.and_eq_true, Bool.or_eq_true, Bool.and_eq_false_iff, Bool.or_eq_false_iff, Bool.not_and, Bool.not_or, Bool.not_not, decide_eq_true_eq, decide_eq_false_iff_not, Bool.not_eq_true', Bool.not_eq_false', Bool.not_eq_true, Bool.not_eq_false, ne_eq, Decidable.not_not, Int.not_lt, Int.not_le, not_true_eq_false, not_false_eq_true, bne_iff_ne, beq_iff_eq, bne_eq_false_iff_eq, beq_eq_false_iff_ne] at h_); omega)); omega))) ?_
   intro _ H75; clear H73
   refine gw_evG H75 rfl rfl rfl rfl (on_t _) rfl (by decide) (fun h_ => (op_leq rfl (ev_gv (H75.ev rfl) h_) (ev_gv (H75.ev rfl) h_))) ?_
   intro _ H77; clear H75
   refine V H77 (op_pick_and rfl (H77.ev rfl) (fun hp_ => (ev_gv (H77.ev rfl) hp_)) (ev_c _ _)) ?_
   intro _ H79; clear H77
   refine gE hK28 ?_
   refine gw_cond H79 rfl (fun hb80 => ?_) (fun hb80 => ?_)
   ·
    have H81 := H79.subst_ (d := 29) (b := true) rfl hb80
    clear H79
    (try simp only [Bool.and_eq_true, Bool.and_eq_false_iff, decide_eq_true_eq, decide_eq_false_iff_not, Int.not_le] at hb80)
    have hq29 := hb80
    refine gR fun K82 hK82 => ?_
    refine V H81 (op_assign rfl (ev_c _ _)) ?_
    intro _ H84; clear H81
    refine gE hK82 ?_
    refine wp_ret ?_
    refine gw_blr ?_
    refine gw_thr ?_
    refine gw_thr ?_
    refine gw_blr ?_
    refine gw_thr ?_
    refine gw_ret1 H84 rfl rfl ?_
    exact ⟨by rw [inR_some (i := i) (by omega) (by omega) hq29], O13.below⟩
   ·
    have H85 := H79.subst_ (d := 29) (b := false) rfl hb80
    clear H79
    (try simp only [Bool.and_eq_true, Bool.and_eq_false_iff, decide_eq_true_eq, decide_eq_false_iff_not, Int.not_le] at hb80)
    refine wp_skip ?_
    refine gw_blk ?_
    refine gw_nx (hK27 _ _ ?_)
    refine wp_region_lit ?_
    refine V H85 (op_move rfl (H85.ev rfl)) ?_
    intro _ H87; clear H85
    refine V H87 (op_add rfl (H87.ev rfl) (ev_c _ _) (by omega)) ?_
    intro _ H89; clear H87
    refine V H89 (op_assign rfl (H89.ev rfl)) ?_
    intro _ H91; clear H89
    refine wpList_nil ?_
    refine gw_nx ⟨_, ?_, i + 1, (H91.pick (t := 5) rfl (H91.pick (t := 0) rfl (H91.pick (t := 1) rfl H91.nil))), O13.sel [] (by decide), ?_, ?_, rfl⟩
    ·
     rw [hm14]; omega
    ·
     omega
    ·
     intro j hj; by_cases hji : j = i.toNat; (· subst hji; rintro ⟨h1_, h2_⟩; omega); exact hq j (by omega)
  ·
   have H92 := H24.subst_ (d := 9) (b := false) rfl hb25
   clear H24
   (try simp only [decide_eq_false_iff_not, Int.not_lt] at hb25)
   refine wp_exit ?_
   refine gw_thx ?_
   refine gw_thx ?_
   refine gw_in ?_
   refine gw_nx (hK4 _ _ ?_)
   refine gR fun K93 hK93 => ?_
   refine V H92 (op_assign rfl (ev_c _ _)) ?_
   intro _ H95; clear H92
   refine gE hK93 ?_
   refine wp_ret ?_
   refine gw_ret1 H95 rfl rfl ?_
   exact ⟨by rw [inR_none (fun j hj => hq j (by omega))], O13.below⟩
set_option maxHeartbeats 4000000 in
set_option maxRecDepth 100000 in
theorem rRanges_walk (A0 : Option Addr) (c0 : Nat) (l : List S55) (a1 : Bool) (w : World) (hr : Kd.C k55 w A0 l.length l) (hc : l.length ≤ c0) (hb : ∀ r ∈ l, 0 ≤ r.f0 ∧ r.f0 ≤ 255 ∧ 0 ≤ r.f1 ∧ r.f1 ≤ 255) :
    Calls Tryz.prog 37 #[.slice A0 l.length c0, .bool a1] w fun e w' => ∃ A c S, e = .returned (.slice A (canonP (fun c_ => inR l c_ != a1)).length c) ∧ Out w w' (fun _ => False) [Chunk.row k55 55 w.heap.size S (.slice A (canonP (fun c_ => inR l c_ != a1)).length c) (canonP (fun c_ => inR l c_ != a1))] := by
 refine gw_start (N := 61) (vs := [.slice A0 l.length c0, .bool a1]) Tryz.func37 rfl rfl (by simp) fun a HF HO => ?_
 replace HO : Own w w [] := HO
 refine gR fun K1 hK1 => ?_
 refine V HF (op_assign rfl (ev_c _ _)) ?_
 intro _ H3; clear HF
 refine gE hK1 ?_
 refine gR fun K4 hK4 => ?_
 refine gw_rlit0 k55 (e := 55) H3 HO (want_none rfl) rfl (by decide) (op_bslice (by kernel_rfl) rfl pt_nil) ?_
 intro A5 S6 _ w8 H9 O10; clear H3 HO
 have O11 : Own w w8 [Chunk.row k55 55 w.heap.size S6 (.slice A5 (([] : List S55).length) 0) ([] : List S55)] := O10
 clear O10
 refine V H9 (op_assign rfl (H9.ev rfl)) ?_
 intro _ H13; clear H9
 refine gE hK4 ?_
 refine gw_seq fun K14 hK14 => ?_
 refine gR fun K15 hK15 => ?_
 refine V H13 (op_assign rfl (ev_c _ _)) ?_
 intro _ H17; clear H13
 refine gE hK15 ?_
 refine wp_block ?_
 refine gw_loop (fun m_ a_ w_ => ∃ (c1 : Int) (o : List S55) (Ao : Option Addr) (co : Nat) (So : Nat → Prop), Fr 61 a_ [(6, J c1), (5, .slice Ao o.length co), (0, .slice A0 l.length c0), (1, .bool a1), (4, .slice none 0 0)] ∧ Own w w_ [Chunk.row k55 55 w.heap.size So (.slice Ao o.length co) o] ∧ (0 ≤ c1 ∧ c1 ≤ 256) ∧ (o = canonN (fun c_ => inR l c_ != a1) c1.toNat) ∧ m_ = (256 - c1.toNat)) ((256 - (0 : Int).toNat)) ?_ ?_
 ·
  refine ⟨0, ([] : List S55), A5, _, _, (H17.pick (t := 6) rfl (H17.pick (t := 5) rfl (H17.pick (t := 0) rfl (H17.pick (t := 1) rfl (H17.pick (t := 4) rfl H17.nil))))), O11.sel [0] (by decide), ?_, ?_, rfl⟩
  ·
   omega
  ·
   rfl
 ·
  rintro m19 _ w21 ⟨c1, o, Ao, co, So, H22, O23, hc1, hst, hm24⟩
  have hol : o.length ≤ 128 := by rw [hst]; exact canonN_len _ _ (by omega)
  refine gw_seq fun K25 hK25 => ?_
  refine gR fun K26 hK26 => ?_
  refine V H22 (op_move rfl (H22.ev rfl)) ?_
  intro _ H28; clear H22
  refine V H28 (op_lss rfl (H28.ev rfl) (ev_c _ _)) ?_
  intro _ H30; clear H28
  refine gE hK26 ?_
  refine gw_cond H30 rfl (fun hb31 => ?_) (fun hb31 => ?_)
  ·
   have H32 := H30.subst_ (d := 10) (b := true) rfl hb31
   clear H30
   (try simp only [decide_eq_true_eq] at hb31)
   refine wp_skip ?_
   refine gw_nx (hK25 _ _ ?_)
   refine gw_seq fun K33 hK33 => ?_
   refine wp_block ?_
   refine gw_seq fun K34 hK34 => ?_
   refine gR fun K35 hK35 => ?_
   refine V H32 (op_move rfl (H32.ev rfl)) ?_
   intro _ H37; clear H32
   refine V H37 (op_move rfl (H37.ev rfl)) ?_
   intro _ H39; clear H37
   refine gw_call H39 (want_none rfl) rfl (by decide) (op_callL Tryz.func27 (by kernel_rfl) rfl rfl (ar_cons (H39.ev rfl) (ar_cons (H39.ev rfl) ar_nil))) (rIn_walk A0 c0 l c1 _ (Kd.C_below hr O23.below) hc hb) ?_
   rintro e40 w41 ⟨rfl, hb42⟩
   refine ⟨_, rfl, fun _ H44 => ?_⟩
   have O45 := O23.after hb42
   clear H39 O23 hb42
   refine V H44 (op_move rfl (H44.ev rfl)) ?_
   intro _ H48; clear H44
   refine V H48 (op_eqb Tryz.underlying4 rfl (H48.ev rfl) (H48.ev rfl)) ?_
   intro _ H50; clear H48
   refine gE hK35 ?_
   refine gw_cond H50 rfl (fun hb51 => ?_) (fun hb51 => ?_)
   ·
    have H52 := H50.subst_ (d := 17) (b := true) rfl hb51
    clear H50
    (try simp only [beq_iff_eq, beq_eq_false_iff_ne, ne_eq] at hb51)
    have hq17 : inR l c1 = a1 := hb51
    refine wp_exit ?_
    refine gw_thx ?_
    refine gw_in ?_
    refine gw_nx (hK33 _ _ ?_)
    refine wp_region_lit ?_
    refine V H52 (op_move rfl (H52.ev rfl)) ?_
    intro _ H54; clear H52
    refine V H54 (op_add rfl (H54.ev rfl) (ev_c _ _) (by omega)) ?_
    intro _ H56; clear H54
    refine V H56 (op_assign rfl (H56.ev rfl)) ?_
    intro _ H58; clear H56
    refine wpList_nil ?_
    refine gw_nx ⟨_, ?_, c1 + 1, o, Ao, _, _, (H58.pick (t := 6) rfl (H58.pick (t := 5) rfl (H58.pick (t := 0) rfl (H58.pick (t := 1) rfl (H58.pick (t := 4) rfl H58.nil))))), O45.sel [0] (by decide), ?_, ?_, rfl⟩
    ·
     rw [hm24]; omega
    ·
     omega
    ·
     rw [canonN_next _ _ (by omega), ← hst]; exact step_skip (by show (inR l c1 != a1) = false; rw [hq17]; simp)
   ·
    have H59 := H50.subst_ (d := 17) (b := false) rfl hb51
    clear H50
    (try simp only [beq_iff_eq, beq_eq_false_iff_ne, ne_eq] at hb51)
    have hp17 : (inR l c1 != a1) = true := by have h_ := hb51; simpa [bne_iff_ne] using h_
    refine wp_skip ?_
    refine gw_nx (hK34 _ _ ?_)
    refine gR fun K60 hK60 => ?_
    refine V H59 (op_move rfl (H59.ev rfl)) ?_
    intro _ H62; clear H59
    refine V H62 (op_len Tryz.underlying23 rfl (H62.ev rfl)) ?_
    intro _ H64; clear H62
    refine V H64 (op_gtr rfl (H64.ev rfl) (ev_c _ _)) ?_
    intro _ H66; clear H64
    refine V H66 (op_move rfl (H66.ev rfl)) ?_
    intro _ H68; clear H66
    refine gw_evG H68 rfl rfl rfl rfl (on_t _) rfl (by decide) (fun h_ => (op_move rfl (H68.ev rfl))) ?_
    intro _ H70; clear H68
    refine gw_evG H70 rfl rfl rfl rfl (on_t _) rfl (by decide) (fun h_ => (op_move rfl (H70.ev rfl))) ?_
    intro _ H72; clear H70
    refine gw_evG H72 rfl rfl rfl rfl (on_t _) rfl (by decide) (fun h_ => (op_len Tryz.underlying23 rfl (ev_gv (H72.ev rfl) h_))) ?_
    intro _ H74; clear H72
    refine gw_evG H74 rfl rfl rfl rfl (on_t _) rfl (by decide) (fun h_ => (op_sub rfl (ev_gv (H74.ev rfl) h_) (ev_c _ _) (by (try simp only [Bool.and_eq_true, Bool.or_eq_true, Bool.and_eq_false_iff, Bool.or_eq_false_iff, Bool.not_and, Bool.not_or, Bool.not_not, decide_eq_true_eq, decide_eq_false_iff_not, Bool.not_eq_true', Bool.not_eq_false', Bool.not_eq_true, Bool.not_eq_false, ne_eq, Decidable.not_not, Int.not_lt, Int.not_le, not_true_eq_false, not_false_eq_true, bne_iff_ne, beq_iff_eq, bne_eq_false_iff_eq, beq_eq_false_iff_ne] at h_); omega))) ?_
    intro _ H76; clear H74
    obtain ⟨ad80, hA81⟩ := row_headT (O45.get 0 rfl) ((o.length : Int) - 1)
    refine gw_evG H76 rfl rfl rfl rfl (on_t _) rfl (by decide) (fun h_ => (op_index Tryz.underlying23 gwsiz55 rfl (ev_gv (H76.ev rfl) h_) (ev_gv (H76.ev rfl) h_) (hA81 ⟨by (try simp only [Bool.and_eq_true, Bool.or_eq_true, Bool.and_eq_false_iff, Bool.or_eq_false_iff, Bool.not_and, Bool.not_or, Bool.not_not, decide_eq_true_eq, decide_eq_false_iff_not, Bool.not_eq_true', Bool.not_eq_false', Bool.not_eq_true, Bool.not_eq_false, ne_eq, Decidable.not_not, Int.not_lt, Int.not_le, not_true_eq_false, not_false_eq_true, bne_iff_ne, beq_iff_eq, bne_eq_false_iff_eq, beq_eq_false_iff_ne] at h_); omega, by (try simp only [Bool.and_eq_true, Bool.or_eq_true, Bool.and_eq_false_iff, Bool.or_eq_false_iff, Bool.not_and, Bool.not_or, Bool.not_not, decide_eq_true_eq, decide_eq_false_iff_not, Bool.not_eq_true', Bool.not_eq_false', Bool.not_eq_true, Bool.not_eq_false, ne_eq, Decidable.not_not, Int.not_lt, Int.not_le, not_true_eq_false, not_false_eq_true, bne_iff_ne, beq_iff_eq, bne_eq_false_iff_eq, beq_eq_false_iff_ne] at h_); omega⟩) (⟨by (try simp only [Bool.and_eq_true, Bool.or_eq_true, Bool.and_eq_false_iff, Bool.or_eq_false_iff, Bool.not_and, Bool.not_or, Bool.not_not, decide_eq_true_eq, decide_eq_false_iff_not, Bool.not_eq_true', Bool.not_eq_false', Bool.not_eq_true, Bool.not_eq_false, ne_eq, Decidable.not_not, Int.not_lt, Int.not_le, not_true_eq_false, not_false_eq_true, bne_iff_ne, beq_iff_eq, bne_eq_false_iff_eq, beq_eq_false_iff_ne] at h_); omega, by (try simp only [Bool.and_eq_true, Bool.or_eq_true, Bool.and_eq_false_iff, Bool.or_eq_false_iff, Bool.not_and, Bool.not_or, Bool.not_not, decide_eq_true_eq, decide_eq_false_iff_not, Bool.not_eq_true', Bool.not_eq_false', Bool.not_eq_true, Bool.not_eq_false, ne_eq, Decidable.not_not, Int.not_lt, Int.not_le, not_true_eq_false, not_false_eq_true, bne_iff_ne, beq_iff_eq, bne_eq_false_iff_eq, beq_eq_false_iff_ne] at h_); omega⟩))) ?_
    intro _ H84; clear H76
    refine gw_evG H84 rfl rfl rfl rfl (on_t _) rfl (by decide) (fun h_ => (op_field (gwflda55_1 _) rfl (ev_gv (H84.ev rfl) h_))) ?_
    intro _ H86; clear H84
    refine gw_evG H86 rfl rfl rfl rfl (on_t _) rfl (by decide) (fun h_ => (op_load1 gwagg5 rfl (ev_gv (H86.ev rfl) h_) (((rowf_cellsT (z := z55) (O45.get 0 rfl) (hA81 ⟨by (try simp only [Bool.and_eq_true, Bool.or_eq_true, Bool.and_eq_false_iff, Bool.or_eq_false_iff, Bool.not_and, Bool.not_or, Bool.not_not, decide_eq_true_eq, decide_eq_false_iff_not, Bool.not_eq_true', Bool.not_eq_false', Bool.not_eq_true, Bool.not_eq_false, ne_eq, Decidable.not_not, Int.not_lt, Int.not_le, not_true_eq_false, not_false_eq_true, bne_iff_ne, beq_iff_eq, bne_eq_false_iff_eq, beq_eq_false_iff_ne] at h_); omega, by (try simp only [Bool.and_eq_true, Bool.or_eq_true, Bool.and_eq_false_iff, Bool.or_eq_false_iff, Bool.not_and, Bool.not_or, Bool.not_not, decide_eq_true_eq, decide_eq_false_iff_not, Bool.not_eq_true', Bool.not_eq_false', Bool.not_eq_true, Bool.not_eq_false, ne_eq, Decidable.not_not, Int.not_lt, Int.not_le, not_true_eq_false, not_false_eq_true, bne_iff_ne, beq_iff_eq, bne_eq_false_iff_eq, beq_eq_false_iff_ne] at h_); omega⟩) ((o.length : Int) - 1) (by (try simp only [Bool.and_eq_true, Bool.or_eq_true, Bool.and_eq_false_iff, Bool.or_eq_false_iff, Bool.not_and, Bool.not_or, Bool.not_not, decide_eq_true_eq, decide_eq_false_iff_not, Bool.not_eq_true', Bool.not_eq_false', Bool.not_eq_true, Bool.not_eq_false, ne_eq, Decidable.not_not, Int.not_lt, Int.not_le, not_true_eq_false, not_false_eq_true, bne_iff_ne, beq_iff_eq, bne_eq_false_iff_eq, beq_eq_false_iff_ne] at h_); omega) (by (try simp only [Bool.and_eq_true, Bool.or_eq_true, Bool.and_eq_false_iff, Bool.or_eq_false_iff, Bool.not_and, Bool.not_or, Bool.not_not, decide_eq_true_eq, decide_eq_false_iff_not, Bool.not_eq_true', Bool.not_eq_false', Bool.not_eq_true, Bool.not_eq_false, ne_eq, Decidable.not_not, Int.not_lt, Int.not_le, not_true_eq_false, not_false_eq_true, bne_iff_ne, beq_iff_eq, bne_eq_false_iff_eq, beq_eq_false_iff_ne] at h_); omega) (fun _ _ h_ => k55_open h_)) 1 _ rfl)))) ?_
    intro _ H88; clear H86
    refine gw_evG H88 rfl rfl rfl rfl (on_t _) rfl (by decide) (fun h_ => (op_conv_inb Tryz.underlying5 Tryz.underlying3 rfl (ev_gv (H88.ev rfl) h_) (by (try simp only [decide_eq_true_eq] at h_); have h2_ := canonN_byte (fun c_ => inR l c_ != a1) c1.toNat (by (try simp only [Bool.and_eq_true, Bool.or_eq_true, Bool.and_eq_false_iff, Bool.or_eq_false_iff, Bool.not_and, Bool.not_or, Bool.not_not, decide_eq_true_eq, decide_eq_false_iff_not, Bool.not_eq_true', Bool.not_eq_false', Bool.not_eq_true, Bool.not_eq_false, ne_eq, Decidable.not_not, Int.not_lt, Int.not_le, not_true_eq_false, not_false_eq_true, bne_iff_ne, beq_iff_eq, bne_eq_false_iff_eq, beq_eq_false_iff_ne] at h_); omega) _ (getD_mem (z := z55) (canonN (fun c_ => inR l c_ != a1) c1.toNat) ((o.length : Int) - 1).toNat (by rw [← hst]; omega)); rw [← hst] at h2_; omega))) ?_
    intro _ H90; clear H88
    refine gw_evG H90 rfl rfl rfl rfl (on_t _) rfl (by decide) (fun h_ => (op_move rfl (H90.ev rfl))) ?_
    intro _ H92; clear H90
    refine gw_evG H92 rfl rfl rfl rfl (on_t _) rfl (by decide) (fun h_ => (op_sub rfl (ev_gv (H92.ev rfl) h_) (ev_c _ _) (by (try simp only [Bool.and_eq_true, Bool.or_eq_true, Bool.and_eq_false_iff, Bool.or_eq_false_iff, Bool.not_and, Bool.not_or, Bool.not_not, decide_eq_true_eq, decide_eq_false_iff_not, Bool.not_eq_true', Bool.not_eq_false', Bool.not_eq_true, Bool.not_eq_false, ne_eq, Decidable.not_not, Int.not_lt, Int.not_le, not_true_eq_false, not_false_eq_true, bne_iff_ne, beq_iff_eq, bne_eq_false_iff_eq, beq_eq_false_iff_ne] at h_); omega))) ?_
    intro _ H94; clear H92
    refine gw_evG H94 rfl rfl rfl rfl (on_t _) rfl (by decide) (fun h_ => (op_eqi rfl (ev_gv (H94.ev rfl) h_) (ev_gv (H94.ev rfl) h_))) ?_
    intro _ H96; clear H94
    refine V H96 (op_pick_and rfl (H96.ev rfl) (fun hp_ => (ev_gv (H96.ev rfl) hp_)) (ev_c _ _)) ?_
    intro _ H98; clear H96
    refine gE hK60 ?_
    refine gw_cond H98 rfl (fun hb99 => ?_) (fun hb99 => ?_)
    ·
     have H100 := H98.subst_ (d := 33) (b := true) rfl hb99
     clear H98
     (try simp only [Bool.and_eq_true, Bool.and_eq_false_iff, decide_eq_true_eq, decide_eq_false_iff_not, Int.not_lt] at hb99)
     have hq33 := hb99
     have hcap := row_cap (O45.get 0 rfl)
     obtain ⟨ad101, hA102⟩ := row_head (O45.get 0 rfl) ((o.length : Int) - 1) (by omega) (by omega)
     subst hA102
     have hby := canonN_byte (fun c_ => inR l c_ != a1) c1.toNat (by omega) _ (getD_mem (z := z55) (canonN (fun c_ => inR l c_ != a1) c1.toNat) ((o.length : Int) - 1).toNat (by rw [← hst]; omega))
     rw [← hst] at hby
     refine gR fun K103 hK103 => ?_
     refine V H100 (op_move rfl (H100.ev rfl)) ?_
     intro _ H105; clear H100
     refine V H105 (op_move rfl (H105.ev rfl)) ?_
     intro _ H107; clear H105
     refine V H107 (op_len Tryz.underlying23 rfl (H107.ev rfl)) ?_
     intro _ H109; clear H107
     refine V H109 (op_sub rfl (H109.ev rfl) (ev_c _ _) (by omega)) ?_
     intro _ H111; clear H109
     refine V H111 (op_index Tryz.underlying23 gwsiz55 rfl (H111.ev rfl) (H111.ev rfl) rfl (⟨by omega, by omega⟩)) ?_
     intro _ H116; clear H111
     refine V H116 (op_loadc gwagg55 gwsiz55 rfl (H116.ev rfl) rfl ((rowf_cells (z := z55) (O45.get 0 rfl) ((o.length : Int) - 1) (by omega) (by omega) (fun _ _ h_ => k55_open h_)))) ?_
     intro _ H118; clear H116
     refine gw_new H118 O45 (want_none rfl) rfl (by decide) (op_alloc gwzer55 rfl) ?_
     intro g119 _ w121 H122 O123; clear H118 O45
     have O124 : Own w w121 [Bk g119 [.int .u8 0, .int .u8 0] 55, Chunk.row k55 55 w.heap.size So (.slice (some ad101) o.length co) o] := O123
     clear O123
     refine gw_setn 0 H122 O124 rfl (want_none rfl) rfl (op_storen gwsiz55 rfl (H122.ev rfl) (H122.ev rfl) (O124.get 0 rfl) rfl (by simp) (by simp [Value.oneCell'])) ?_
     intro _ w127 H126 O128; clear H122 O124
     refine gE hK103 ?_
     refine gx_draw (M := [Bk g119 [.int .u8 ((o.getD ((o.length : Int) - 1).toNat z55).f0), .int .u8 ((o.getD ((o.length : Int) - 1).toNat z55).f1)] 55]) (fun j_ => false) O128 (by kernel_rfl) fun w129 O130 => ?_
     clear O128
     refine gx_take 0 rfl (by kernel_rfl) H126 (by exact O130.sel [0] (by decide)) (want_none rfl) rfl (by decide) (fun wq HO => (op_move rfl (H126.ev rfl))) ?_
     intro _ H132; clear H126
     refine gx_take 1 rfl (by kernel_rfl) H132 (by exact O130.sel [0] (by decide)) (want_none rfl) rfl (by decide) (fun wq HO => (op_move rfl (H132.ev rfl))) ?_
     intro _ H134; clear H132
     refine gx_take 2 rfl (by kernel_rfl) H134 (by exact O130.sel [0] (by decide)) (want_none rfl) rfl (by decide) (fun wq HO => (op_len Tryz.underlying23 rfl (H134.ev rfl))) ?_
     intro _ H136; clear H134
     refine gx_take 3 rfl (by kernel_rfl) H136 (by exact O130.sel [0] (by decide)) (want_none rfl) rfl (by decide) (fun wq HO => (op_sub rfl (H136.ev rfl) (ev_c _ _) (by omega))) ?_
     intro _ H138; clear H136
     obtain ⟨hr139, hc140, hC141⟩ := cut_hi (P := Tryz.prog) (d := k55) (t := 23) (e := 55) Tryz.underlying23 gwsiz55 (some ad101) co o hcap ((o.length : Int) - 1) (by omega) (by omega)
     refine gx_take 4 rfl (by kernel_rfl) H138 (by exact O130.sel [0] (by decide)) (want_none rfl) rfl (by decide) (fun wq HO => (op_cut Tryz.underlying23 hr139 rfl (H138.ev rfl) rfl (some_ev (H138.ev rfl)))) ?_
     intro _ H143; clear H138
     refine gx_take 5 rfl (by kernel_rfl) H143 (by exact O130.sel [0] (by decide)) (want_none rfl) rfl (by decide) (fun wq HO => (op_field (gwfld55_0 _ _) rfl (H143.ev rfl))) ?_
     intro _ H145; clear H143
     refine gx_take 6 rfl (by kernel_rfl) H145 (by exact O130.sel [0] (by decide)) (want_none rfl) rfl (by decide) (fun wq HO => (op_load1 gwagg5 rfl (H145.ev rfl) (blk_at (HO.get 0 rfl) rfl))) ?_
     intro _ H147; clear H145
     refine gx_take 7 rfl (by kernel_rfl) H147 (by exact O130.sel [0] (by decide)) (want_none rfl) rfl (by decide) (fun wq HO => (op_move rfl (H147.ev rfl))) ?_
     intro _ H149; clear H147
     refine gx_take 8 rfl (by kernel_rfl) H149 (by exact O130.sel [0] (by decide)) (want_none rfl) rfl (by decide) (fun wq HO => (op_conv_int Tryz.underlying3 Tryz.underlying5 rfl (H149.ev rfl))) ?_
     intro _ H151; clear H149
     have H152 := H151.conv (v' := .int .u8 c1) (congrArg (Value.int .u8) (wrap8 (by omega)))
     clear H151
     refine gx_take 9 rfl (by kernel_rfl) H152 (by exact O130.sel [0] (by decide)) (want_none rfl) rfl (by decide) (fun wq HO => (op_build (cells := #[.int .u8 ((o.getD ((o.length : Int) - 1).toNat z55).f0), .int .u8 c1]) rfl (pt_cons (H152.ev rfl) (pt_cons (H152.ev rfl) pt_nil)) (by kernel_rfl))) ?_
     intro _ H154; clear H152
     refine gx_step 10 rfl (by kernel_rfl) ?_
     refine gw_news (O := .cells #[.int .u8 ((o.getD ((o.length : Int) - 1).toNat z55).f0), .int .u8 c1] 55 (0, 0)) (n := 1) H154 O130 (want_none rfl) rfl (by decide) (op_bslice (by kernel_rfl) rfl (pt_cons (H154.ev rfl) pt_nil)) ?_
     intro g155 _ w157 H158 O159; clear H154 O130
     have O160 : Own w w157 [Bk g155 [.int .u8 ((o.getD ((o.length : Int) - 1).toNat z55).f0), .int .u8 c1] 55, Bk g119 [.int .u8 ((o.getD ((o.length : Int) - 1).toNat z55).f0), .int .u8 ((o.getD ((o.length : Int) - 1).toNat z55).f1)] 55, Chunk.row k55 55 w.heap.size So (.slice (some ad101) o.length co) o] := O159
     clear O159
     refine gx_on (i := 10) (B := (fun j_ => false)) (fun _ => (by exact O160.sel [1] (by decide))) ?_
     refine gx_step 11 rfl (by kernel_rfl) ?_
     have O161 := O160.cut_row 2 rfl (((o.length : Int) - 1).toNat) (by omega)
     clear O160
     have O162 : Own w w157 [Bk g155 [.int .u8 ((o.getD ((o.length : Int) - 1).toNat z55).f0), .int .u8 c1] 55, Bk g119 [.int .u8 ((o.getD ((o.length : Int) - 1).toNat z55).f0), .int .u8 ((o.getD ((o.length : Int) - 1).toNat z55).f1)] 55, Chunk.row k55 55 w.heap.size So (.slice (some ad101) ((o.take ((o.length : Int) - 1).toNat).length) co) (o.take ((o.length : Int) - 1).toNat)] := O161
     clear O161
     have O163 : Own w _ [Chunk.row k55 55 w.heap.size So (.slice (some ad101) ((o.take ((o.length : Int) - 1).toNat).length) co) (o.take ((o.length : Int) - 1).toNat), Chunk.void, Bk g155 [.int .u8 ((o.getD ((o.length : Int) - 1).toNat z55).f0), .int .u8 c1] 55, Bk g119 [.int .u8 ((o.getD ((o.length : Int) - 1).toNat z55).f0), .int .u8 ((o.getD ((o.length : Int) - 1).toNat z55).f1)] 55] := O162.void.sel [3, 0, 1, 2] (by decide)
     refine gw_append1 k55 0 (p := (⟨(o.getD ((o.length : Int) - 1).toNat z55).f0, c1⟩ : S55)) (cs := [.int .u8 ((o.getD ((o.length : Int) - 1).toNat z55).f0), .int .u8 c1]) H158 O163 (want_none rfl) rfl (by decide) rfl Tryz.underlying23 gwinfo55 rfl (by decide) (by decide) rfl (H158.ev rfl) (H158.ev rfl) (fun w_ h_ => k55_mkM w_ _ _ (⟨(o.getD ((o.length : Int) - 1).toNat z55).f0, c1⟩ : S55) ) O163.below.size (by rw [List.length_take]; omega) ?_
     intro A164 c165 S166 _ w168 H169 O170; clear H158 O162 O163
     have O171 : Own w w168 [Chunk.row k55 55 w.heap.size S166 (.slice A164 (((o.take ((o.length : Int) - 1).toNat) ++ [(⟨(o.getD ((o.length : Int) - 1).toNat z55).f0, c1⟩ : S55)]).length) c165) ((o.take ((o.length : Int) - 1).toNat) ++ [(⟨(o.getD ((o.length : Int) - 1).toNat z55).f0, c1⟩ : S55)]), Bk g155 [.int .u8 ((o.getD ((o.length : Int) - 1).toNat z55).f0), .int .u8 c1] 55, Bk g119 [.int .u8 ((o.getD ((o.length : Int) - 1).toNat z55).f0), .int .u8 ((o.getD ((o.length : Int) - 1).toNat z55).f1)] 55] := O170
     clear O170
     refine gx_on (i := 11) (B := (fun j_ => false)) (fun _ => (by exact O171.sel [2] (by decide))) ?_
     refine gx_take 12 rfl (by kernel_rfl) H169 (by exact O171.sel [2] (by decide)) (want_none rfl) rfl (by decide) (fun wq HO => (op_assign rfl (H169.ev rfl))) ?_
     intro _ H173; clear H169
     refine gx_done (by kernel_rfl) ?_
     refine gw_blk ?_
     refine gw_nx (hK33 _ _ ?_)
     refine wp_region_lit ?_
     refine V H173 (op_move rfl (H173.ev rfl)) ?_
     intro _ H175; clear H173
     refine V H175 (op_add rfl (H175.ev rfl) (ev_c _ _) (by omega)) ?_
     intro _ H177; clear H175
     refine V H177 (op_assign rfl (H177.ev rfl)) ?_
     intro _ H179; clear H177
     refine wpList_nil ?_
     refine gw_nx ⟨_, ?_, c1 + 1, ((o.take ((o.length : Int) - 1).toNat) ++ [(⟨(o.getD ((o.length : Int) - 1).toNat z55).f0, c1⟩ : S55)]), A164, _, _, (H179.pick (t := 6) rfl (H179.pick (t := 5) rfl (H179.pick (t := 0) rfl (H179.pick (t := 1) rfl (H179.pick (t := 4) rfl H179.nil))))), O171.sel [0] (by decide), ?_, ?_, rfl⟩
     ·
      rw [hm24]; omega
     ·
      omega
     ·
      rw [canonN_next _ _ (by omega), ← hst]; exact step_grow hp17 (And.left hq33) (And.right hq33)
    ·
     have H180 := H98.subst_ (d := 33) (b := false) rfl hb99
     clear H98
     (try simp only [Bool.and_eq_true, Bool.and_eq_false_iff, decide_eq_true_eq, decide_eq_false_iff_not, Int.not_lt] at hb99)
     have hq33 := hb99
     refine wp_region_lit ?_
     refine V H180 (op_move rfl (H180.ev rfl)) ?_
     intro _ H182; clear H180
     refine V H182 (op_move rfl (H182.ev rfl)) ?_
     intro _ H184; clear H182
     refine V H184 (op_conv_int Tryz.underlying3 Tryz.underlying5 rfl (H184.ev rfl)) ?_
     intro _ H186; clear H184
     have H187 := H186.conv (v' := .int .u8 c1) (congrArg (Value.int .u8) (wrap8 (by omega)))
     clear H186
     refine V H187 (op_move rfl (H187.ev rfl)) ?_
     intro _ H189; clear H187
     refine V H189 (op_conv_int Tryz.underlying3 Tryz.underlying5 rfl (H189.ev rfl)) ?_
     intro _ H191; clear H189
     have H192 := H191.conv (v' := .int .u8 c1) (congrArg (Value.int .u8) (wrap8 (by omega)))
     clear H191
     refine V H192 (op_build (cells := #[.int .u8 c1, .int .u8 c1]) rfl (pt_cons (H192.ev rfl) (pt_cons (H192.ev rfl) pt_nil)) (by kernel_rfl)) ?_
     intro _ H194; clear H192
     refine gw_news (O := .cells #[.int .u8 c1, .int .u8 c1] 55 (0, 0)) (n := 1) H194 O45 (want_none rfl) rfl (by decide) (op_bslice (by kernel_rfl) rfl (pt_cons (H194.ev rfl) pt_nil)) ?_
     intro g195 _ w197 H198 O199; clear H194 O45
     have O200 : Own w w197 [Bk g195 [.int .u8 c1, .int .u8 c1] 55, Chunk.row k55 55 w.heap.size So (.slice Ao o.length co) o] := O199
     clear O199
     have O201 : Own w _ [Chunk.row k55 55 w.heap.size So (.slice Ao o.length co) o, Chunk.void, Bk g195 [.int .u8 c1, .int .u8 c1] 55] := O200.void.sel [2, 0, 1] (by decide)
     refine gw_append1 k55 0 (p := (⟨c1, c1⟩ : S55)) (cs := [.int .u8 c1, .int .u8 c1]) H198 O201 (want_none rfl) rfl (by decide) rfl Tryz.underlying23 gwinfo55 rfl (by decide) (by decide) rfl (H198.ev rfl) (H198.ev rfl) (fun w_ h_ => k55_mkM w_ _ _ (⟨c1, c1⟩ : S55) ) O201.below.size (by omega) ?_
     intro A202 c203 S204 _ w206 H207 O208; clear H198 O200 O201
     have O209 : Own w w206 [Chunk.row k55 55 w.heap.size S204 (.slice A202 ((o ++ [(⟨c1, c1⟩ : S55)]).length) c203) (o ++ [(⟨c1, c1⟩ : S55)]), Bk g195 [.int .u8 c1, .int .u8 c1] 55] := O208
     clear O208
     refine V H207 (op_assign rfl (H207.ev rfl)) ?_
     intro _ H211; clear H207
     refine wpList_nil ?_
     refine gw_blk ?_
     refine gw_nx (hK33 _ _ ?_)
     refine wp_region_lit ?_
     refine V H211 (op_move rfl (H211.ev rfl)) ?_
     intro _ H213; clear H211
     refine V H213 (op_add rfl (H213.ev rfl) (ev_c _ _) (by omega)) ?_
     intro _ H215; clear H213
     refine V H215 (op_assign rfl (H215.ev rfl)) ?_
     intro _ H217; clear H215
     refine wpList_nil ?_
     refine gw_nx ⟨_, ?_, c1 + 1, (o ++ [(⟨c1, c1⟩ : S55)]), A202, _, _, (H217.pick (t := 6) rfl (H217.pick (t := 5) rfl (H217.pick (t := 0) rfl (H217.pick (t := 1) rfl (H217.pick (t := 4) rfl H217.nil))))), O209.sel [0] (by decide), ?_, ?_, rfl⟩
     ·
      rw [hm24]; omega
     ·
      omega
     ·
      rw [canonN_next _ _ (by omega), ← hst]; exact step_add hp17 hq33
  ·
   have H218 := H30.subst_ (d := 10) (b := false) rfl hb31
   clear H30
   (try simp only [decide_eq_false_iff_not, Int.not_lt] at hb31)
   refine wp_exit ?_
   refine gw_thx ?_
   refine gw_thx ?_
   refine gw_in ?_
   refine gw_nx (hK14 _ _ ?_)
   refine gR fun K219 hK219 => ?_
   refine V H218 (op_move rfl (H218.ev rfl)) ?_
   intro _ H221; clear H218
   refine V H221 (op_assign rfl (H221.ev rfl)) ?_
   intro _ H223; clear H221
   refine gE hK219 ?_
   refine wp_ret ?_
   refine gw_ret1 H223 rfl rfl ?_
   have hfin : o = canonP (fun c_ => inR l c_ != a1) := by rw [hst, show c1.toNat = 256 by omega]; rfl
   rw [← hfin]
   exact ⟨_, _, _, rfl, (O23.sel [0] (by decide)).out⟩
end GRefR_
export GRefR_ (rIn_walk rRanges_walk)
end Go.Proofs.YtelbgmpeghhakaaGreat.PA
end
section
namespace Go.Proofs.YtelbgmpeghhakaaGreat.PA
open Go.RowKit Go.Proofs.YtelbgmpeghhakaaGreatW.PrintWords Go.Proofs.YtelbgmpeghhakaaGreatW.PrintLast Go.Proofs.YtelbgmpeghhakaaGreatW.PrintMore
set_option linter.unusedVariables false
set_option linter.unusedSimpArgs false
namespace GTable_
theorem gwagg23 : ∀ w, (isAgg 23).run Tryz.prog w = .ok false w := fun _ => by kernel_rfl
theorem gwagg24 : ∀ w, (isAgg 24).run Tryz.prog w = .ok false w := fun _ => by kernel_rfl
theorem gwagg26 : ∀ w, (isAgg 26).run Tryz.prog w = .ok true w := fun _ => by kernel_rfl
theorem gwagg3 : ∀ w, (isAgg 3).run Tryz.prog w = .ok false w := fun _ => by kernel_rfl
theorem gwagg35 : ∀ w, (isAgg 35).run Tryz.prog w = .ok false w := fun _ => by kernel_rfl
theorem gwagg4 : ∀ w, (isAgg 4).run Tryz.prog w = .ok false w := fun _ => by kernel_rfl
theorem gwfld26_0 (g off : Nat) : ∀ w, (Instr.fieldAt 26 (.pointer (some ⟨g, off, none⟩)) 0).run Tryz.prog w = .ok (.pointer (some ⟨g, off + 0, none⟩)) w := fun _ => by kernel_rfl
theorem gwfld26_1 (g off : Nat) : ∀ w, (Instr.fieldAt 26 (.pointer (some ⟨g, off, none⟩)) 1).run Tryz.prog w = .ok (.pointer (some ⟨g, off + 1, none⟩)) w := fun _ => by kernel_rfl
theorem gwfld26_2 (g off : Nat) : ∀ w, (Instr.fieldAt 26 (.pointer (some ⟨g, off, none⟩)) 2).run Tryz.prog w = .ok (.pointer (some ⟨g, off + 2, none⟩)) w := fun _ => by kernel_rfl
theorem gwsiz26 : ∀ w, (sizeOf 26).run Tryz.prog w = .ok 3 w := fun _ => by kernel_rfl
theorem gwsiz35 : ∀ w, (sizeOf 35).run Tryz.prog w = .ok 1 w := fun _ => by kernel_rfl
theorem gwsiz4 : ∀ w, (sizeOf 4).run Tryz.prog w = .ok 1 w := fun _ => by kernel_rfl
set_option maxHeartbeats 4000000 in
set_option maxRecDepth 100000 in
theorem rTable_set (n : NN) (A1 : Option Addr) (c1 : Nat) (A2 : Option Addr) (c2 : Nat) (s : ByteArray) (N : Nat) (w : World) (hk : n.f0 = 1 ∧ ∀ r ∈ n.f1, 0 ≤ r.f0 ∧ r.f0 ≤ 255 ∧ 0 ≤ r.f1 ∧ r.f1 ≤ 255) (h1 : Kd.C k55 w A1 n.f1.length n.f1) (l1 : n.f1.length ≤ c1) (h2 : Kd.C k26 w A2 n.f2.length n.f2) (l2 : n.f2.length ≤ c2) (hN : N = s.size + 1) (hs : s.size ≤ 60) :
    Calls Tryz.prog 14 #[.agg #[.int .i64 n.f0, .slice A1 n.f1.length c1, .slice A2 n.f2.length c2], .string s] w fun e w' => ∃ Z_ S_ T_, e = .returned (.slice (some ⟨Z_.g, 0, none⟩) N Z_.c) ∧ Out w w' (fun _ => False) [Chunk.tab S_ Z_ N T_] ∧ ∀ x y, x < N → y < N → (T_ x y = true ↔ segM [n] (bytesOf s) x y = true) := by
 obtain ⟨hn, hb⟩ := hk
 refine gw_start (N := 177) (vs := [.agg #[J n.f0, .slice A1 n.f1.length c1, .slice A2 n.f2.length c2], .string s]) Tryz.func14 rfl rfl (by simp) fun a HF HO => ?_
 replace HO : Own w w [] := HO
 refine gR fun K1 hK1 => ?_
 refine gw_new HF HO (want_none rfl) rfl (by decide) (op_box rfl (HF.ev rfl)) ?_
 intro g2 _ w4 H5 O6; clear HF HO
 have O7 : Own w w4 [Bk g2 [J n.f0, .slice A1 n.f1.length c1, .slice A2 n.f2.length c2] 26] := O6
 clear O6
 refine V H5 (op_assign rfl (ev_c _ _)) ?_
 intro _ H9; clear H5
 refine gE hK1 ?_
 refine gw_seq fun K10 hK10 => ?_
 refine gR fun K11 hK11 => ?_
 refine V H9 (op_field (gwfld26_0 _ _) rfl (H9.ev rfl)) ?_
 intro _ H13; clear H9
 refine V H13 (op_load1 gwagg3 rfl (H13.ev rfl) (blk_at (O7.get 0 rfl) rfl)) ?_
 intro _ H15; clear H13
 refine V H15 (op_eqi rfl (H15.ev rfl) (ev_c _ _)) ?_
 intro _ H17; clear H15
 have H18 := H17.lit (b := true) (by rw [hn]; rfl)
 clear H17
 refine gE hK11 ?_
 refine gw_cond H18 rfl (fun hb19 => ?_) (fun hb19 => ?_)
 rotate_left
 ·
  cases hb19
 refine gR fun K20 hK20 => ?_
 refine V H18 (op_move rfl (H18.ev rfl)) ?_
 intro _ H22; clear H18
 refine V H22 (op_lens Tryz.underlying9 rfl (H22.ev rfl)) ?_
 intro _ H24; clear H22
 refine V H24 (op_add rfl (H24.ev rfl) (ev_c _ _) (by omega)) ?_
 intro _ H26; clear H24
 refine gw_call H26 (want_none rfl) rfl (by decide) (op_callL Tryz.func26 (by kernel_rfl) rfl rfl (ar_cons (H26.ev rfl) ar_nil)) (tnone_calls ((s.size : Int) + 1) N _ (by omega) (by omega) (by omega)) ?_
 rintro e30 w31 ⟨Z27, S28, rfl, hb32⟩
 refine ⟨_, rfl, fun _ H34 => ?_⟩
 have O35 := O7.fresh hb32
 clear H26 O7 hb32
 refine V H34 (op_assign rfl (H34.ev rfl)) ?_
 intro _ H38; clear H34
 refine gE hK20 ?_
 refine gw_seq fun K39 hK39 => ?_
 refine gR fun K40 hK40 => ?_
 refine V H38 (op_assign rfl (ev_c _ _)) ?_
 intro _ H42; clear H38
 refine gE hK40 ?_
 refine wp_block ?_
 refine gw_loop (fun m_ a_ w_ => ∃ (i : Int) (T1 : Nat → Nat → Bool), Fr 177 a_ [(6, J i), (1, .string s), (2, .pointer (some ⟨g2, 0, none⟩)), (4, .slice none 0 0), (5, .slice (some ⟨Z27.g, 0, none⟩) N Z27.c)] ∧ Own w w_ [Chunk.tab S28 Z27 N T1, Bk g2 [J n.f0, .slice A1 n.f1.length c1, .slice A2 n.f2.length c2] 26] ∧ (0 ≤ i ∧ i ≤ s.size) ∧ (setI n.f1 s T1 i.toNat) ∧ m_ = (N - i.toNat)) ((N - (0 : Int).toNat)) ?_ ?_
 ·
  refine ⟨0, (fun _ _ => false), (H42.pick (t := 6) rfl (H42.pick (t := 1) rfl (H42.pick (t := 2) rfl (H42.pick (t := 4) rfl (H42.pick (t := 5) rfl H42.nil))))), O35.sel [0, 1] (by decide), ?_, ?_, rfl⟩
  ·
   omega
  ·
   exact setI0 _ _
 ·
  rintro m44 _ w46 ⟨i, T1, H47, O48, hii, hT1, hm49⟩
  have hbt_ := bt_range s i
  refine gw_seq fun K50 hK50 => ?_
  refine gR fun K51 hK51 => ?_
  refine V H47 (op_move rfl (H47.ev rfl)) ?_
  intro _ H53; clear H47
  refine V H53 (op_move rfl (H53.ev rfl)) ?_
  intro _ H55; clear H53
  refine V H55 (op_lens Tryz.underlying9 rfl (H55.ev rfl)) ?_
  intro _ H57; clear H55
  refine V H57 (op_lss rfl (H57.ev rfl) (H57.ev rfl)) ?_
  intro _ H59; clear H57
  refine gE hK51 ?_
  refine gw_cond H59 rfl (fun hb60 => ?_) (fun hb60 => ?_)
  ·
   have H61 := H59.subst_ (d := 24) (b := true) rfl hb60
   clear H59
   (try simp only [decide_eq_true_eq] at hb60)
   refine wp_skip ?_
   refine gw_nx (hK50 _ _ ?_)
   refine gw_seq fun K62 hK62 => ?_
   refine wp_block ?_
   refine gx_draw (M := [Chunk.tab S28 Z27 N T1, Bk g2 [J n.f0, .slice A1 n.f1.length c1, .slice A2 n.f2.length c2] 26]) (fun j_ => j_ == 14) O48 (by kernel_rfl) fun w63 O64 => ?_
   clear O48
   refine gx_take 0 rfl (by kernel_rfl) H61 (by exact O64.sel [0, 1] (by decide)) (want_none rfl) rfl (by decide) (fun wq HO => (op_move rfl (H61.ev rfl))) ?_
   intro _ H66; clear H61
   refine gx_take 1 rfl (by kernel_rfl) H66 (by exact O64.sel [0, 1] (by decide)) (want_none rfl) rfl (by decide) (fun wq HO => (op_move rfl (H66.ev rfl))) ?_
   intro _ H68; clear H66
   refine gx_take 2 rfl (by kernel_rfl) H68 (by exact O64.sel [0, 1] (by decide)) (want_none rfl) rfl (by decide) (fun wq HO => (op_index Tryz.underlying36 gwsiz35 rfl (H68.ev rfl) (H68.ev rfl) rfl (⟨by omega, by omega⟩))) ?_
   intro _ H73; clear H68
   refine gx_take 3 rfl (by kernel_rfl) H73 (by exact O64.sel [0, 1] (by decide)) (want_none rfl) rfl (by decide) (fun wq HO => (op_load1 gwagg35 rfl (H73.ev rfl) (tab_row (HO.get 0 rfl) i (by omega) (by omega)))) ?_
   intro _ H75; clear H73
   refine gx_take 4 rfl (by kernel_rfl) H75 (by exact O64.sel [0, 1] (by decide)) (want_none rfl) rfl (by decide) (fun wq HO => (op_move rfl (H75.ev rfl))) ?_
   intro _ H77; clear H75
   refine gx_take 5 rfl (by kernel_rfl) H77 (by exact O64.sel [0, 1] (by decide)) (want_none rfl) rfl (by decide) (fun wq HO => (op_add rfl (H77.ev rfl) (ev_c _ _) (by omega))) ?_
   intro _ H79; clear H77
   refine gx_take 6 rfl (by kernel_rfl) H79 (by exact O64.sel [0, 1] (by decide)) (want_none rfl) rfl (by decide) (fun wq HO => (op_field (gwfld26_1 _ _) rfl (H79.ev rfl))) ?_
   intro _ H81; clear H79
   refine gx_take 7 rfl (by kernel_rfl) H81 (by exact O64.sel [0, 1] (by decide)) (want_none rfl) rfl (by decide) (fun wq HO => (op_load1 gwagg23 rfl (H81.ev rfl) (blk_at (HO.get 1 rfl) rfl))) ?_
   intro _ H83; clear H81
   refine gx_take 8 rfl (by kernel_rfl) H83 (by exact O64.sel [0, 1] (by decide)) (want_none rfl) rfl (by decide) (fun wq HO => (op_move rfl (H83.ev rfl))) ?_
   intro _ H85; clear H83
   refine gx_take 9 rfl (by kernel_rfl) H85 (by exact O64.sel [0, 1] (by decide)) (want_none rfl) rfl (by decide) (fun wq HO => (op_move rfl (H85.ev rfl))) ?_
   intro _ H87; clear H85
   refine gx_take 10 rfl (by kernel_rfl) H87 (by exact O64.sel [0, 1] (by decide)) (want_none rfl) rfl (by decide) (fun wq HO => (op_sidx Tryz.underlying9 rfl (H87.ev rfl) (H87.ev rfl) ⟨by omega, by omega⟩)) ?_
   intro _ H89; clear H87
   refine gx_take 11 rfl (by kernel_rfl) H89 (by exact O64.sel [0, 1] (by decide)) (want_none rfl) rfl (by decide) (fun wq HO => (op_conv_inb Tryz.underlying5 Tryz.underlying3 rfl (H89.ev rfl) (by omega))) ?_
   intro _ H91; clear H89
   refine gx_step 12 rfl (by kernel_rfl) ?_
   refine gw_call H91 (want_none rfl) rfl (by decide) (op_callL Tryz.func27 (by kernel_rfl) rfl rfl (ar_cons (H91.ev rfl) (ar_cons (H91.ev rfl) ar_nil))) (rIn_walk A1 c1 n.f1 (bt s i) _ (Kd.C_below h1 O64.below) l1 hb) ?_
   rintro e92 w93 ⟨rfl, hb94⟩
   refine ⟨_, rfl, fun _ H96 => ?_⟩
   have O97 := O64.after hb94
   clear H91 O64 hb94
   refine gx_on (i := 12) (B := (fun j_ => j_ == 14)) (fun _ => (by exact O97.sel [0, 1] (by decide))) ?_
   refine gx_take 13 rfl (by kernel_rfl) H96 (by exact O97.sel [0, 1] (by decide)) (want_none rfl) rfl (by decide) (fun wq HO => (op_index Tryz.underlying35 gwsiz4 rfl (H96.ev rfl) (H96.ev rfl) rfl (⟨by omega, by omega⟩))) ?_
   intro _ H103; clear H96
   refine gx_step 14 rfl (by kernel_rfl) ?_
   refine gw_tab (it := i) (jt := (i + 1)) 0 H103 O97 rfl (want_none rfl) rfl gwsiz4 (by omega) (by omega) (by omega) (by omega) rfl (H103.ev rfl) (H103.ev rfl) ?_
   intro _ w106 H105 O107; clear H103 O97
   have O108 : Own w w106 [Chunk.tab S28 Z27 N (tset T1 i.toNat (i + 1).toNat (inR n.f1 (bt s i))), Bk g2 [J n.f0, .slice A1 n.f1.length c1, .slice A2 n.f2.length c2] 26] := O107
   clear O107
   refine gx_on (i := 14) (B := (fun j_ => j_ == 14)) (fun h_ => by cases h_) ?_
   refine gx_done (by kernel_rfl) ?_
   refine gw_blk ?_
   refine gw_nx (hK62 _ _ ?_)
   refine wp_region_lit ?_
   refine V H105 (op_move rfl (H105.ev rfl)) ?_
   intro _ H110; clear H105
   refine V H110 (op_add rfl (H110.ev rfl) (ev_c _ _) (by omega)) ?_
   intro _ H112; clear H110
   refine V H112 (op_assign rfl (H112.ev rfl)) ?_
   intro _ H114; clear H112
   refine wpList_nil ?_
   refine gw_nx ⟨_, ?_, i + 1, tset T1 i.toNat (i + 1).toNat (inR n.f1 (bt s i)), (H114.pick (t := 6) rfl (H114.pick (t := 1) rfl (H114.pick (t := 2) rfl (H114.pick (t := 4) rfl (H114.pick (t := 5) rfl H114.nil))))), O108.sel [0, 1] (by decide), ?_, ?_, rfl⟩
   ·
    rw [hm49]; omega
   ·
    omega
   ·
    rw [show (i + 1).toNat = i.toNat + 1 by omega]; rw [bt_getD]; exact setI_step hT1
  ·
   have H115 := H59.subst_ (d := 24) (b := false) rfl hb60
   clear H59
   (try simp only [decide_eq_false_iff_not, Int.not_lt] at hb60)
   refine wp_exit ?_
   refine gw_thx ?_
   refine gw_thx ?_
   refine gw_in ?_
   refine gw_nx (hK39 _ _ ?_)
   refine gR fun K116 hK116 => ?_
   refine V H115 (op_move rfl (H115.ev rfl)) ?_
   intro _ H118; clear H115
   refine V H118 (op_assign rfl (H118.ev rfl)) ?_
   intro _ H120; clear H118
   refine gE hK116 ?_
   refine wp_ret ?_
   refine gw_thr ?_
   refine gw_ret1 H120 rfl rfl ?_
   have hT2 : setI n.f1 s T1 s.size := by rw [show i.toNat = s.size by omega] at hT1; exact hT1
   exact ⟨_, _, _, rfl, (O48.sel [0] (by decide)).out, fun x y hx hy => setI_end hn hT2 x y (by omega) (by omega)⟩
set_option maxHeartbeats 4000000 in
set_option maxRecDepth 100000 in
theorem rTable_star (A1 : Option Addr) (c1 : Nat) (A2 : Option Addr) (c2 : Nat) (s : ByteArray) (N : Nat) (w : World) (h2 : Kd.C k26 w A2 1 [allN]) (l2 : 1 ≤ c2) (hN : N = s.size + 1) (hs : s.size ≤ 60) :
    Calls Tryz.prog 14 #[.agg #[.int .i64 4, .slice A1 0 c1, .slice A2 1 c2], .string s] w fun e w' => ∃ Z_ S_ T_, e = .returned (.slice (some ⟨Z_.g, 0, none⟩) N Z_.c) ∧ Out w w' (fun _ => False) [Chunk.tab S_ Z_ N T_] ∧ ∀ x y, x < N → y < N → (T_ x y = true ↔ segM [starN] (bytesOf s) x y = true) := by
 refine gw_start (N := 177) (vs := [.agg #[J 4, .slice A1 0 c1, .slice A2 1 c2], .string s]) Tryz.func14 rfl rfl (by simp) fun a HF HO => ?_
 replace HO : Own w w [] := HO
 refine gR fun K1 hK1 => ?_
 refine gw_new HF HO (want_none rfl) rfl (by decide) (op_box rfl (HF.ev rfl)) ?_
 intro g2 _ w4 H5 O6; clear HF HO
 have O7 : Own w w4 [Bk g2 [J 4, .slice A1 0 c1, .slice A2 1 c2] 26] := O6
 clear O6
 refine V H5 (op_assign rfl (ev_c _ _)) ?_
 intro _ H9; clear H5
 refine gE hK1 ?_
 refine gw_seq fun K10 hK10 => ?_
 refine gR fun K11 hK11 => ?_
 refine V H9 (op_field (gwfld26_0 _ _) rfl (H9.ev rfl)) ?_
 intro _ H13; clear H9
 refine V H13 (op_load1 gwagg3 rfl (H13.ev rfl) (blk_at (O7.get 0 rfl) rfl)) ?_
 intro _ H15; clear H13
 refine V H15 (op_eqi rfl (H15.ev rfl) (ev_c _ _)) ?_
 intro _ H17; clear H15
 have H18 := H17.lit (b := false) (by decide)
 clear H17
 refine gE hK11 ?_
 refine gw_cond H18 rfl (fun hb19 => ?_) (fun hb19 => ?_)
 skip
 ·
  cases hb19
 refine wp_skip ?_
 refine gw_nx (hK10 _ _ ?_)
 refine gw_seq fun K20 hK20 => ?_
 refine gR fun K21 hK21 => ?_
 refine V H18 (op_field (gwfld26_0 _ _) rfl (H18.ev rfl)) ?_
 intro _ H23; clear H18
 refine V H23 (op_load1 gwagg3 rfl (H23.ev rfl) (blk_at (O7.get 0 rfl) rfl)) ?_
 intro _ H25; clear H23
 refine V H25 (op_eqi rfl (H25.ev rfl) (ev_c _ _)) ?_
 intro _ H27; clear H25
 have H28 := H27.lit (b := false) (by decide)
 clear H27
 refine V H28 (op_move rfl (H28.ev rfl)) ?_
 intro _ H30; clear H28
 refine V2 H30 (want_yes H30 rfl rfl rfl rfl) (op_field (gwfld26_0 _ _) rfl (H30.ev rfl)) ?_
 intro _ H32; clear H30
 refine V2 H32 (want_yes H32 rfl rfl rfl rfl) (op_load1 gwagg3 rfl (H32.ev rfl) (blk_at (O7.get 0 rfl) rfl)) ?_
 intro _ H34; clear H32
 refine V2 H34 (want_yes H34 rfl rfl rfl rfl) (op_eqi rfl (H34.ev rfl) (ev_c _ _)) ?_
 intro _ H36; clear H34
 have H37 := H36.lit (b := false) (by decide)
 clear H36
 refine V H37 (op_pick_f rfl (H37.ev rfl) (H37.ev rfl)) ?_
 intro _ H39; clear H37
 refine gE hK21 ?_
 refine gw_cond H39 rfl (fun hb40 => ?_) (fun hb40 => ?_)
 skip
 ·
  cases hb40
 refine wp_skip ?_
 refine gw_nx (hK20 _ _ ?_)
 refine gw_seq fun K41 hK41 => ?_
 refine gR fun K42 hK42 => ?_
 refine V H39 (op_field (gwfld26_0 _ _) rfl (H39.ev rfl)) ?_
 intro _ H44; clear H39
 refine V H44 (op_load1 gwagg3 rfl (H44.ev rfl) (blk_at (O7.get 0 rfl) rfl)) ?_
 intro _ H46; clear H44
 refine V H46 (op_lss rfl (H46.ev rfl) (ev_c _ _)) ?_
 intro _ H48; clear H46
 have H49 := H48.lit (b := false) (by decide)
 clear H48
 refine V H49 (op_move rfl (H49.ev rfl)) ?_
 intro _ H51; clear H49
 refine V2 H51 (want_yes H51 rfl rfl rfl rfl) (op_field (gwfld26_0 _ _) rfl (H51.ev rfl)) ?_
 intro _ H53; clear H51
 refine V2 H53 (want_yes H53 rfl rfl rfl rfl) (op_load1 gwagg3 rfl (H53.ev rfl) (blk_at (O7.get 0 rfl) rfl)) ?_
 intro _ H55; clear H53
 refine V2 H55 (want_yes H55 rfl rfl rfl rfl) (op_gtr rfl (H55.ev rfl) (ev_c _ _)) ?_
 intro _ H57; clear H55
 have H58 := H57.lit (b := false) (by decide)
 clear H57
 refine V H58 (op_pick_f rfl (H58.ev rfl) (H58.ev rfl)) ?_
 intro _ H60; clear H58
 refine V H60 (op_move rfl (H60.ev rfl)) ?_
 intro _ H62; clear H60
 refine V2 H62 (want_yes H62 rfl rfl rfl rfl) (op_field (gwfld26_2 _ _) rfl (H62.ev rfl)) ?_
 intro _ H64; clear H62
 refine V2 H64 (want_yes H64 rfl rfl rfl rfl) (op_load1 gwagg24 rfl (H64.ev rfl) (blk_at (O7.get 0 rfl) rfl)) ?_
 intro _ H66; clear H64
 refine V2 H66 (want_yes H66 rfl rfl rfl rfl) (op_len Tryz.underlying24 rfl (H66.ev rfl)) ?_
 intro _ H68; clear H66
 refine V2 H68 (want_yes H68 rfl rfl rfl rfl) (op_eqi rfl (H68.ev rfl) (ev_c _ _)) ?_
 intro _ H70; clear H68
 have H71 := H70.lit (b := false) (by decide)
 clear H70
 refine V H71 (op_pick_f rfl (H71.ev rfl) (H71.ev rfl)) ?_
 intro _ H73; clear H71
 refine gE hK42 ?_
 refine gw_cond H73 rfl (fun hb74 => ?_) (fun hb74 => ?_)
 skip
 ·
  cases hb74
 refine wp_skip ?_
 refine gw_nx (hK41 _ _ ?_)
 refine gR fun K75 hK75 => ?_
 refine V H73 (op_field (gwfld26_2 _ _) rfl (H73.ev rfl)) ?_
 intro _ H77; clear H73
 refine V H77 (op_load1 gwagg24 rfl (H77.ev rfl) (blk_at (O7.get 0 rfl) rfl)) ?_
 intro _ H79; clear H77
 obtain ⟨ad80, cs83, hA81, hl84, hK85, hc82⟩ := Kd.C_get h2 z26 0 (by decide) (by decide)
 obtain ⟨A86, c87, A90, c91, rfl, hl88, hC89, hl92, hC93⟩ := k26_open hK85
 clear hl84
 refine V H79 (op_index Tryz.underlying24 gwsiz26 rfl (H79.ev rfl) (ev_c _ _) hA81 (⟨by decide, by decide⟩)) ?_
 intro _ H95; clear H79
 refine V H95 (op_loadc gwagg26 gwsiz26 rfl (H95.ev rfl) rfl (cells0 O7 hc82)) ?_
 intro _ H97; clear H95
 refine V H97 (op_move rfl (H97.ev rfl)) ?_
 intro _ H99; clear H97
 refine gw_call H99 (want_none rfl) rfl (by decide) (op_callL Tryz.func14 (by kernel_rfl) rfl rfl (ar_cons (H99.ev rfl) (ar_cons (H99.ev rfl) ar_nil))) (rTable_set (([allN]).getD (0 : Int).toNat z26) A86 c87 A90 c91 s N _ all_in (Kd.C_below hC89 O7.below) hl88 (Kd.C_below hC93 O7.below) hl92 hN hs) ?_
 rintro e105 w106 ⟨Z100, S101, T102, rfl, hb107, hT103⟩
 refine ⟨_, rfl, fun _ H109 => ?_⟩
 have O110 := O7.fresh hb107
 clear H99 O7 hb107
 have hT0 := allN_step (fun x y hx hy => hT103 x y (by omega) (by omega))
 refine V H109 (op_assign rfl (H109.ev rfl)) ?_
 intro _ H113; clear H109
 refine gE hK75 ?_
 refine gw_seq fun K114 hK114 => ?_
 refine gR fun K115 hK115 => ?_
 refine V H113 (op_field (gwfld26_0 _ _) rfl (H113.ev rfl)) ?_
 intro _ H117; clear H113
 refine V H117 (op_load1 gwagg3 rfl (H117.ev rfl) (blk_at (O110.get 1 rfl) rfl)) ?_
 intro _ H119; clear H117
 refine V H119 (op_eqi rfl (H119.ev rfl) (ev_c _ _)) ?_
 intro _ H121; clear H119
 have H122 := H121.lit (b := false) (by decide)
 clear H121
 refine gE hK115 ?_
 refine gw_cond H122 rfl (fun hb123 => ?_) (fun hb123 => ?_)
 skip
 ·
  cases hb123
 refine wp_skip ?_
 refine gw_nx (hK114 _ _ ?_)
 refine gw_seq fun K124 hK124 => ?_
 refine gR fun K125 hK125 => ?_
 refine V H122 (op_assign rfl (ev_c _ _)) ?_
 intro _ H127; clear H122
 refine gE hK125 ?_
 refine wp_block ?_
 refine gw_loop (fun m_ a_ w_ => ∃ (k : Int) (T1 : Nat → Nat → Bool), Fr 177 a_ [(11, J k), (1, .string s), (2, .pointer (some ⟨g2, 0, none⟩)), (4, .slice none 0 0), (10, .slice (some ⟨Z100.g, 0, none⟩) N Z100.c)] ∧ Own w w_ [Chunk.tab S101 Z100 N T1, Bk g2 [J 4, .slice A1 0 c1, .slice A2 1 c2] 26] ∧ (0 ≤ k ∧ k ≤ N) ∧ (warI N T1 k.toNat 0 0) ∧ m_ = (N - k.toNat)) ((N - (0 : Int).toNat)) ?_ ?_
 ·
  refine ⟨0, T102, (H127.pick (t := 11) rfl (H127.pick (t := 1) rfl (H127.pick (t := 2) rfl (H127.pick (t := 4) rfl (H127.pick (t := 10) rfl H127.nil))))), O110.sel [0, 1] (by decide), ?_, ?_, rfl⟩
  ·
   omega
  ·
   exact warI0 (fun x y hx hy => hT0 x y (by omega) (by omega))
 ·
  rintro m129 _ w131 ⟨k, T1, H132, O133, hik, hT1, hm134⟩
  refine gw_seq fun K135 hK135 => ?_
  refine gR fun K136 hK136 => ?_
  refine V H132 (op_move rfl (H132.ev rfl)) ?_
  intro _ H138; clear H132
  refine V H138 (op_move rfl (H138.ev rfl)) ?_
  intro _ H140; clear H138
  refine V H140 (op_len Tryz.underlying36 rfl (H140.ev rfl)) ?_
  intro _ H142; clear H140
  refine V H142 (op_lss rfl (H142.ev rfl) (H142.ev rfl)) ?_
  intro _ H144; clear H142
  refine gE hK136 ?_
  refine gw_cond H144 rfl (fun hb145 => ?_) (fun hb145 => ?_)
  ·
   have H146 := H144.subst_ (d := 121) (b := true) rfl hb145
   clear H144
   (try simp only [decide_eq_true_eq] at hb145)
   refine wp_skip ?_
   refine gw_nx (hK135 _ _ ?_)
   refine gw_seq fun K147 hK147 => ?_
   refine wp_block ?_
   refine gR fun K148 hK148 => ?_
   refine V H146 (op_assign rfl (ev_c _ _)) ?_
   intro _ H150; clear H146
   refine gE hK148 ?_
   refine wp_block ?_
   refine gw_loop (fun m_ a_ w_ => ∃ (i : Int) (T2 : Nat → Nat → Bool), Fr 177 a_ [(12, J i), (11, J k), (1, .string s), (2, .pointer (some ⟨g2, 0, none⟩)), (4, .slice none 0 0), (10, .slice (some ⟨Z100.g, 0, none⟩) N Z100.c), (118, J k), (119, .slice (some ⟨Z100.g, 0, none⟩) N Z100.c), (120, J (N : Int)), (121, .bool true)] ∧ Own w w_ [Chunk.tab S101 Z100 N T2, Bk g2 [J 4, .slice A1 0 c1, .slice A2 1 c2] 26] ∧ (0 ≤ i ∧ i ≤ N) ∧ (warI N T2 k.toNat i.toNat 0) ∧ m_ = (N - i.toNat)) ((N - (0 : Int).toNat)) ?_ ?_
   ·
    refine ⟨0, T1, (H150.pick (t := 12) rfl (H150.pick (t := 11) rfl (H150.pick (t := 1) rfl (H150.pick (t := 2) rfl (H150.pick (t := 4) rfl (H150.pick (t := 10) rfl (H150.pick (t := 118) rfl (H150.pick (t := 119) rfl (H150.pick (t := 120) rfl (H150.pick (t := 121) rfl H150.nil)))))))))), O133.sel [0, 1] (by decide), ?_, ?_, rfl⟩
    ·
     omega
    ·
     exact hT1
   ·
    rintro m152 _ w154 ⟨i, T2, H155, O156, hii, hT2, hm157⟩
    refine gw_seq fun K158 hK158 => ?_
    refine gR fun K159 hK159 => ?_
    refine V H155 (op_move rfl (H155.ev rfl)) ?_
    intro _ H161; clear H155
    refine V H161 (op_move rfl (H161.ev rfl)) ?_
    intro _ H163; clear H161
    refine V H163 (op_len Tryz.underlying36 rfl (H163.ev rfl)) ?_
    intro _ H165; clear H163
    refine V H165 (op_lss rfl (H165.ev rfl) (H165.ev rfl)) ?_
    intro _ H167; clear H165
    refine gE hK159 ?_
    refine gw_cond H167 rfl (fun hb168 => ?_) (fun hb168 => ?_)
    ·
     have H169 := H167.subst_ (d := 127) (b := true) rfl hb168
     clear H167
     (try simp only [decide_eq_true_eq] at hb168)
     refine wp_skip ?_
     refine gw_nx (hK158 _ _ ?_)
     refine gw_seq fun K170 hK170 => ?_
     refine wp_block ?_
     refine gR fun K171 hK171 => ?_
     refine V H169 (op_assign rfl (ev_c _ _)) ?_
     intro _ H173; clear H169
     refine gE hK171 ?_
     refine wp_block ?_
     refine gw_loop (fun m_ a_ w_ => ∃ (j : Int) (T3 : Nat → Nat → Bool), Fr 177 a_ [(13, J j), (12, J i), (11, J k), (1, .string s), (2, .pointer (some ⟨g2, 0, none⟩)), (4, .slice none 0 0), (10, .slice (some ⟨Z100.g, 0, none⟩) N Z100.c), (118, J k), (119, .slice (some ⟨Z100.g, 0, none⟩) N Z100.c), (120, J (N : Int)), (121, .bool true), (124, J i), (125, .slice (some ⟨Z100.g, 0, none⟩) N Z100.c), (126, J (N : Int)), (127, .bool true)] ∧ Own w w_ [Chunk.tab S101 Z100 N T3, Bk g2 [J 4, .slice A1 0 c1, .slice A2 1 c2] 26] ∧ (0 ≤ j ∧ j ≤ N) ∧ (warI N T3 k.toNat i.toNat j.toNat) ∧ m_ = (N - j.toNat)) ((N - (0 : Int).toNat)) ?_ ?_
     ·
      refine ⟨0, T2, (H173.pick (t := 13) rfl (H173.pick (t := 12) rfl (H173.pick (t := 11) rfl (H173.pick (t := 1) rfl (H173.pick (t := 2) rfl (H173.pick (t := 4) rfl (H173.pick (t := 10) rfl (H173.pick (t := 118) rfl (H173.pick (t := 119) rfl (H173.pick (t := 120) rfl (H173.pick (t := 121) rfl (H173.pick (t := 124) rfl (H173.pick (t := 125) rfl (H173.pick (t := 126) rfl (H173.pick (t := 127) rfl H173.nil))))))))))))))), O156.sel [0, 1] (by decide), ?_, ?_, rfl⟩
      ·
       omega
      ·
       exact hT2
     ·
      rintro m175 _ w177 ⟨j, T3, H178, O179, hij, hT3, hm180⟩
      refine gw_seq fun K181 hK181 => ?_
      refine gR fun K182 hK182 => ?_
      refine V H178 (op_move rfl (H178.ev rfl)) ?_
      intro _ H184; clear H178
      refine V H184 (op_move rfl (H184.ev rfl)) ?_
      intro _ H186; clear H184
      refine V H186 (op_len Tryz.underlying36 rfl (H186.ev rfl)) ?_
      intro _ H188; clear H186
      refine V H188 (op_lss rfl (H188.ev rfl) (H188.ev rfl)) ?_
      intro _ H190; clear H188
      refine V H190 (op_move rfl (H190.ev rfl)) ?_
      intro _ H192; clear H190
      refine gw_evG H192 rfl rfl rfl rfl (on_t _) rfl (by decide) (fun h_ => (op_move rfl (H192.ev rfl))) ?_
      intro _ H194; clear H192
      refine gw_evG H194 rfl rfl rfl rfl (on_t _) rfl (by decide) (fun h_ => (op_move rfl (H194.ev rfl))) ?_
      intro _ H196; clear H194
      refine gw_evG H196 rfl rfl rfl rfl (on_t _) rfl (by decide) (fun h_ => (op_index Tryz.underlying36 gwsiz35 rfl (ev_gv (H196.ev rfl) h_) (ev_gv (H196.ev rfl) h_) rfl (⟨by (try simp only [Bool.and_eq_true, Bool.or_eq_true, Bool.and_eq_false_iff, Bool.or_eq_false_iff, Bool.not_and, Bool.not_or, Bool.not_not, decide_eq_true_eq, decide_eq_false_iff_not, Bool.not_eq_true', Bool.not_eq_false', Bool.not_eq_true, Bool.not_eq_false, ne_eq, Decidable.not_not, Int.not_lt, Int.not_le, not_true_eq_false, not_false_eq_true, bne_iff_ne, beq_iff_eq, bne_eq_false_iff_eq, beq_eq_false_iff_ne] at h_); omega, by (try simp only [Bool.and_eq_true, Bool.or_eq_true, Bool.and_eq_false_iff, Bool.or_eq_false_iff, Bool.not_and, Bool.not_or, Bool.not_not, decide_eq_true_eq, decide_eq_false_iff_not, Bool.not_eq_true', Bool.not_eq_false', Bool.not_eq_true, Bool.not_eq_false, ne_eq, Decidable.not_not, Int.not_lt, Int.not_le, not_true_eq_false, not_false_eq_true, bne_iff_ne, beq_iff_eq, bne_eq_false_iff_eq, beq_eq_false_iff_ne] at h_); omega⟩))) ?_
      intro _ H201; clear H196
      refine gw_evG H201 rfl rfl rfl rfl (on_t _) rfl (by decide) (fun h_ => (op_load1 gwagg35 rfl (ev_gv (H201.ev rfl) h_) (tab_row (O179.get 0 rfl) i (by (try simp only [Bool.and_eq_true, Bool.or_eq_true, Bool.and_eq_false_iff, Bool.or_eq_false_iff, Bool.not_and, Bool.not_or, Bool.not_not, decide_eq_true_eq, decide_eq_false_iff_not, Bool.not_eq_true', Bool.not_eq_false', Bool.not_eq_true, Bool.not_eq_false, ne_eq, Decidable.not_not, Int.not_lt, Int.not_le, not_true_eq_false, not_false_eq_true, bne_iff_ne, beq_iff_eq, bne_eq_false_iff_eq, beq_eq_false_iff_ne] at h_); omega) (by (try simp only [Bool.and_eq_true, Bool.or_eq_true, Bool.and_eq_false_iff, Bool.or_eq_false_iff, Bool.not_and, Bool.not_or, Bool.not_not, decide_eq_true_eq, decide_eq_false_iff_not, Bool.not_eq_true', Bool.not_eq_false', Bool.not_eq_true, Bool.not_eq_false, ne_eq, Decidable.not_not, Int.not_lt, Int.not_le, not_true_eq_false, not_false_eq_true, bne_iff_ne, beq_iff_eq, bne_eq_false_iff_eq, beq_eq_false_iff_ne] at h_); omega)))) ?_
      intro _ H203; clear H201
      refine gw_evG H203 rfl rfl rfl rfl (on_t _) rfl (by decide) (fun h_ => (op_move rfl (H203.ev rfl))) ?_
      intro _ H205; clear H203
      refine gw_evG H205 rfl rfl rfl rfl (on_t _) rfl (by decide) (fun h_ => (op_index Tryz.underlying35 gwsiz4 rfl (ev_gv (H205.ev rfl) h_) (ev_gv (H205.ev rfl) h_) rfl (⟨by (try simp only [Bool.and_eq_true, Bool.or_eq_true, Bool.and_eq_false_iff, Bool.or_eq_false_iff, Bool.not_and, Bool.not_or, Bool.not_not, decide_eq_true_eq, decide_eq_false_iff_not, Bool.not_eq_true', Bool.not_eq_false', Bool.not_eq_true, Bool.not_eq_false, ne_eq, Decidable.not_not, Int.not_lt, Int.not_le, not_true_eq_false, not_false_eq_true, bne_iff_ne, beq_iff_eq, bne_eq_false_iff_eq, beq_eq_false_iff_ne] at h_); omega, by (try simp only [Bool.and_eq_true, Bool.or_eq_true, Bool.and_eq_false_iff, Bool.or_eq_false_iff, Bool.not_and, Bool.not_or, Bool.not_not, decide_eq_true_eq, decide_eq_false_iff_not, Bool.not_eq_true', Bool.not_eq_false', Bool.not_eq_true, Bool.not_eq_false, ne_eq, Decidable.not_not, Int.not_lt, Int.not_le, not_true_eq_false, not_false_eq_true, bne_iff_ne, beq_iff_eq, bne_eq_false_iff_eq, beq_eq_false_iff_ne] at h_); omega⟩))) ?_
      intro _ H210; clear H205
      refine gw_evG H210 rfl rfl rfl rfl (on_t _) rfl (by decide) (fun h_ => (op_load1 gwagg4 rfl (ev_gv (H210.ev rfl) h_) (tab_cell (O179.get 0 rfl) i k (by (try simp only [Bool.and_eq_true, Bool.or_eq_true, Bool.and_eq_false_iff, Bool.or_eq_false_iff, Bool.not_and, Bool.not_or, Bool.not_not, decide_eq_true_eq, decide_eq_false_iff_not, Bool.not_eq_true', Bool.not_eq_false', Bool.not_eq_true, Bool.not_eq_false, ne_eq, Decidable.not_not, Int.not_lt, Int.not_le, not_true_eq_false, not_false_eq_true, bne_iff_ne, beq_iff_eq, bne_eq_false_iff_eq, beq_eq_false_iff_ne] at h_); omega) (by (try simp only [Bool.and_eq_true, Bool.or_eq_true, Bool.and_eq_false_iff, Bool.or_eq_false_iff, Bool.not_and, Bool.not_or, Bool.not_not, decide_eq_true_eq, decide_eq_false_iff_not, Bool.not_eq_true', Bool.not_eq_false', Bool.not_eq_true, Bool.not_eq_false, ne_eq, Decidable.not_not, Int.not_lt, Int.not_le, not_true_eq_false, not_false_eq_true, bne_iff_ne, beq_iff_eq, bne_eq_false_iff_eq, beq_eq_false_iff_ne] at h_); omega) (by (try simp only [Bool.and_eq_true, Bool.or_eq_true, Bool.and_eq_false_iff, Bool.or_eq_false_iff, Bool.not_and, Bool.not_or, Bool.not_not, decide_eq_true_eq, decide_eq_false_iff_not, Bool.not_eq_true', Bool.not_eq_false', Bool.not_eq_true, Bool.not_eq_false, ne_eq, Decidable.not_not, Int.not_lt, Int.not_le, not_true_eq_false, not_false_eq_true, bne_iff_ne, beq_iff_eq, bne_eq_false_iff_eq, beq_eq_false_iff_ne] at h_); omega) (by (try simp only [Bool.and_eq_true, Bool.or_eq_true, Bool.and_eq_false_iff, Bool.or_eq_false_iff, Bool.not_and, Bool.not_or, Bool.not_not, decide_eq_true_eq, decide_eq_false_iff_not, Bool.not_eq_true', Bool.not_eq_false', Bool.not_eq_true, Bool.not_eq_false, ne_eq, Decidable.not_not, Int.not_lt, Int.not_le, not_true_eq_false, not_false_eq_true, bne_iff_ne, beq_iff_eq, bne_eq_false_iff_eq, beq_eq_false_iff_ne] at h_); omega)))) ?_
      intro _ H212; clear H210
      refine V H212 (op_pick_and rfl (H212.ev rfl) (fun hp_ => (ev_gv (H212.ev rfl) hp_)) (ev_c _ _)) ?_
      intro _ H214; clear H212
      refine gE hK182 ?_
      refine gw_cond H214 rfl (fun hb215 => ?_) (fun hb215 => ?_)
      ·
       have H216 := H214.subst_ (d := 142) (b := true) rfl hb215
       clear H214
       (try simp only [Bool.and_eq_true, Bool.and_eq_false_iff, decide_eq_true_eq, decide_eq_false_iff_not, Int.not_lt] at hb215)
       have hx := hb215
       refine wp_skip ?_
       refine gw_nx (hK181 _ _ ?_)
       refine gw_seq fun K217 hK217 => ?_
       refine wp_block ?_
       refine gx_draw (M := [Chunk.tab S101 Z100 N T3, Bk g2 [J 4, .slice A1 0 c1, .slice A2 1 c2] 26]) (fun j_ => j_ == 22) O179 (by kernel_rfl) fun w218 O219 => ?_
       clear O179
       refine gx_take 0 rfl (by kernel_rfl) H216 (by exact O219.sel [0, 1] (by decide)) (want_none rfl) rfl (by decide) (fun wq HO => (op_move rfl (H216.ev rfl))) ?_
       intro _ H221; clear H216
       refine gx_take 1 rfl (by kernel_rfl) H221 (by exact O219.sel [0, 1] (by decide)) (want_none rfl) rfl (by decide) (fun wq HO => (op_move rfl (H221.ev rfl))) ?_
       intro _ H223; clear H221
       refine gx_take 2 rfl (by kernel_rfl) H223 (by exact O219.sel [0, 1] (by decide)) (want_none rfl) rfl (by decide) (fun wq HO => (op_index Tryz.underlying36 gwsiz35 rfl (H223.ev rfl) (H223.ev rfl) rfl (⟨by omega, by omega⟩))) ?_
       intro _ H228; clear H223
       refine gx_take 3 rfl (by kernel_rfl) H228 (by exact O219.sel [0, 1] (by decide)) (want_none rfl) rfl (by decide) (fun wq HO => (op_load1 gwagg35 rfl (H228.ev rfl) (tab_row (HO.get 0 rfl) i (by omega) (by omega)))) ?_
       intro _ H230; clear H228
       refine gx_take 4 rfl (by kernel_rfl) H230 (by exact O219.sel [0, 1] (by decide)) (want_none rfl) rfl (by decide) (fun wq HO => (op_move rfl (H230.ev rfl))) ?_
       intro _ H232; clear H230
       refine gx_take 5 rfl (by kernel_rfl) H232 (by exact O219.sel [0, 1] (by decide)) (want_none rfl) rfl (by decide) (fun wq HO => (op_move rfl (H232.ev rfl))) ?_
       intro _ H234; clear H232
       refine gx_take 6 rfl (by kernel_rfl) H234 (by exact O219.sel [0, 1] (by decide)) (want_none rfl) rfl (by decide) (fun wq HO => (op_move rfl (H234.ev rfl))) ?_
       intro _ H236; clear H234
       refine gx_take 7 rfl (by kernel_rfl) H236 (by exact O219.sel [0, 1] (by decide)) (want_none rfl) rfl (by decide) (fun wq HO => (op_index Tryz.underlying36 gwsiz35 rfl (H236.ev rfl) (H236.ev rfl) rfl (⟨by omega, by omega⟩))) ?_
       intro _ H241; clear H236
       refine gx_take 8 rfl (by kernel_rfl) H241 (by exact O219.sel [0, 1] (by decide)) (want_none rfl) rfl (by decide) (fun wq HO => (op_load1 gwagg35 rfl (H241.ev rfl) (tab_row (HO.get 0 rfl) i (by omega) (by omega)))) ?_
       intro _ H243; clear H241
       refine gx_take 9 rfl (by kernel_rfl) H243 (by exact O219.sel [0, 1] (by decide)) (want_none rfl) rfl (by decide) (fun wq HO => (op_move rfl (H243.ev rfl))) ?_
       intro _ H245; clear H243
       refine gx_take 10 rfl (by kernel_rfl) H245 (by exact O219.sel [0, 1] (by decide)) (want_none rfl) rfl (by decide) (fun wq HO => (op_index Tryz.underlying35 gwsiz4 rfl (H245.ev rfl) (H245.ev rfl) rfl (⟨by omega, by omega⟩))) ?_
       intro _ H250; clear H245
       refine gx_take 11 rfl (by kernel_rfl) H250 (by exact O219.sel [0, 1] (by decide)) (want_none rfl) rfl (by decide) (fun wq HO => (op_load1 gwagg4 rfl (H250.ev rfl) (tab_cell (HO.get 0 rfl) i j (by omega) (by omega) (by omega) (by omega)))) ?_
       intro _ H252; clear H250
       refine gx_take 12 rfl (by kernel_rfl) H252 (by exact O219.sel [0, 1] (by decide)) (want_none rfl) rfl (by decide) (fun wq HO => (op_move rfl (H252.ev rfl))) ?_
       intro _ H254; clear H252
       refine gx_takeG 13 rfl (by kernel_rfl) H254 (by exact O219.sel [0, 1] (by decide)) rfl rfl rfl rfl (on_f _) rfl (by decide) (fun h_ wq HO => (op_move rfl (H254.ev rfl))) ?_
       intro _ H256; clear H254
       refine gx_takeG 14 rfl (by kernel_rfl) H256 (by exact O219.sel [0, 1] (by decide)) rfl rfl rfl rfl (on_f _) rfl (by decide) (fun h_ wq HO => (op_move rfl (H256.ev rfl))) ?_
       intro _ H258; clear H256
       refine gx_takeG 15 rfl (by kernel_rfl) H258 (by exact O219.sel [0, 1] (by decide)) rfl rfl rfl rfl (on_f _) rfl (by decide) (fun h_ wq HO => (op_index Tryz.underlying36 gwsiz35 rfl (ev_gv (H258.ev rfl) h_) (ev_gv (H258.ev rfl) h_) rfl (⟨by (try simp only [Bool.and_eq_true, Bool.or_eq_true, Bool.and_eq_false_iff, Bool.or_eq_false_iff, Bool.not_and, Bool.not_or, Bool.not_not, decide_eq_true_eq, decide_eq_false_iff_not, Bool.not_eq_true', Bool.not_eq_false', Bool.not_eq_true, Bool.not_eq_false, ne_eq, Decidable.not_not, Int.not_lt, Int.not_le, not_true_eq_false, not_false_eq_true, bne_iff_ne, beq_iff_eq, bne_eq_false_iff_eq, beq_eq_false_iff_ne] at h_); omega, by (try simp only [Bool.and_eq_true, Bool.or_eq_true, Bool.and_eq_false_iff, Bool.or_eq_false_iff, Bool.not_and, Bool.not_or, Bool.not_not, decide_eq_true_eq, decide_eq_false_iff_not, Bool.not_eq_true', Bool.not_eq_false', Bool.not_eq_true, Bool.not_eq_false, ne_eq, Decidable.not_not, Int.not_lt, Int.not_le, not_true_eq_false, not_false_eq_true, bne_iff_ne, beq_iff_eq, bne_eq_false_iff_eq, beq_eq_false_iff_ne] at h_); omega⟩))) ?_
       intro _ H263; clear H258
       refine gx_takeG 16 rfl (by kernel_rfl) H263 (by exact O219.sel [0, 1] (by decide)) rfl rfl rfl rfl (on_f _) rfl (by decide) (fun h_ wq HO => (op_load1 gwagg35 rfl (ev_gv (H263.ev rfl) h_) (tab_row (HO.get 0 rfl) k (by (try simp only [Bool.and_eq_true, Bool.or_eq_true, Bool.and_eq_false_iff, Bool.or_eq_false_iff, Bool.not_and, Bool.not_or, Bool.not_not, decide_eq_true_eq, decide_eq_false_iff_not, Bool.not_eq_true', Bool.not_eq_false', Bool.not_eq_true, Bool.not_eq_false, ne_eq, Decidable.not_not, Int.not_lt, Int.not_le, not_true_eq_false, not_false_eq_true, bne_iff_ne, beq_iff_eq, bne_eq_false_iff_eq, beq_eq_false_iff_ne] at h_); omega) (by (try simp only [Bool.and_eq_true, Bool.or_eq_true, Bool.and_eq_false_iff, Bool.or_eq_false_iff, Bool.not_and, Bool.not_or, Bool.not_not, decide_eq_true_eq, decide_eq_false_iff_not, Bool.not_eq_true', Bool.not_eq_false', Bool.not_eq_true, Bool.not_eq_false, ne_eq, Decidable.not_not, Int.not_lt, Int.not_le, not_true_eq_false, not_false_eq_true, bne_iff_ne, beq_iff_eq, bne_eq_false_iff_eq, beq_eq_false_iff_ne] at h_); omega)))) ?_
       intro _ H265; clear H263
       refine gx_takeG 17 rfl (by kernel_rfl) H265 (by exact O219.sel [0, 1] (by decide)) rfl rfl rfl rfl (on_f _) rfl (by decide) (fun h_ wq HO => (op_move rfl (H265.ev rfl))) ?_
       intro _ H267; clear H265
       refine gx_takeG 18 rfl (by kernel_rfl) H267 (by exact O219.sel [0, 1] (by decide)) rfl rfl rfl rfl (on_f _) rfl (by decide) (fun h_ wq HO => (op_index Tryz.underlying35 gwsiz4 rfl (ev_gv (H267.ev rfl) h_) (ev_gv (H267.ev rfl) h_) rfl (⟨by (try simp only [Bool.and_eq_true, Bool.or_eq_true, Bool.and_eq_false_iff, Bool.or_eq_false_iff, Bool.not_and, Bool.not_or, Bool.not_not, decide_eq_true_eq, decide_eq_false_iff_not, Bool.not_eq_true', Bool.not_eq_false', Bool.not_eq_true, Bool.not_eq_false, ne_eq, Decidable.not_not, Int.not_lt, Int.not_le, not_true_eq_false, not_false_eq_true, bne_iff_ne, beq_iff_eq, bne_eq_false_iff_eq, beq_eq_false_iff_ne] at h_); omega, by (try simp only [Bool.and_eq_true, Bool.or_eq_true, Bool.and_eq_false_iff, Bool.or_eq_false_iff, Bool.not_and, Bool.not_or, Bool.not_not, decide_eq_true_eq, decide_eq_false_iff_not, Bool.not_eq_true', Bool.not_eq_false', Bool.not_eq_true, Bool.not_eq_false, ne_eq, Decidable.not_not, Int.not_lt, Int.not_le, not_true_eq_false, not_false_eq_true, bne_iff_ne, beq_iff_eq, bne_eq_false_iff_eq, beq_eq_false_iff_ne] at h_); omega⟩))) ?_
       intro _ H272; clear H267
       refine gx_takeG 19 rfl (by kernel_rfl) H272 (by exact O219.sel [0, 1] (by decide)) rfl rfl rfl rfl (on_f _) rfl (by decide) (fun h_ wq HO => (op_load1 gwagg4 rfl (ev_gv (H272.ev rfl) h_) (tab_cell (HO.get 0 rfl) k j (by (try simp only [Bool.and_eq_true, Bool.or_eq_true, Bool.and_eq_false_iff, Bool.or_eq_false_iff, Bool.not_and, Bool.not_or, Bool.not_not, decide_eq_true_eq, decide_eq_false_iff_not, Bool.not_eq_true', Bool.not_eq_false', Bool.not_eq_true, Bool.not_eq_false, ne_eq, Decidable.not_not, Int.not_lt, Int.not_le, not_true_eq_false, not_false_eq_true, bne_iff_ne, beq_iff_eq, bne_eq_false_iff_eq, beq_eq_false_iff_ne] at h_); omega) (by (try simp only [Bool.and_eq_true, Bool.or_eq_true, Bool.and_eq_false_iff, Bool.or_eq_false_iff, Bool.not_and, Bool.not_or, Bool.not_not, decide_eq_true_eq, decide_eq_false_iff_not, Bool.not_eq_true', Bool.not_eq_false', Bool.not_eq_true, Bool.not_eq_false, ne_eq, Decidable.not_not, Int.not_lt, Int.not_le, not_true_eq_false, not_false_eq_true, bne_iff_ne, beq_iff_eq, bne_eq_false_iff_eq, beq_eq_false_iff_ne] at h_); omega) (by (try simp only [Bool.and_eq_true, Bool.or_eq_true, Bool.and_eq_false_iff, Bool.or_eq_false_iff, Bool.not_and, Bool.not_or, Bool.not_not, decide_eq_true_eq, decide_eq_false_iff_not, Bool.not_eq_true', Bool.not_eq_false', Bool.not_eq_true, Bool.not_eq_false, ne_eq, Decidable.not_not, Int.not_lt, Int.not_le, not_true_eq_false, not_false_eq_true, bne_iff_ne, beq_iff_eq, bne_eq_false_iff_eq, beq_eq_false_iff_ne] at h_); omega) (by (try simp only [Bool.and_eq_true, Bool.or_eq_true, Bool.and_eq_false_iff, Bool.or_eq_false_iff, Bool.not_and, Bool.not_or, Bool.not_not, decide_eq_true_eq, decide_eq_false_iff_not, Bool.not_eq_true', Bool.not_eq_false', Bool.not_eq_true, Bool.not_eq_false, ne_eq, Decidable.not_not, Int.not_lt, Int.not_le, not_true_eq_false, not_false_eq_true, bne_iff_ne, beq_iff_eq, bne_eq_false_iff_eq, beq_eq_false_iff_ne] at h_); omega)))) ?_
       intro _ H274; clear H272
       refine gx_take 20 rfl (by kernel_rfl) H274 (by exact O219.sel [0, 1] (by decide)) (want_none rfl) rfl (by decide) (fun wq HO => (op_pick_or rfl (H274.ev rfl) (ev_c _ _) (fun hp_ => (ev_gv (H274.ev rfl) (not_t hp_))))) ?_
       intro _ H276; clear H274
       refine gx_take 21 rfl (by kernel_rfl) H276 (by exact O219.sel [0, 1] (by decide)) (want_none rfl) rfl (by decide) (fun wq HO => (op_index Tryz.underlying35 gwsiz4 rfl (H276.ev rfl) (H276.ev rfl) rfl (⟨by omega, by omega⟩))) ?_
       intro _ H281; clear H276
       refine gx_step 22 rfl (by kernel_rfl) ?_
       refine gw_tab (it := i) (jt := j) 0 H281 O219 rfl (want_none rfl) rfl gwsiz4 (by omega) (by omega) (by omega) (by omega) rfl (H281.ev rfl) (H281.ev rfl) ?_
       intro _ w284 H283 O285; clear H281 O219
       have O286 : Own w w284 [Chunk.tab S101 Z100 N (tset T3 i.toNat j.toNat ((T3 i.toNat j.toNat) || (T3 k.toNat j.toNat))), Bk g2 [J 4, .slice A1 0 c1, .slice A2 1 c2] 26] := O285
       clear O285
       refine gx_on (i := 22) (B := (fun j_ => j_ == 22)) (fun h_ => by cases h_) ?_
       refine gx_done (by kernel_rfl) ?_
       refine gw_blk ?_
       refine gw_nx (hK217 _ _ ?_)
       refine wp_region_lit ?_
       refine V H283 (op_move rfl (H283.ev rfl)) ?_
       intro _ H288; clear H283
       refine V H288 (op_add rfl (H288.ev rfl) (ev_c _ _) (by omega)) ?_
       intro _ H290; clear H288
       refine V H290 (op_assign rfl (H290.ev rfl)) ?_
       intro _ H292; clear H290
       refine wpList_nil ?_
       refine gw_nx ⟨_, ?_, j + 1, tset T3 i.toNat j.toNat ((T3 i.toNat j.toNat) || (T3 k.toNat j.toNat)), (H292.pick (t := 13) rfl (H292.pick (t := 12) rfl (H292.pick (t := 11) rfl (H292.pick (t := 1) rfl (H292.pick (t := 2) rfl (H292.pick (t := 4) rfl (H292.pick (t := 10) rfl (H292.pick (t := 118) rfl (H292.pick (t := 119) rfl (H292.pick (t := 120) rfl (H292.pick (t := 121) rfl (H292.pick (t := 124) rfl (H292.pick (t := 125) rfl (H292.pick (t := 126) rfl (H292.pick (t := 127) rfl H292.nil))))))))))))))), O286.sel [0, 1] (by decide), ?_, ?_, rfl⟩
       ·
        rw [hm180]; omega
       ·
        omega
       ·
        rw [show (j + 1).toNat = j.toNat + 1 by omega]; exact warI_j hT3 (by omega) (by omega) (by omega) hx.2
      ·
       have H293 := H214.subst_ (d := 142) (b := false) rfl hb215
       clear H214
       (try simp only [Bool.and_eq_true, Bool.and_eq_false_iff, decide_eq_true_eq, decide_eq_false_iff_not, Int.not_lt] at hb215)
       have hx := hb215
       refine wp_exit ?_
       refine gw_thx ?_
       refine gw_thx ?_
       refine gw_in ?_
       refine gw_blk ?_
       refine gw_nx (hK170 _ _ ?_)
       refine wp_region_lit ?_
       refine V H293 (op_move rfl (H293.ev rfl)) ?_
       intro _ H295; clear H293
       refine V H295 (op_add rfl (H295.ev rfl) (ev_c _ _) (by omega)) ?_
       intro _ H297; clear H295
       refine V H297 (op_assign rfl (H297.ev rfl)) ?_
       intro _ H299; clear H297
       refine wpList_nil ?_
       refine gw_nx ⟨_, ?_, i + 1, T3, (H299.pick (t := 12) rfl (H299.pick (t := 11) rfl (H299.pick (t := 1) rfl (H299.pick (t := 2) rfl (H299.pick (t := 4) rfl (H299.pick (t := 10) rfl (H299.pick (t := 118) rfl (H299.pick (t := 119) rfl (H299.pick (t := 120) rfl (H299.pick (t := 121) rfl H299.nil)))))))))), O179.sel [0, 1] (by decide), ?_, ?_, rfl⟩
       ·
        rw [hm157]; omega
       ·
        omega
       ·
        rw [show (i + 1).toNat = i.toNat + 1 by omega]; exact warI_i hT3 (by omega) (by omega) (by rintro ⟨h1_, h2_⟩; rcases hx with h3_ | h3_; (omega); (rw [h3_] at h2_; cases h2_))
    ·
     have H300 := H167.subst_ (d := 127) (b := false) rfl hb168
     clear H167
     (try simp only [decide_eq_false_iff_not, Int.not_lt] at hb168)
     refine wp_exit ?_
     refine gw_thx ?_
     refine gw_thx ?_
     refine gw_in ?_
     refine gw_blk ?_
     refine gw_nx (hK147 _ _ ?_)
     refine wp_region_lit ?_
     refine V H300 (op_move rfl (H300.ev rfl)) ?_
     intro _ H302; clear H300
     refine V H302 (op_add rfl (H302.ev rfl) (ev_c _ _) (by omega)) ?_
     intro _ H304; clear H302
     refine V H304 (op_assign rfl (H304.ev rfl)) ?_
     intro _ H306; clear H304
     refine wpList_nil ?_
     refine gw_nx ⟨_, ?_, k + 1, T2, (H306.pick (t := 11) rfl (H306.pick (t := 1) rfl (H306.pick (t := 2) rfl (H306.pick (t := 4) rfl (H306.pick (t := 10) rfl H306.nil))))), O156.sel [0, 1] (by decide), ?_, ?_, rfl⟩
     ·
      rw [hm134]; omega
     ·
      omega
     ·
      rw [show (k + 1).toNat = k.toNat + 1 by omega]; exact warI_k hT2 (by omega)
  ·
   have H307 := H144.subst_ (d := 121) (b := false) rfl hb145
   clear H144
   (try simp only [decide_eq_false_iff_not, Int.not_lt] at hb145)
   refine wp_exit ?_
   refine gw_thx ?_
   refine gw_thx ?_
   refine gw_in ?_
   refine gw_nx (hK124 _ _ ?_)
   refine gw_seq fun K308 hK308 => ?_
   refine gR fun K309 hK309 => ?_
   refine V H307 (op_field (gwfld26_0 _ _) rfl (H307.ev rfl)) ?_
   intro _ H311; clear H307
   refine V H311 (op_load1 gwagg3 rfl (H311.ev rfl) (blk_at (O133.get 1 rfl) rfl)) ?_
   intro _ H313; clear H311
   refine V H313 (op_eqi rfl (H313.ev rfl) (ev_c _ _)) ?_
   intro _ H315; clear H313
   have H316 := H315.lit (b := true) (by decide)
   clear H315
   refine gE hK309 ?_
   refine gw_cond H316 rfl (fun hb317 => ?_) (fun hb317 => ?_)
   rotate_left
   ·
    cases hb317
   refine gR fun K318 hK318 => ?_
   refine V H316 (op_move rfl (H316.ev rfl)) ?_
   intro _ H320; clear H316
   refine V H320 (op_move rfl (H320.ev rfl)) ?_
   intro _ H322; clear H320
   refine V H322 (op_lens Tryz.underlying9 rfl (H322.ev rfl)) ?_
   intro _ H324; clear H322
   refine V H324 (op_add rfl (H324.ev rfl) (ev_c _ _) (by omega)) ?_
   intro _ H326; clear H324
   refine gw_call H326 (want_none rfl) rfl (by decide) (op_callL Tryz.func28 (by kernel_rfl) rfl rfl (ar_cons (H326.ev rfl) ar_nil)) (same_walk ((s.size : Int) + 1) N _ (by omega) (by omega) (by omega)) ?_
   rintro e332 w333 ⟨Z327, S328, T329, rfl, hb334, hT330⟩
   refine ⟨_, rfl, fun _ H336 => ?_⟩
   have O337 := O133.fresh hb334
   clear H326 O133 hb334
   have O350 : Own w _ [(Chunk.all [Bk g2 [J 4, .slice A1 0 c1, .slice A2 1 c2] 26]), Chunk.tab S101 Z100 N T1, Chunk.tab S328 Z327 N T329] := Own.bundle (O337.sel [2, 1, 0] (by decide))
   refine gw_call H336 (want_none rfl) rfl (by decide) (op_callL Tryz.func30 (by kernel_rfl) rfl rfl (ar_cons (H336.ev rfl) (ar_cons (H336.ev rfl) ar_nil))) (either_walk w _ (Chunk.all [Bk g2 [J 4, .slice A1 0 c1, .slice A2 1 c2] 26]) S101 S328 Z100 Z327 N T1 T329 (by omega) (by omega) O350) ?_
   rintro e344 w345 ⟨Z339, S340, T341, rfl, hb346, hT342⟩
   refine ⟨_, rfl, fun _ H348 => ?_⟩
   have O349 : Own w w345 [Bk g2 [J 4, .slice A1 0 c1, .slice A2 1 c2] 26, Chunk.tab S340 Z339 N T341] := Own.unbundle (hb346.sel [1, 0] (by decide))
   clear O350
   clear H336 O337 hb346
   refine V H348 (op_assign rfl (H348.ev rfl)) ?_
   intro _ H353; clear H348
   refine gE hK318 ?_
   refine wp_ret ?_
   refine gw_thr ?_
   refine gw_ret1 H353 rfl rfl ?_
   exact ⟨_, _, _, rfl, (O349.sel [1] (by decide)).out, fun x y hx_ hy_ => star_seg ((hT342 x y hx_ hy_).trans (or_congr (warI_end hT1 (by omega) x y hx_ hy_) (hT330 x y hx_ hy_)))⟩
theorem rTable_kid (n : NN) (A1 : Option Addr) (c1 : Nat) (A2 : Option Addr) (c2 : Nat) (s : ByteArray) (N : Nat) (w : World) (hk : kidOK n) (h1 : Kd.C k55 w A1 n.f1.length n.f1) (l1 : n.f1.length ≤ c1) (h2 : Kd.C k26 w A2 n.f2.length n.f2) (l2 : n.f2.length ≤ c2) (hN : N = s.size + 1) (hs : s.size ≤ 60) :
    Calls Tryz.prog 14 #[.agg #[.int .i64 n.f0, .slice A1 n.f1.length c1, .slice A2 n.f2.length c2], .string s] w fun e w' => ∃ Z_ S_ T_, e = .returned (.slice (some ⟨Z_.g, 0, none⟩) N Z_.c) ∧ Out w w' (fun _ => False) [Chunk.tab S_ Z_ N T_] ∧ ∀ x y, x < N → y < N → (T_ x y = true ↔ segM [n] (bytesOf s) x y = true) := by
  rcases hk with hk | rfl
  · exact rTable_set n A1 c1 A2 c2 s N w hk h1 l1 h2 l2 hN hs
  · exact rTable_star A1 c1 A2 c2 s N w h2 l2 hN hs
set_option maxHeartbeats 4000000 in
set_option maxRecDepth 100000 in
theorem rTable_root (A2 : Option Addr) (c2 : Nat) (K : List NN) (s : ByteArray) (N : Nat) (kd : Int) (w : World) (hkd : kd = 2) (h2 : Kd.C k26 w A2 K.length K) (l2 : K.length ≤ c2) (hK : ∀ y ∈ K, kidOK y) (hN : N = s.size + 1) (hs : s.size ≤ 60) :
    Calls Tryz.prog 14 #[.agg #[.int .i64 kd, .slice none 0 0, .slice A2 K.length c2], .string s] w fun e w' => ∃ Z_ S_ T_, e = .returned (.slice (some ⟨Z_.g, 0, none⟩) N Z_.c) ∧ Out w w' (fun _ => False) [Chunk.tab S_ Z_ N T_] ∧ ∀ x y, x < N → y < N → (T_ x y = true ↔ segM K (bytesOf s) x y = true) := by
 have hKl := len_C h2
 refine gw_start (N := 177) (vs := [.agg #[J kd, .slice none 0 0, .slice A2 K.length c2], .string s]) Tryz.func14 rfl rfl (by simp) fun a HF HO => ?_
 replace HO : Own w w [] := HO
 refine gR fun K1 hK1 => ?_
 refine gw_new HF HO (want_none rfl) rfl (by decide) (op_box rfl (HF.ev rfl)) ?_
 intro g2 _ w4 H5 O6; clear HF HO
 have O7 : Own w w4 [Bk g2 [J kd, .slice none 0 0, .slice A2 K.length c2] 26] := O6
 clear O6
 refine V H5 (op_assign rfl (ev_c _ _)) ?_
 intro _ H9; clear H5
 refine gE hK1 ?_
 refine gw_seq fun K10 hK10 => ?_
 refine gR fun K11 hK11 => ?_
 refine V H9 (op_field (gwfld26_0 _ _) rfl (H9.ev rfl)) ?_
 intro _ H13; clear H9
 refine V H13 (op_load1 gwagg3 rfl (H13.ev rfl) (blk_at (O7.get 0 rfl) rfl)) ?_
 intro _ H15; clear H13
 refine V H15 (op_eqi rfl (H15.ev rfl) (ev_c _ _)) ?_
 intro _ H17; clear H15
 have H18 := H17.lit (b := false) (by rw [hkd]; rfl)
 clear H17
 refine gE hK11 ?_
 refine gw_cond H18 rfl (fun hb19 => ?_) (fun hb19 => ?_)
 skip
 ·
  cases hb19
 refine wp_skip ?_
 refine gw_nx (hK10 _ _ ?_)
 refine gw_seq fun K20 hK20 => ?_
 refine gR fun K21 hK21 => ?_
 refine V H18 (op_field (gwfld26_0 _ _) rfl (H18.ev rfl)) ?_
 intro _ H23; clear H18
 refine V H23 (op_load1 gwagg3 rfl (H23.ev rfl) (blk_at (O7.get 0 rfl) rfl)) ?_
 intro _ H25; clear H23
 refine V H25 (op_eqi rfl (H25.ev rfl) (ev_c _ _)) ?_
 intro _ H27; clear H25
 have H28 := H27.lit (b := true) (by rw [hkd]; rfl)
 clear H27
 refine V H28 (op_move rfl (H28.ev rfl)) ?_
 intro _ H30; clear H28
 refine Vo H30 (wn H30 rfl rfl rfl rfl) ?_
 intro _ H32; clear H30
 refine Vo H32 (wn H32 rfl rfl rfl rfl) ?_
 intro _ H34; clear H32
 refine Vo H34 (wn H34 rfl rfl rfl rfl) ?_
 intro _ H36; clear H34
 refine V H36 (op_pick_t rfl (H36.ev rfl) (ev_c _ _)) ?_
 intro _ H38; clear H36
 refine gE hK21 ?_
 refine gw_cond H38 rfl (fun hb39 => ?_) (fun hb39 => ?_)
 rotate_left
 ·
  cases hb39
 refine gR fun K40 hK40 => ?_
 refine V H38 (op_move rfl (H38.ev rfl)) ?_
 intro _ H42; clear H38
 refine V H42 (op_lens Tryz.underlying9 rfl (H42.ev rfl)) ?_
 intro _ H44; clear H42
 refine V H44 (op_add rfl (H44.ev rfl) (ev_c _ _) (by omega)) ?_
 intro _ H46; clear H44
 refine gw_call H46 (want_none rfl) rfl (by decide) (op_callL Tryz.func26 (by kernel_rfl) rfl rfl (ar_cons (H46.ev rfl) ar_nil)) (tnone_calls ((s.size : Int) + 1) N _ (by omega) (by omega) (by omega)) ?_
 rintro e50 w51 ⟨Z47, S48, rfl, hb52⟩
 refine ⟨_, rfl, fun _ H54 => ?_⟩
 have O55 := O7.fresh hb52
 clear H46 O7 hb52
 refine V H54 (op_assign rfl (H54.ev rfl)) ?_
 intro _ H58; clear H54
 refine gE hK40 ?_
 refine gw_seq fun K59 hK59 => ?_
 refine gR fun K60 hK60 => ?_
 refine V H58 (op_field (gwfld26_0 _ _) rfl (H58.ev rfl)) ?_
 intro _ H62; clear H58
 refine V H62 (op_load1 gwagg3 rfl (H62.ev rfl) (blk_at (O55.get 1 rfl) rfl)) ?_
 intro _ H64; clear H62
 refine V H64 (op_eqi rfl (H64.ev rfl) (ev_c _ _)) ?_
 intro _ H66; clear H64
 have H67 := H66.lit (b := true) (by rw [hkd]; rfl)
 clear H66
 refine gE hK60 ?_
 refine gw_cond H67 rfl (fun hb68 => ?_) (fun hb68 => ?_)
 rotate_left
 ·
  cases hb68
 refine wp_region_lit ?_
 refine V H67 (op_move rfl (H67.ev rfl)) ?_
 intro _ H70; clear H67
 refine V H70 (op_lens Tryz.underlying9 rfl (H70.ev rfl)) ?_
 intro _ H72; clear H70
 refine V H72 (op_add rfl (H72.ev rfl) (ev_c _ _) (by omega)) ?_
 intro _ H74; clear H72
 refine gw_call H74 (want_none rfl) rfl (by decide) (op_callL Tryz.func28 (by kernel_rfl) rfl rfl (ar_cons (H74.ev rfl) ar_nil)) (same_walk ((s.size : Int) + 1) N _ (by omega) (by omega) (by omega)) ?_
 rintro e80 w81 ⟨Z75, S76, T77, rfl, hb82, hT78⟩
 refine ⟨_, rfl, fun _ H84 => ?_⟩
 have O85 := O55.fresh hb82
 clear H74 O55 hb82
 refine V H84 (op_assign rfl (H84.ev rfl)) ?_
 intro _ H88; clear H84
 refine gE hK59 ?_
 refine gw_seq fun K89 hK89 => ?_
 refine gR fun K90 hK90 => ?_
 refine V H88 (op_assign rfl (ev_c _ _)) ?_
 intro _ H92; clear H88
 refine gE hK90 ?_
 refine wp_block ?_
 refine gw_loop (fun m_ a_ w_ => ∃ (i : Int) (Zo : Tb) (So : Nat → Prop) (T1 : Nat → Nat → Bool), Fr 177 a_ [(8, J i), (7, .slice (some ⟨Zo.g, 0, none⟩) N Zo.c), (1, .string s), (2, .pointer (some ⟨g2, 0, none⟩)), (4, .slice none 0 0)] ∧ Own w w_ [Chunk.tab So Zo N T1, Bk g2 [J kd, .slice none 0 0, .slice A2 K.length c2] 26] ∧ (0 ≤ i ∧ i ≤ K.length) ∧ (∀ x y, x < N → y < N → (T1 x y = true ↔ segM (K.take i.toNat) (bytesOf s) x y = true)) ∧ m_ = (K.length - i.toNat)) ((K.length - (0 : Int).toNat)) ?_ ?_
 ·
  refine ⟨0, Z75, S76, T77, (H92.pick (t := 8) rfl (H92.pick (t := 7) rfl (H92.pick (t := 1) rfl (H92.pick (t := 2) rfl (H92.pick (t := 4) rfl H92.nil))))), O85.sel [0, 2] (by decide), ?_, ?_, rfl⟩
  ·
   omega
  ·
   exact fun x y hx hy => seg_none (fun x y hx hy => hT78 x y (by omega) (by omega)) x y (by omega) (by omega)
 ·
  rintro m94 _ w96 ⟨i, Zo, So, T1, H97, O98, hi, hT1, hm99⟩
  refine gw_seq fun K100 hK100 => ?_
  refine gR fun K101 hK101 => ?_
  refine V H97 (op_move rfl (H97.ev rfl)) ?_
  intro _ H103; clear H97
  refine V H103 (op_field (gwfld26_2 _ _) rfl (H103.ev rfl)) ?_
  intro _ H105; clear H103
  refine V H105 (op_load1 gwagg24 rfl (H105.ev rfl) (blk_at (O98.get 1 rfl) rfl)) ?_
  intro _ H107; clear H105
  refine V H107 (op_len Tryz.underlying24 rfl (H107.ev rfl)) ?_
  intro _ H109; clear H107
  refine V H109 (op_lss rfl (H109.ev rfl) (H109.ev rfl)) ?_
  intro _ H111; clear H109
  refine gE hK101 ?_
  refine gw_cond H111 rfl (fun hb112 => ?_) (fun hb112 => ?_)
  ·
   have H113 := H111.subst_ (d := 65) (b := true) rfl hb112
   clear H111
   (try simp only [decide_eq_true_eq] at hb112)
   refine wp_skip ?_
   refine gw_nx (hK100 _ _ ?_)
   refine gw_seq fun K114 hK114 => ?_
   refine wp_block ?_
   refine gR fun K115 hK115 => ?_
   refine V H113 (op_field (gwfld26_2 _ _) rfl (H113.ev rfl)) ?_
   intro _ H117; clear H113
   refine V H117 (op_load1 gwagg24 rfl (H117.ev rfl) (blk_at (O98.get 1 rfl) rfl)) ?_
   intro _ H119; clear H117
   refine V H119 (op_move rfl (H119.ev rfl)) ?_
   intro _ H121; clear H119
   obtain ⟨ad122, cs125, hA123, hl126, hK127, hc124⟩ := Kd.C_get h2 z26 i (by omega) (by omega)
   obtain ⟨A128, c129, A132, c133, rfl, hl130, hC131, hl134, hC135⟩ := k26_open hK127
   clear hl126
   refine V H121 (op_index Tryz.underlying24 gwsiz26 rfl (H121.ev rfl) (H121.ev rfl) hA123 (⟨by omega, by omega⟩)) ?_
   intro _ H137; clear H121
   refine V H137 (op_loadc gwagg26 gwsiz26 rfl (H137.ev rfl) rfl (cells0 O98 hc124)) ?_
   intro _ H139; clear H137
   refine V H139 (op_move rfl (H139.ev rfl)) ?_
   intro _ H141; clear H139
   refine gw_call H141 (want_none rfl) rfl (by decide) (op_callL Tryz.func14 (by kernel_rfl) rfl rfl (ar_cons (H141.ev rfl) (ar_cons (H141.ev rfl) ar_nil))) (rTable_kid (K.getD i.toNat z26) A128 c129 A132 c133 s N _ (hK _ (getD_mem (z := z26) K i.toNat (by omega))) (Kd.C_below hC131 O98.below) hl130 (Kd.C_below hC135 O98.below) hl134 hN hs) ?_
   rintro e147 w148 ⟨Z142, S143, T144, rfl, hb149, hT145⟩
   refine ⟨_, rfl, fun _ H151 => ?_⟩
   have O152 := O98.fresh hb149
   clear H141 O98 hb149
   refine V H151 (op_assign rfl (H151.ev rfl)) ?_
   intro _ H155; clear H151
   refine gE hK115 ?_
   refine gR fun K156 hK156 => ?_
   refine V H155 (op_field (gwfld26_0 _ _) rfl (H155.ev rfl)) ?_
   intro _ H158; clear H155
   refine V H158 (op_load1 gwagg3 rfl (H158.ev rfl) (blk_at (O152.get 2 rfl) rfl)) ?_
   intro _ H160; clear H158
   refine V H160 (op_eqi rfl (H160.ev rfl) (ev_c _ _)) ?_
   intro _ H162; clear H160
   have H163 := H162.lit (b := true) (by rw [hkd]; rfl)
   clear H162
   refine gE hK156 ?_
   refine gw_cond H163 rfl (fun hb164 => ?_) (fun hb164 => ?_)
   rotate_left
   ·
    cases hb164
   refine wp_region_lit ?_
   refine V H163 (op_move rfl (H163.ev rfl)) ?_
   intro _ H166; clear H163
   refine V H166 (op_move rfl (H166.ev rfl)) ?_
   intro _ H168; clear H166
   have O180 : Own w _ [(Chunk.all [Bk g2 [J kd, .slice none 0 0, .slice A2 K.length c2] 26]), Chunk.tab So Zo N T1, Chunk.tab S143 Z142 N T144] := Own.bundle (O152.sel [2, 1, 0] (by decide))
   refine gw_call H168 (want_none rfl) rfl (by decide) (op_callL Tryz.func29 (by kernel_rfl) rfl rfl (ar_cons (H168.ev rfl) (ar_cons (H168.ev rfl) ar_nil))) (both_walk w _ (Chunk.all [Bk g2 [J kd, .slice none 0 0, .slice A2 K.length c2] 26]) So S143 Zo Z142 N T1 T144 (by omega) (by omega) O180) ?_
   rintro e174 w175 ⟨Z169, S170, T171, rfl, hb176, hT172⟩
   refine ⟨_, rfl, fun _ H178 => ?_⟩
   have O179 : Own w w175 [Bk g2 [J kd, .slice none 0 0, .slice A2 K.length c2] 26, Chunk.tab S170 Z169 N T171] := Own.unbundle (hb176.sel [1, 0] (by decide))
   clear O180
   clear H168 O152 hb176
   refine V H178 (op_assign rfl (H178.ev rfl)) ?_
   intro _ H183; clear H178
   refine wpList_nil ?_
   refine gw_blk ?_
   refine gw_nx (hK114 _ _ ?_)
   refine wp_region_lit ?_
   refine V H183 (op_move rfl (H183.ev rfl)) ?_
   intro _ H185; clear H183
   refine V H185 (op_add rfl (H185.ev rfl) (ev_c _ _) (by omega)) ?_
   intro _ H187; clear H185
   refine V H187 (op_assign rfl (H187.ev rfl)) ?_
   intro _ H189; clear H187
   refine wpList_nil ?_
   refine gw_nx ⟨_, ?_, i + 1, Z169, S170, T171, (H189.pick (t := 8) rfl (H189.pick (t := 7) rfl (H189.pick (t := 1) rfl (H189.pick (t := 2) rfl (H189.pick (t := 4) rfl H189.nil))))), O179.sel [1, 0] (by decide), ?_, ?_, rfl⟩
   ·
    rw [hm99]; omega
   ·
    omega
   ·
    rw [show (i + 1).toNat = i.toNat + 1 by omega]; exact fun x y hx hy => seg_take (by omega) (fun x y hx hy => hT1 x y (by omega) (by omega)) (fun x y hx hy => hT145 x y (by omega) (by omega)) (fun x y hx hy => (hT172 x y (by omega) (by omega)).trans (by rw [hN])) x y (by omega) (by omega)
  ·
   have H190 := H111.subst_ (d := 65) (b := false) rfl hb112
   clear H111
   (try simp only [decide_eq_false_iff_not, Int.not_lt] at hb112)
   refine wp_exit ?_
   refine gw_thx ?_
   refine gw_thx ?_
   refine gw_in ?_
   refine gw_nx (hK89 _ _ ?_)
   refine gR fun K191 hK191 => ?_
   refine V H190 (op_move rfl (H190.ev rfl)) ?_
   intro _ H193; clear H190
   refine V H193 (op_assign rfl (H193.ev rfl)) ?_
   intro _ H195; clear H193
   refine gE hK191 ?_
   refine wp_ret ?_
   refine gw_thr ?_
   refine gw_ret1 H195 rfl rfl ?_
   exact ⟨_, _, _, rfl, (O98.sel [0] (by decide)).out, fun x y hx hy => by have h_ := hT1 x y hx hy; rwa [List.take_of_length_le (by omega)] at h_⟩
end GTable_
export GTable_ (rTable_set rTable_star rTable_kid rTable_root)
end Go.Proofs.YtelbgmpeghhakaaGreat.PA
end
section
namespace Go.Proofs.YtelbgmpeghhakaaGreat.PA
open Go.RowKit Go.Proofs.YtelbgmpeghhakaaGreatW.PrintWords Go.Proofs.YtelbgmpeghhakaaGreatW.PrintLast Go.Proofs.YtelbgmpeghhakaaGreatW.PrintMore
set_option linter.unusedVariables false
set_option linter.unusedSimpArgs false
def itemV (s : ByteArray) (p : Int) : Int × Int × Bool := match byteS (rest_ s p) with
  | some (x, q, r) => (x, (s.size : Int) - r.length, true)
  | none => (0, 0, false)
theorem item_ok {s : ByteArray} {p x : Int} {q : Bool} {r : List Int} (h : byteS (rest_ s p) = some (x, q, r)) : itemV s p = (x, (s.size : Int) - r.length, true) := by
  unfold itemV
  rw [h]
theorem item_none {s : ByteArray} {p : Int} (h : byteS (rest_ s p) = none) : itemV s p = (0, 0, false) := by
  unfold itemV
  rw [h]
theorem item_at1 (s : ByteArray) (p : Int) (hp : 0 ≤ p ∧ p < s.size) (h : bt s p ≠ 92) : itemV s p = (bt s p, p + 1, true) := by
  have hl := rest_len s (p + 1) (by omega)
  refine (item_ok (x := bt s p) (q := false) (r := rest_ s (p + 1)) (by rw [rest_cons s p hp, byteS_cons, if_neg h])).trans ?_
  rw [hl, show (s.size : Int) - (s.size - (p + 1)) = p + 1 by omega]
theorem item_at2 (s : ByteArray) (p : Int) (hp : 0 ≤ p ∧ p < s.size) (h : bt s p = 92) (h2 : (s.size : Int) ≤ p + 1) : itemV s p = (0, 0, false) :=
  item_none (by rw [rest_cons s p hp, byteS_cons, if_pos h, rest_nil s (p + 1) h2])
theorem item_at3 (s : ByteArray) (p : Int) (hp : 0 ≤ p ∧ p < s.size) (h : bt s p = 92) (h2 : p + 1 < s.size) : itemV s p = (bt s (p + 1), p + 2, true) := by
  have hl := rest_len s (p + 2) (by omega)
  refine (item_ok (x := bt s (p + 1)) (q := true) (r := rest_ s (p + 2)) (by rw [rest_cons s p hp, byteS_cons, if_pos h, rest_cons s (p + 1) (by omega)]; rw [show p + 1 + 1 = p + 2 by omega])).trans ?_
  rw [hl, show (s.size : Int) - (s.size - (p + 2)) = p + 2 by omega]
def clsK (s : ByteArray) (RES : ClsRes) (p : Int) (f : Bool) (rs : List RR) : Prop := ∃ k, (rest_ s p).length < k ∧ classS k (rest_ s p) f rs = RES
theorem clsK_in {s : ByteArray} {RES : ClsRes} {p : Int} {f : Bool} {rs : List RR} (h : clsK s RES p f rs) :
    (byteS (rest_ s p) = none ∧ RES = .inr (31, 0)) ∨ (∃ x q r k, byteS (rest_ s p) = some (x, q, r) ∧ r.length < k ∧ RES = if x = 93 ∧ q = false ∧ f = false then .inl (rs, r) else
      if hyph r = true then (match byteS r.tail with
        | none => .inr (31, 0)
        | some (hi, _, r2) => if hi < x then .inr (32, (rest_ s p).length) else classS k r2 false (rs ++ [⟨x, hi⟩]))
      else classS k r false (rs ++ [⟨x, x⟩])) := by
  obtain ⟨k, hk, rfl⟩ := h
  cases k with
  | zero => omega
  | succ k =>
    cases hb : byteS (rest_ s p) with
    | none => exact .inl ⟨rfl, by rw [classS, hb]⟩
    | some v =>
      obtain ⟨x, q, r⟩ := v
      have := byteS_lt hb
      exact .inr ⟨x, q, r, k, rfl, by omega, by rw [classS, hb] <;> rfl⟩
theorem rest_some {s : ByteArray} {p x : Int} {q : Bool} {r : List Int} (h : byteS (rest_ s p) = some (x, q, r)) : p < s.size := by
  refine Int.not_le.1 fun hn => ?_
  rw [rest_nil s p hn] at h
  cases h
theorem none_92 {s : ByteArray} {p : Int} (hp : 0 ≤ p ∧ p < s.size) (h : byteS (rest_ s p) = none) : bt s p = 92 := by
  rw [rest_cons s p hp, byteS_cons] at h
  by_cases e : bt s p = 92
  · exact e
  · rw [if_neg e] at h; cases h
theorem end_eq {s : ByteArray} {p x : Int} {q : Bool} {r : List Int} (f : Bool) (hp : 0 ≤ p) (h : byteS (rest_ s p) = some (x, q, r)) : (decide (bt s p = 93) && !f) = decide (x = 93 ∧ q = false ∧ f = false) := by
  have hlt := rest_some h
  rw [rest_cons s p ⟨hp, hlt⟩, byteS_cons] at h
  by_cases e : bt s p = 92
  · rw [if_pos e] at h
    have hq : q = true := by
      split at h
      · cases h
      · simp only [Option.some.injEq, Prod.mk.injEq] at h; exact h.2.1.symm
    rw [e, hq]
    simp
  · rw [if_neg e] at h
    simp only [Option.some.injEq, Prod.mk.injEq] at h
    obtain ⟨rfl, rfl, _⟩ := h
    cases f <;> simp
theorem plain_rest {s : ByteArray} {p x : Int} {r : List Int} (hp : 0 ≤ p) (hx : x = 93) (h : byteS (rest_ s p) = some (x, false, r)) : p + 1 = (s.size : Int) - r.length ∧ rest_ s (p + 1) = r := by
  have hlt := rest_some h
  have hl := rest_len s (p + 1) (by omega)
  rw [rest_cons s p ⟨hp, hlt⟩, byteS_cons] at h
  by_cases e : bt s p = 92
  · rw [if_pos e] at h
    split at h <;> simp at h
  · rw [if_neg e] at h
    simp only [Option.some.injEq, Prod.mk.injEq] at h
    obtain ⟨_, _, rfl⟩ := h
    exact ⟨by omega, rfl⟩
theorem item_rest {s : ByteArray} {p x : Int} {q : Bool} {r : List Int} (hp : 0 ≤ p ∧ p ≤ s.size) (hs : s.size ≤ 256) (h : byteS (rest_ s p) = some (x, q, r)) : rest_ s ((s.size : Int) - r.length) = r ∧ p < (s.size : Int) - r.length ∧ (s.size : Int) - r.length ≤ s.size := by
  obtain ⟨_, h2, h3, h4⟩ := byte_ok s p 0 x q r hp (by omega) h
  exact ⟨h2, h3, h4⟩
theorem hyph_at (s : ByteArray) (p : Int) (r : List Int) (hp : 0 ≤ p ∧ p ≤ s.size) (h : rest_ s p = r) : (decide (p + 1 < s.size) && decide (bt s p = 45) && decide (bt s (p + 1) ≠ 93)) = hyph r := by
  by_cases h1 : p + 1 < s.size
  · rw [rest_cons s p (by omega), rest_cons s (p + 1) (by omega)] at h
    subst h
    rw [decide_eq_true h1, Bool.true_and]
    rfl
  · rw [decide_eq_false h1, Bool.false_and, Bool.false_and]
    by_cases h2 : p < s.size
    · rw [rest_cons s p (by omega), rest_nil s (p + 1) (by omega)] at h
      subst h
      rfl
    · rw [rest_nil s p (by omega)] at h
      subst h
      rfl
theorem bang_at (s : ByteArray) (p : Int) (hp : 0 ≤ p) : (decide (p < s.size) && decide (bt s p = 33)) = decide ((rest_ s p).head? = some 33) := by
  by_cases h : p < s.size
  · rw [decide_eq_true h, Bool.true_and, rest_cons s p ⟨hp, h⟩]
    simp
  · rw [decide_eq_false h, Bool.false_and, rest_nil s p (by omega)]
    rfl
def clsQ (s : ByteArray) (p k : Int) (L : List RR) (n e at_ : Int) : Prop := match classT (rest_ s p) with
  | .inl (rs, nt, r) => k = 1 ∧ L = (canonP fun c_ => inR rs c_ != nt) ∧ e = 0 ∧ at_ = 0 ∧ n = (s.size : Int) - r.length ∧ rest_ s n = r ∧ p ≤ n ∧ n ≤ s.size
  | .inr (e', m) => e = e' ∧ e' ≠ 0 ∧ at_ = (s.size : Int) - (m : Nat)
abbrev clsR (s : ByteArray) (p : Int) : ClsRes := classS ((rest_ s p).length + 1) (if (rest_ s p).head? = some 33 then (rest_ s p).tail else rest_ s p) true []
theorem clsQ_bad {s : ByteArray} {p k : Int} {L : List RR} {n e at_ : Int} {m : Nat} (hR : (.inr (e, m) : ClsRes) = clsR s p) (h0 : e ≠ 0) (ha : at_ = (s.size : Int) - (m : Nat)) : clsQ s p k L n e at_ := by
  unfold clsQ classT
  rw [show classS ((rest_ s p).length + 1) (if (rest_ s p).head? = some 33 then (rest_ s p).tail else rest_ s p) true [] = .inr (e, m) from hR.symm]
  exact ⟨rfl, h0, ha⟩
theorem clsQ_ok {s : ByteArray} {p : Int} {rs : List RR} {r : List Int} {n : Int} (hp : 0 ≤ p ∧ p ≤ s.size) (hR : (.inl (rs, r) : ClsRes) = clsR s p) (hn : n = (s.size : Int) - r.length) : clsQ s p 1 (canonP fun c_ => inR rs c_ != decide ((rest_ s p).head? = some 33)) n 0 0 := by
  have hc : classS ((rest_ s p).length + 1) (if (rest_ s p).head? = some 33 then (rest_ s p).tail else rest_ s p) true [] = .inl (rs, r) := hR.symm
  have hs := classS_suf _ _ _ _ _ _ hc
  have hs2 : r <:+ rest_ s p := hs.trans (by split; exact List.tail_suffix _; exact List.suffix_refl _)
  have hl := hs2.length_le
  have hl2 := rest_len s p hp
  unfold clsQ classT
  rw [hc]
  exact ⟨rfl, rfl, rfl, rfl, hn, by rw [hn]; exact rest_at s p 0 hp r hs2, by omega, by omega⟩
def parK (s : ByteArray) (RES : ParRes) (p : Int) (kids : List NN) : Prop := ∃ k, (rest_ s p).length < k ∧ parseS k (rest_ s p) kids = RES
theorem parK_in {s : ByteArray} {RES : ParRes} {p : Int} {kids : List NN} (hp : 0 ≤ p ∧ p ≤ s.size) (h : parK s RES p kids) :
    (p = s.size ∧ RES = .inl kids) ∨ (p < s.size ∧ byteS (rest_ s p) = none ∧ RES = .inr (31, 0)) ∨ (∃ x q r k, p < s.size ∧ byteS (rest_ s p) = some (x, q, r) ∧ r.length < k ∧ parB RES kids k x q r) := by
  obtain ⟨k, hk, h⟩ := h
  rcases par_in (s := s) (p := p) (cd := 0) (wr := 0) hp (.inl ⟨rfl, rfl, k, hk, h⟩) with ⟨_, _, h1, h2⟩ | ⟨_, _, h1, h2, h3⟩ | ⟨x, q, r, k, _, _, h1, h2, h3, h4⟩ | ⟨h1, _⟩
  · exact .inl ⟨h1, h2⟩
  · exact .inr (.inl ⟨h1, h2, h3⟩)
  · exact .inr (.inr ⟨x, q, r, k, h1, h2, h3, h4⟩)
  · exact absurd rfl h1
theorem byte_kind {s : ByteArray} {p x : Int} {q : Bool} {r : List Int} (hp : 0 ≤ p) (h : byteS (rest_ s p) = some (x, q, r)) : (bt s p = 92 ∧ q = true) ∨ (bt s p = x ∧ x ≠ 92 ∧ q = false ∧ p + 1 = (s.size : Int) - r.length ∧ rest_ s (p + 1) = r) := by
  have hlt := rest_some h
  have hl := rest_len s (p + 1) (by omega)
  rw [rest_cons s p ⟨hp, hlt⟩, byteS_cons] at h
  by_cases e : bt s p = 92
  · rw [if_pos e] at h
    split at h
    · cases h
    · simp only [Option.some.injEq, Prod.mk.injEq] at h
      exact .inl ⟨e, h.2.1.symm⟩
  · rw [if_neg e] at h
    simp only [Option.some.injEq, Prod.mk.injEq] at h
    obtain ⟨rfl, rfl, rfl⟩ := h
    exact .inr ⟨rfl, e, rfl, by omega, rfl⟩
theorem Own.row_nrow {α : Type} {w0 w : World} {L : List Chunk} {d : Kd α} {e base : Nat} {S : Nat → Prop} {v : Value} {xs : List α} (h : Own w0 w L) (i : Nat) (hi : L[i]? = some (Chunk.row d e base S v xs)) : Own w0 w (L.set i (Chunk.nrow d e base S v xs)) := h.mapc i hi (fun _ hk => hk) (fun _ hr => Kd.R_N hr)
end Go.Proofs.YtelbgmpeghhakaaGreat.PA
end
section
namespace Go.Proofs.YtelbgmpeghhakaaGreat.PA
open Go.RowKit Go.Proofs.YtelbgmpeghhakaaGreatW.PrintWords Go.Proofs.YtelbgmpeghhakaaGreatW.PrintLast Go.Proofs.YtelbgmpeghhakaaGreatW.PrintMore
set_option linter.unusedVariables false
set_option linter.unusedSimpArgs false
namespace GRefI_
set_option maxHeartbeats 4000000 in
set_option maxRecDepth 100000 in
theorem item_walk (s : ByteArray) (p : Int) (w : World) (hp : 0 ≤ p ∧ p < s.size) (hs : s.size ≤ 256) :
    Calls Tryz.prog 23 #[.string s, .int .i64 p] w fun e w' => e = .returned (.tuple #[.int .u8 (itemV s p).1, .int .i64 (itemV s p).2.1, .bool (itemV s p).2.2]) ∧ Below w.heap.size w w' := by
 refine gw_start (N := 27) (vs := [.string s, J p]) Tryz.func23 rfl rfl (by simp) fun a HF HO => ?_
 replace HO : Own w w [] := HO
 refine gR fun K1 hK1 => ?_
 refine V HF (op_assign rfl (ev_c _ _)) ?_
 intro _ H3; clear HF
 refine V H3 (op_assign rfl (ev_c _ _)) ?_
 intro _ H5; clear H3
 refine V H5 (op_assign rfl (ev_c _ _)) ?_
 intro _ H7; clear H5
 refine gE hK1 ?_
 refine gw_seq fun K8 hK8 => ?_
 refine gR fun K9 hK9 => ?_
 refine V H7 (op_move rfl (H7.ev rfl)) ?_
 intro _ H11; clear H7
 refine V H11 (op_move rfl (H11.ev rfl)) ?_
 intro _ H13; clear H11
 refine V H13 (op_sidx Tryz.underlying9 rfl (H13.ev rfl) (H13.ev rfl) ⟨by omega, by omega⟩) ?_
 intro _ H15; clear H13
 refine V H15 (op_nei rfl (H15.ev rfl) (ev_c _ _)) ?_
 intro _ H17; clear H15
 refine gE hK9 ?_
 refine gw_cond H17 rfl (fun hb18 => ?_) (fun hb18 => ?_)
 ·
  have H19 := H17.subst_ (d := 10) (b := true) rfl hb18
  clear H17
  (try simp only [decide_eq_true_eq, ne_eq] at hb18)
  have hq10 := hb18
  refine gR fun K20 hK20 => ?_
  refine V H19 (op_move rfl (H19.ev rfl)) ?_
  intro _ H22; clear H19
  refine V H22 (op_move rfl (H22.ev rfl)) ?_
  intro _ H24; clear H22
  refine V H24 (op_sidx Tryz.underlying9 rfl (H24.ev rfl) (H24.ev rfl) ⟨by omega, by omega⟩) ?_
  intro _ H26; clear H24
  refine V H26 (op_move rfl (H26.ev rfl)) ?_
  intro _ H28; clear H26
  refine V H28 (op_add rfl (H28.ev rfl) (ev_c _ _) (by omega)) ?_
  intro _ H30; clear H28
  refine V H30 (op_assign rfl (H30.ev rfl)) ?_
  intro _ H32; clear H30
  refine V H32 (op_assign rfl (H32.ev rfl)) ?_
  intro _ H34; clear H32
  refine V H34 (op_assign rfl (ev_c _ _)) ?_
  intro _ H36; clear H34
  refine gE hK20 ?_
  refine wp_ret ?_
  refine gw_thr ?_
  refine gw_rets3 H36 rfl (rv_tmp H36 rfl) (rv_tmp H36 rfl) (rv_tmp H36 rfl) ?_
  rw [item_at1 s p hp hq10]
  exact ⟨rfl, HO.below⟩
 ·
  have H37 := H17.subst_ (d := 10) (b := false) rfl hb18
  clear H17
  (try simp only [decide_eq_false_iff_not, ne_eq, Decidable.not_not] at hb18)
  have hq10 : bt s p = 92 := hb18
  refine wp_skip ?_
  refine gw_nx (hK8 _ _ ?_)
  refine gw_seq fun K38 hK38 => ?_
  refine gR fun K39 hK39 => ?_
  refine V H37 (op_move rfl (H37.ev rfl)) ?_
  intro _ H41; clear H37
  refine V H41 (op_add rfl (H41.ev rfl) (ev_c _ _) (by omega)) ?_
  intro _ H43; clear H41
  refine V H43 (op_move rfl (H43.ev rfl)) ?_
  intro _ H45; clear H43
  refine V H45 (op_lens Tryz.underlying9 rfl (H45.ev rfl)) ?_
  intro _ H47; clear H45
  refine V H47 (op_geq rfl (H47.ev rfl) (H47.ev rfl)) ?_
  intro _ H49; clear H47
  refine gE hK39 ?_
  refine gw_cond H49 rfl (fun hb50 => ?_) (fun hb50 => ?_)
  ·
   have H51 := H49.subst_ (d := 20) (b := true) rfl hb50
   clear H49
   (try simp only [decide_eq_true_eq] at hb50)
   refine gR fun K52 hK52 => ?_
   refine V H51 (op_assign rfl (ev_c _ _)) ?_
   intro _ H54; clear H51
   refine V H54 (op_assign rfl (ev_c _ _)) ?_
   intro _ H56; clear H54
   refine V H56 (op_assign rfl (ev_c _ _)) ?_
   intro _ H58; clear H56
   refine gE hK52 ?_
   refine wp_ret ?_
   refine gw_thr ?_
   refine gw_rets3 H58 rfl (rv_tmp H58 rfl) (rv_tmp H58 rfl) (rv_tmp H58 rfl) ?_
   rw [item_at2 s p hp hq10 (by omega)]
   exact ⟨rfl, HO.below⟩
  ·
   have H59 := H49.subst_ (d := 20) (b := false) rfl hb50
   clear H49
   (try simp only [decide_eq_false_iff_not, Int.not_le] at hb50)
   refine wp_skip ?_
   refine gw_nx (hK38 _ _ ?_)
   refine gR fun K60 hK60 => ?_
   refine V H59 (op_move rfl (H59.ev rfl)) ?_
   intro _ H62; clear H59
   refine V H62 (op_move rfl (H62.ev rfl)) ?_
   intro _ H64; clear H62
   refine V H64 (op_add rfl (H64.ev rfl) (ev_c _ _) (by omega)) ?_
   intro _ H66; clear H64
   refine V H66 (op_sidx Tryz.underlying9 rfl (H66.ev rfl) (H66.ev rfl) ⟨by omega, by omega⟩) ?_
   intro _ H68; clear H66
   refine V H68 (op_move rfl (H68.ev rfl)) ?_
   intro _ H70; clear H68
   refine V H70 (op_add rfl (H70.ev rfl) (ev_c _ _) (by omega)) ?_
   intro _ H72; clear H70
   refine V H72 (op_assign rfl (H72.ev rfl)) ?_
   intro _ H74; clear H72
   refine V H74 (op_assign rfl (H74.ev rfl)) ?_
   intro _ H76; clear H74
   refine V H76 (op_assign rfl (ev_c _ _)) ?_
   intro _ H78; clear H76
   refine gE hK60 ?_
   refine wp_ret ?_
   refine gw_rets3 H78 rfl (rv_tmp H78 rfl) (rv_tmp H78 rfl) (rv_tmp H78 rfl) ?_
   rw [item_at3 s p hp hq10 (by omega)]
   exact ⟨rfl, HO.below⟩
end GRefI_
export GRefI_ (item_walk)
theorem item_is (s : ByteArray) (p : Int) (w : World) (hp : 0 ≤ p ∧ p < s.size) (hs : s.size ≤ 256) (x n : Int) (b : Bool) (h : itemV s p = (x, n, b)) : Calls Tryz.prog 23 #[.string s, .int .i64 p] w fun e w' => e = .returned (.tuple #[.int .u8 x, .int .i64 n, .bool b]) ∧ Below w.heap.size w w' := by
  have h2 := item_walk s p w hp hs
  rw [h] at h2
  exact h2
end Go.Proofs.YtelbgmpeghhakaaGreat.PA
end
section
namespace Go.Proofs.YtelbgmpeghhakaaGreat.PA
open Go.RowKit Go.Proofs.YtelbgmpeghhakaaGreatW.PrintWords Go.Proofs.YtelbgmpeghhakaaGreatW.PrintLast Go.Proofs.YtelbgmpeghhakaaGreatW.PrintMore
set_option linter.unusedVariables false
set_option linter.unusedSimpArgs false
namespace GRefK_
theorem gwagg26 : ∀ w, (isAgg 26).run Tryz.prog w = .ok true w := fun _ => by kernel_rfl
theorem gwinfo55 : (Tryz.prog.info? 55).map (fun i => (i.zero, i.size, i.bytes)) = some (some (.agg #[.int .u8 0, .int .u8 0]), 2, 2) := by kernel_rfl
theorem gwsiz26 : ∀ w, (sizeOf 26).run Tryz.prog w = .ok 3 w := fun _ => by kernel_rfl
theorem gwzer26 : ∀ w, (zeroValue 26).run Tryz.prog w = .ok (.agg #[.int .i64 0, .slice none 0 0, .slice none 0 0]) w := fun _ => by kernel_rfl
set_option maxHeartbeats 4000000 in
set_option maxRecDepth 100000 in
theorem rclass_walk (s : ByteArray) (p0 : Int) (w : World) (hp0 : 0 ≤ p0 ∧ p0 < s.size) (hs : s.size ≤ 256) :
    Calls Tryz.prog 22 #[.string s, .int .i64 p0] w fun e w' => ∃ (k n ec at_ : Int) (L : List S55) (A : Option Addr) (c : Nat) (S : Nat → Prop), e = .returned (.tuple #[.agg #[.int .i64 k, .slice A L.length c, .slice none 0 0], .int .i64 n, .int .i64 ec, .int .i64 at_]) ∧ Out w w' (fun _ => False) [Chunk.view k55 S A L.length c L] ∧ clsQ s (p0 + 1) k L n ec at_ := by
 obtain ⟨RES, hRES⟩ : ∃ R_ : ClsRes, R_ = clsR s (p0 + 1) := ⟨_, rfl⟩
 refine gw_start (N := 115) (vs := [.string s, J p0]) Tryz.func22 rfl rfl (by simp) fun a HF HO => ?_
 replace HO : Own w w [] := HO
 refine gR fun K1 hK1 => ?_
 refine gw_new HF HO (want_none rfl) rfl (by decide) (op_alloc gwzer26 rfl) ?_
 intro g2 _ w4 H5 O6; clear HF HO
 have O7 : Own w w4 [Bk g2 [J 0, .slice none 0 0, .slice none 0 0] 26] := O6
 clear O6
 refine V H5 (op_assign rfl (ev_c _ _)) ?_
 intro _ H9; clear H5
 refine V H9 (op_assign rfl (ev_c _ _)) ?_
 intro _ H11; clear H9
 refine V H11 (op_assign rfl (ev_c _ _)) ?_
 intro _ H13; clear H11
 refine gE hK1 ?_
 refine gR fun K14 hK14 => ?_
 refine V H13 (op_move rfl (H13.ev rfl)) ?_
 intro _ H16; clear H13
 refine V H16 (op_add rfl (H16.ev rfl) (ev_c _ _) (by omega)) ?_
 intro _ H18; clear H16
 refine V H18 (op_assign rfl (H18.ev rfl)) ?_
 intro _ H20; clear H18
 refine gE hK14 ?_
 refine gR fun K21 hK21 => ?_
 refine V H20 (op_move rfl (H20.ev rfl)) ?_
 intro _ H23; clear H20
 refine V H23 (op_move rfl (H23.ev rfl)) ?_
 intro _ H25; clear H23
 refine V H25 (op_lens Tryz.underlying9 rfl (H25.ev rfl)) ?_
 intro _ H27; clear H25
 refine V H27 (op_lss rfl (H27.ev rfl) (H27.ev rfl)) ?_
 intro _ H29; clear H27
 refine V H29 (op_move rfl (H29.ev rfl)) ?_
 intro _ H31; clear H29
 refine gw_evG H31 rfl rfl rfl rfl (on_t _) rfl (by decide) (fun h_ => (op_move rfl (H31.ev rfl))) ?_
 intro _ H33; clear H31
 refine gw_evG H33 rfl rfl rfl rfl (on_t _) rfl (by decide) (fun h_ => (op_move rfl (H33.ev rfl))) ?_
 intro _ H35; clear H33
 refine gw_evG H35 rfl rfl rfl rfl (on_t _) rfl (by decide) (fun h_ => (op_sidx Tryz.underlying9 rfl (ev_gv (H35.ev rfl) h_) (ev_gv (H35.ev rfl) h_) ⟨by (try simp only [Bool.and_eq_true, Bool.or_eq_true, Bool.and_eq_false_iff, Bool.or_eq_false_iff, Bool.not_and, Bool.not_or, Bool.not_not, decide_eq_true_eq, decide_eq_false_iff_not, Bool.not_eq_true', Bool.not_eq_false', Bool.not_eq_true, Bool.not_eq_false, ne_eq, Decidable.not_not, Int.not_lt, Int.not_le, not_true_eq_false, not_false_eq_true, bne_iff_ne, beq_iff_eq, bne_eq_false_iff_eq, beq_eq_false_iff_ne] at h_); omega, by (try simp only [Bool.and_eq_true, Bool.or_eq_true, Bool.and_eq_false_iff, Bool.or_eq_false_iff, Bool.not_and, Bool.not_or, Bool.not_not, decide_eq_true_eq, decide_eq_false_iff_not, Bool.not_eq_true', Bool.not_eq_false', Bool.not_eq_true, Bool.not_eq_false, ne_eq, Decidable.not_not, Int.not_lt, Int.not_le, not_true_eq_false, not_false_eq_true, bne_iff_ne, beq_iff_eq, bne_eq_false_iff_eq, beq_eq_false_iff_ne] at h_); omega⟩)) ?_
 intro _ H37; clear H35
 refine gw_evG H37 rfl rfl rfl rfl (on_t _) rfl (by decide) (fun h_ => (op_eqi rfl (ev_gv (H37.ev rfl) h_) (ev_c _ _))) ?_
 intro _ H39; clear H37
 refine V H39 (op_pick_and rfl (H39.ev rfl) (fun hp_ => (ev_gv (H39.ev rfl) hp_)) (ev_c _ _)) ?_
 intro _ H41; clear H39
 have H42 := H41.conv (v' := .bool (decide ((rest_ s (p0 + 1)).head? = some 33))) (congrArg Value.bool (bang_at s (p0 + 1) (by omega)))
 clear H41
 refine V H42 (op_assign rfl (H42.ev rfl)) ?_
 intro _ H44; clear H42
 refine gE hK21 ?_
 refine gw_seq fun K45 hK45 => ?_
 refine gR fun K46 hK46 => ?_
 refine V H44 (op_move rfl (H44.ev rfl)) ?_
 intro _ H48; clear H44
 refine gE hK46 ?_
 refine gw_cond H48 rfl (fun hb49 => ?_) (fun hb49 => ?_)
 ·
  have H50 := H48.subst_ (d := 31) (b := true) rfl hb49
  clear H48
  (try simp only [decide_eq_true_eq] at hb49)
  have hbang : (rest_ s (p0 + 1)).head? = some 33 := hb49
  have hb33 : p0 + 1 < s.size := by refine Int.not_le.1 fun h_ => ?_; rw [rest_nil s (p0 + 1) h_] at hbang; cases hbang
  refine wp_region_lit ?_
  refine V H50 (op_move rfl (H50.ev rfl)) ?_
  intro _ H52; clear H50
  refine V H52 (op_add rfl (H52.ev rfl) (ev_c _ _) (by omega)) ?_
  intro _ H54; clear H52
  refine V H54 (op_assign rfl (H54.ev rfl)) ?_
  intro _ H56; clear H54
  refine gE hK45 ?_
  refine gR fun K57 hK57 => ?_
  refine gw_rlit0 k55 (e := 55) H56 O7 (want_none rfl) rfl (by decide) (op_bslice (by kernel_rfl) rfl pt_nil) ?_
  intro A58 S59 _ w61 H62 O63; clear H56 O7
  have O64 : Own w w61 [Chunk.row k55 55 w.heap.size S59 (.slice A58 (([] : List S55).length) 0) ([] : List S55), Bk g2 [J 0, .slice none 0 0, .slice none 0 0] 26] := O63
  clear O63
  refine V H62 (op_assign rfl (H62.ev rfl)) ?_
  intro _ H66; clear H62
  refine gE hK57 ?_
  refine gR fun K67 hK67 => ?_
  refine V H66 (op_assign rfl (ev_c _ _)) ?_
  intro _ H69; clear H66
  refine gE hK67 ?_
  refine wp_block ?_
  refine gw_loop (fun m_ a_ w_ => ∃ (p : Int) (fst : Bool) (rs : List S55) (Aa : Option Addr) (ca : Nat) (Sa : Nat → Prop) (no : Nat), Fr 115 a_ [(1, J p), (10, .bool fst), (9, .slice Aa no ca), (0, .string s), (4, .pointer (some ⟨g2, 0, none⟩)), (8, .bool (decide ((rest_ s (p0 + 1)).head? = some 33)))] ∧ Own w w_ [Chunk.row k55 55 w.heap.size Sa (.slice Aa no ca) rs, Bk g2 [J 0, .slice none 0 0, .slice none 0 0] 26] ∧ (0 ≤ p ∧ p ≤ s.size) ∧ (∀ r_ ∈ rs, 0 ≤ r_.f0 ∧ r_.f0 ≤ 255 ∧ 0 ≤ r_.f1 ∧ r_.f1 ≤ 255) ∧ ((rs.length : Int) ≤ p) ∧ (clsK s RES p fst rs) ∧ (no = rs.length) ∧ m_ = (s.size - p.toNat)) ((s.size - ((p0 + 1) + 1 : Int).toNat)) ?_ ?_
  ·
   refine ⟨(p0 + 1) + 1, true, ([] : List S55), A58, _, _, _, (H69.pick (t := 1) rfl (H69.pick (t := 10) rfl (H69.pick (t := 9) rfl (H69.pick (t := 0) rfl (H69.pick (t := 4) rfl (H69.pick (t := 8) rfl H69.nil)))))), O64.sel [0, 1] (by decide), ?_, ?_, ?_, ?_, ?_, rfl⟩
   ·
    omega
   ·
    intro r_ hr_; simp at hr_
   ·
    show (0 : Int) ≤ _; omega
   ·
    exact ⟨(rest_ s (p0 + 1)).length + 1, by have h_ := congrArg List.length (rest_cons s (p0 + 1) (by omega)); rw [List.length_cons] at h_; omega, by rw [hRES]; unfold clsR; rw [if_pos hbang, show (rest_ s (p0 + 1)).tail = rest_ s ((p0 + 1) + 1) by rw [rest_cons s (p0 + 1) (by omega)]; rfl]⟩
   ·
    rfl
  ·
   rintro m71 _ w73 ⟨p, fst, rs, Aa, ca, Sa, no, H74, O75, hp, hbs, hlen, hD, hno, hm76⟩
   subst hno
   have hrl := rest_len s p hp
   rcases clsK_in hD with ⟨hb1, hR⟩ | ⟨x, q, r, k, hb1, hk, hR⟩
   ·
    refine gw_seq fun K77 hK77 => ?_
    refine wp_block ?_
    refine gw_seq fun K78 hK78 => ?_
    refine gR fun K79 hK79 => ?_
    refine V H74 (op_move rfl (H74.ev rfl)) ?_
    intro _ H81; clear H74
    refine V H81 (op_move rfl (H81.ev rfl)) ?_
    intro _ H83; clear H81
    refine V H83 (op_lens Tryz.underlying9 rfl (H83.ev rfl)) ?_
    intro _ H85; clear H83
    refine V H85 (op_geq rfl (H85.ev rfl) (H85.ev rfl)) ?_
    intro _ H87; clear H85
    refine gE hK79 ?_
    refine gw_cond H87 rfl (fun hb88 => ?_) (fun hb88 => ?_)
    ·
     have H89 := H87.subst_ (d := 38) (b := true) rfl hb88
     clear H87
     (try simp only [decide_eq_true_eq] at hb88)
     refine gR fun K90 hK90 => ?_
     refine V H89 (op_build (cells := #[J 0, .slice none 0 0, .slice none 0 0]) rfl pt_nil (by kernel_rfl)) ?_
     intro _ H92; clear H89
     refine V H92 (op_move rfl (H92.ev rfl)) ?_
     intro _ H94; clear H92
     refine V H94 (op_lens Tryz.underlying9 rfl (H94.ev rfl)) ?_
     intro _ H96; clear H94
     refine gw_setn 1 H96 O75 rfl (want_none rfl) rfl (op_storen gwsiz26 rfl (H96.ev rfl) (H96.ev rfl) (O75.get 1 rfl) rfl (by simp) (by simp [Value.oneCell'])) ?_
     intro _ w99 H98 O100; clear H96 O75
     refine V H98 (op_assign rfl (ev_c _ _)) ?_
     intro _ H102; clear H98
     refine V H102 (op_assign rfl (ev_c _ _)) ?_
     intro _ H104; clear H102
     refine V H104 (op_assign rfl (H104.ev rfl)) ?_
     intro _ H106; clear H104
     refine gE hK90 ?_
     refine wp_ret ?_
     refine gw_thr ?_
     refine gw_blr ?_
     refine gw_thr ?_
     refine gw_thr ?_
     refine gw_blr ?_
     refine gw_rets4 H106 rfl (rv_celln H106 rfl gwagg26 gwsiz26 (O100.get 1 rfl) rfl) (rv_tmp H106 rfl) (rv_tmp H106 rfl) (rv_tmp H106 rfl) ?_
     have hRE : RES = clsR s (p0 + 1) := hRES
     have O107 := O100.row_nil k55 55 w.heap.size
     clear O100
     have O108 : Own w w99 [Chunk.row k55 55 w.heap.size (fun _ => False) (.slice none (([] : List S55).length) 0) ([] : List S55), Chunk.row k55 55 w.heap.size Sa (.slice Aa rs.length ca) rs, Bk g2 [J 0, .slice none 0 0, .slice none 0 0] 26] := O107
     clear O107
     have O109 := O108.row_view 0 rfl
     clear O108
     have O110 : Own w w99 [Chunk.view k55 (fun _ => False) none (([] : List S55).length) 0 ([] : List S55), Chunk.row k55 55 w.heap.size Sa (.slice Aa rs.length ca) rs, Bk g2 [J 0, .slice none 0 0, .slice none 0 0] 26] := O109
     clear O109
     exact ⟨_, _, _, _, _, _, _, _, rfl, (O110.sel [0] (by decide)).out, clsQ_bad (m := 0) (hR.symm.trans hRE) (by decide) (by simp)⟩
    ·
     have H111 := H87.subst_ (d := 38) (b := false) rfl hb88
     clear H87
     (try simp only [decide_eq_false_iff_not, Int.not_le] at hb88)
     refine wp_skip ?_
     refine gw_nx (hK78 _ _ ?_)
     refine gw_seq fun K112 hK112 => ?_
     refine gR fun K113 hK113 => ?_
     refine V H111 (op_move rfl (H111.ev rfl)) ?_
     intro _ H115; clear H111
     refine V H115 (op_move rfl (H115.ev rfl)) ?_
     intro _ H117; clear H115
     refine V H117 (op_sidx Tryz.underlying9 rfl (H117.ev rfl) (H117.ev rfl) ⟨by omega, by omega⟩) ?_
     intro _ H119; clear H117
     refine V H119 (op_eqi rfl (H119.ev rfl) (ev_c _ _)) ?_
     intro _ H121; clear H119
     refine V H121 (op_move rfl (H121.ev rfl)) ?_
     intro _ H123; clear H121
     have H124 := H123.lit (b := false) (by rw [none_92 (by omega) hb1]; rfl)
     clear H123
     refine Vo H124 (wn H124 rfl rfl rfl rfl) ?_
     intro _ H126; clear H124
     refine Vo H126 (wn H126 rfl rfl rfl rfl) ?_
     intro _ H128; clear H126
     refine V H128 (op_pick_f rfl (H128.ev rfl) (ev_c _ _)) ?_
     intro _ H130; clear H128
     refine gE hK113 ?_
     refine gw_cond H130 rfl (fun hb131 => ?_) (fun hb131 => ?_)
     skip
     ·
      cases hb131
     refine wp_skip ?_
     refine gw_nx (hK112 _ _ ?_)
     refine gR fun K132 hK132 => ?_
     refine V H130 (op_move rfl (H130.ev rfl)) ?_
     intro _ H134; clear H130
     refine V H134 (op_assign rfl (H134.ev rfl)) ?_
     intro _ H136; clear H134
     refine gE hK132 ?_
     refine gR fun K137 hK137 => ?_
     refine V H136 (op_move rfl (H136.ev rfl)) ?_
     intro _ H139; clear H136
     refine V H139 (op_move rfl (H139.ev rfl)) ?_
     intro _ H141; clear H139
     refine gw_call H141 (want_none rfl) rfl (by decide) (op_callL Tryz.func23 (by kernel_rfl) rfl rfl (ar_cons (H141.ev rfl) (ar_cons (H141.ev rfl) ar_nil))) (item_is s p _ (by omega) hs 0 0 false (item_none hb1)) ?_
     rintro e142 w143 ⟨rfl, hb144⟩
     refine ⟨_, rfl, fun _ H146 => ?_⟩
     have O147 := O75.after hb144
     clear H141 O75 hb144
     refine V H146 (op_move rfl (H146.ev rfl)) ?_
     intro _ H150; clear H146
     refine V H150 (op_extract rfl (H150.ev rfl) rfl) ?_
     intro _ H152; clear H150
     refine V H152 (op_extract rfl (H152.ev rfl) rfl) ?_
     intro _ H154; clear H152
     refine V H154 (op_extract rfl (H154.ev rfl) rfl) ?_
     intro _ H156; clear H154
     refine V H156 (op_assign rfl (H156.ev rfl)) ?_
     intro _ H158; clear H156
     refine V H158 (op_assign rfl (H158.ev rfl)) ?_
     intro _ H160; clear H158
     refine V H160 (op_assign rfl (H160.ev rfl)) ?_
     intro _ H162; clear H160
     refine gE hK137 ?_
     refine gw_seq fun K163 hK163 => ?_
     refine gR fun K164 hK164 => ?_
     refine V H162 (op_move rfl (H162.ev rfl)) ?_
     intro _ H166; clear H162
     refine V H166 (op_not rfl (H166.ev rfl)) ?_
     intro _ H168; clear H166
     refine gE hK164 ?_
     refine gw_cond H168 rfl (fun hb169 => ?_) (fun hb169 => ?_)
     rotate_left
     ·
      cases hb169
     refine gR fun K170 hK170 => ?_
     refine V H168 (op_build (cells := #[J 0, .slice none 0 0, .slice none 0 0]) rfl pt_nil (by kernel_rfl)) ?_
     intro _ H172; clear H168
     refine V H172 (op_move rfl (H172.ev rfl)) ?_
     intro _ H174; clear H172
     refine V H174 (op_lens Tryz.underlying9 rfl (H174.ev rfl)) ?_
     intro _ H176; clear H174
     refine gw_setn 1 H176 O147 rfl (want_none rfl) rfl (op_storen gwsiz26 rfl (H176.ev rfl) (H176.ev rfl) (O147.get 1 rfl) rfl (by simp) (by simp [Value.oneCell'])) ?_
     intro _ w179 H178 O180; clear H176 O147
     refine V H178 (op_assign rfl (ev_c _ _)) ?_
     intro _ H182; clear H178
     refine V H182 (op_assign rfl (ev_c _ _)) ?_
     intro _ H184; clear H182
     refine V H184 (op_assign rfl (H184.ev rfl)) ?_
     intro _ H186; clear H184
     refine gE hK170 ?_
     refine wp_ret ?_
     refine gw_thr ?_
     refine gw_blr ?_
     refine gw_thr ?_
     refine gw_thr ?_
     refine gw_blr ?_
     refine gw_rets4 H186 rfl (rv_celln H186 rfl gwagg26 gwsiz26 (O180.get 1 rfl) rfl) (rv_tmp H186 rfl) (rv_tmp H186 rfl) (rv_tmp H186 rfl) ?_
     have hRE : RES = clsR s (p0 + 1) := hRES
     have O187 := O180.row_nil k55 55 w.heap.size
     clear O180
     have O188 : Own w w179 [Chunk.row k55 55 w.heap.size (fun _ => False) (.slice none (([] : List S55).length) 0) ([] : List S55), Chunk.row k55 55 w.heap.size Sa (.slice Aa rs.length ca) rs, Bk g2 [J 0, .slice none 0 0, .slice none 0 0] 26] := O187
     clear O187
     have O189 := O188.row_view 0 rfl
     clear O188
     have O190 : Own w w179 [Chunk.view k55 (fun _ => False) none (([] : List S55).length) 0 ([] : List S55), Chunk.row k55 55 w.heap.size Sa (.slice Aa rs.length ca) rs, Bk g2 [J 0, .slice none 0 0, .slice none 0 0] 26] := O189
     clear O189
     exact ⟨_, _, _, _, _, _, _, _, rfl, (O190.sel [0] (by decide)).out, clsQ_bad (m := 0) (hR.symm.trans hRE) (by decide) (by simp)⟩
   ·
    obtain ⟨hrr, hp1, hp2⟩ := item_rest hp hs hb1
    have hps := rest_some hb1
    have hx := byteS_range hb1
    refine gw_seq fun K191 hK191 => ?_
    refine wp_block ?_
    refine gw_seq fun K192 hK192 => ?_
    refine gR fun K193 hK193 => ?_
    refine V H74 (op_move rfl (H74.ev rfl)) ?_
    intro _ H195; clear H74
    refine V H195 (op_move rfl (H195.ev rfl)) ?_
    intro _ H197; clear H195
    refine V H197 (op_lens Tryz.underlying9 rfl (H197.ev rfl)) ?_
    intro _ H199; clear H197
    refine V H199 (op_geq rfl (H199.ev rfl) (H199.ev rfl)) ?_
    intro _ H201; clear H199
    have H202 := H201.lit (b := false) (by rw [decide_eq_false_iff_not]; omega)
    clear H201
    refine gE hK193 ?_
    refine gw_cond H202 rfl (fun hb203 => ?_) (fun hb203 => ?_)
    skip
    ·
     cases hb203
    refine wp_skip ?_
    refine gw_nx (hK192 _ _ ?_)
    refine gw_seq fun K204 hK204 => ?_
    refine gR fun K205 hK205 => ?_
    refine V H202 (op_move rfl (H202.ev rfl)) ?_
    intro _ H207; clear H202
    refine V H207 (op_move rfl (H207.ev rfl)) ?_
    intro _ H209; clear H207
    refine V H209 (op_sidx Tryz.underlying9 rfl (H209.ev rfl) (H209.ev rfl) ⟨by omega, by omega⟩) ?_
    intro _ H211; clear H209
    refine V H211 (op_eqi rfl (H211.ev rfl) (ev_c _ _)) ?_
    intro _ H213; clear H211
    refine V H213 (op_move rfl (H213.ev rfl)) ?_
    intro _ H215; clear H213
    refine gw_evG H215 rfl rfl rfl rfl (on_t _) rfl (by decide) (fun h_ => (op_move rfl (H215.ev rfl))) ?_
    intro _ H217; clear H215
    refine gw_evG H217 rfl rfl rfl rfl (on_t _) rfl (by decide) (fun h_ => (op_not rfl (ev_gv (H217.ev rfl) h_))) ?_
    intro _ H219; clear H217
    refine V H219 (op_pick_and rfl (H219.ev rfl) (fun hp_ => (ev_gv (H219.ev rfl) hp_)) (ev_c _ _)) ?_
    intro _ H221; clear H219
    have H222 := H221.conv (v' := .bool (decide (x = 93 ∧ q = false ∧ fst = false))) (congrArg Value.bool (end_eq fst hp.1 hb1))
    clear H221
    refine gE hK205 ?_
    refine gw_cond H222 rfl (fun hb223 => ?_) (fun hb223 => ?_)
    ·
     have H224 := H222.subst_ (d := 49) (b := true) rfl hb223
     clear H222
     (try simp only [decide_eq_true_eq] at hb223)
     have hend := hb223
     rw [if_pos hend] at hR
     obtain ⟨hn1, hn2⟩ := plain_rest hp.1 hend.1 (hend.2.1 ▸ hb1)
     refine gR fun K225 hK225 => ?_
     refine V H224 (op_move rfl (H224.ev rfl)) ?_
     intro _ H227; clear H224
     refine V H227 (op_move rfl (H227.ev rfl)) ?_
     intro _ H229; clear H227
     refine gw_call H229 (want_none rfl) rfl (by decide) (op_callL Tryz.func37 (by kernel_rfl) rfl rfl (ar_cons (H229.ev rfl) (ar_cons (H229.ev rfl) ar_nil))) (rRanges_walk Aa ca rs (decide ((rest_ s (p0 + 1)).head? = some 33)) _ (Kd.R_reads' (O75.get 0 rfl)).2.2 (row_cap (O75.get 0 rfl)) hbs) ?_
     rintro e233 w234 ⟨A230, c231, S232, rfl, hb235⟩
     refine ⟨_, rfl, fun _ H237 => ?_⟩
     have O238 := O75.fresh hb235
     have hbel239 := O75.below
     clear H229 O75 hb235
     have O240 := O238.lowrow 0 rfl (base' := w.heap.size) (Below.size hbel239)
     refine V H237 (op_build (cells := #[J 1, .slice A230 ((canonP fun c_ => inR rs c_ != (decide ((rest_ s (p0 + 1)).head? = some 33))).length) c231, .slice none 0 0]) rfl (pt_cons (ev_c _ _) (pt_cons (H237.ev rfl) pt_nil)) (by kernel_rfl)) ?_
     intro _ H242; clear H237
     refine V H242 (op_move rfl (H242.ev rfl)) ?_
     intro _ H244; clear H242
     refine V H244 (op_add rfl (H244.ev rfl) (ev_c _ _) (by omega)) ?_
     intro _ H246; clear H244
     refine gw_setn 2 H246 O240 rfl (want_none rfl) rfl (op_storen gwsiz26 rfl (H246.ev rfl) (H246.ev rfl) (O240.get 2 rfl) rfl (by simp) (by simp [Value.oneCell'])) ?_
     intro _ w249 H248 O250; clear H246 O240
     refine V H248 (op_assign rfl (H248.ev rfl)) ?_
     intro _ H252; clear H248
     refine V H252 (op_assign rfl (ev_c _ _)) ?_
     intro _ H254; clear H252
     refine V H254 (op_assign rfl (ev_c _ _)) ?_
     intro _ H256; clear H254
     refine gE hK225 ?_
     refine wp_ret ?_
     refine gw_thr ?_
     refine gw_blr ?_
     refine gw_thr ?_
     refine gw_thr ?_
     refine gw_blr ?_
     refine gw_rets4 H256 rfl (rv_celln H256 rfl gwagg26 gwsiz26 (O250.get 2 rfl) rfl) (rv_tmp H256 rfl) (rv_tmp H256 rfl) (rv_tmp H256 rfl) ?_
     have hRE : RES = clsR s (p0 + 1) := hRES
     have O257 := O250.row_view 0 rfl
     clear O250
     have O258 : Own w w249 [Chunk.view k55 S232 A230 ((canonP fun c_ => inR rs c_ != (decide ((rest_ s (p0 + 1)).head? = some 33))).length) c231 (canonP fun c_ => inR rs c_ != (decide ((rest_ s (p0 + 1)).head? = some 33))), Chunk.row k55 55 w.heap.size Sa (.slice Aa rs.length ca) rs, Bk g2 [J 1, .slice A230 ((canonP fun c_ => inR rs c_ != (decide ((rest_ s (p0 + 1)).head? = some 33))).length) c231, .slice none 0 0] 26] := O257
     clear O257
     exact ⟨_, _, _, _, _, _, _, _, rfl, (O258.sel [0] (by decide)).out, clsQ_ok (by omega) (hR.symm.trans hRE) (by omega)⟩
    ·
     have H259 := H222.subst_ (d := 49) (b := false) rfl hb223
     clear H222
     (try simp only [decide_eq_false_iff_not] at hb223)
     have hnb := hb223
     refine wp_skip ?_
     refine gw_nx (hK204 _ _ ?_)
     refine gR fun K260 hK260 => ?_
     refine V H259 (op_move rfl (H259.ev rfl)) ?_
     intro _ H262; clear H259
     refine V H262 (op_assign rfl (H262.ev rfl)) ?_
     intro _ H264; clear H262
     refine gE hK260 ?_
     refine gR fun K265 hK265 => ?_
     refine V H264 (op_move rfl (H264.ev rfl)) ?_
     intro _ H267; clear H264
     refine V H267 (op_move rfl (H267.ev rfl)) ?_
     intro _ H269; clear H267
     refine gw_call H269 (want_none rfl) rfl (by decide) (op_callL Tryz.func23 (by kernel_rfl) rfl rfl (ar_cons (H269.ev rfl) (ar_cons (H269.ev rfl) ar_nil))) (item_is s p _ (by omega) hs x ((s.size : Int) - r.length) true (item_ok hb1)) ?_
     rintro e270 w271 ⟨rfl, hb272⟩
     refine ⟨_, rfl, fun _ H274 => ?_⟩
     have O275 := O75.after hb272
     clear H269 O75 hb272
     refine V H274 (op_move rfl (H274.ev rfl)) ?_
     intro _ H278; clear H274
     refine V H278 (op_extract rfl (H278.ev rfl) rfl) ?_
     intro _ H280; clear H278
     refine V H280 (op_extract rfl (H280.ev rfl) rfl) ?_
     intro _ H282; clear H280
     refine V H282 (op_extract rfl (H282.ev rfl) rfl) ?_
     intro _ H284; clear H282
     refine V H284 (op_assign rfl (H284.ev rfl)) ?_
     intro _ H286; clear H284
     refine V H286 (op_assign rfl (H286.ev rfl)) ?_
     intro _ H288; clear H286
     refine V H288 (op_assign rfl (H288.ev rfl)) ?_
     intro _ H290; clear H288
     refine gE hK265 ?_
     refine gw_seq fun K291 hK291 => ?_
     refine gR fun K292 hK292 => ?_
     refine V H290 (op_move rfl (H290.ev rfl)) ?_
     intro _ H294; clear H290
     refine V H294 (op_not rfl (H294.ev rfl)) ?_
     intro _ H296; clear H294
     refine gE hK292 ?_
     refine gw_cond H296 rfl (fun hb297 => ?_) (fun hb297 => ?_)
     skip
     ·
      cases hb297
     refine wp_skip ?_
     refine gw_nx (hK291 _ _ ?_)
     refine gR fun K298 hK298 => ?_
     refine V H296 (op_move rfl (H296.ev rfl)) ?_
     intro _ H300; clear H296
     refine V H300 (op_assign rfl (H300.ev rfl)) ?_
     intro _ H302; clear H300
     refine gE hK298 ?_
     refine gR fun K303 hK303 => ?_
     refine V H302 (op_move rfl (H302.ev rfl)) ?_
     intro _ H305; clear H302
     refine V H305 (op_assign rfl (H305.ev rfl)) ?_
     intro _ H307; clear H305
     refine gE hK303 ?_
     refine gw_seq fun K308 hK308 => ?_
     refine gR fun K309 hK309 => ?_
     refine V H307 (op_move rfl (H307.ev rfl)) ?_
     intro _ H311; clear H307
     refine V H311 (op_add rfl (H311.ev rfl) (ev_c _ _) (by omega)) ?_
     intro _ H313; clear H311
     refine V H313 (op_move rfl (H313.ev rfl)) ?_
     intro _ H315; clear H313
     refine V H315 (op_lens Tryz.underlying9 rfl (H315.ev rfl)) ?_
     intro _ H317; clear H315
     refine V H317 (op_lss rfl (H317.ev rfl) (H317.ev rfl)) ?_
     intro _ H319; clear H317
     refine V H319 (op_move rfl (H319.ev rfl)) ?_
     intro _ H321; clear H319
     refine gw_evG H321 rfl rfl rfl rfl (on_t _) rfl (by decide) (fun h_ => (op_move rfl (H321.ev rfl))) ?_
     intro _ H323; clear H321
     refine gw_evG H323 rfl rfl rfl rfl (on_t _) rfl (by decide) (fun h_ => (op_move rfl (H323.ev rfl))) ?_
     intro _ H325; clear H323
     refine gw_evG H325 rfl rfl rfl rfl (on_t _) rfl (by decide) (fun h_ => (op_sidx Tryz.underlying9 rfl (ev_gv (H325.ev rfl) h_) (ev_gv (H325.ev rfl) h_) ⟨by (try simp only [Bool.and_eq_true, Bool.or_eq_true, Bool.and_eq_false_iff, Bool.or_eq_false_iff, Bool.not_and, Bool.not_or, Bool.not_not, decide_eq_true_eq, decide_eq_false_iff_not, Bool.not_eq_true', Bool.not_eq_false', Bool.not_eq_true, Bool.not_eq_false, ne_eq, Decidable.not_not, Int.not_lt, Int.not_le, not_true_eq_false, not_false_eq_true, bne_iff_ne, beq_iff_eq, bne_eq_false_iff_eq, beq_eq_false_iff_ne] at h_); omega, by (try simp only [Bool.and_eq_true, Bool.or_eq_true, Bool.and_eq_false_iff, Bool.or_eq_false_iff, Bool.not_and, Bool.not_or, Bool.not_not, decide_eq_true_eq, decide_eq_false_iff_not, Bool.not_eq_true', Bool.not_eq_false', Bool.not_eq_true, Bool.not_eq_false, ne_eq, Decidable.not_not, Int.not_lt, Int.not_le, not_true_eq_false, not_false_eq_true, bne_iff_ne, beq_iff_eq, bne_eq_false_iff_eq, beq_eq_false_iff_ne] at h_); omega⟩)) ?_
     intro _ H327; clear H325
     refine gw_evG H327 rfl rfl rfl rfl (on_t _) rfl (by decide) (fun h_ => (op_eqi rfl (ev_gv (H327.ev rfl) h_) (ev_c _ _))) ?_
     intro _ H329; clear H327
     refine V H329 (op_pick_and rfl (H329.ev rfl) (fun hp_ => (ev_gv (H329.ev rfl) hp_)) (ev_c _ _)) ?_
     intro _ H331; clear H329
     refine V H331 (op_move rfl (H331.ev rfl)) ?_
     intro _ H333; clear H331
     refine gw_evG H333 rfl rfl rfl rfl (on_t _) rfl (by decide) (fun h_ => (op_move rfl (H333.ev rfl))) ?_
     intro _ H335; clear H333
     refine gw_evG H335 rfl rfl rfl rfl (on_t _) rfl (by decide) (fun h_ => (op_move rfl (H335.ev rfl))) ?_
     intro _ H337; clear H335
     refine gw_evG H337 rfl rfl rfl rfl (on_t _) rfl (by decide) (fun h_ => (op_add rfl (ev_gv (H337.ev rfl) h_) (ev_c _ _) (by (try simp only [Bool.and_eq_true, Bool.or_eq_true, Bool.and_eq_false_iff, Bool.or_eq_false_iff, Bool.not_and, Bool.not_or, Bool.not_not, decide_eq_true_eq, decide_eq_false_iff_not, Bool.not_eq_true', Bool.not_eq_false', Bool.not_eq_true, Bool.not_eq_false, ne_eq, Decidable.not_not, Int.not_lt, Int.not_le, not_true_eq_false, not_false_eq_true, bne_iff_ne, beq_iff_eq, bne_eq_false_iff_eq, beq_eq_false_iff_ne] at h_); omega))) ?_
     intro _ H339; clear H337
     refine gw_evG H339 rfl rfl rfl rfl (on_t _) rfl (by decide) (fun h_ => (op_sidx Tryz.underlying9 rfl (ev_gv (H339.ev rfl) h_) (ev_gv (H339.ev rfl) h_) ⟨by (try simp only [Bool.and_eq_true, Bool.or_eq_true, Bool.and_eq_false_iff, Bool.or_eq_false_iff, Bool.not_and, Bool.not_or, Bool.not_not, decide_eq_true_eq, decide_eq_false_iff_not, Bool.not_eq_true', Bool.not_eq_false', Bool.not_eq_true, Bool.not_eq_false, ne_eq, Decidable.not_not, Int.not_lt, Int.not_le, not_true_eq_false, not_false_eq_true, bne_iff_ne, beq_iff_eq, bne_eq_false_iff_eq, beq_eq_false_iff_ne] at h_); omega, by (try simp only [Bool.and_eq_true, Bool.or_eq_true, Bool.and_eq_false_iff, Bool.or_eq_false_iff, Bool.not_and, Bool.not_or, Bool.not_not, decide_eq_true_eq, decide_eq_false_iff_not, Bool.not_eq_true', Bool.not_eq_false', Bool.not_eq_true, Bool.not_eq_false, ne_eq, Decidable.not_not, Int.not_lt, Int.not_le, not_true_eq_false, not_false_eq_true, bne_iff_ne, beq_iff_eq, bne_eq_false_iff_eq, beq_eq_false_iff_ne] at h_); omega⟩)) ?_
     intro _ H341; clear H339
     refine gw_evG H341 rfl rfl rfl rfl (on_t _) rfl (by decide) (fun h_ => (op_nei rfl (ev_gv (H341.ev rfl) h_) (ev_c _ _))) ?_
     intro _ H343; clear H341
     refine V H343 (op_pick_and rfl (H343.ev rfl) (fun hp_ => (ev_gv (H343.ev rfl) hp_)) (ev_c _ _)) ?_
     intro _ H345; clear H343
     have H346 := H345.conv (v' := .bool (hyph r)) (congrArg Value.bool (hyph_at s ((s.size : Int) - r.length) r (by omega) hrr))
     clear H345
     refine gE hK309 ?_
     refine gw_cond H346 rfl (fun hb347 => ?_) (fun hb347 => ?_)
     ·
      have H348 := H346.subst_ (d := 88) (b := true) rfl hb347
      clear H346
      (try simp only [Bool.not_eq_true] at hb347)
      have hhy : hyph r = true := by assumption
      have hltr : ((s.size : Int) - r.length) < s.size := by refine Int.not_le.1 fun h_ => ?_; have h2_ : r = [] := List.length_eq_zero_iff.1 (by omega); rw [h2_] at hhy; cases hhy
      have hlt2 : ((s.size : Int) - r.length) + 1 < s.size := by refine Int.not_le.1 fun h_ => ?_; obtain ⟨c_, h2_⟩ := List.length_eq_one_iff.1 (show r.length = 1 by omega); rw [h2_] at hhy; cases hhy
      have htl : rest_ s (((s.size : Int) - r.length) + 1) = r.tail := by have h_ := rest_cons s ((s.size : Int) - r.length) (by omega); rw [hrr] at h_; exact (congrArg List.tail h_).symm
      rcases hb2 : byteS (rest_ s (((s.size : Int) - r.length) + 1)) with _ | ⟨hi_, q2, r2⟩
      ·
       rw [if_neg hnb, if_pos hhy, show byteS r.tail = none by rw [← htl]; exact hb2] at hR; simp only at hR
       refine gR fun K349 hK349 => ?_
       refine V H348 (op_move rfl (H348.ev rfl)) ?_
       intro _ H351; clear H348
       refine V H351 (op_move rfl (H351.ev rfl)) ?_
       intro _ H353; clear H351
       refine V H353 (op_add rfl (H353.ev rfl) (ev_c _ _) (by omega)) ?_
       intro _ H355; clear H353
       refine gw_call H355 (want_none rfl) rfl (by decide) (op_callL Tryz.func23 (by kernel_rfl) rfl rfl (ar_cons (H355.ev rfl) (ar_cons (H355.ev rfl) ar_nil))) (item_is s (((s.size : Int) - r.length) + 1) _ (by omega) hs 0 0 false (item_none hb2)) ?_
       rintro e356 w357 ⟨rfl, hb358⟩
       refine ⟨_, rfl, fun _ H360 => ?_⟩
       have O361 := O275.after hb358
       clear H355 O275 hb358
       refine V H360 (op_move rfl (H360.ev rfl)) ?_
       intro _ H364; clear H360
       refine V H364 (op_extract rfl (H364.ev rfl) rfl) ?_
       intro _ H366; clear H364
       refine V H366 (op_extract rfl (H366.ev rfl) rfl) ?_
       intro _ H368; clear H366
       refine V H368 (op_extract rfl (H368.ev rfl) rfl) ?_
       intro _ H370; clear H368
       refine V H370 (op_assign rfl (H370.ev rfl)) ?_
       intro _ H372; clear H370
       refine V H372 (op_assign rfl (H372.ev rfl)) ?_
       intro _ H374; clear H372
       refine V H374 (op_assign rfl (H374.ev rfl)) ?_
       intro _ H376; clear H374
       refine gE hK349 ?_
       refine gw_seq fun K377 hK377 => ?_
       refine gR fun K378 hK378 => ?_
       refine V H376 (op_move rfl (H376.ev rfl)) ?_
       intro _ H380; clear H376
       refine V H380 (op_not rfl (H380.ev rfl)) ?_
       intro _ H382; clear H380
       refine gE hK378 ?_
       refine gw_cond H382 rfl (fun hb383 => ?_) (fun hb383 => ?_)
       rotate_left
       ·
        cases hb383
       refine gR fun K384 hK384 => ?_
       refine V H382 (op_build (cells := #[J 0, .slice none 0 0, .slice none 0 0]) rfl pt_nil (by kernel_rfl)) ?_
       intro _ H386; clear H382
       refine V H386 (op_move rfl (H386.ev rfl)) ?_
       intro _ H388; clear H386
       refine V H388 (op_lens Tryz.underlying9 rfl (H388.ev rfl)) ?_
       intro _ H390; clear H388
       refine gw_setn 1 H390 O361 rfl (want_none rfl) rfl (op_storen gwsiz26 rfl (H390.ev rfl) (H390.ev rfl) (O361.get 1 rfl) rfl (by simp) (by simp [Value.oneCell'])) ?_
       intro _ w393 H392 O394; clear H390 O361
       refine V H392 (op_assign rfl (ev_c _ _)) ?_
       intro _ H396; clear H392
       refine V H396 (op_assign rfl (ev_c _ _)) ?_
       intro _ H398; clear H396
       refine V H398 (op_assign rfl (H398.ev rfl)) ?_
       intro _ H400; clear H398
       refine gE hK384 ?_
       refine wp_ret ?_
       refine gw_thr ?_
       refine gw_thr ?_
       refine gw_blr ?_
       refine gw_thr ?_
       refine gw_thr ?_
       refine gw_blr ?_
       refine gw_rets4 H400 rfl (rv_celln H400 rfl gwagg26 gwsiz26 (O394.get 1 rfl) rfl) (rv_tmp H400 rfl) (rv_tmp H400 rfl) (rv_tmp H400 rfl) ?_
       have hRE : RES = clsR s (p0 + 1) := hRES
       have O401 := O394.row_nil k55 55 w.heap.size
       clear O394
       have O402 : Own w w393 [Chunk.row k55 55 w.heap.size (fun _ => False) (.slice none (([] : List S55).length) 0) ([] : List S55), Chunk.row k55 55 w.heap.size Sa (.slice Aa rs.length ca) rs, Bk g2 [J 0, .slice none 0 0, .slice none 0 0] 26] := O401
       clear O401
       have O403 := O402.row_view 0 rfl
       clear O402
       have O404 : Own w w393 [Chunk.view k55 (fun _ => False) none (([] : List S55).length) 0 ([] : List S55), Chunk.row k55 55 w.heap.size Sa (.slice Aa rs.length ca) rs, Bk g2 [J 0, .slice none 0 0, .slice none 0 0] 26] := O403
       clear O403
       exact ⟨_, _, _, _, _, _, _, _, rfl, (O404.sel [0] (by decide)).out, clsQ_bad (m := 0) (hR.symm.trans hRE) (by decide) (by simp)⟩
      ·
       obtain ⟨hrr2, hp3, hp4⟩ := item_rest (by omega) hs hb2
       have hx2 := byteS_range hb2
       have hr2l := byteS_lt hb2
       rw [if_neg hnb, if_pos hhy, show byteS r.tail = some (hi_, q2, r2) by rw [← htl]; exact hb2] at hR; simp only at hR
       refine gR fun K405 hK405 => ?_
       refine V H348 (op_move rfl (H348.ev rfl)) ?_
       intro _ H407; clear H348
       refine V H407 (op_move rfl (H407.ev rfl)) ?_
       intro _ H409; clear H407
       refine V H409 (op_add rfl (H409.ev rfl) (ev_c _ _) (by omega)) ?_
       intro _ H411; clear H409
       refine gw_call H411 (want_none rfl) rfl (by decide) (op_callL Tryz.func23 (by kernel_rfl) rfl rfl (ar_cons (H411.ev rfl) (ar_cons (H411.ev rfl) ar_nil))) (item_is s (((s.size : Int) - r.length) + 1) _ (by omega) hs hi_ ((s.size : Int) - r2.length) true (item_ok hb2)) ?_
       rintro e412 w413 ⟨rfl, hb414⟩
       refine ⟨_, rfl, fun _ H416 => ?_⟩
       have O417 := O275.after hb414
       clear H411 O275 hb414
       refine V H416 (op_move rfl (H416.ev rfl)) ?_
       intro _ H420; clear H416
       refine V H420 (op_extract rfl (H420.ev rfl) rfl) ?_
       intro _ H422; clear H420
       refine V H422 (op_extract rfl (H422.ev rfl) rfl) ?_
       intro _ H424; clear H422
       refine V H424 (op_extract rfl (H424.ev rfl) rfl) ?_
       intro _ H426; clear H424
       refine V H426 (op_assign rfl (H426.ev rfl)) ?_
       intro _ H428; clear H426
       refine V H428 (op_assign rfl (H428.ev rfl)) ?_
       intro _ H430; clear H428
       refine V H430 (op_assign rfl (H430.ev rfl)) ?_
       intro _ H432; clear H430
       refine gE hK405 ?_
       refine gw_seq fun K433 hK433 => ?_
       refine gR fun K434 hK434 => ?_
       refine V H432 (op_move rfl (H432.ev rfl)) ?_
       intro _ H436; clear H432
       refine V H436 (op_not rfl (H436.ev rfl)) ?_
       intro _ H438; clear H436
       refine gE hK434 ?_
       refine gw_cond H438 rfl (fun hb439 => ?_) (fun hb439 => ?_)
       skip
       ·
        cases hb439
       refine wp_skip ?_
       refine gw_nx (hK433 _ _ ?_)
       refine gR fun K440 hK440 => ?_
       refine V H438 (op_move rfl (H438.ev rfl)) ?_
       intro _ H442; clear H438
       refine V H442 (op_assign rfl (H442.ev rfl)) ?_
       intro _ H444; clear H442
       refine gE hK440 ?_
       refine wp_region_lit ?_
       refine V H444 (op_move rfl (H444.ev rfl)) ?_
       intro _ H446; clear H444
       refine V H446 (op_assign rfl (H446.ev rfl)) ?_
       intro _ H448; clear H446
       refine gE hK308 ?_
       refine gw_seq fun K449 hK449 => ?_
       refine gR fun K450 hK450 => ?_
       refine V H448 (op_move rfl (H448.ev rfl)) ?_
       intro _ H452; clear H448
       refine V H452 (op_move rfl (H452.ev rfl)) ?_
       intro _ H454; clear H452
       refine V H454 (op_lss rfl (H454.ev rfl) (H454.ev rfl)) ?_
       intro _ H456; clear H454
       refine gE hK450 ?_
       refine gw_cond H456 rfl (fun hb457 => ?_) (fun hb457 => ?_)
       ·
        have H458 := H456.subst_ (d := 106) (b := true) rfl hb457
        clear H456
        (try simp only [decide_eq_true_eq] at hb457)
        rw [if_pos (by assumption)] at hR
        refine gR fun K459 hK459 => ?_
        refine V H458 (op_build (cells := #[J 0, .slice none 0 0, .slice none 0 0]) rfl pt_nil (by kernel_rfl)) ?_
        intro _ H461; clear H458
        refine V H461 (op_move rfl (H461.ev rfl)) ?_
        intro _ H463; clear H461
        refine gw_setn 1 H463 O417 rfl (want_none rfl) rfl (op_storen gwsiz26 rfl (H463.ev rfl) (H463.ev rfl) (O417.get 1 rfl) rfl (by simp) (by simp [Value.oneCell'])) ?_
        intro _ w466 H465 O467; clear H463 O417
        refine V H465 (op_assign rfl (ev_c _ _)) ?_
        intro _ H469; clear H465
        refine V H469 (op_assign rfl (ev_c _ _)) ?_
        intro _ H471; clear H469
        refine V H471 (op_assign rfl (H471.ev rfl)) ?_
        intro _ H473; clear H471
        refine gE hK459 ?_
        refine wp_ret ?_
        refine gw_thr ?_
        refine gw_blr ?_
        refine gw_thr ?_
        refine gw_thr ?_
        refine gw_blr ?_
        refine gw_rets4 H473 rfl (rv_celln H473 rfl gwagg26 gwsiz26 (O467.get 1 rfl) rfl) (rv_tmp H473 rfl) (rv_tmp H473 rfl) (rv_tmp H473 rfl) ?_
        have hRE : RES = clsR s (p0 + 1) := hRES
        have O474 := O467.row_nil k55 55 w.heap.size
        clear O467
        have O475 : Own w w466 [Chunk.row k55 55 w.heap.size (fun _ => False) (.slice none (([] : List S55).length) 0) ([] : List S55), Chunk.row k55 55 w.heap.size Sa (.slice Aa rs.length ca) rs, Bk g2 [J 0, .slice none 0 0, .slice none 0 0] 26] := O474
        clear O474
        have O476 := O475.row_view 0 rfl
        clear O475
        have O477 : Own w w466 [Chunk.view k55 (fun _ => False) none (([] : List S55).length) 0 ([] : List S55), Chunk.row k55 55 w.heap.size Sa (.slice Aa rs.length ca) rs, Bk g2 [J 0, .slice none 0 0, .slice none 0 0] 26] := O476
        clear O476
        exact ⟨_, _, _, _, _, _, _, _, rfl, (O477.sel [0] (by decide)).out, clsQ_bad (m := (rest_ s p).length) (hR.symm.trans hRE) (by decide) (by omega)⟩
       ·
        have H478 := H456.subst_ (d := 106) (b := false) rfl hb457
        clear H456
        (try simp only [decide_eq_false_iff_not, Int.not_lt] at hb457)
        rw [if_neg (by omega)] at hR
        refine wp_skip ?_
        refine gw_nx (hK449 _ _ ?_)
        refine wp_region_lit ?_
        refine V H478 (op_move rfl (H478.ev rfl)) ?_
        intro _ H480; clear H478
        refine V H480 (op_move rfl (H480.ev rfl)) ?_
        intro _ H482; clear H480
        refine V H482 (op_move rfl (H482.ev rfl)) ?_
        intro _ H484; clear H482
        refine V H484 (op_build (cells := #[.int .u8 x, .int .u8 hi_]) rfl (pt_cons (H484.ev rfl) (pt_cons (H484.ev rfl) pt_nil)) (by kernel_rfl)) ?_
        intro _ H486; clear H484
        refine gw_news (O := .cells #[.int .u8 x, .int .u8 hi_] 55 (0, 0)) (n := 1) H486 O417 (want_none rfl) rfl (by decide) (op_bslice (by kernel_rfl) rfl (pt_cons (H486.ev rfl) pt_nil)) ?_
        intro g487 _ w489 H490 O491; clear H486 O417
        have O492 : Own w w489 [Bk g487 [.int .u8 x, .int .u8 hi_] 55, Chunk.row k55 55 w.heap.size Sa (.slice Aa rs.length ca) rs, Bk g2 [J 0, .slice none 0 0, .slice none 0 0] 26] := O491
        clear O491
        have O493 : Own w _ [Chunk.row k55 55 w.heap.size Sa (.slice Aa rs.length ca) rs, Chunk.void, Bk g487 [.int .u8 x, .int .u8 hi_] 55, Bk g2 [J 0, .slice none 0 0, .slice none 0 0] 26] := O492.void.sel [2, 0, 1, 3] (by decide)
        refine gw_append1 k55 0 (p := (⟨x, hi_⟩ : S55)) (cs := [.int .u8 x, .int .u8 hi_]) H490 O493 (want_none rfl) rfl (by decide) rfl Tryz.underlying23 gwinfo55 rfl (by decide) (by decide) rfl (H490.ev rfl) (H490.ev rfl) (fun w_ h_ => k55_mkM w_ _ _ (⟨x, hi_⟩ : S55) ) O493.below.size (by omega) ?_
        intro A494 c495 S496 _ w498 H499 O500; clear H490 O492 O493
        have O501 : Own w w498 [Chunk.row k55 55 w.heap.size S496 (.slice A494 ((rs ++ [(⟨x, hi_⟩ : S55)]).length) c495) (rs ++ [(⟨x, hi_⟩ : S55)]), Bk g487 [.int .u8 x, .int .u8 hi_] 55, Bk g2 [J 0, .slice none 0 0, .slice none 0 0] 26] := O500
        clear O500
        refine V H499 (op_assign rfl (H499.ev rfl)) ?_
        intro _ H503; clear H499
        refine wpList_nil ?_
        refine gw_blk ?_
        refine gw_nx (hK191 _ _ ?_)
        refine wp_region_lit ?_
        refine V H503 (op_assign rfl (ev_c _ _)) ?_
        intro _ H505; clear H503
        refine wpList_nil ?_
        refine gw_nx ⟨_, ?_, ((s.size : Int) - r2.length), false, (rs ++ [(⟨x, hi_⟩ : S55)]), A494, _, _, _, (H505.pick (t := 1) rfl (H505.pick (t := 10) rfl (H505.pick (t := 9) rfl (H505.pick (t := 0) rfl (H505.pick (t := 4) rfl (H505.pick (t := 8) rfl H505.nil)))))), O501.sel [0, 2] (by decide), ?_, ?_, ?_, ?_, ?_, rfl⟩
        ·
         rw [hm76]; omega
        ·
         omega
        ·
         intro r_ hr_; rcases List.mem_append.1 hr_ with h_ | h_; (exact hbs r_ h_); (rw [List.mem_singleton.1 h_]; dsimp only; omega)
        ·
         rw [List.length_append, List.length_singleton]; omega
        ·
         exact ⟨k, by (try rw [hrr2]); (try rw [hrr]); omega, by (try rw [hrr2]); (try rw [hrr]); exact hR.symm⟩
        ·
         rfl
     ·
      have H506 := H346.subst_ (d := 88) (b := false) rfl hb347
      clear H346
      (try simp only [Bool.not_eq_true] at hb347)
      have hhy : ¬ hyph r = true := by rw [hb347]; simp
      rw [if_neg hnb, if_neg hhy] at hR
      refine wp_skip ?_
      refine gw_nx (hK308 _ _ ?_)
      refine gw_seq fun K507 hK507 => ?_
      refine gR fun K508 hK508 => ?_
      refine V H506 (op_move rfl (H506.ev rfl)) ?_
      intro _ H510; clear H506
      refine V H510 (op_move rfl (H510.ev rfl)) ?_
      intro _ H512; clear H510
      refine V H512 (op_lss rfl (H512.ev rfl) (H512.ev rfl)) ?_
      intro _ H514; clear H512
      have H515 := H514.lit (b := false) (by simp)
      clear H514
      refine gE hK508 ?_
      refine gw_cond H515 rfl (fun hb516 => ?_) (fun hb516 => ?_)
      skip
      ·
       cases hb516
      refine wp_skip ?_
      refine gw_nx (hK507 _ _ ?_)
      refine wp_region_lit ?_
      refine V H515 (op_move rfl (H515.ev rfl)) ?_
      intro _ H518; clear H515
      refine V H518 (op_move rfl (H518.ev rfl)) ?_
      intro _ H520; clear H518
      refine V H520 (op_move rfl (H520.ev rfl)) ?_
      intro _ H522; clear H520
      refine V H522 (op_build (cells := #[.int .u8 x, .int .u8 x]) rfl (pt_cons (H522.ev rfl) (pt_cons (H522.ev rfl) pt_nil)) (by kernel_rfl)) ?_
      intro _ H524; clear H522
      refine gw_news (O := .cells #[.int .u8 x, .int .u8 x] 55 (0, 0)) (n := 1) H524 O275 (want_none rfl) rfl (by decide) (op_bslice (by kernel_rfl) rfl (pt_cons (H524.ev rfl) pt_nil)) ?_
      intro g525 _ w527 H528 O529; clear H524 O275
      have O530 : Own w w527 [Bk g525 [.int .u8 x, .int .u8 x] 55, Chunk.row k55 55 w.heap.size Sa (.slice Aa rs.length ca) rs, Bk g2 [J 0, .slice none 0 0, .slice none 0 0] 26] := O529
      clear O529
      have O531 : Own w _ [Chunk.row k55 55 w.heap.size Sa (.slice Aa rs.length ca) rs, Chunk.void, Bk g525 [.int .u8 x, .int .u8 x] 55, Bk g2 [J 0, .slice none 0 0, .slice none 0 0] 26] := O530.void.sel [2, 0, 1, 3] (by decide)
      refine gw_append1 k55 0 (p := (⟨x, x⟩ : S55)) (cs := [.int .u8 x, .int .u8 x]) H528 O531 (want_none rfl) rfl (by decide) rfl Tryz.underlying23 gwinfo55 rfl (by decide) (by decide) rfl (H528.ev rfl) (H528.ev rfl) (fun w_ h_ => k55_mkM w_ _ _ (⟨x, x⟩ : S55) ) O531.below.size (by omega) ?_
      intro A532 c533 S534 _ w536 H537 O538; clear H528 O530 O531
      have O539 : Own w w536 [Chunk.row k55 55 w.heap.size S534 (.slice A532 ((rs ++ [(⟨x, x⟩ : S55)]).length) c533) (rs ++ [(⟨x, x⟩ : S55)]), Bk g525 [.int .u8 x, .int .u8 x] 55, Bk g2 [J 0, .slice none 0 0, .slice none 0 0] 26] := O538
      clear O538
      refine V H537 (op_assign rfl (H537.ev rfl)) ?_
      intro _ H541; clear H537
      refine wpList_nil ?_
      refine gw_blk ?_
      refine gw_nx (hK191 _ _ ?_)
      refine wp_region_lit ?_
      refine V H541 (op_assign rfl (ev_c _ _)) ?_
      intro _ H543; clear H541
      refine wpList_nil ?_
      refine gw_nx ⟨_, ?_, ((s.size : Int) - r.length), false, (rs ++ [(⟨x, x⟩ : S55)]), A532, _, _, _, (H543.pick (t := 1) rfl (H543.pick (t := 10) rfl (H543.pick (t := 9) rfl (H543.pick (t := 0) rfl (H543.pick (t := 4) rfl (H543.pick (t := 8) rfl H543.nil)))))), O539.sel [0, 2] (by decide), ?_, ?_, ?_, ?_, ?_, rfl⟩
      ·
       rw [hm76]; omega
      ·
       omega
      ·
       intro r_ hr_; rcases List.mem_append.1 hr_ with h_ | h_; (exact hbs r_ h_); (rw [List.mem_singleton.1 h_]; dsimp only; omega)
      ·
       rw [List.length_append, List.length_singleton]; omega
      ·
       exact ⟨k, by (try rw [hrr2]); (try rw [hrr]); omega, by (try rw [hrr2]); (try rw [hrr]); exact hR.symm⟩
      ·
       rfl
 ·
  have H544 := H48.subst_ (d := 31) (b := false) rfl hb49
  clear H48
  (try simp only [decide_eq_false_iff_not] at hb49)
  have hbang : ¬ (rest_ s (p0 + 1)).head? = some 33 := hb49
  refine wp_skip ?_
  refine gw_nx (hK45 _ _ ?_)
  refine gR fun K545 hK545 => ?_
  refine gw_rlit0 k55 (e := 55) H544 O7 (want_none rfl) rfl (by decide) (op_bslice (by kernel_rfl) rfl pt_nil) ?_
  intro A546 S547 _ w549 H550 O551; clear H544 O7
  have O552 : Own w w549 [Chunk.row k55 55 w.heap.size S547 (.slice A546 (([] : List S55).length) 0) ([] : List S55), Bk g2 [J 0, .slice none 0 0, .slice none 0 0] 26] := O551
  clear O551
  refine V H550 (op_assign rfl (H550.ev rfl)) ?_
  intro _ H554; clear H550
  refine gE hK545 ?_
  refine gR fun K555 hK555 => ?_
  refine V H554 (op_assign rfl (ev_c _ _)) ?_
  intro _ H557; clear H554
  refine gE hK555 ?_
  refine wp_block ?_
  refine gw_loop (fun m_ a_ w_ => ∃ (p : Int) (fst : Bool) (rs : List S55) (Aa : Option Addr) (ca : Nat) (Sa : Nat → Prop) (no : Nat), Fr 115 a_ [(1, J p), (10, .bool fst), (9, .slice Aa no ca), (0, .string s), (4, .pointer (some ⟨g2, 0, none⟩)), (8, .bool (decide ((rest_ s (p0 + 1)).head? = some 33)))] ∧ Own w w_ [Chunk.row k55 55 w.heap.size Sa (.slice Aa no ca) rs, Bk g2 [J 0, .slice none 0 0, .slice none 0 0] 26] ∧ (0 ≤ p ∧ p ≤ s.size) ∧ (∀ r_ ∈ rs, 0 ≤ r_.f0 ∧ r_.f0 ≤ 255 ∧ 0 ≤ r_.f1 ∧ r_.f1 ≤ 255) ∧ ((rs.length : Int) ≤ p) ∧ (clsK s RES p fst rs) ∧ (no = rs.length) ∧ m_ = (s.size - p.toNat)) ((s.size - (p0 + 1 : Int).toNat)) ?_ ?_
  ·
   refine ⟨p0 + 1, true, ([] : List S55), A546, _, _, _, (H557.pick (t := 1) rfl (H557.pick (t := 10) rfl (H557.pick (t := 9) rfl (H557.pick (t := 0) rfl (H557.pick (t := 4) rfl (H557.pick (t := 8) rfl H557.nil)))))), O552.sel [0, 1] (by decide), ?_, ?_, ?_, ?_, ?_, rfl⟩
   ·
    omega
   ·
    intro r_ hr_; simp at hr_
   ·
    show (0 : Int) ≤ _; omega
   ·
    exact ⟨(rest_ s (p0 + 1)).length + 1, Nat.lt_succ_self _, by rw [hRES]; unfold clsR; rw [if_neg hbang]⟩
   ·
    rfl
  ·
   rintro m559 _ w561 ⟨p, fst, rs, Aa, ca, Sa, no, H562, O563, hp, hbs, hlen, hD, hno, hm564⟩
   subst hno
   have hrl := rest_len s p hp
   rcases clsK_in hD with ⟨hb1, hR⟩ | ⟨x, q, r, k, hb1, hk, hR⟩
   ·
    refine gw_seq fun K565 hK565 => ?_
    refine wp_block ?_
    refine gw_seq fun K566 hK566 => ?_
    refine gR fun K567 hK567 => ?_
    refine V H562 (op_move rfl (H562.ev rfl)) ?_
    intro _ H569; clear H562
    refine V H569 (op_move rfl (H569.ev rfl)) ?_
    intro _ H571; clear H569
    refine V H571 (op_lens Tryz.underlying9 rfl (H571.ev rfl)) ?_
    intro _ H573; clear H571
    refine V H573 (op_geq rfl (H573.ev rfl) (H573.ev rfl)) ?_
    intro _ H575; clear H573
    refine gE hK567 ?_
    refine gw_cond H575 rfl (fun hb576 => ?_) (fun hb576 => ?_)
    ·
     have H577 := H575.subst_ (d := 38) (b := true) rfl hb576
     clear H575
     (try simp only [decide_eq_true_eq] at hb576)
     refine gR fun K578 hK578 => ?_
     refine V H577 (op_build (cells := #[J 0, .slice none 0 0, .slice none 0 0]) rfl pt_nil (by kernel_rfl)) ?_
     intro _ H580; clear H577
     refine V H580 (op_move rfl (H580.ev rfl)) ?_
     intro _ H582; clear H580
     refine V H582 (op_lens Tryz.underlying9 rfl (H582.ev rfl)) ?_
     intro _ H584; clear H582
     refine gw_setn 1 H584 O563 rfl (want_none rfl) rfl (op_storen gwsiz26 rfl (H584.ev rfl) (H584.ev rfl) (O563.get 1 rfl) rfl (by simp) (by simp [Value.oneCell'])) ?_
     intro _ w587 H586 O588; clear H584 O563
     refine V H586 (op_assign rfl (ev_c _ _)) ?_
     intro _ H590; clear H586
     refine V H590 (op_assign rfl (ev_c _ _)) ?_
     intro _ H592; clear H590
     refine V H592 (op_assign rfl (H592.ev rfl)) ?_
     intro _ H594; clear H592
     refine gE hK578 ?_
     refine wp_ret ?_
     refine gw_thr ?_
     refine gw_blr ?_
     refine gw_thr ?_
     refine gw_thr ?_
     refine gw_blr ?_
     refine gw_rets4 H594 rfl (rv_celln H594 rfl gwagg26 gwsiz26 (O588.get 1 rfl) rfl) (rv_tmp H594 rfl) (rv_tmp H594 rfl) (rv_tmp H594 rfl) ?_
     have hRE : RES = clsR s (p0 + 1) := hRES
     have O595 := O588.row_nil k55 55 w.heap.size
     clear O588
     have O596 : Own w w587 [Chunk.row k55 55 w.heap.size (fun _ => False) (.slice none (([] : List S55).length) 0) ([] : List S55), Chunk.row k55 55 w.heap.size Sa (.slice Aa rs.length ca) rs, Bk g2 [J 0, .slice none 0 0, .slice none 0 0] 26] := O595
     clear O595
     have O597 := O596.row_view 0 rfl
     clear O596
     have O598 : Own w w587 [Chunk.view k55 (fun _ => False) none (([] : List S55).length) 0 ([] : List S55), Chunk.row k55 55 w.heap.size Sa (.slice Aa rs.length ca) rs, Bk g2 [J 0, .slice none 0 0, .slice none 0 0] 26] := O597
     clear O597
     exact ⟨_, _, _, _, _, _, _, _, rfl, (O598.sel [0] (by decide)).out, clsQ_bad (m := 0) (hR.symm.trans hRE) (by decide) (by simp)⟩
    ·
     have H599 := H575.subst_ (d := 38) (b := false) rfl hb576
     clear H575
     (try simp only [decide_eq_false_iff_not, Int.not_le] at hb576)
     refine wp_skip ?_
     refine gw_nx (hK566 _ _ ?_)
     refine gw_seq fun K600 hK600 => ?_
     refine gR fun K601 hK601 => ?_
     refine V H599 (op_move rfl (H599.ev rfl)) ?_
     intro _ H603; clear H599
     refine V H603 (op_move rfl (H603.ev rfl)) ?_
     intro _ H605; clear H603
     refine V H605 (op_sidx Tryz.underlying9 rfl (H605.ev rfl) (H605.ev rfl) ⟨by omega, by omega⟩) ?_
     intro _ H607; clear H605
     refine V H607 (op_eqi rfl (H607.ev rfl) (ev_c _ _)) ?_
     intro _ H609; clear H607
     refine V H609 (op_move rfl (H609.ev rfl)) ?_
     intro _ H611; clear H609
     have H612 := H611.lit (b := false) (by rw [none_92 (by omega) hb1]; rfl)
     clear H611
     refine Vo H612 (wn H612 rfl rfl rfl rfl) ?_
     intro _ H614; clear H612
     refine Vo H614 (wn H614 rfl rfl rfl rfl) ?_
     intro _ H616; clear H614
     refine V H616 (op_pick_f rfl (H616.ev rfl) (ev_c _ _)) ?_
     intro _ H618; clear H616
     refine gE hK601 ?_
     refine gw_cond H618 rfl (fun hb619 => ?_) (fun hb619 => ?_)
     skip
     ·
      cases hb619
     refine wp_skip ?_
     refine gw_nx (hK600 _ _ ?_)
     refine gR fun K620 hK620 => ?_
     refine V H618 (op_move rfl (H618.ev rfl)) ?_
     intro _ H622; clear H618
     refine V H622 (op_assign rfl (H622.ev rfl)) ?_
     intro _ H624; clear H622
     refine gE hK620 ?_
     refine gR fun K625 hK625 => ?_
     refine V H624 (op_move rfl (H624.ev rfl)) ?_
     intro _ H627; clear H624
     refine V H627 (op_move rfl (H627.ev rfl)) ?_
     intro _ H629; clear H627
     refine gw_call H629 (want_none rfl) rfl (by decide) (op_callL Tryz.func23 (by kernel_rfl) rfl rfl (ar_cons (H629.ev rfl) (ar_cons (H629.ev rfl) ar_nil))) (item_is s p _ (by omega) hs 0 0 false (item_none hb1)) ?_
     rintro e630 w631 ⟨rfl, hb632⟩
     refine ⟨_, rfl, fun _ H634 => ?_⟩
     have O635 := O563.after hb632
     clear H629 O563 hb632
     refine V H634 (op_move rfl (H634.ev rfl)) ?_
     intro _ H638; clear H634
     refine V H638 (op_extract rfl (H638.ev rfl) rfl) ?_
     intro _ H640; clear H638
     refine V H640 (op_extract rfl (H640.ev rfl) rfl) ?_
     intro _ H642; clear H640
     refine V H642 (op_extract rfl (H642.ev rfl) rfl) ?_
     intro _ H644; clear H642
     refine V H644 (op_assign rfl (H644.ev rfl)) ?_
     intro _ H646; clear H644
     refine V H646 (op_assign rfl (H646.ev rfl)) ?_
     intro _ H648; clear H646
     refine V H648 (op_assign rfl (H648.ev rfl)) ?_
     intro _ H650; clear H648
     refine gE hK625 ?_
     refine gw_seq fun K651 hK651 => ?_
     refine gR fun K652 hK652 => ?_
     refine V H650 (op_move rfl (H650.ev rfl)) ?_
     intro _ H654; clear H650
     refine V H654 (op_not rfl (H654.ev rfl)) ?_
     intro _ H656; clear H654
     refine gE hK652 ?_
     refine gw_cond H656 rfl (fun hb657 => ?_) (fun hb657 => ?_)
     rotate_left
     ·
      cases hb657
     refine gR fun K658 hK658 => ?_
     refine V H656 (op_build (cells := #[J 0, .slice none 0 0, .slice none 0 0]) rfl pt_nil (by kernel_rfl)) ?_
     intro _ H660; clear H656
     refine V H660 (op_move rfl (H660.ev rfl)) ?_
     intro _ H662; clear H660
     refine V H662 (op_lens Tryz.underlying9 rfl (H662.ev rfl)) ?_
     intro _ H664; clear H662
     refine gw_setn 1 H664 O635 rfl (want_none rfl) rfl (op_storen gwsiz26 rfl (H664.ev rfl) (H664.ev rfl) (O635.get 1 rfl) rfl (by simp) (by simp [Value.oneCell'])) ?_
     intro _ w667 H666 O668; clear H664 O635
     refine V H666 (op_assign rfl (ev_c _ _)) ?_
     intro _ H670; clear H666
     refine V H670 (op_assign rfl (ev_c _ _)) ?_
     intro _ H672; clear H670
     refine V H672 (op_assign rfl (H672.ev rfl)) ?_
     intro _ H674; clear H672
     refine gE hK658 ?_
     refine wp_ret ?_
     refine gw_thr ?_
     refine gw_blr ?_
     refine gw_thr ?_
     refine gw_thr ?_
     refine gw_blr ?_
     refine gw_rets4 H674 rfl (rv_celln H674 rfl gwagg26 gwsiz26 (O668.get 1 rfl) rfl) (rv_tmp H674 rfl) (rv_tmp H674 rfl) (rv_tmp H674 rfl) ?_
     have hRE : RES = clsR s (p0 + 1) := hRES
     have O675 := O668.row_nil k55 55 w.heap.size
     clear O668
     have O676 : Own w w667 [Chunk.row k55 55 w.heap.size (fun _ => False) (.slice none (([] : List S55).length) 0) ([] : List S55), Chunk.row k55 55 w.heap.size Sa (.slice Aa rs.length ca) rs, Bk g2 [J 0, .slice none 0 0, .slice none 0 0] 26] := O675
     clear O675
     have O677 := O676.row_view 0 rfl
     clear O676
     have O678 : Own w w667 [Chunk.view k55 (fun _ => False) none (([] : List S55).length) 0 ([] : List S55), Chunk.row k55 55 w.heap.size Sa (.slice Aa rs.length ca) rs, Bk g2 [J 0, .slice none 0 0, .slice none 0 0] 26] := O677
     clear O677
     exact ⟨_, _, _, _, _, _, _, _, rfl, (O678.sel [0] (by decide)).out, clsQ_bad (m := 0) (hR.symm.trans hRE) (by decide) (by simp)⟩
   ·
    obtain ⟨hrr, hp1, hp2⟩ := item_rest hp hs hb1
    have hps := rest_some hb1
    have hx := byteS_range hb1
    refine gw_seq fun K679 hK679 => ?_
    refine wp_block ?_
    refine gw_seq fun K680 hK680 => ?_
    refine gR fun K681 hK681 => ?_
    refine V H562 (op_move rfl (H562.ev rfl)) ?_
    intro _ H683; clear H562
    refine V H683 (op_move rfl (H683.ev rfl)) ?_
    intro _ H685; clear H683
    refine V H685 (op_lens Tryz.underlying9 rfl (H685.ev rfl)) ?_
    intro _ H687; clear H685
    refine V H687 (op_geq rfl (H687.ev rfl) (H687.ev rfl)) ?_
    intro _ H689; clear H687
    have H690 := H689.lit (b := false) (by rw [decide_eq_false_iff_not]; omega)
    clear H689
    refine gE hK681 ?_
    refine gw_cond H690 rfl (fun hb691 => ?_) (fun hb691 => ?_)
    skip
    ·
     cases hb691
    refine wp_skip ?_
    refine gw_nx (hK680 _ _ ?_)
    refine gw_seq fun K692 hK692 => ?_
    refine gR fun K693 hK693 => ?_
    refine V H690 (op_move rfl (H690.ev rfl)) ?_
    intro _ H695; clear H690
    refine V H695 (op_move rfl (H695.ev rfl)) ?_
    intro _ H697; clear H695
    refine V H697 (op_sidx Tryz.underlying9 rfl (H697.ev rfl) (H697.ev rfl) ⟨by omega, by omega⟩) ?_
    intro _ H699; clear H697
    refine V H699 (op_eqi rfl (H699.ev rfl) (ev_c _ _)) ?_
    intro _ H701; clear H699
    refine V H701 (op_move rfl (H701.ev rfl)) ?_
    intro _ H703; clear H701
    refine gw_evG H703 rfl rfl rfl rfl (on_t _) rfl (by decide) (fun h_ => (op_move rfl (H703.ev rfl))) ?_
    intro _ H705; clear H703
    refine gw_evG H705 rfl rfl rfl rfl (on_t _) rfl (by decide) (fun h_ => (op_not rfl (ev_gv (H705.ev rfl) h_))) ?_
    intro _ H707; clear H705
    refine V H707 (op_pick_and rfl (H707.ev rfl) (fun hp_ => (ev_gv (H707.ev rfl) hp_)) (ev_c _ _)) ?_
    intro _ H709; clear H707
    have H710 := H709.conv (v' := .bool (decide (x = 93 ∧ q = false ∧ fst = false))) (congrArg Value.bool (end_eq fst hp.1 hb1))
    clear H709
    refine gE hK693 ?_
    refine gw_cond H710 rfl (fun hb711 => ?_) (fun hb711 => ?_)
    ·
     have H712 := H710.subst_ (d := 49) (b := true) rfl hb711
     clear H710
     (try simp only [decide_eq_true_eq] at hb711)
     have hend := hb711
     rw [if_pos hend] at hR
     obtain ⟨hn1, hn2⟩ := plain_rest hp.1 hend.1 (hend.2.1 ▸ hb1)
     refine gR fun K713 hK713 => ?_
     refine V H712 (op_move rfl (H712.ev rfl)) ?_
     intro _ H715; clear H712
     refine V H715 (op_move rfl (H715.ev rfl)) ?_
     intro _ H717; clear H715
     refine gw_call H717 (want_none rfl) rfl (by decide) (op_callL Tryz.func37 (by kernel_rfl) rfl rfl (ar_cons (H717.ev rfl) (ar_cons (H717.ev rfl) ar_nil))) (rRanges_walk Aa ca rs (decide ((rest_ s (p0 + 1)).head? = some 33)) _ (Kd.R_reads' (O563.get 0 rfl)).2.2 (row_cap (O563.get 0 rfl)) hbs) ?_
     rintro e721 w722 ⟨A718, c719, S720, rfl, hb723⟩
     refine ⟨_, rfl, fun _ H725 => ?_⟩
     have O726 := O563.fresh hb723
     have hbel727 := O563.below
     clear H717 O563 hb723
     have O728 := O726.lowrow 0 rfl (base' := w.heap.size) (Below.size hbel727)
     refine V H725 (op_build (cells := #[J 1, .slice A718 ((canonP fun c_ => inR rs c_ != (decide ((rest_ s (p0 + 1)).head? = some 33))).length) c719, .slice none 0 0]) rfl (pt_cons (ev_c _ _) (pt_cons (H725.ev rfl) pt_nil)) (by kernel_rfl)) ?_
     intro _ H730; clear H725
     refine V H730 (op_move rfl (H730.ev rfl)) ?_
     intro _ H732; clear H730
     refine V H732 (op_add rfl (H732.ev rfl) (ev_c _ _) (by omega)) ?_
     intro _ H734; clear H732
     refine gw_setn 2 H734 O728 rfl (want_none rfl) rfl (op_storen gwsiz26 rfl (H734.ev rfl) (H734.ev rfl) (O728.get 2 rfl) rfl (by simp) (by simp [Value.oneCell'])) ?_
     intro _ w737 H736 O738; clear H734 O728
     refine V H736 (op_assign rfl (H736.ev rfl)) ?_
     intro _ H740; clear H736
     refine V H740 (op_assign rfl (ev_c _ _)) ?_
     intro _ H742; clear H740
     refine V H742 (op_assign rfl (ev_c _ _)) ?_
     intro _ H744; clear H742
     refine gE hK713 ?_
     refine wp_ret ?_
     refine gw_thr ?_
     refine gw_blr ?_
     refine gw_thr ?_
     refine gw_thr ?_
     refine gw_blr ?_
     refine gw_rets4 H744 rfl (rv_celln H744 rfl gwagg26 gwsiz26 (O738.get 2 rfl) rfl) (rv_tmp H744 rfl) (rv_tmp H744 rfl) (rv_tmp H744 rfl) ?_
     have hRE : RES = clsR s (p0 + 1) := hRES
     have O745 := O738.row_view 0 rfl
     clear O738
     have O746 : Own w w737 [Chunk.view k55 S720 A718 ((canonP fun c_ => inR rs c_ != (decide ((rest_ s (p0 + 1)).head? = some 33))).length) c719 (canonP fun c_ => inR rs c_ != (decide ((rest_ s (p0 + 1)).head? = some 33))), Chunk.row k55 55 w.heap.size Sa (.slice Aa rs.length ca) rs, Bk g2 [J 1, .slice A718 ((canonP fun c_ => inR rs c_ != (decide ((rest_ s (p0 + 1)).head? = some 33))).length) c719, .slice none 0 0] 26] := O745
     clear O745
     exact ⟨_, _, _, _, _, _, _, _, rfl, (O746.sel [0] (by decide)).out, clsQ_ok (by omega) (hR.symm.trans hRE) (by omega)⟩
    ·
     have H747 := H710.subst_ (d := 49) (b := false) rfl hb711
     clear H710
     (try simp only [decide_eq_false_iff_not] at hb711)
     have hnb := hb711
     refine wp_skip ?_
     refine gw_nx (hK692 _ _ ?_)
     refine gR fun K748 hK748 => ?_
     refine V H747 (op_move rfl (H747.ev rfl)) ?_
     intro _ H750; clear H747
     refine V H750 (op_assign rfl (H750.ev rfl)) ?_
     intro _ H752; clear H750
     refine gE hK748 ?_
     refine gR fun K753 hK753 => ?_
     refine V H752 (op_move rfl (H752.ev rfl)) ?_
     intro _ H755; clear H752
     refine V H755 (op_move rfl (H755.ev rfl)) ?_
     intro _ H757; clear H755
     refine gw_call H757 (want_none rfl) rfl (by decide) (op_callL Tryz.func23 (by kernel_rfl) rfl rfl (ar_cons (H757.ev rfl) (ar_cons (H757.ev rfl) ar_nil))) (item_is s p _ (by omega) hs x ((s.size : Int) - r.length) true (item_ok hb1)) ?_
     rintro e758 w759 ⟨rfl, hb760⟩
     refine ⟨_, rfl, fun _ H762 => ?_⟩
     have O763 := O563.after hb760
     clear H757 O563 hb760
     refine V H762 (op_move rfl (H762.ev rfl)) ?_
     intro _ H766; clear H762
     refine V H766 (op_extract rfl (H766.ev rfl) rfl) ?_
     intro _ H768; clear H766
     refine V H768 (op_extract rfl (H768.ev rfl) rfl) ?_
     intro _ H770; clear H768
     refine V H770 (op_extract rfl (H770.ev rfl) rfl) ?_
     intro _ H772; clear H770
     refine V H772 (op_assign rfl (H772.ev rfl)) ?_
     intro _ H774; clear H772
     refine V H774 (op_assign rfl (H774.ev rfl)) ?_
     intro _ H776; clear H774
     refine V H776 (op_assign rfl (H776.ev rfl)) ?_
     intro _ H778; clear H776
     refine gE hK753 ?_
     refine gw_seq fun K779 hK779 => ?_
     refine gR fun K780 hK780 => ?_
     refine V H778 (op_move rfl (H778.ev rfl)) ?_
     intro _ H782; clear H778
     refine V H782 (op_not rfl (H782.ev rfl)) ?_
     intro _ H784; clear H782
     refine gE hK780 ?_
     refine gw_cond H784 rfl (fun hb785 => ?_) (fun hb785 => ?_)
     skip
     ·
      cases hb785
     refine wp_skip ?_
     refine gw_nx (hK779 _ _ ?_)
     refine gR fun K786 hK786 => ?_
     refine V H784 (op_move rfl (H784.ev rfl)) ?_
     intro _ H788; clear H784
     refine V H788 (op_assign rfl (H788.ev rfl)) ?_
     intro _ H790; clear H788
     refine gE hK786 ?_
     refine gR fun K791 hK791 => ?_
     refine V H790 (op_move rfl (H790.ev rfl)) ?_
     intro _ H793; clear H790
     refine V H793 (op_assign rfl (H793.ev rfl)) ?_
     intro _ H795; clear H793
     refine gE hK791 ?_
     refine gw_seq fun K796 hK796 => ?_
     refine gR fun K797 hK797 => ?_
     refine V H795 (op_move rfl (H795.ev rfl)) ?_
     intro _ H799; clear H795
     refine V H799 (op_add rfl (H799.ev rfl) (ev_c _ _) (by omega)) ?_
     intro _ H801; clear H799
     refine V H801 (op_move rfl (H801.ev rfl)) ?_
     intro _ H803; clear H801
     refine V H803 (op_lens Tryz.underlying9 rfl (H803.ev rfl)) ?_
     intro _ H805; clear H803
     refine V H805 (op_lss rfl (H805.ev rfl) (H805.ev rfl)) ?_
     intro _ H807; clear H805
     refine V H807 (op_move rfl (H807.ev rfl)) ?_
     intro _ H809; clear H807
     refine gw_evG H809 rfl rfl rfl rfl (on_t _) rfl (by decide) (fun h_ => (op_move rfl (H809.ev rfl))) ?_
     intro _ H811; clear H809
     refine gw_evG H811 rfl rfl rfl rfl (on_t _) rfl (by decide) (fun h_ => (op_move rfl (H811.ev rfl))) ?_
     intro _ H813; clear H811
     refine gw_evG H813 rfl rfl rfl rfl (on_t _) rfl (by decide) (fun h_ => (op_sidx Tryz.underlying9 rfl (ev_gv (H813.ev rfl) h_) (ev_gv (H813.ev rfl) h_) ⟨by (try simp only [Bool.and_eq_true, Bool.or_eq_true, Bool.and_eq_false_iff, Bool.or_eq_false_iff, Bool.not_and, Bool.not_or, Bool.not_not, decide_eq_true_eq, decide_eq_false_iff_not, Bool.not_eq_true', Bool.not_eq_false', Bool.not_eq_true, Bool.not_eq_false, ne_eq, Decidable.not_not, Int.not_lt, Int.not_le, not_true_eq_false, not_false_eq_true, bne_iff_ne, beq_iff_eq, bne_eq_false_iff_eq, beq_eq_false_iff_ne] at h_); omega, by (try simp only [Bool.and_eq_true, Bool.or_eq_true, Bool.and_eq_false_iff, Bool.or_eq_false_iff, Bool.not_and, Bool.not_or, Bool.not_not, decide_eq_true_eq, decide_eq_false_iff_not, Bool.not_eq_true', Bool.not_eq_false', Bool.not_eq_true, Bool.not_eq_false, ne_eq, Decidable.not_not, Int.not_lt, Int.not_le, not_true_eq_false, not_false_eq_true, bne_iff_ne, beq_iff_eq, bne_eq_false_iff_eq, beq_eq_false_iff_ne] at h_); omega⟩)) ?_
     intro _ H815; clear H813
     refine gw_evG H815 rfl rfl rfl rfl (on_t _) rfl (by decide) (fun h_ => (op_eqi rfl (ev_gv (H815.ev rfl) h_) (ev_c _ _))) ?_
     intro _ H817; clear H815
     refine V H817 (op_pick_and rfl (H817.ev rfl) (fun hp_ => (ev_gv (H817.ev rfl) hp_)) (ev_c _ _)) ?_
     intro _ H819; clear H817
     refine V H819 (op_move rfl (H819.ev rfl)) ?_
     intro _ H821; clear H819
     refine gw_evG H821 rfl rfl rfl rfl (on_t _) rfl (by decide) (fun h_ => (op_move rfl (H821.ev rfl))) ?_
     intro _ H823; clear H821
     refine gw_evG H823 rfl rfl rfl rfl (on_t _) rfl (by decide) (fun h_ => (op_move rfl (H823.ev rfl))) ?_
     intro _ H825; clear H823
     refine gw_evG H825 rfl rfl rfl rfl (on_t _) rfl (by decide) (fun h_ => (op_add rfl (ev_gv (H825.ev rfl) h_) (ev_c _ _) (by (try simp only [Bool.and_eq_true, Bool.or_eq_true, Bool.and_eq_false_iff, Bool.or_eq_false_iff, Bool.not_and, Bool.not_or, Bool.not_not, decide_eq_true_eq, decide_eq_false_iff_not, Bool.not_eq_true', Bool.not_eq_false', Bool.not_eq_true, Bool.not_eq_false, ne_eq, Decidable.not_not, Int.not_lt, Int.not_le, not_true_eq_false, not_false_eq_true, bne_iff_ne, beq_iff_eq, bne_eq_false_iff_eq, beq_eq_false_iff_ne] at h_); omega))) ?_
     intro _ H827; clear H825
     refine gw_evG H827 rfl rfl rfl rfl (on_t _) rfl (by decide) (fun h_ => (op_sidx Tryz.underlying9 rfl (ev_gv (H827.ev rfl) h_) (ev_gv (H827.ev rfl) h_) ⟨by (try simp only [Bool.and_eq_true, Bool.or_eq_true, Bool.and_eq_false_iff, Bool.or_eq_false_iff, Bool.not_and, Bool.not_or, Bool.not_not, decide_eq_true_eq, decide_eq_false_iff_not, Bool.not_eq_true', Bool.not_eq_false', Bool.not_eq_true, Bool.not_eq_false, ne_eq, Decidable.not_not, Int.not_lt, Int.not_le, not_true_eq_false, not_false_eq_true, bne_iff_ne, beq_iff_eq, bne_eq_false_iff_eq, beq_eq_false_iff_ne] at h_); omega, by (try simp only [Bool.and_eq_true, Bool.or_eq_true, Bool.and_eq_false_iff, Bool.or_eq_false_iff, Bool.not_and, Bool.not_or, Bool.not_not, decide_eq_true_eq, decide_eq_false_iff_not, Bool.not_eq_true', Bool.not_eq_false', Bool.not_eq_true, Bool.not_eq_false, ne_eq, Decidable.not_not, Int.not_lt, Int.not_le, not_true_eq_false, not_false_eq_true, bne_iff_ne, beq_iff_eq, bne_eq_false_iff_eq, beq_eq_false_iff_ne] at h_); omega⟩)) ?_
     intro _ H829; clear H827
     refine gw_evG H829 rfl rfl rfl rfl (on_t _) rfl (by decide) (fun h_ => (op_nei rfl (ev_gv (H829.ev rfl) h_) (ev_c _ _))) ?_
     intro _ H831; clear H829
     refine V H831 (op_pick_and rfl (H831.ev rfl) (fun hp_ => (ev_gv (H831.ev rfl) hp_)) (ev_c _ _)) ?_
     intro _ H833; clear H831
     have H834 := H833.conv (v' := .bool (hyph r)) (congrArg Value.bool (hyph_at s ((s.size : Int) - r.length) r (by omega) hrr))
     clear H833
     refine gE hK797 ?_
     refine gw_cond H834 rfl (fun hb835 => ?_) (fun hb835 => ?_)
     ·
      have H836 := H834.subst_ (d := 88) (b := true) rfl hb835
      clear H834
      (try simp only [Bool.not_eq_true] at hb835)
      have hhy : hyph r = true := by assumption
      have hltr : ((s.size : Int) - r.length) < s.size := by refine Int.not_le.1 fun h_ => ?_; have h2_ : r = [] := List.length_eq_zero_iff.1 (by omega); rw [h2_] at hhy; cases hhy
      have hlt2 : ((s.size : Int) - r.length) + 1 < s.size := by refine Int.not_le.1 fun h_ => ?_; obtain ⟨c_, h2_⟩ := List.length_eq_one_iff.1 (show r.length = 1 by omega); rw [h2_] at hhy; cases hhy
      have htl : rest_ s (((s.size : Int) - r.length) + 1) = r.tail := by have h_ := rest_cons s ((s.size : Int) - r.length) (by omega); rw [hrr] at h_; exact (congrArg List.tail h_).symm
      rcases hb2 : byteS (rest_ s (((s.size : Int) - r.length) + 1)) with _ | ⟨hi_, q2, r2⟩
      ·
       rw [if_neg hnb, if_pos hhy, show byteS r.tail = none by rw [← htl]; exact hb2] at hR; simp only at hR
       refine gR fun K837 hK837 => ?_
       refine V H836 (op_move rfl (H836.ev rfl)) ?_
       intro _ H839; clear H836
       refine V H839 (op_move rfl (H839.ev rfl)) ?_
       intro _ H841; clear H839
       refine V H841 (op_add rfl (H841.ev rfl) (ev_c _ _) (by omega)) ?_
       intro _ H843; clear H841
       refine gw_call H843 (want_none rfl) rfl (by decide) (op_callL Tryz.func23 (by kernel_rfl) rfl rfl (ar_cons (H843.ev rfl) (ar_cons (H843.ev rfl) ar_nil))) (item_is s (((s.size : Int) - r.length) + 1) _ (by omega) hs 0 0 false (item_none hb2)) ?_
       rintro e844 w845 ⟨rfl, hb846⟩
       refine ⟨_, rfl, fun _ H848 => ?_⟩
       have O849 := O763.after hb846
       clear H843 O763 hb846
       refine V H848 (op_move rfl (H848.ev rfl)) ?_
       intro _ H852; clear H848
       refine V H852 (op_extract rfl (H852.ev rfl) rfl) ?_
       intro _ H854; clear H852
       refine V H854 (op_extract rfl (H854.ev rfl) rfl) ?_
       intro _ H856; clear H854
       refine V H856 (op_extract rfl (H856.ev rfl) rfl) ?_
       intro _ H858; clear H856
       refine V H858 (op_assign rfl (H858.ev rfl)) ?_
       intro _ H860; clear H858
       refine V H860 (op_assign rfl (H860.ev rfl)) ?_
       intro _ H862; clear H860
       refine V H862 (op_assign rfl (H862.ev rfl)) ?_
       intro _ H864; clear H862
       refine gE hK837 ?_
       refine gw_seq fun K865 hK865 => ?_
       refine gR fun K866 hK866 => ?_
       refine V H864 (op_move rfl (H864.ev rfl)) ?_
       intro _ H868; clear H864
       refine V H868 (op_not rfl (H868.ev rfl)) ?_
       intro _ H870; clear H868
       refine gE hK866 ?_
       refine gw_cond H870 rfl (fun hb871 => ?_) (fun hb871 => ?_)
       rotate_left
       ·
        cases hb871
       refine gR fun K872 hK872 => ?_
       refine V H870 (op_build (cells := #[J 0, .slice none 0 0, .slice none 0 0]) rfl pt_nil (by kernel_rfl)) ?_
       intro _ H874; clear H870
       refine V H874 (op_move rfl (H874.ev rfl)) ?_
       intro _ H876; clear H874
       refine V H876 (op_lens Tryz.underlying9 rfl (H876.ev rfl)) ?_
       intro _ H878; clear H876
       refine gw_setn 1 H878 O849 rfl (want_none rfl) rfl (op_storen gwsiz26 rfl (H878.ev rfl) (H878.ev rfl) (O849.get 1 rfl) rfl (by simp) (by simp [Value.oneCell'])) ?_
       intro _ w881 H880 O882; clear H878 O849
       refine V H880 (op_assign rfl (ev_c _ _)) ?_
       intro _ H884; clear H880
       refine V H884 (op_assign rfl (ev_c _ _)) ?_
       intro _ H886; clear H884
       refine V H886 (op_assign rfl (H886.ev rfl)) ?_
       intro _ H888; clear H886
       refine gE hK872 ?_
       refine wp_ret ?_
       refine gw_thr ?_
       refine gw_thr ?_
       refine gw_blr ?_
       refine gw_thr ?_
       refine gw_thr ?_
       refine gw_blr ?_
       refine gw_rets4 H888 rfl (rv_celln H888 rfl gwagg26 gwsiz26 (O882.get 1 rfl) rfl) (rv_tmp H888 rfl) (rv_tmp H888 rfl) (rv_tmp H888 rfl) ?_
       have hRE : RES = clsR s (p0 + 1) := hRES
       have O889 := O882.row_nil k55 55 w.heap.size
       clear O882
       have O890 : Own w w881 [Chunk.row k55 55 w.heap.size (fun _ => False) (.slice none (([] : List S55).length) 0) ([] : List S55), Chunk.row k55 55 w.heap.size Sa (.slice Aa rs.length ca) rs, Bk g2 [J 0, .slice none 0 0, .slice none 0 0] 26] := O889
       clear O889
       have O891 := O890.row_view 0 rfl
       clear O890
       have O892 : Own w w881 [Chunk.view k55 (fun _ => False) none (([] : List S55).length) 0 ([] : List S55), Chunk.row k55 55 w.heap.size Sa (.slice Aa rs.length ca) rs, Bk g2 [J 0, .slice none 0 0, .slice none 0 0] 26] := O891
       clear O891
       exact ⟨_, _, _, _, _, _, _, _, rfl, (O892.sel [0] (by decide)).out, clsQ_bad (m := 0) (hR.symm.trans hRE) (by decide) (by simp)⟩
      ·
       obtain ⟨hrr2, hp3, hp4⟩ := item_rest (by omega) hs hb2
       have hx2 := byteS_range hb2
       have hr2l := byteS_lt hb2
       rw [if_neg hnb, if_pos hhy, show byteS r.tail = some (hi_, q2, r2) by rw [← htl]; exact hb2] at hR; simp only at hR
       refine gR fun K893 hK893 => ?_
       refine V H836 (op_move rfl (H836.ev rfl)) ?_
       intro _ H895; clear H836
       refine V H895 (op_move rfl (H895.ev rfl)) ?_
       intro _ H897; clear H895
       refine V H897 (op_add rfl (H897.ev rfl) (ev_c _ _) (by omega)) ?_
       intro _ H899; clear H897
       refine gw_call H899 (want_none rfl) rfl (by decide) (op_callL Tryz.func23 (by kernel_rfl) rfl rfl (ar_cons (H899.ev rfl) (ar_cons (H899.ev rfl) ar_nil))) (item_is s (((s.size : Int) - r.length) + 1) _ (by omega) hs hi_ ((s.size : Int) - r2.length) true (item_ok hb2)) ?_
       rintro e900 w901 ⟨rfl, hb902⟩
       refine ⟨_, rfl, fun _ H904 => ?_⟩
       have O905 := O763.after hb902
       clear H899 O763 hb902
       refine V H904 (op_move rfl (H904.ev rfl)) ?_
       intro _ H908; clear H904
       refine V H908 (op_extract rfl (H908.ev rfl) rfl) ?_
       intro _ H910; clear H908
       refine V H910 (op_extract rfl (H910.ev rfl) rfl) ?_
       intro _ H912; clear H910
       refine V H912 (op_extract rfl (H912.ev rfl) rfl) ?_
       intro _ H914; clear H912
       refine V H914 (op_assign rfl (H914.ev rfl)) ?_
       intro _ H916; clear H914
       refine V H916 (op_assign rfl (H916.ev rfl)) ?_
       intro _ H918; clear H916
       refine V H918 (op_assign rfl (H918.ev rfl)) ?_
       intro _ H920; clear H918
       refine gE hK893 ?_
       refine gw_seq fun K921 hK921 => ?_
       refine gR fun K922 hK922 => ?_
       refine V H920 (op_move rfl (H920.ev rfl)) ?_
       intro _ H924; clear H920
       refine V H924 (op_not rfl (H924.ev rfl)) ?_
       intro _ H926; clear H924
       refine gE hK922 ?_
       refine gw_cond H926 rfl (fun hb927 => ?_) (fun hb927 => ?_)
       skip
       ·
        cases hb927
       refine wp_skip ?_
       refine gw_nx (hK921 _ _ ?_)
       refine gR fun K928 hK928 => ?_
       refine V H926 (op_move rfl (H926.ev rfl)) ?_
       intro _ H930; clear H926
       refine V H930 (op_assign rfl (H930.ev rfl)) ?_
       intro _ H932; clear H930
       refine gE hK928 ?_
       refine wp_region_lit ?_
       refine V H932 (op_move rfl (H932.ev rfl)) ?_
       intro _ H934; clear H932
       refine V H934 (op_assign rfl (H934.ev rfl)) ?_
       intro _ H936; clear H934
       refine gE hK796 ?_
       refine gw_seq fun K937 hK937 => ?_
       refine gR fun K938 hK938 => ?_
       refine V H936 (op_move rfl (H936.ev rfl)) ?_
       intro _ H940; clear H936
       refine V H940 (op_move rfl (H940.ev rfl)) ?_
       intro _ H942; clear H940
       refine V H942 (op_lss rfl (H942.ev rfl) (H942.ev rfl)) ?_
       intro _ H944; clear H942
       refine gE hK938 ?_
       refine gw_cond H944 rfl (fun hb945 => ?_) (fun hb945 => ?_)
       ·
        have H946 := H944.subst_ (d := 106) (b := true) rfl hb945
        clear H944
        (try simp only [decide_eq_true_eq] at hb945)
        rw [if_pos (by assumption)] at hR
        refine gR fun K947 hK947 => ?_
        refine V H946 (op_build (cells := #[J 0, .slice none 0 0, .slice none 0 0]) rfl pt_nil (by kernel_rfl)) ?_
        intro _ H949; clear H946
        refine V H949 (op_move rfl (H949.ev rfl)) ?_
        intro _ H951; clear H949
        refine gw_setn 1 H951 O905 rfl (want_none rfl) rfl (op_storen gwsiz26 rfl (H951.ev rfl) (H951.ev rfl) (O905.get 1 rfl) rfl (by simp) (by simp [Value.oneCell'])) ?_
        intro _ w954 H953 O955; clear H951 O905
        refine V H953 (op_assign rfl (ev_c _ _)) ?_
        intro _ H957; clear H953
        refine V H957 (op_assign rfl (ev_c _ _)) ?_
        intro _ H959; clear H957
        refine V H959 (op_assign rfl (H959.ev rfl)) ?_
        intro _ H961; clear H959
        refine gE hK947 ?_
        refine wp_ret ?_
        refine gw_thr ?_
        refine gw_blr ?_
        refine gw_thr ?_
        refine gw_thr ?_
        refine gw_blr ?_
        refine gw_rets4 H961 rfl (rv_celln H961 rfl gwagg26 gwsiz26 (O955.get 1 rfl) rfl) (rv_tmp H961 rfl) (rv_tmp H961 rfl) (rv_tmp H961 rfl) ?_
        have hRE : RES = clsR s (p0 + 1) := hRES
        have O962 := O955.row_nil k55 55 w.heap.size
        clear O955
        have O963 : Own w w954 [Chunk.row k55 55 w.heap.size (fun _ => False) (.slice none (([] : List S55).length) 0) ([] : List S55), Chunk.row k55 55 w.heap.size Sa (.slice Aa rs.length ca) rs, Bk g2 [J 0, .slice none 0 0, .slice none 0 0] 26] := O962
        clear O962
        have O964 := O963.row_view 0 rfl
        clear O963
        have O965 : Own w w954 [Chunk.view k55 (fun _ => False) none (([] : List S55).length) 0 ([] : List S55), Chunk.row k55 55 w.heap.size Sa (.slice Aa rs.length ca) rs, Bk g2 [J 0, .slice none 0 0, .slice none 0 0] 26] := O964
        clear O964
        exact ⟨_, _, _, _, _, _, _, _, rfl, (O965.sel [0] (by decide)).out, clsQ_bad (m := (rest_ s p).length) (hR.symm.trans hRE) (by decide) (by omega)⟩
       ·
        have H966 := H944.subst_ (d := 106) (b := false) rfl hb945
        clear H944
        (try simp only [decide_eq_false_iff_not, Int.not_lt] at hb945)
        rw [if_neg (by omega)] at hR
        refine wp_skip ?_
        refine gw_nx (hK937 _ _ ?_)
        refine wp_region_lit ?_
        refine V H966 (op_move rfl (H966.ev rfl)) ?_
        intro _ H968; clear H966
        refine V H968 (op_move rfl (H968.ev rfl)) ?_
        intro _ H970; clear H968
        refine V H970 (op_move rfl (H970.ev rfl)) ?_
        intro _ H972; clear H970
        refine V H972 (op_build (cells := #[.int .u8 x, .int .u8 hi_]) rfl (pt_cons (H972.ev rfl) (pt_cons (H972.ev rfl) pt_nil)) (by kernel_rfl)) ?_
        intro _ H974; clear H972
        refine gw_news (O := .cells #[.int .u8 x, .int .u8 hi_] 55 (0, 0)) (n := 1) H974 O905 (want_none rfl) rfl (by decide) (op_bslice (by kernel_rfl) rfl (pt_cons (H974.ev rfl) pt_nil)) ?_
        intro g975 _ w977 H978 O979; clear H974 O905
        have O980 : Own w w977 [Bk g975 [.int .u8 x, .int .u8 hi_] 55, Chunk.row k55 55 w.heap.size Sa (.slice Aa rs.length ca) rs, Bk g2 [J 0, .slice none 0 0, .slice none 0 0] 26] := O979
        clear O979
        have O981 : Own w _ [Chunk.row k55 55 w.heap.size Sa (.slice Aa rs.length ca) rs, Chunk.void, Bk g975 [.int .u8 x, .int .u8 hi_] 55, Bk g2 [J 0, .slice none 0 0, .slice none 0 0] 26] := O980.void.sel [2, 0, 1, 3] (by decide)
        refine gw_append1 k55 0 (p := (⟨x, hi_⟩ : S55)) (cs := [.int .u8 x, .int .u8 hi_]) H978 O981 (want_none rfl) rfl (by decide) rfl Tryz.underlying23 gwinfo55 rfl (by decide) (by decide) rfl (H978.ev rfl) (H978.ev rfl) (fun w_ h_ => k55_mkM w_ _ _ (⟨x, hi_⟩ : S55) ) O981.below.size (by omega) ?_
        intro A982 c983 S984 _ w986 H987 O988; clear H978 O980 O981
        have O989 : Own w w986 [Chunk.row k55 55 w.heap.size S984 (.slice A982 ((rs ++ [(⟨x, hi_⟩ : S55)]).length) c983) (rs ++ [(⟨x, hi_⟩ : S55)]), Bk g975 [.int .u8 x, .int .u8 hi_] 55, Bk g2 [J 0, .slice none 0 0, .slice none 0 0] 26] := O988
        clear O988
        refine V H987 (op_assign rfl (H987.ev rfl)) ?_
        intro _ H991; clear H987
        refine wpList_nil ?_
        refine gw_blk ?_
        refine gw_nx (hK679 _ _ ?_)
        refine wp_region_lit ?_
        refine V H991 (op_assign rfl (ev_c _ _)) ?_
        intro _ H993; clear H991
        refine wpList_nil ?_
        refine gw_nx ⟨_, ?_, ((s.size : Int) - r2.length), false, (rs ++ [(⟨x, hi_⟩ : S55)]), A982, _, _, _, (H993.pick (t := 1) rfl (H993.pick (t := 10) rfl (H993.pick (t := 9) rfl (H993.pick (t := 0) rfl (H993.pick (t := 4) rfl (H993.pick (t := 8) rfl H993.nil)))))), O989.sel [0, 2] (by decide), ?_, ?_, ?_, ?_, ?_, rfl⟩
        ·
         rw [hm564]; omega
        ·
         omega
        ·
         intro r_ hr_; rcases List.mem_append.1 hr_ with h_ | h_; (exact hbs r_ h_); (rw [List.mem_singleton.1 h_]; dsimp only; omega)
        ·
         rw [List.length_append, List.length_singleton]; omega
        ·
         exact ⟨k, by (try rw [hrr2]); (try rw [hrr]); omega, by (try rw [hrr2]); (try rw [hrr]); exact hR.symm⟩
        ·
         rfl
     ·
      have H994 := H834.subst_ (d := 88) (b := false) rfl hb835
      clear H834
      (try simp only [Bool.not_eq_true] at hb835)
      have hhy : ¬ hyph r = true := by rw [hb835]; simp
      rw [if_neg hnb, if_neg hhy] at hR
      refine wp_skip ?_
      refine gw_nx (hK796 _ _ ?_)
      refine gw_seq fun K995 hK995 => ?_
      refine gR fun K996 hK996 => ?_
      refine V H994 (op_move rfl (H994.ev rfl)) ?_
      intro _ H998; clear H994
      refine V H998 (op_move rfl (H998.ev rfl)) ?_
      intro _ H1000; clear H998
      refine V H1000 (op_lss rfl (H1000.ev rfl) (H1000.ev rfl)) ?_
      intro _ H1002; clear H1000
      have H1003 := H1002.lit (b := false) (by simp)
      clear H1002
      refine gE hK996 ?_
      refine gw_cond H1003 rfl (fun hb1004 => ?_) (fun hb1004 => ?_)
      skip
      ·
       cases hb1004
      refine wp_skip ?_
      refine gw_nx (hK995 _ _ ?_)
      refine wp_region_lit ?_
      refine V H1003 (op_move rfl (H1003.ev rfl)) ?_
      intro _ H1006; clear H1003
      refine V H1006 (op_move rfl (H1006.ev rfl)) ?_
      intro _ H1008; clear H1006
      refine V H1008 (op_move rfl (H1008.ev rfl)) ?_
      intro _ H1010; clear H1008
      refine V H1010 (op_build (cells := #[.int .u8 x, .int .u8 x]) rfl (pt_cons (H1010.ev rfl) (pt_cons (H1010.ev rfl) pt_nil)) (by kernel_rfl)) ?_
      intro _ H1012; clear H1010
      refine gw_news (O := .cells #[.int .u8 x, .int .u8 x] 55 (0, 0)) (n := 1) H1012 O763 (want_none rfl) rfl (by decide) (op_bslice (by kernel_rfl) rfl (pt_cons (H1012.ev rfl) pt_nil)) ?_
      intro g1013 _ w1015 H1016 O1017; clear H1012 O763
      have O1018 : Own w w1015 [Bk g1013 [.int .u8 x, .int .u8 x] 55, Chunk.row k55 55 w.heap.size Sa (.slice Aa rs.length ca) rs, Bk g2 [J 0, .slice none 0 0, .slice none 0 0] 26] := O1017
      clear O1017
      have O1019 : Own w _ [Chunk.row k55 55 w.heap.size Sa (.slice Aa rs.length ca) rs, Chunk.void, Bk g1013 [.int .u8 x, .int .u8 x] 55, Bk g2 [J 0, .slice none 0 0, .slice none 0 0] 26] := O1018.void.sel [2, 0, 1, 3] (by decide)
      refine gw_append1 k55 0 (p := (⟨x, x⟩ : S55)) (cs := [.int .u8 x, .int .u8 x]) H1016 O1019 (want_none rfl) rfl (by decide) rfl Tryz.underlying23 gwinfo55 rfl (by decide) (by decide) rfl (H1016.ev rfl) (H1016.ev rfl) (fun w_ h_ => k55_mkM w_ _ _ (⟨x, x⟩ : S55) ) O1019.below.size (by omega) ?_
      intro A1020 c1021 S1022 _ w1024 H1025 O1026; clear H1016 O1018 O1019
      have O1027 : Own w w1024 [Chunk.row k55 55 w.heap.size S1022 (.slice A1020 ((rs ++ [(⟨x, x⟩ : S55)]).length) c1021) (rs ++ [(⟨x, x⟩ : S55)]), Bk g1013 [.int .u8 x, .int .u8 x] 55, Bk g2 [J 0, .slice none 0 0, .slice none 0 0] 26] := O1026
      clear O1026
      refine V H1025 (op_assign rfl (H1025.ev rfl)) ?_
      intro _ H1029; clear H1025
      refine wpList_nil ?_
      refine gw_blk ?_
      refine gw_nx (hK679 _ _ ?_)
      refine wp_region_lit ?_
      refine V H1029 (op_assign rfl (ev_c _ _)) ?_
      intro _ H1031; clear H1029
      refine wpList_nil ?_
      refine gw_nx ⟨_, ?_, ((s.size : Int) - r.length), false, (rs ++ [(⟨x, x⟩ : S55)]), A1020, _, _, _, (H1031.pick (t := 1) rfl (H1031.pick (t := 10) rfl (H1031.pick (t := 9) rfl (H1031.pick (t := 0) rfl (H1031.pick (t := 4) rfl (H1031.pick (t := 8) rfl H1031.nil)))))), O1027.sel [0, 2] (by decide), ?_, ?_, ?_, ?_, ?_, rfl⟩
      ·
       rw [hm564]; omega
      ·
       omega
      ·
       intro r_ hr_; rcases List.mem_append.1 hr_ with h_ | h_; (exact hbs r_ h_); (rw [List.mem_singleton.1 h_]; dsimp only; omega)
      ·
       rw [List.length_append, List.length_singleton]; omega
      ·
       exact ⟨k, by (try rw [hrr2]); (try rw [hrr]); omega, by (try rw [hrr2]); (try rw [hrr]); exact hR.symm⟩
      ·
       rfl
end GRefK_
export GRefK_ (rclass_walk)
end Go.Proofs.YtelbgmpeghhakaaGreat.PA
end
section
namespace Go.Proofs.YtelbgmpeghhakaaGreat.PA
open Go.RowKit Go.Proofs.YtelbgmpeghhakaaGreatW.PrintWords Go.Proofs.YtelbgmpeghhakaaGreatW.PrintLast Go.Proofs.YtelbgmpeghhakaaGreatW.PrintMore
set_option linter.unusedVariables false
set_option linter.unusedSimpArgs false
namespace GRefO_
theorem gwagg26 : ∀ w, (isAgg 26).run Tryz.prog w = .ok true w := fun _ => by kernel_rfl
theorem gwsiz26 : ∀ w, (sizeOf 26).run Tryz.prog w = .ok 3 w := fun _ => by kernel_rfl
theorem gwzer26 : ∀ w, (zeroValue 26).run Tryz.prog w = .ok (.agg #[.int .i64 0, .slice none 0 0, .slice none 0 0]) w := fun _ => by kernel_rfl
set_option maxHeartbeats 4000000 in
set_option maxRecDepth 100000 in
theorem rone_walk (c0 : Int) (w : World) :
    Calls Tryz.prog 24 #[.int .u8 c0] w fun e w' => ∃ A c S, e = .returned (.agg #[.int .i64 1, .slice A ([(⟨c0, c0⟩ : S55)]).length c, .slice none 0 0]) ∧ Out w w' (fun _ => False) [Chunk.view k55 S A ([(⟨c0, c0⟩ : S55)]).length c ([(⟨c0, c0⟩ : S55)])] := by
 refine gw_start (N := 8) (vs := [.int .u8 c0]) Tryz.func24 rfl rfl (by simp) fun a HF HO => ?_
 replace HO : Own w w [] := HO
 refine gR fun K1 hK1 => ?_
 refine gw_new HF HO (want_none rfl) rfl (by decide) (op_alloc gwzer26 rfl) ?_
 intro g2 _ w4 H5 O6; clear HF HO
 have O7 : Own w w4 [Bk g2 [J 0, .slice none 0 0, .slice none 0 0] 26] := O6
 clear O6
 refine gE hK1 ?_
 refine gR fun K8 hK8 => ?_
 refine V H5 (op_move rfl (H5.ev rfl)) ?_
 intro _ H10; clear H5
 refine V H10 (op_move rfl (H10.ev rfl)) ?_
 intro _ H12; clear H10
 refine V H12 (op_build (cells := #[.int .u8 c0, .int .u8 c0]) rfl (pt_cons (H12.ev rfl) (pt_cons (H12.ev rfl) pt_nil)) (by kernel_rfl)) ?_
 intro _ H14; clear H12
 refine gw_news (O := .cells #[.int .u8 c0, .int .u8 c0] 55 (0, 0)) (n := 1) H14 O7 (want_none rfl) rfl (by decide) (op_bslice (by kernel_rfl) rfl (pt_cons (H14.ev rfl) pt_nil)) ?_
 intro g15 _ w17 H18 O19; clear H14 O7
 have O20 : Own w w17 [Bk g15 [.int .u8 c0, .int .u8 c0] 55, Bk g2 [J 0, .slice none 0 0, .slice none 0 0] 26] := O19
 clear O19
 have O22 : Own w w17 [Chunk.view k55 (fun k_ => k_ = g15 ∨ Chunk.void.S k_) (some ⟨g15, 0, none⟩) (([(⟨c0, c0⟩ : S55)]).length) (([(⟨c0, c0⟩ : S55)]).length) ([(⟨c0, c0⟩ : S55)]), Bk g2 [J 0, .slice none 0 0, .slice none 0 0] 26] := Own.lit_view (cs := [.int .u8 c0, .int .u8 c0]) (O20.void.sel [1, 0, 2] (by decide)) k55 [(⟨c0, c0⟩ : S55)] (fun w_ h_ => reps_more (k55_mkF _ _ (⟨c0, c0⟩ : S55)) rfl reps_none) (by simp [maxLen])
 clear O20
 refine V H18 (op_build (cells := #[J 1, .slice (some ⟨g15, 0, none⟩) (([(⟨c0, c0⟩ : S55)]).length) (([(⟨c0, c0⟩ : S55)]).length), .slice none 0 0]) rfl (pt_cons (ev_c _ _) (pt_cons (H18.ev rfl) pt_nil)) (by kernel_rfl)) ?_
 intro _ H24; clear H18
 refine gw_setn 1 H24 O22 rfl (want_none rfl) rfl (op_storen gwsiz26 rfl (H24.ev rfl) (H24.ev rfl) (O22.get 1 rfl) rfl (by simp) (by simp [Value.oneCell'])) ?_
 intro _ w27 H26 O28; clear H24 O22
 refine gE hK8 ?_
 refine wp_ret ?_
 refine gw_rets1 H26 rfl (rv_celln H26 rfl gwagg26 gwsiz26 (O28.get 1 rfl) rfl) ?_
 exact ⟨_, _, _, rfl, (O28.sel [0] (by decide)).out⟩
set_option maxHeartbeats 4000000 in
set_option maxRecDepth 100000 in
theorem rall_walk (w : World) :
    Calls Tryz.prog 21 #[] w fun e w' => ∃ A c S, e = .returned (.agg #[.int .i64 1, .slice A ([(⟨0, 255⟩ : S55)]).length c, .slice none 0 0]) ∧ Out w w' (fun _ => False) [Chunk.view k55 S A ([(⟨0, 255⟩ : S55)]).length c ([(⟨0, 255⟩ : S55)])] := by
 refine gw_start (N := 4) (vs := []) Tryz.func21 rfl rfl (by simp) fun a HF HO => ?_
 replace HO : Own w w [] := HO
 refine gR fun K1 hK1 => ?_
 refine gw_new HF HO (want_none rfl) rfl (by decide) (op_alloc gwzer26 rfl) ?_
 intro g2 _ w4 H5 O6; clear HF HO
 have O7 : Own w w4 [Bk g2 [J 0, .slice none 0 0, .slice none 0 0] 26] := O6
 clear O6
 refine gE hK1 ?_
 refine gR fun K8 hK8 => ?_
 refine V H5 (op_build (cells := #[.int .u8 0, .int .u8 255]) rfl (pt_cons (ev_c _ _) (pt_cons (ev_c _ _) pt_nil)) (by kernel_rfl)) ?_
 intro _ H10; clear H5
 refine gw_news (O := .cells #[.int .u8 0, .int .u8 255] 55 (0, 0)) (n := 1) H10 O7 (want_none rfl) rfl (by decide) (op_bslice (by kernel_rfl) rfl (pt_cons (H10.ev rfl) pt_nil)) ?_
 intro g11 _ w13 H14 O15; clear H10 O7
 have O16 : Own w w13 [Bk g11 [.int .u8 0, .int .u8 255] 55, Bk g2 [J 0, .slice none 0 0, .slice none 0 0] 26] := O15
 clear O15
 have O18 : Own w w13 [Chunk.view k55 (fun k_ => k_ = g11 ∨ Chunk.void.S k_) (some ⟨g11, 0, none⟩) (([(⟨0, 255⟩ : S55)]).length) (([(⟨0, 255⟩ : S55)]).length) ([(⟨0, 255⟩ : S55)]), Bk g2 [J 0, .slice none 0 0, .slice none 0 0] 26] := Own.lit_view (cs := [.int .u8 0, .int .u8 255]) (O16.void.sel [1, 0, 2] (by decide)) k55 [(⟨0, 255⟩ : S55)] (fun w_ h_ => reps_more (k55_mkF _ _ (⟨0, 255⟩ : S55)) rfl reps_none) (by simp [maxLen])
 clear O16
 refine V H14 (op_build (cells := #[J 1, .slice (some ⟨g11, 0, none⟩) (([(⟨0, 255⟩ : S55)]).length) (([(⟨0, 255⟩ : S55)]).length), .slice none 0 0]) rfl (pt_cons (ev_c _ _) (pt_cons (H14.ev rfl) pt_nil)) (by kernel_rfl)) ?_
 intro _ H20; clear H14
 refine gw_setn 1 H20 O18 rfl (want_none rfl) rfl (op_storen gwsiz26 rfl (H20.ev rfl) (H20.ev rfl) (O18.get 1 rfl) rfl (by simp) (by simp [Value.oneCell'])) ?_
 intro _ w23 H22 O24; clear H20 O18
 refine gE hK8 ?_
 refine wp_ret ?_
 refine gw_rets1 H22 rfl (rv_celln H22 rfl gwagg26 gwsiz26 (O24.get 1 rfl) rfl) ?_
 exact ⟨_, _, _, rfl, (O24.sel [0] (by decide)).out⟩
end GRefO_
export GRefO_ (rone_walk rall_walk)
theorem rclass_fork (w0 w : World) (R : Chunk) (s : ByteArray) (p0 : Int) (hp0 : 0 ≤ p0 ∧ p0 < s.size) (hs : s.size ≤ 256) (HO : Own w0 w [R]) :
    Calls Tryz.prog 22 #[.string s, .int .i64 p0] w fun e w' =>
      (∃ rs nt r A c S, classT (rest_ s (p0 + 1)) = .inl (rs, nt, r) ∧ rest_ s ((s.size : Int) - r.length) = r ∧ p0 + 1 ≤ (s.size : Int) - r.length ∧ (s.size : Int) - r.length ≤ s.size ∧ e = .returned (.tuple #[.agg #[.int .i64 1, .slice A (canonP fun c_ => inR rs c_ != nt).length c, .slice none 0 0], .int .i64 ((s.size : Int) - r.length), .int .i64 0, .int .i64 0]) ∧ Own w0 w' [R, Chunk.view k55 S A (canonP fun c_ => inR rs c_ != nt).length c (canonP fun c_ => inR rs c_ != nt)]) ∨
      (∃ e' m k n L A c S, classT (rest_ s (p0 + 1)) = .inr (e', m) ∧ e' ≠ 0 ∧ e = .returned (.tuple #[.agg #[.int .i64 k, .slice A (L : List RR).length c, .slice none 0 0], .int .i64 n, .int .i64 e', .int .i64 ((s.size : Int) - (m : Nat))]) ∧ Own w0 w' [R, Chunk.view k55 S A L.length c L]) := by
  refine (rclass_walk s p0 w hp0 hs).mono ?_
  rintro e w' ⟨k, n, ec, at_, L, A, c, S, rfl, hO, hQ⟩
  have h2 := (HO.fresh hO).sel [1, 0] (by decide)
  unfold clsQ at hQ
  cases hT : classT (rest_ s (p0 + 1)) with
  | inl v =>
    obtain ⟨rs, nt, r⟩ := v
    rw [hT] at hQ
    obtain ⟨rfl, rfl, rfl, rfl, rfl, h6, h7, h8⟩ := hQ
    exact .inl ⟨rs, nt, r, A, c, S, rfl, h6, h7, h8, rfl, h2⟩
  | inr v =>
    obtain ⟨e', m⟩ := v
    rw [hT] at hQ
    obtain ⟨rfl, h3, rfl⟩ := hQ
    exact .inr ⟨_, m, k, n, L, A, c, S, rfl, h3, rfl, h2⟩
end Go.Proofs.YtelbgmpeghhakaaGreat.PA
end
