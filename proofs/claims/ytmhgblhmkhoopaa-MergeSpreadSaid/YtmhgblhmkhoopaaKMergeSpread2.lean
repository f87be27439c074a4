/- What this claim uses of this session's own texts, put together by a program: GSameE GCloneE GMerge GMergeI PAx11 HAliveM GAliveM HSpreadL HMake GSpread. -/
import Derived.Test.YtmhgblhmkhoopaaKMergeSpread1
import Derived.Test.YtmhgblhmkhoopaaProg
import Derived.Test.YtmhgblhmkhoopaaRows
section
namespace Go.Proofs.Ytmhgblhmkhoopaa.PA
open Go.RowKit Go.Proofs.YtmhgblhmkhoopaaW.PrintWords Go.Proofs.YtmhgblhmkhoopaaW.PrintLast Go.Proofs.YtmhgblhmkhoopaaW.PrintMore
set_option linter.unusedVariables false
set_option linter.unusedSimpArgs false
namespace GSameE_
theorem gwagg3 : ∀ w, (isAgg 3).run Try.prog w = .ok false w := fun _ => by kernel_rfl
theorem gwagg32 : ∀ w, (isAgg 32).run Try.prog w = .ok false w := fun _ => by kernel_rfl
theorem gwagg33 : ∀ w, (isAgg 33).run Try.prog w = .ok false w := fun _ => by kernel_rfl
theorem gwagg42 : ∀ w, (isAgg 42).run Try.prog w = .ok false w := fun _ => by kernel_rfl
theorem gwfld35_0 (g off : Nat) : ∀ w, (Instr.fieldAt 35 (.pointer (some ⟨g, off, none⟩)) 0).run Try.prog w = .ok (.pointer (some ⟨g, off + 0, none⟩)) w := fun _ => by kernel_rfl
theorem gwfld35_1 (g off : Nat) : ∀ w, (Instr.fieldAt 35 (.pointer (some ⟨g, off, none⟩)) 1).run Try.prog w = .ok (.pointer (some ⟨g, off + 1, none⟩)) w := fun _ => by kernel_rfl
theorem gwfld35_2 (g off : Nat) : ∀ w, (Instr.fieldAt 35 (.pointer (some ⟨g, off, none⟩)) 2).run Try.prog w = .ok (.pointer (some ⟨g, off + 2, none⟩)) w := fun _ => by kernel_rfl
theorem gwsiz42 : ∀ w, (sizeOf 42).run Try.prog w = .ok 1 w := fun _ => by kernel_rfl
set_option maxHeartbeats 4000000 in
set_option maxRecDepth 100000 in
theorem EqualFunc_walk (A1 : Option Addr) (c1 : Nat) (xs : List (List S51)) (A2 : Option Addr) (c2 : Nat) (ys : List (List S51)) (w : World) (hr1 : Kd.C (Kd.slice 51 k51) w A1 xs.length xs) (hc1 : xs.length ≤ c1) (hr2 : Kd.C (Kd.slice 51 k51) w A2 ys.length ys) (hc2 : ys.length ≤ c2) :
    Calls Try.prog 16 #[.slice A1 xs.length c1, .slice A2 ys.length c2, .func (.func 17) #[] #[]] w fun e w' => e = .returned (.bool (eqA xs ys)) ∧ Below w.heap.size w w' := by
 have hlx := len_C hr1
 have hly := len_C hr2
 refine gw_start (N := 32) (vs := [.slice A1 xs.length c1, .slice A2 ys.length c2, .func (.func 17) #[] #[]]) Try.func16 rfl rfl (by simp) fun a HF HO => ?_
 replace HO : Own w w [] := HO
 refine gR fun K1 hK1 => ?_
 refine V HF (op_assign rfl (ev_c _ _)) ?_
 intro _ H3; clear HF
 refine gE hK1 ?_
 refine gw_seq fun K4 hK4 => ?_
 refine gR fun K5 hK5 => ?_
 refine V H3 (op_move rfl (H3.ev rfl)) ?_
 intro _ H7; clear H3
 refine V H7 (op_len Try.underlying33 rfl (H7.ev rfl)) ?_
 intro _ H9; clear H7
 refine V H9 (op_move rfl (H9.ev rfl)) ?_
 intro _ H11; clear H9
 refine V H11 (op_len Try.underlying33 rfl (H11.ev rfl)) ?_
 intro _ H13; clear H11
 refine V H13 (op_nei rfl (H13.ev rfl) (H13.ev rfl)) ?_
 intro _ H15; clear H13
 refine gE hK5 ?_
 refine gw_cond H15 rfl (fun hb16 => ?_) (fun hb16 => ?_)
 ·
  have H17 := H15.subst_ (d := 14) (b := true) rfl hb16
  clear H15
  (try simp only [decide_eq_true_eq, ne_eq] at hb16)
  refine gR fun K18 hK18 => ?_
  refine V H17 (op_assign rfl (ev_c _ _)) ?_
  intro _ H20; clear H17
  refine gE hK18 ?_
  refine wp_ret ?_
  refine gw_thr ?_
  refine gw_ret1 H20 rfl rfl ?_
  exact ⟨by rw [← eqA_f (fun e_ => by have h_ := congrArg List.length e_; omega)], HO.below⟩
 ·
  have H21 := H15.subst_ (d := 14) (b := false) rfl hb16
  clear H15
  (try simp only [decide_eq_false_iff_not, ne_eq, Decidable.not_not] at hb16)
  refine wp_skip ?_
  refine gw_nx (hK4 _ _ ?_)
  refine gw_seq fun K22 hK22 => ?_
  refine gR fun K23 hK23 => ?_
  refine V H21 (op_move rfl (H21.ev rfl)) ?_
  intro _ H25; clear H21
  refine V H25 (op_len Try.underlying33 rfl (H25.ev rfl)) ?_
  intro _ H27; clear H25
  refine V H27 (op_move rfl (ev_c _ _)) ?_
  intro _ H29; clear H27
  refine gE hK23 ?_
  refine wp_block ?_
  refine gw_loop (fun m_ a_ w_ => ∃ (i : Int), Fr 32 a_ [(17, J i), (1, .slice A2 ys.length c2), (2, .func (.func 17) #[] #[]), (15, .slice A1 xs.length c1), (16, J (xs.length : Int))] ∧ Own w w_ [] ∧ (0 ≤ i ∧ i ≤ xs.length) ∧ (∀ j : Nat, j < i.toNat → xs.getD j [] = ys.getD j []) ∧ m_ = (xs.length - i.toNat)) ((xs.length - (0 : Int).toNat)) ?_ ?_
  ·
   refine ⟨0, (H29.pick (t := 17) rfl (H29.pick (t := 1) rfl (H29.pick (t := 2) rfl (H29.pick (t := 15) rfl (H29.pick (t := 16) rfl H29.nil))))), HO.sel [] (by decide), ?_, ?_, rfl⟩
   ·
    omega
   ·
    intro j hj_; simp at hj_
  ·
   rintro m31 _ w33 ⟨i, H34, O35, hi, hj, hm36⟩
   refine gR fun K37 hK37 => ?_
   refine V H34 (op_lss rfl (H34.ev rfl) (H34.ev rfl)) ?_
   intro _ H39; clear H34
   refine gE hK37 ?_
   refine gw_seq fun K40 hK40 => ?_
   refine gw_cond H39 rfl (fun hb41 => ?_) (fun hb41 => ?_)
   ·
    have H42 := H39.subst_ (d := 18) (b := true) rfl hb41
    clear H39
    (try simp only [decide_eq_true_eq] at hb41)
    refine wp_skip ?_
    refine gw_nx (hK40 _ _ ?_)
    refine gw_seq fun K43 hK43 => ?_
    refine wp_block ?_
    refine gR fun K44 hK44 => ?_
    refine V H42 (op_move rfl (H42.ev rfl)) ?_
    intro _ H46; clear H42
    obtain ⟨ad47, cs50, hA48, hl51, hK52, hc49⟩ := Kd.C_get hr1 ([] : List S51) i (by omega) (by omega)
    obtain ⟨A53, c54, rfl, hl55, hC56⟩ := id hK52
    clear hl51
    refine V H46 (op_index Try.underlying33 gwsiz42 rfl (H46.ev rfl) (H46.ev rfl) hA48 (⟨by omega, by omega⟩)) ?_
    intro _ H58; clear H46
    refine V H58 (op_load1 gwagg42 rfl (H58.ev rfl) (O35.cell0 (at0 hc49))) ?_
    intro _ H60; clear H58
    refine V H60 (op_assign rfl (H60.ev rfl)) ?_
    intro _ H62; clear H60
    refine V H62 (op_assign rfl (H62.ev rfl)) ?_
    intro _ H64; clear H62
    refine gE hK44 ?_
    refine gR fun K65 hK65 => ?_
    refine V H64 (op_move rfl (H64.ev rfl)) ?_
    intro _ H67; clear H64
    refine V H67 (op_move rfl (H67.ev rfl)) ?_
    intro _ H69; clear H67
    obtain ⟨ad70, cs73, hA71, hl74, hK75, hc72⟩ := Kd.C_get hr2 ([] : List S51) i (by omega) (by omega)
    obtain ⟨A76, c77, rfl, hl78, hC79⟩ := id hK75
    clear hl74
    refine V H69 (op_index Try.underlying33 gwsiz42 rfl (H69.ev rfl) (H69.ev rfl) hA71 (⟨by omega, by omega⟩)) ?_
    intro _ H81; clear H69
    refine V H81 (op_load1 gwagg42 rfl (H81.ev rfl) (O35.cell0 (at0 hc72))) ?_
    intro _ H83; clear H81
    refine V H83 (op_assign rfl (H83.ev rfl)) ?_
    intro _ H85; clear H83
    refine gE hK65 ?_
    refine gR fun K86 hK86 => ?_
    refine V H85 (op_move rfl (H85.ev rfl)) ?_
    intro _ H88; clear H85
    refine V H88 (op_move rfl (H88.ev rfl)) ?_
    intro _ H90; clear H88
    refine V H90 (op_move rfl (H90.ev rfl)) ?_
    intro _ H92; clear H90
    refine gw_call H92 (want_none rfl) rfl (by decide) (op_callV Try.func17 (by kernel_rfl) rfl rfl (H92.ev rfl) (ar_cons (H92.ev rfl) (ar_cons (H92.ev rfl) ar_nil))) (eqV_calls A53 c54 (xs.getD i.toNat ([] : List S51)) A76 c77 (ys.getD i.toNat ([] : List S51)) _ (Kd.C_below hC56 O35.below) hl55 (Kd.C_below hC79 O35.below) hl78) ?_
    rintro e93 w94 ⟨rfl, hb95⟩
    refine ⟨_, rfl, fun _ H97 => ?_⟩
    have O98 := O35.after hb95
    clear H92 O35 hb95
    refine V H97 (op_not rfl (H97.ev rfl)) ?_
    intro _ H101; clear H97
    refine gE hK86 ?_
    refine gw_cond H101 rfl (fun hb102 => ?_) (fun hb102 => ?_)
    ·
     have H103 := H101.subst_ (d := 30) (b := true) rfl hb102
     clear H101
     (try simp only [Bool.and_eq_true, Bool.and_eq_false_iff, Bool.not_and, Bool.or_eq_true, Bool.or_eq_false_iff, Bool.not_or, Bool.not_not, Bool.not_eq_true', Bool.not_eq_false', Bool.not_eq_true, Bool.not_eq_false] at hb102)
     have hx := hb102
     refine gR fun K104 hK104 => ?_
     refine V H103 (op_assign rfl (ev_c _ _)) ?_
     intro _ H106; clear H103
     refine gE hK104 ?_
     refine wp_ret ?_
     refine gw_blr ?_
     refine gw_thr ?_
     refine gw_thr ?_
     refine gw_blr ?_
     refine gw_thr ?_
     refine gw_ret1 H106 rfl rfl ?_
     exact ⟨by rw [← eqA_f (list_ne [] i.toNat (eqA_no.1 hx))], O98.below⟩
    ·
     have H107 := H101.subst_ (d := 30) (b := false) rfl hb102
     clear H101
     (try simp only [Bool.and_eq_true, Bool.and_eq_false_iff, Bool.not_and, Bool.or_eq_true, Bool.or_eq_false_iff, Bool.not_or, Bool.not_not, Bool.not_eq_true', Bool.not_eq_false', Bool.not_eq_true, Bool.not_eq_false] at hb102)
     have hx := hb102
     refine wp_skip ?_
     refine gw_blk ?_
     refine gw_nx (hK43 _ _ ?_)
     refine wp_region_lit ?_
     refine V H107 (op_add rfl (H107.ev rfl) (ev_c _ _) (by omega)) ?_
     intro _ H109; clear H107
     refine V H109 (op_move rfl (H109.ev rfl)) ?_
     intro _ H111; clear H109
     refine wpList_nil ?_
     refine gw_nx ⟨_, ?_, i + 1, (H111.pick (t := 17) rfl (H111.pick (t := 1) rfl (H111.pick (t := 2) rfl (H111.pick (t := 15) rfl (H111.pick (t := 16) rfl H111.nil))))), O98.sel [] (by decide), ?_, ?_, rfl⟩
     ·
      rw [hm36]; omega
     ·
      omega
     ·
      intro j hj_; by_cases hji : j = i.toNat; (rw [hji]; exact eqA_iff.1 hx); exact hj j (by omega)
   ·
    have H112 := H39.subst_ (d := 18) (b := false) rfl hb41
    clear H39
    (try simp only [decide_eq_false_iff_not, Int.not_lt] at hb41)
    refine wp_exit ?_
    refine gw_thx ?_
    refine gw_thx ?_
    refine gw_in ?_
    refine gw_nx (hK22 _ _ ?_)
    refine gR fun K113 hK113 => ?_
    refine V H112 (op_assign rfl (ev_c _ _)) ?_
    intro _ H115; clear H112
    refine gE hK113 ?_
    refine wp_ret ?_
    refine gw_ret1 H115 rfl rfl ?_
    exact ⟨by rw [← eqA_t (list_eq [] (by omega) fun j h_ => hj j (by omega))], O35.below⟩
set_option maxHeartbeats 4000000 in
set_option maxRecDepth 100000 in
theorem Same_walk (x : EE) (A1 : Option Addr) (c1 : Nat) (A2 : Option Addr) (c2 : Nat) (y : EE) (A3 : Option Addr) (c3 : Nat) (A4 : Option Addr) (c4 : Nat) (w : World) (h1 : Kd.C k37 w A1 x.f1.length x.f1) (l1 : x.f1.length ≤ c1) (h2 : Kd.C (Kd.slice 51 k51) w A2 x.f2.length x.f2) (l2 : x.f2.length ≤ c2) (h3 : Kd.C k37 w A3 y.f1.length y.f1) (l3 : y.f1.length ≤ c3) (h4 : Kd.C (Kd.slice 51 k51) w A4 y.f2.length y.f2) (l4 : y.f2.length ≤ c4) :
    Calls Try.prog 10 #[.agg #[.int .i64 x.f0, .slice A1 x.f1.length c1, .slice A2 x.f2.length c2], .agg #[.int .i64 y.f0, .slice A3 y.f1.length c3, .slice A4 y.f2.length c4]] w fun e w' => e = .returned (.bool (eqA x y)) ∧ Below w.heap.size w w' := by
 refine gw_start (N := 24) (vs := [.agg #[J x.f0, .slice A1 x.f1.length c1, .slice A2 x.f2.length c2], .agg #[J y.f0, .slice A3 y.f1.length c3, .slice A4 y.f2.length c4]]) Try.func10 rfl rfl (by simp) fun a HF HO => ?_
 replace HO : Own w w [] := HO
 refine gR fun K1 hK1 => ?_
 refine gw_new HF HO (want_none rfl) rfl (by decide) (op_box rfl (HF.ev rfl)) ?_
 intro g2 _ w4 H5 O6; clear HF HO
 have O7 : Own w w4 [Bk g2 [J x.f0, .slice A1 x.f1.length c1, .slice A2 x.f2.length c2] 35] := O6
 clear O6
 refine gw_new H5 O7 (want_none rfl) rfl (by decide) (op_box rfl (H5.ev rfl)) ?_
 intro g8 _ w10 H11 O12; clear H5 O7
 have O13 : Own w w10 [Bk g8 [J y.f0, .slice A3 y.f1.length c3, .slice A4 y.f2.length c4] 35, Bk g2 [J x.f0, .slice A1 x.f1.length c1, .slice A2 x.f2.length c2] 35] := O12
 clear O12
 refine V H11 (op_assign rfl (ev_c _ _)) ?_
 intro _ H15; clear H11
 refine gE hK1 ?_
 refine gR fun K16 hK16 => ?_
 refine V H15 (op_field (gwfld35_0 _ _) rfl (H15.ev rfl)) ?_
 intro _ H18; clear H15
 refine V H18 (op_load1 gwagg3 rfl (H18.ev rfl) (blk_at (O13.get 1 rfl) rfl)) ?_
 intro _ H20; clear H18
 refine V H20 (op_field (gwfld35_0 _ _) rfl (H20.ev rfl)) ?_
 intro _ H22; clear H20
 refine V H22 (op_load1 gwagg3 rfl (H22.ev rfl) (blk_at (O13.get 0 rfl) rfl)) ?_
 intro _ H24; clear H22
 refine V H24 (op_eqi rfl (H24.ev rfl) (H24.ev rfl)) ?_
 intro _ H26; clear H24
 refine V H26 (op_move rfl (H26.ev rfl)) ?_
 intro _ H28; clear H26
 refine gw_evG H28 rfl rfl rfl rfl (on_t _) rfl (by decide) (fun h_ => (op_field (gwfld35_1 _ _) rfl (H28.ev rfl))) ?_
 intro _ H30; clear H28
 refine gw_evG H30 rfl rfl rfl rfl (on_t _) rfl (by decide) (fun h_ => (op_load1 gwagg32 rfl (ev_gv (H30.ev rfl) h_) (blk_at (O13.get 1 rfl) rfl))) ?_
 intro _ H32; clear H30
 refine gw_evG H32 rfl rfl rfl rfl (on_t _) rfl (by decide) (fun h_ => (op_field (gwfld35_1 _ _) rfl (H32.ev rfl))) ?_
 intro _ H34; clear H32
 refine gw_evG H34 rfl rfl rfl rfl (on_t _) rfl (by decide) (fun h_ => (op_load1 gwagg32 rfl (ev_gv (H34.ev rfl) h_) (blk_at (O13.get 0 rfl) rfl))) ?_
 intro _ H36; clear H34
 refine gw_callG H36 rfl rfl rfl rfl (on_t _) rfl (by decide) (fun h_ => (op_callL Try.func15 (by kernel_rfl) rfl rfl (ar_cons (ev_gv (H36.ev rfl) h_) (ar_cons (ev_gv (H36.ev rfl) h_) ar_nil)))) (fun h_ => eqR_calls A1 c1 x.f1 A3 c3 y.f1 _ (Kd.C_below h1 O13.below) l1 (Kd.C_below h3 O13.below) l3) ?_
 intro _ w39 hb40 H38
 have O41 := O13.after hb40; clear H36 O13 hb40
 refine V H38 (op_pick_and rfl (H38.ev rfl) (fun hp_ => (ev_gv (H38.ev rfl) hp_)) (ev_c _ _)) ?_
 intro _ H43; clear H38
 refine V H43 (op_move rfl (H43.ev rfl)) ?_
 intro _ H45; clear H43
 refine gw_evG H45 rfl rfl rfl rfl (on_t _) rfl (by decide) (fun h_ => (op_field (gwfld35_2 _ _) rfl (H45.ev rfl))) ?_
 intro _ H47; clear H45
 refine gw_evG H47 rfl rfl rfl rfl (on_t _) rfl (by decide) (fun h_ => (op_load1 gwagg33 rfl (ev_gv (H47.ev rfl) h_) (blk_at (O41.get 1 rfl) rfl))) ?_
 intro _ H49; clear H47
 refine gw_evG H49 rfl rfl rfl rfl (on_t _) rfl (by decide) (fun h_ => (op_field (gwfld35_2 _ _) rfl (H49.ev rfl))) ?_
 intro _ H51; clear H49
 refine gw_evG H51 rfl rfl rfl rfl (on_t _) rfl (by decide) (fun h_ => (op_load1 gwagg33 rfl (ev_gv (H51.ev rfl) h_) (blk_at (O41.get 0 rfl) rfl))) ?_
 intro _ H53; clear H51
 refine gw_callG H53 rfl rfl rfl rfl (on_t _) rfl (by decide) (fun h_ => (op_callL Try.func16 (by kernel_rfl) rfl rfl (ar_cons (ev_gv (H53.ev rfl) h_) (ar_cons (ev_gv (H53.ev rfl) h_) (ar_cons rfl ar_nil))))) (fun h_ => EqualFunc_walk A2 c2 x.f2 A4 c4 y.f2 _ (Kd.C_below h2 O41.below) l2 (Kd.C_below h4 O41.below) l4) ?_
 intro _ w56 hb57 H55
 have O58 := O41.after hb57; clear H53 O41 hb57
 refine V H55 (op_pick_and rfl (H55.ev rfl) (fun hp_ => (ev_gv (H55.ev rfl) hp_)) (ev_c _ _)) ?_
 intro _ H60; clear H55
 refine V H60 (op_assign rfl (H60.ev rfl)) ?_
 intro _ H62; clear H60
 refine gE hK16 ?_
 refine wp_ret ?_
 refine gw_ret1 H62 rfl rfl ?_
 exact ⟨by rw [← same_val x y _ rfl], O58.below⟩
end GSameE_
export GSameE_ (EqualFunc_walk Same_walk)
end Go.Proofs.Ytmhgblhmkhoopaa.PA
end
section
namespace Go.Proofs.Ytmhgblhmkhoopaa.PA
open Go.RowKit Go.Proofs.YtmhgblhmkhoopaaW.PrintWords Go.Proofs.YtmhgblhmkhoopaaW.PrintLast Go.Proofs.YtmhgblhmkhoopaaW.PrintMore
set_option linter.unusedVariables false
set_option linter.unusedSimpArgs false
namespace GCloneE_
theorem gwagg3 : ∀ w, (isAgg 3).run Try.prog w = .ok false w := fun _ => by kernel_rfl
theorem gwagg32 : ∀ w, (isAgg 32).run Try.prog w = .ok false w := fun _ => by kernel_rfl
theorem gwagg33 : ∀ w, (isAgg 33).run Try.prog w = .ok false w := fun _ => by kernel_rfl
theorem gwagg35 : ∀ w, (isAgg 35).run Try.prog w = .ok true w := fun _ => by kernel_rfl
theorem gwagg42 : ∀ w, (isAgg 42).run Try.prog w = .ok false w := fun _ => by kernel_rfl
theorem gwfld35_0 (g off : Nat) : ∀ w, (Instr.fieldAt 35 (.pointer (some ⟨g, off, none⟩)) 0).run Try.prog w = .ok (.pointer (some ⟨g, off + 0, none⟩)) w := fun _ => by kernel_rfl
theorem gwfld35_1 (g off : Nat) : ∀ w, (Instr.fieldAt 35 (.pointer (some ⟨g, off, none⟩)) 1).run Try.prog w = .ok (.pointer (some ⟨g, off + 1, none⟩)) w := fun _ => by kernel_rfl
theorem gwfld35_2 (g off : Nat) : ∀ w, (Instr.fieldAt 35 (.pointer (some ⟨g, off, none⟩)) 2).run Try.prog w = .ok (.pointer (some ⟨g, off + 2, none⟩)) w := fun _ => by kernel_rfl
theorem gwinfo42 : (Try.prog.info? 42).map (fun i => (i.zero, i.size, i.bytes)) = some (some (.slice none 0 0), 1, 24) := by kernel_rfl
theorem gwsiz33 : ∀ w, (sizeOf 33).run Try.prog w = .ok 1 w := fun _ => by kernel_rfl
theorem gwsiz35 : ∀ w, (sizeOf 35).run Try.prog w = .ok 3 w := fun _ => by kernel_rfl
theorem gwsiz42 : ∀ w, (sizeOf 42).run Try.prog w = .ok 1 w := fun _ => by kernel_rfl
theorem gwzer35 : ∀ w, (zeroValue 35).run Try.prog w = .ok (.agg #[.int .i64 0, .slice none 0 0, .slice none 0 0]) w := fun _ => by kernel_rfl
set_option maxHeartbeats 4000000 in
set_option maxRecDepth 100000 in
theorem clone_walk (x : EE) (A1 : Option Addr) (c1 : Nat) (A2 : Option Addr) (c2 : Nat) (w : World) (h1 : Kd.C k37 w A1 x.f1.length x.f1) (l1 : x.f1.length ≤ c1) (h2 : Kd.C (Kd.slice 51 k51) w A2 x.f2.length x.f2) (l2 : x.f2.length ≤ c2) (hx : okB x) :
    Calls Try.prog 12 #[.agg #[.int .i64 x.f0, .slice A1 x.f1.length c1, .slice A2 x.f2.length c2]] w fun e w' => ∃ v1 v2 S_, e = .returned (.agg #[.int .i64 x.f0, v1, v2]) ∧ Out w w' (fun _ => False) [Chunk.ent w.heap.size S_ x v1 v2] := by
 obtain ⟨hx1, hx2, hx3⟩ := hx
 refine gw_start (N := 28) (vs := [.agg #[J x.f0, .slice A1 x.f1.length c1, .slice A2 x.f2.length c2]]) Try.func12 rfl rfl (by simp) fun a HF HO => ?_
 replace HO : Own w w [] := HO
 refine gR fun K1 hK1 => ?_
 refine gw_new HF HO (want_none rfl) rfl (by decide) (op_box rfl (HF.ev rfl)) ?_
 intro g2 _ w4 H5 O6; clear HF HO
 have O7 : Own w w4 [Bk g2 [J x.f0, .slice A1 x.f1.length c1, .slice A2 x.f2.length c2] 35] := O6
 clear O6
 refine gw_new H5 O7 (want_none rfl) rfl (by decide) (op_alloc gwzer35 rfl) ?_
 intro g8 _ w10 H11 O12; clear H5 O7
 have O13 : Own w w10 [Bk g8 [J 0, .slice none 0 0, .slice none 0 0] 35, Bk g2 [J x.f0, .slice A1 x.f1.length c1, .slice A2 x.f2.length c2] 35] := O12
 clear O12
 refine gE hK1 ?_
 refine gw_seq fun K14 hK14 => ?_
 refine gx_draw (M := [Bk g8 [J 0, .slice none 0 0, .slice none 0 0] 35, Bk g2 [J x.f0, .slice A1 x.f1.length c1, .slice A2 x.f2.length c2] 35]) (fun j_ => j_ == 7) O13 (by kernel_rfl) fun w15 O16 => ?_
 clear O13
 refine gx_take 0 rfl (by kernel_rfl) H11 (by exact O16.sel [0, 1] (by decide)) (want_none rfl) rfl (by decide) (fun wq HO => (op_field (gwfld35_0 _ _) rfl (H11.ev rfl))) ?_
 intro _ H18; clear H11
 refine gx_take 1 rfl (by kernel_rfl) H18 (by exact O16.sel [0, 1] (by decide)) (want_none rfl) rfl (by decide) (fun wq HO => (op_load1 gwagg3 rfl (H18.ev rfl) (blk_at (HO.get 1 rfl) rfl))) ?_
 intro _ H20; clear H18
 refine gx_take 2 rfl (by kernel_rfl) H20 (by exact O16.sel [0, 1] (by decide)) (want_none rfl) rfl (by decide) (fun wq HO => (op_field (gwfld35_1 _ _) rfl (H20.ev rfl))) ?_
 intro _ H22; clear H20
 refine gx_take 3 rfl (by kernel_rfl) H22 (by exact O16.sel [0, 1] (by decide)) (want_none rfl) rfl (by decide) (fun wq HO => (op_load1 gwagg32 rfl (H22.ev rfl) (blk_at (HO.get 1 rfl) rfl))) ?_
 intro _ H24; clear H22
 refine gx_step2 4 6 rfl rfl (by kernel_rfl) ?_ ?_
 ·
  refine gw_call H24 (want_none rfl) rfl (by decide) (op_callL Try.func18 (by kernel_rfl) rfl rfl (ar_cons (H24.ev rfl) ar_nil)) (clone0_R A1 c1 x.f1 _ (Kd.C_below h1 O16.below) l1 (hx1)) ?_
  rintro e28 w29 ⟨A25, c26, S27, rfl, hb30⟩
  refine ⟨_, rfl, fun _ H32 => ?_⟩
  have O33 := O16.fresh hb30
  have hbel34 := O16.below
  clear H24 O16 hb30
  have O35 := O33.lowrow 0 rfl (base' := w.heap.size) (Below.size hbel34)
  refine gx_on (i := 4) (B := (fun j_ => j_ == 7)) (fun _ => (by exact O35.sel [1, 2] (by decide))) ?_
  refine gx_take 5 rfl (by kernel_rfl) H32 (by exact O35.sel [1, 2] (by decide)) (want_none rfl) rfl (by decide) (fun wq HO => (op_build (cells := #[J x.f0, .slice A25 x.f1.length c26, .slice none 0 0]) rfl (pt_cons (H32.ev rfl) (pt_cons (H32.ev rfl) pt_nil)) (by kernel_rfl))) ?_
  intro _ H37; clear H32
  refine gx_step 6 rfl (by kernel_rfl) ?_
  refine gw_new H37 O35 (want_none rfl) rfl (by decide) (op_alloc gwzer35 rfl) ?_
  intro g38 _ w40 H41 O42; clear H37 O35
  have O43 : Own w w40 [Bk g38 [J 0, .slice none 0 0, .slice none 0 0] 35, Chunk.row k37 37 w.heap.size S27 (.slice A25 x.f1.length c26) x.f1, Bk g8 [J 0, .slice none 0 0, .slice none 0 0] 35, Bk g2 [J x.f0, .slice A1 x.f1.length c1, .slice A2 x.f2.length c2] 35] := O42
  clear O42
  refine gx_on (i := 6) (B := (fun j_ => j_ == 7)) (fun _ => (by exact O43.sel [2, 3] (by decide))) ?_
  refine gx_step 7 rfl (by kernel_rfl) ?_
  refine gw_setn 0 H41 O43 rfl (want_none rfl) rfl (op_storen gwsiz35 rfl (H41.ev rfl) (H41.ev rfl) (O43.get 0 rfl) rfl (by simp) (by simp [Value.oneCell'])) ?_
  intro _ w46 H45 O47; clear H41 O43
  refine gx_on (i := 7) (B := (fun j_ => j_ == 7)) (fun h_ => by cases h_) ?_
  refine gx_done (by kernel_rfl) ?_
  refine gw_nx (hK14 _ _ ?_)
  refine gw_seq fun K48 hK48 => ?_
  refine gR fun K49 hK49 => ?_
  refine V H45 (op_field (gwfld35_2 _ _) rfl (H45.ev rfl)) ?_
  intro _ H51; clear H45
  refine V H51 (op_load1 gwagg33 rfl (H51.ev rfl) (blk_at (O47.get 3 rfl) rfl)) ?_
  intro _ H53; clear H51
  refine V H53 (op_len Try.underlying33 rfl (H53.ev rfl)) ?_
  intro _ H55; clear H53
  refine V H55 (op_move rfl (ev_c _ _)) ?_
  intro _ H57; clear H55
  refine gE hK49 ?_
  refine wp_block ?_
  have O58 := O47.row_nil (Kd.slice 51 k51) 42 w.heap.size
  clear O47
  have O59 : Own w w46 [Chunk.row (Kd.slice 51 k51) 42 w.heap.size (fun _ => False) (.slice none (([] : List (List S51)).length) 0) ([] : List (List S51)), Bk g38 [J x.f0, .slice A25 x.f1.length c26, .slice none (([] : List (List S51)).length) 0] 35, Chunk.row k37 37 w.heap.size S27 (.slice A25 x.f1.length c26) x.f1, Bk g8 [J 0, .slice none 0 0, .slice none 0 0] 35, Bk g2 [J x.f0, .slice A1 x.f1.length c1, .slice A2 x.f2.length c2] 35] := O58
  clear O58
  refine gw_loop (fun m_ a_ w_ => ∃ (i : Int) (At : Option Addr) (ct : Nat) (St : Nat → Prop), Fr 28 a_ [(15, J i), (2, .pointer (some ⟨g8, 0, none⟩)), (3, .pointer (some ⟨g38, 0, none⟩)), (13, .slice A2 x.f2.length c2), (14, J (x.f2.length : Int))] ∧ Own w w_ [Chunk.row (Kd.slice 51 k51) 42 w.heap.size St (.slice At ((x.f2.take i.toNat).length) ct) (x.f2.take i.toNat), Bk g38 [J x.f0, .slice A25 x.f1.length c26, .slice At ((x.f2.take i.toNat).length) ct] 35, Chunk.row k37 37 w.heap.size S27 (.slice A25 x.f1.length c26) x.f1, Bk g8 [J 0, .slice none 0 0, .slice none 0 0] 35, Bk g2 [J x.f0, .slice A1 x.f1.length c1, .slice A2 x.f2.length c2] 35] ∧ (0 ≤ i ∧ i ≤ x.f2.length) ∧ m_ = (x.f2.length - i.toNat)) ((x.f2.length - (0 : Int).toNat)) ?_ ?_
  ·
   refine ⟨0, none, 0, (fun _ => False), (H57.pick (t := 15) rfl (H57.pick (t := 2) rfl (H57.pick (t := 3) rfl (H57.pick (t := 13) rfl (H57.pick (t := 14) rfl H57.nil))))), O59.sel [0, 1, 2, 3, 4] (by decide), ?_, rfl⟩
   ·
    omega
  ·
   rintro m61 _ w63 ⟨i, At, ct, St, H64, O65, hi, hm66⟩
   refine gR fun K67 hK67 => ?_
   refine V H64 (op_lss rfl (H64.ev rfl) (H64.ev rfl)) ?_
   intro _ H69; clear H64
   refine gE hK67 ?_
   refine gw_seq fun K70 hK70 => ?_
   refine gw_cond H69 rfl (fun hb71 => ?_) (fun hb71 => ?_)
   ·
    have H72 := H69.subst_ (d := 16) (b := true) rfl hb71
    clear H69
    (try simp only [decide_eq_true_eq] at hb71)
    refine wp_skip ?_
    refine gw_nx (hK70 _ _ ?_)
    refine gw_seq fun K73 hK73 => ?_
    refine wp_block ?_
    refine gR fun K74 hK74 => ?_
    obtain ⟨ad75, cs78, hA76, hl79, hK80, hc77⟩ := Kd.C_get h2 ([] : List S51) i (by omega) (by omega)
    obtain ⟨A81, c82, rfl, hl83, hC84⟩ := id hK80
    clear hl79
    refine V H72 (op_index Try.underlying33 gwsiz42 rfl (H72.ev rfl) (H72.ev rfl) hA76 (⟨by omega, by omega⟩)) ?_
    intro _ H86; clear H72
    refine V H86 (op_load1 gwagg42 rfl (H86.ev rfl) (O65.cell0 (at0 hc77))) ?_
    intro _ H88; clear H86
    refine V H88 (op_assign rfl (H88.ev rfl)) ?_
    intro _ H90; clear H88
    refine gE hK74 ?_
    refine gx_draw (M := [Bk g38 [J x.f0, .slice A25 x.f1.length c26, .slice At ((x.f2.take i.toNat).length) ct] 35, Chunk.row k37 37 w.heap.size S27 (.slice A25 x.f1.length c26) x.f1, Bk g8 [J 0, .slice none 0 0, .slice none 0 0] 35, Bk g2 [J x.f0, .slice A1 x.f1.length c1, .slice A2 x.f2.length c2] 35]) (fun j_ => j_ == 5 || j_ == 7) O65 (by kernel_rfl) fun w91 O92 => ?_
    clear O65
    refine gx_step2 0 2 rfl rfl (by kernel_rfl) ?_ ?_
    ·
     refine V H90 (op_field (gwfld35_2 _ _) rfl (H90.ev rfl)) ?_
     intro _ H94; clear H90
     refine gx_on (i := 0) (B := (fun j_ => j_ == 5 || j_ == 7)) (fun _ => (by exact O92.sel [1, 2, 3, 4] (by decide))) ?_
     refine gx_take 1 rfl (by kernel_rfl) H94 (by exact O92.sel [1, 2, 3, 4] (by decide)) (want_none rfl) rfl (by decide) (fun wq HO => (op_load1 gwagg33 rfl (H94.ev rfl) (blk_at (HO.get 0 rfl) rfl))) ?_
     intro _ H96; clear H94
     refine gx_step 2 rfl (by kernel_rfl) ?_
     refine V H96 (op_move rfl (H96.ev rfl)) ?_
     intro _ H98; clear H96
     refine gx_on (i := 2) (B := (fun j_ => j_ == 5 || j_ == 7)) (fun _ => (by exact O92.sel [1, 2, 3, 4] (by decide))) ?_
     refine gx_step 3 rfl (by kernel_rfl) ?_
     refine gw_call H98 (want_none rfl) rfl (by decide) (op_callL Try.func19 (by kernel_rfl) rfl rfl (ar_cons (H98.ev rfl) ar_nil)) (clone0_V A81 c82 (x.f2.getD i.toNat ([] : List S51)) _ (Kd.C_below hC84 O92.below) hl83 (hx3 _ (getD_mem (z := ([] : List S51)) x.f2 i.toNat (by omega)))) ?_
     rintro e102 w103 ⟨A99, c100, S101, rfl, hb104⟩
     refine ⟨_, rfl, fun _ H106 => ?_⟩
     have O107 := O92.fresh hb104
     have hbel108 := O92.below
     clear H98 O92 hb104
     have O109 := O107.lowrow 0 rfl (base' := w.heap.size) (Below.size hbel108)
     refine gx_on (i := 3) (B := (fun j_ => j_ == 5 || j_ == 7)) (fun _ => (by exact O109.sel [2, 3, 4, 5] (by decide))) ?_
     refine gx_step 4 rfl (by kernel_rfl) ?_
     refine gw_news (O := .cells #[.slice A99 ((x.f2.getD i.toNat ([] : List S51)).length) c100] 42 (0, 0)) (n := 1) H106 O109 (want_none rfl) rfl (by decide) (op_bslice (by kernel_rfl) rfl (pt_cons (H106.ev rfl) pt_nil)) ?_
     intro g110 _ w112 H113 O114; clear H106 O109
     have O115 : Own w w112 [Bk g110 [.slice A99 ((x.f2.getD i.toNat ([] : List S51)).length) c100] 42, Chunk.row k51 51 w.heap.size S101 (.slice A99 ((x.f2.getD i.toNat ([] : List S51)).length) c100) (x.f2.getD i.toNat ([] : List S51)), Chunk.row (Kd.slice 51 k51) 42 w.heap.size St (.slice At ((x.f2.take i.toNat).length) ct) (x.f2.take i.toNat), Bk g38 [J x.f0, .slice A25 x.f1.length c26, .slice At ((x.f2.take i.toNat).length) ct] 35, Chunk.row k37 37 w.heap.size S27 (.slice A25 x.f1.length c26) x.f1, Bk g8 [J 0, .slice none 0 0, .slice none 0 0] 35, Bk g2 [J x.f0, .slice A1 x.f1.length c1, .slice A2 x.f2.length c2] 35] := O114
     clear O114
     refine gx_on (i := 4) (B := (fun j_ => j_ == 5 || j_ == 7)) (fun _ => (by exact O115.sel [3, 4, 5, 6] (by decide))) ?_
     refine gx_step 5 rfl (by kernel_rfl) ?_
     have O116 : Own w _ [Chunk.row (Kd.slice 51 k51) 42 w.heap.size St (.slice At ((x.f2.take i.toNat).length) ct) (x.f2.take i.toNat), Chunk.row k51 51 w.heap.size S101 (.slice A99 ((x.f2.getD i.toNat ([] : List S51)).length) c100) (x.f2.getD i.toNat ([] : List S51)), Bk g110 [.slice A99 ((x.f2.getD i.toNat ([] : List S51)).length) c100] 42, Bk g38 [J x.f0, .slice A25 x.f1.length c26, .slice At ((x.f2.take i.toNat).length) ct] 35, Chunk.row k37 37 w.heap.size S27 (.slice A25 x.f1.length c26) x.f1, Bk g8 [J 0, .slice none 0 0, .slice none 0 0] 35, Bk g2 [J x.f0, .slice A1 x.f1.length c1, .slice A2 x.f2.length c2] 35] := O115.sel [2, 1, 0, 3, 4, 5, 6] (by decide)
     refine gw_append1 (Kd.slice 51 k51) 0 (p := (x.f2.getD i.toNat ([] : List S51))) (cs := [.slice A99 ((x.f2.getD i.toNat ([] : List S51)).length) c100]) H113 O116 (want_none rfl) rfl (by decide) rfl Try.underlying33 gwinfo42 rfl (by decide) (by decide) rfl (H113.ev rfl) (H113.ev rfl) (fun w_ h_ => ⟨_, rfl, h_⟩) O116.below.size (by rw [List.length_take]; omega) ?_
     intro A117 c118 S119 _ w121 H122 O123; clear H113 O115 O116
     have O124 : Own w w121 [Chunk.row (Kd.slice 51 k51) 42 w.heap.size S119 (.slice A117 (((x.f2.take i.toNat) ++ [(x.f2.getD i.toNat ([] : List S51))]).length) c118) ((x.f2.take i.toNat) ++ [(x.f2.getD i.toNat ([] : List S51))]), Bk g110 [.slice A99 ((x.f2.getD i.toNat ([] : List S51)).length) c100] 42, Bk g38 [J x.f0, .slice A25 x.f1.length c26, .slice At ((x.f2.take i.toNat).length) ct] 35, Chunk.row k37 37 w.heap.size S27 (.slice A25 x.f1.length c26) x.f1, Bk g8 [J 0, .slice none 0 0, .slice none 0 0] 35, Bk g2 [J x.f0, .slice A1 x.f1.length c1, .slice A2 x.f2.length c2] 35] := O123
     clear O123
     refine gx_on (i := 5) (B := (fun j_ => j_ == 5 || j_ == 7)) (fun h_ => by cases h_) ?_
     refine gx_step 6 rfl (by kernel_rfl) ?_
     refine V H122 (op_field (gwfld35_2 _ _) rfl (H122.ev rfl)) ?_
     intro _ H126; clear H122
     refine gx_on (i := 6) (B := (fun j_ => j_ == 5 || j_ == 7)) (fun _ => (by exact O124.sel [2, 3, 4, 5] (by decide))) ?_
     refine gx_step 7 rfl (by kernel_rfl) ?_
     refine gw_set 2 H126 O124 rfl (want_none rfl) rfl (op_store1 gwsiz33 rfl (H126.ev rfl) (H126.ev rfl) rfl (blk_at (O124.get 2 rfl) rfl) (blkf (O124.get 2 rfl))) ?_
     intro _ w129 H128 O130; clear H126 O124
     refine gx_on (i := 7) (B := (fun j_ => j_ == 5 || j_ == 7)) (fun h_ => by cases h_) ?_
     refine gx_done (by kernel_rfl) ?_
     refine gw_blk ?_
     refine gw_nx (hK73 _ _ ?_)
     refine wp_region_lit ?_
     refine V H128 (op_add rfl (H128.ev rfl) (ev_c _ _) (by omega)) ?_
     intro _ H132; clear H128
     refine V H132 (op_move rfl (H132.ev rfl)) ?_
     intro _ H134; clear H132
     refine wpList_nil ?_
     rw [show x.f2.take i.toNat ++ [x.f2.getD i.toNat ([] : List S51)] = x.f2.take (i + 1).toNat from take_nextL _ _ (by omega) (by omega)] at O130
     (try rw [show x.f2.take i.toNat ++ [x.f2.getD i.toNat ([] : List S51)] = x.f2.take (i + 1).toNat from take_nextL _ _ (by omega) (by omega)] at H134)
     refine gw_nx ⟨_, ?_, i + 1, A117, c118, S119, (H134.pick (t := 15) rfl (H134.pick (t := 2) rfl (H134.pick (t := 3) rfl (H134.pick (t := 13) rfl (H134.pick (t := 14) rfl H134.nil))))), O130.sel [0, 2, 3, 4, 5] (by decide), ?_, rfl⟩
     ·
      rw [hm66]; omega
     ·
      omega
    ·
     refine V H90 (op_move rfl (H90.ev rfl)) ?_
     intro _ H136; clear H90
     refine gx_on (i := 2) (B := (fun j_ => j_ == 5 || j_ == 7)) (fun _ => (by exact O92.sel [1, 2, 3, 4] (by decide))) ?_
     refine gx_step2 0 3 rfl rfl (by kernel_rfl) ?_ ?_
     ·
      refine V H136 (op_field (gwfld35_2 _ _) rfl (H136.ev rfl)) ?_
      intro _ H138; clear H136
      refine gx_on (i := 0) (B := (fun j_ => j_ == 5 || j_ == 7)) (fun _ => (by exact O92.sel [1, 2, 3, 4] (by decide))) ?_
      refine gx_take 1 rfl (by kernel_rfl) H138 (by exact O92.sel [1, 2, 3, 4] (by decide)) (want_none rfl) rfl (by decide) (fun wq HO => (op_load1 gwagg33 rfl (H138.ev rfl) (blk_at (HO.get 0 rfl) rfl))) ?_
      intro _ H140; clear H138
      refine gx_step 3 rfl (by kernel_rfl) ?_
      refine gw_call H140 (want_none rfl) rfl (by decide) (op_callL Try.func19 (by kernel_rfl) rfl rfl (ar_cons (H140.ev rfl) ar_nil)) (clone0_V A81 c82 (x.f2.getD i.toNat ([] : List S51)) _ (Kd.C_below hC84 O92.below) hl83 (hx3 _ (getD_mem (z := ([] : List S51)) x.f2 i.toNat (by omega)))) ?_
      rintro e144 w145 ⟨A141, c142, S143, rfl, hb146⟩
      refine ⟨_, rfl, fun _ H148 => ?_⟩
      have O149 := O92.fresh hb146
      have hbel150 := O92.below
      clear H140 O92 hb146
      have O151 := O149.lowrow 0 rfl (base' := w.heap.size) (Below.size hbel150)
      refine gx_on (i := 3) (B := (fun j_ => j_ == 5 || j_ == 7)) (fun _ => (by exact O151.sel [2, 3, 4, 5] (by decide))) ?_
      refine gx_step 4 rfl (by kernel_rfl) ?_
      refine gw_news (O := .cells #[.slice A141 ((x.f2.getD i.toNat ([] : List S51)).length) c142] 42 (0, 0)) (n := 1) H148 O151 (want_none rfl) rfl (by decide) (op_bslice (by kernel_rfl) rfl (pt_cons (H148.ev rfl) pt_nil)) ?_
      intro g152 _ w154 H155 O156; clear H148 O151
      have O157 : Own w w154 [Bk g152 [.slice A141 ((x.f2.getD i.toNat ([] : List S51)).length) c142] 42, Chunk.row k51 51 w.heap.size S143 (.slice A141 ((x.f2.getD i.toNat ([] : List S51)).length) c142) (x.f2.getD i.toNat ([] : List S51)), Chunk.row (Kd.slice 51 k51) 42 w.heap.size St (.slice At ((x.f2.take i.toNat).length) ct) (x.f2.take i.toNat), Bk g38 [J x.f0, .slice A25 x.f1.length c26, .slice At ((x.f2.take i.toNat).length) ct] 35, Chunk.row k37 37 w.heap.size S27 (.slice A25 x.f1.length c26) x.f1, Bk g8 [J 0, .slice none 0 0, .slice none 0 0] 35, Bk g2 [J x.f0, .slice A1 x.f1.length c1, .slice A2 x.f2.length c2] 35] := O156
      clear O156
      refine gx_on (i := 4) (B := (fun j_ => j_ == 5 || j_ == 7)) (fun _ => (by exact O157.sel [3, 4, 5, 6] (by decide))) ?_
      refine gx_step 5 rfl (by kernel_rfl) ?_
      have O158 : Own w _ [Chunk.row (Kd.slice 51 k51) 42 w.heap.size St (.slice At ((x.f2.take i.toNat).length) ct) (x.f2.take i.toNat), Chunk.row k51 51 w.heap.size S143 (.slice A141 ((x.f2.getD i.toNat ([] : List S51)).length) c142) (x.f2.getD i.toNat ([] : List S51)), Bk g152 [.slice A141 ((x.f2.getD i.toNat ([] : List S51)).length) c142] 42, Bk g38 [J x.f0, .slice A25 x.f1.length c26, .slice At ((x.f2.take i.toNat).length) ct] 35, Chunk.row k37 37 w.heap.size S27 (.slice A25 x.f1.length c26) x.f1, Bk g8 [J 0, .slice none 0 0, .slice none 0 0] 35, Bk g2 [J x.f0, .slice A1 x.f1.length c1, .slice A2 x.f2.length c2] 35] := O157.sel [2, 1, 0, 3, 4, 5, 6] (by decide)
      refine gw_append1 (Kd.slice 51 k51) 0 (p := (x.f2.getD i.toNat ([] : List S51))) (cs := [.slice A141 ((x.f2.getD i.toNat ([] : List S51)).length) c142]) H155 O158 (want_none rfl) rfl (by decide) rfl Try.underlying33 gwinfo42 rfl (by decide) (by decide) rfl (H155.ev rfl) (H155.ev rfl) (fun w_ h_ => ⟨_, rfl, h_⟩) O158.below.size (by rw [List.length_take]; omega) ?_
      intro A159 c160 S161 _ w163 H164 O165; clear H155 O157 O158
      have O166 : Own w w163 [Chunk.row (Kd.slice 51 k51) 42 w.heap.size S161 (.slice A159 (((x.f2.take i.toNat) ++ [(x.f2.getD i.toNat ([] : List S51))]).length) c160) ((x.f2.take i.toNat) ++ [(x.f2.getD i.toNat ([] : List S51))]), Bk g152 [.slice A141 ((x.f2.getD i.toNat ([] : List S51)).length) c142] 42, Bk g38 [J x.f0, .slice A25 x.f1.length c26, .slice At ((x.f2.take i.toNat).length) ct] 35, Chunk.row k37 37 w.heap.size S27 (.slice A25 x.f1.length c26) x.f1, Bk g8 [J 0, .slice none 0 0, .slice none 0 0] 35, Bk g2 [J x.f0, .slice A1 x.f1.length c1, .slice A2 x.f2.length c2] 35] := O165
      clear O165
      refine gx_on (i := 5) (B := (fun j_ => j_ == 5 || j_ == 7)) (fun h_ => by cases h_) ?_
      refine gx_step 6 rfl (by kernel_rfl) ?_
      refine V H164 (op_field (gwfld35_2 _ _) rfl (H164.ev rfl)) ?_
      intro _ H168; clear H164
      refine gx_on (i := 6) (B := (fun j_ => j_ == 5 || j_ == 7)) (fun _ => (by exact O166.sel [2, 3, 4, 5] (by decide))) ?_
      refine gx_step 7 rfl (by kernel_rfl) ?_
      refine gw_set 2 H168 O166 rfl (want_none rfl) rfl (op_store1 gwsiz33 rfl (H168.ev rfl) (H168.ev rfl) rfl (blk_at (O166.get 2 rfl) rfl) (blkf (O166.get 2 rfl))) ?_
      intro _ w171 H170 O172; clear H168 O166
      refine gx_on (i := 7) (B := (fun j_ => j_ == 5 || j_ == 7)) (fun h_ => by cases h_) ?_
      refine gx_done (by kernel_rfl) ?_
      refine gw_blk ?_
      refine gw_nx (hK73 _ _ ?_)
      refine wp_region_lit ?_
      refine V H170 (op_add rfl (H170.ev rfl) (ev_c _ _) (by omega)) ?_
      intro _ H174; clear H170
      refine V H174 (op_move rfl (H174.ev rfl)) ?_
      intro _ H176; clear H174
      refine wpList_nil ?_
      rw [show x.f2.take i.toNat ++ [x.f2.getD i.toNat ([] : List S51)] = x.f2.take (i + 1).toNat from take_nextL _ _ (by omega) (by omega)] at O172
      (try rw [show x.f2.take i.toNat ++ [x.f2.getD i.toNat ([] : List S51)] = x.f2.take (i + 1).toNat from take_nextL _ _ (by omega) (by omega)] at H176)
      refine gw_nx ⟨_, ?_, i + 1, A159, c160, S161, (H176.pick (t := 15) rfl (H176.pick (t := 2) rfl (H176.pick (t := 3) rfl (H176.pick (t := 13) rfl (H176.pick (t := 14) rfl H176.nil))))), O172.sel [0, 2, 3, 4, 5] (by decide), ?_, rfl⟩
      ·
       rw [hm66]; omega
      ·
       omega
     ·
      refine gw_call H136 (want_none rfl) rfl (by decide) (op_callL Try.func19 (by kernel_rfl) rfl rfl (ar_cons (H136.ev rfl) ar_nil)) (clone0_V A81 c82 (x.f2.getD i.toNat ([] : List S51)) _ (Kd.C_below hC84 O92.below) hl83 (hx3 _ (getD_mem (z := ([] : List S51)) x.f2 i.toNat (by omega)))) ?_
      rintro e180 w181 ⟨A177, c178, S179, rfl, hb182⟩
      refine ⟨_, rfl, fun _ H184 => ?_⟩
      have O185 := O92.fresh hb182
      have hbel186 := O92.below
      clear H136 O92 hb182
      have O187 := O185.lowrow 0 rfl (base' := w.heap.size) (Below.size hbel186)
      refine gx_on (i := 3) (B := (fun j_ => j_ == 5 || j_ == 7)) (fun _ => (by exact O187.sel [2, 3, 4, 5] (by decide))) ?_
      refine gx_step2 0 4 rfl rfl (by kernel_rfl) ?_ ?_
      ·
       refine V H184 (op_field (gwfld35_2 _ _) rfl (H184.ev rfl)) ?_
       intro _ H189; clear H184
       refine gx_on (i := 0) (B := (fun j_ => j_ == 5 || j_ == 7)) (fun _ => (by exact O187.sel [2, 3, 4, 5] (by decide))) ?_
       refine gx_take 1 rfl (by kernel_rfl) H189 (by exact O187.sel [2, 3, 4, 5] (by decide)) (want_none rfl) rfl (by decide) (fun wq HO => (op_load1 gwagg33 rfl (H189.ev rfl) (blk_at (HO.get 0 rfl) rfl))) ?_
       intro _ H191; clear H189
       refine gx_step 4 rfl (by kernel_rfl) ?_
       refine gw_news (O := .cells #[.slice A177 ((x.f2.getD i.toNat ([] : List S51)).length) c178] 42 (0, 0)) (n := 1) H191 O187 (want_none rfl) rfl (by decide) (op_bslice (by kernel_rfl) rfl (pt_cons (H191.ev rfl) pt_nil)) ?_
       intro g192 _ w194 H195 O196; clear H191 O187
       have O197 : Own w w194 [Bk g192 [.slice A177 ((x.f2.getD i.toNat ([] : List S51)).length) c178] 42, Chunk.row k51 51 w.heap.size S179 (.slice A177 ((x.f2.getD i.toNat ([] : List S51)).length) c178) (x.f2.getD i.toNat ([] : List S51)), Chunk.row (Kd.slice 51 k51) 42 w.heap.size St (.slice At ((x.f2.take i.toNat).length) ct) (x.f2.take i.toNat), Bk g38 [J x.f0, .slice A25 x.f1.length c26, .slice At ((x.f2.take i.toNat).length) ct] 35, Chunk.row k37 37 w.heap.size S27 (.slice A25 x.f1.length c26) x.f1, Bk g8 [J 0, .slice none 0 0, .slice none 0 0] 35, Bk g2 [J x.f0, .slice A1 x.f1.length c1, .slice A2 x.f2.length c2] 35] := O196
       clear O196
       refine gx_on (i := 4) (B := (fun j_ => j_ == 5 || j_ == 7)) (fun _ => (by exact O197.sel [3, 4, 5, 6] (by decide))) ?_
       refine gx_step 5 rfl (by kernel_rfl) ?_
       have O198 : Own w _ [Chunk.row (Kd.slice 51 k51) 42 w.heap.size St (.slice At ((x.f2.take i.toNat).length) ct) (x.f2.take i.toNat), Chunk.row k51 51 w.heap.size S179 (.slice A177 ((x.f2.getD i.toNat ([] : List S51)).length) c178) (x.f2.getD i.toNat ([] : List S51)), Bk g192 [.slice A177 ((x.f2.getD i.toNat ([] : List S51)).length) c178] 42, Bk g38 [J x.f0, .slice A25 x.f1.length c26, .slice At ((x.f2.take i.toNat).length) ct] 35, Chunk.row k37 37 w.heap.size S27 (.slice A25 x.f1.length c26) x.f1, Bk g8 [J 0, .slice none 0 0, .slice none 0 0] 35, Bk g2 [J x.f0, .slice A1 x.f1.length c1, .slice A2 x.f2.length c2] 35] := O197.sel [2, 1, 0, 3, 4, 5, 6] (by decide)
       refine gw_append1 (Kd.slice 51 k51) 0 (p := (x.f2.getD i.toNat ([] : List S51))) (cs := [.slice A177 ((x.f2.getD i.toNat ([] : List S51)).length) c178]) H195 O198 (want_none rfl) rfl (by decide) rfl Try.underlying33 gwinfo42 rfl (by decide) (by decide) rfl (H195.ev rfl) (H195.ev rfl) (fun w_ h_ => ⟨_, rfl, h_⟩) O198.below.size (by rw [List.length_take]; omega) ?_
       intro A199 c200 S201 _ w203 H204 O205; clear H195 O197 O198
       have O206 : Own w w203 [Chunk.row (Kd.slice 51 k51) 42 w.heap.size S201 (.slice A199 (((x.f2.take i.toNat) ++ [(x.f2.getD i.toNat ([] : List S51))]).length) c200) ((x.f2.take i.toNat) ++ [(x.f2.getD i.toNat ([] : List S51))]), Bk g192 [.slice A177 ((x.f2.getD i.toNat ([] : List S51)).length) c178] 42, Bk g38 [J x.f0, .slice A25 x.f1.length c26, .slice At ((x.f2.take i.toNat).length) ct] 35, Chunk.row k37 37 w.heap.size S27 (.slice A25 x.f1.length c26) x.f1, Bk g8 [J 0, .slice none 0 0, .slice none 0 0] 35, Bk g2 [J x.f0, .slice A1 x.f1.length c1, .slice A2 x.f2.length c2] 35] := O205
       clear O205
       refine gx_on (i := 5) (B := (fun j_ => j_ == 5 || j_ == 7)) (fun h_ => by cases h_) ?_
       refine gx_step 6 rfl (by kernel_rfl) ?_
       refine V H204 (op_field (gwfld35_2 _ _) rfl (H204.ev rfl)) ?_
       intro _ H208; clear H204
       refine gx_on (i := 6) (B := (fun j_ => j_ == 5 || j_ == 7)) (fun _ => (by exact O206.sel [2, 3, 4, 5] (by decide))) ?_
       refine gx_step 7 rfl (by kernel_rfl) ?_
       refine gw_set 2 H208 O206 rfl (want_none rfl) rfl (op_store1 gwsiz33 rfl (H208.ev rfl) (H208.ev rfl) rfl (blk_at (O206.get 2 rfl) rfl) (blkf (O206.get 2 rfl))) ?_
       intro _ w211 H210 O212; clear H208 O206
       refine gx_on (i := 7) (B := (fun j_ => j_ == 5 || j_ == 7)) (fun h_ => by cases h_) ?_
       refine gx_done (by kernel_rfl) ?_
       refine gw_blk ?_
       refine gw_nx (hK73 _ _ ?_)
       refine wp_region_lit ?_
       refine V H210 (op_add rfl (H210.ev rfl) (ev_c _ _) (by omega)) ?_
       intro _ H214; clear H210
       refine V H214 (op_move rfl (H214.ev rfl)) ?_
       intro _ H216; clear H214
       refine wpList_nil ?_
       rw [show x.f2.take i.toNat ++ [x.f2.getD i.toNat ([] : List S51)] = x.f2.take (i + 1).toNat from take_nextL _ _ (by omega) (by omega)] at O212
       (try rw [show x.f2.take i.toNat ++ [x.f2.getD i.toNat ([] : List S51)] = x.f2.take (i + 1).toNat from take_nextL _ _ (by omega) (by omega)] at H216)
       refine gw_nx ⟨_, ?_, i + 1, A199, c200, S201, (H216.pick (t := 15) rfl (H216.pick (t := 2) rfl (H216.pick (t := 3) rfl (H216.pick (t := 13) rfl (H216.pick (t := 14) rfl H216.nil))))), O212.sel [0, 2, 3, 4, 5] (by decide), ?_, rfl⟩
       ·
        rw [hm66]; omega
       ·
        omega
      ·
       refine gw_news (O := .cells #[.slice A177 ((x.f2.getD i.toNat ([] : List S51)).length) c178] 42 (0, 0)) (n := 1) H184 O187 (want_none rfl) rfl (by decide) (op_bslice (by kernel_rfl) rfl (pt_cons (H184.ev rfl) pt_nil)) ?_
       intro g217 _ w219 H220 O221; clear H184 O187
       have O222 : Own w w219 [Bk g217 [.slice A177 ((x.f2.getD i.toNat ([] : List S51)).length) c178] 42, Chunk.row k51 51 w.heap.size S179 (.slice A177 ((x.f2.getD i.toNat ([] : List S51)).length) c178) (x.f2.getD i.toNat ([] : List S51)), Chunk.row (Kd.slice 51 k51) 42 w.heap.size St (.slice At ((x.f2.take i.toNat).length) ct) (x.f2.take i.toNat), Bk g38 [J x.f0, .slice A25 x.f1.length c26, .slice At ((x.f2.take i.toNat).length) ct] 35, Chunk.row k37 37 w.heap.size S27 (.slice A25 x.f1.length c26) x.f1, Bk g8 [J 0, .slice none 0 0, .slice none 0 0] 35, Bk g2 [J x.f0, .slice A1 x.f1.length c1, .slice A2 x.f2.length c2] 35] := O221
       clear O221
       refine gx_on (i := 4) (B := (fun j_ => j_ == 5 || j_ == 7)) (fun _ => (by exact O222.sel [3, 4, 5, 6] (by decide))) ?_
       refine gx_step 0 rfl (by kernel_rfl) ?_
       refine V H220 (op_field (gwfld35_2 _ _) rfl (H220.ev rfl)) ?_
       intro _ H224; clear H220
       refine gx_on (i := 0) (B := (fun j_ => j_ == 5 || j_ == 7)) (fun _ => (by exact O222.sel [3, 4, 5, 6] (by decide))) ?_
       refine gx_take 1 rfl (by kernel_rfl) H224 (by exact O222.sel [3, 4, 5, 6] (by decide)) (want_none rfl) rfl (by decide) (fun wq HO => (op_load1 gwagg33 rfl (H224.ev rfl) (blk_at (HO.get 0 rfl) rfl))) ?_
       intro _ H226; clear H224
       refine gx_step 5 rfl (by kernel_rfl) ?_
       have O227 : Own w _ [Chunk.row (Kd.slice 51 k51) 42 w.heap.size St (.slice At ((x.f2.take i.toNat).length) ct) (x.f2.take i.toNat), Chunk.row k51 51 w.heap.size S179 (.slice A177 ((x.f2.getD i.toNat ([] : List S51)).length) c178) (x.f2.getD i.toNat ([] : List S51)), Bk g217 [.slice A177 ((x.f2.getD i.toNat ([] : List S51)).length) c178] 42, Bk g38 [J x.f0, .slice A25 x.f1.length c26, .slice At ((x.f2.take i.toNat).length) ct] 35, Chunk.row k37 37 w.heap.size S27 (.slice A25 x.f1.length c26) x.f1, Bk g8 [J 0, .slice none 0 0, .slice none 0 0] 35, Bk g2 [J x.f0, .slice A1 x.f1.length c1, .slice A2 x.f2.length c2] 35] := O222.sel [2, 1, 0, 3, 4, 5, 6] (by decide)
       refine gw_append1 (Kd.slice 51 k51) 0 (p := (x.f2.getD i.toNat ([] : List S51))) (cs := [.slice A177 ((x.f2.getD i.toNat ([] : List S51)).length) c178]) H226 O227 (want_none rfl) rfl (by decide) rfl Try.underlying33 gwinfo42 rfl (by decide) (by decide) rfl (H226.ev rfl) (H226.ev rfl) (fun w_ h_ => ⟨_, rfl, h_⟩) O227.below.size (by rw [List.length_take]; omega) ?_
       intro A228 c229 S230 _ w232 H233 O234; clear H226 O222 O227
       have O235 : Own w w232 [Chunk.row (Kd.slice 51 k51) 42 w.heap.size S230 (.slice A228 (((x.f2.take i.toNat) ++ [(x.f2.getD i.toNat ([] : List S51))]).length) c229) ((x.f2.take i.toNat) ++ [(x.f2.getD i.toNat ([] : List S51))]), Bk g217 [.slice A177 ((x.f2.getD i.toNat ([] : List S51)).length) c178] 42, Bk g38 [J x.f0, .slice A25 x.f1.length c26, .slice At ((x.f2.take i.toNat).length) ct] 35, Chunk.row k37 37 w.heap.size S27 (.slice A25 x.f1.length c26) x.f1, Bk g8 [J 0, .slice none 0 0, .slice none 0 0] 35, Bk g2 [J x.f0, .slice A1 x.f1.length c1, .slice A2 x.f2.length c2] 35] := O234
       clear O234
       refine gx_on (i := 5) (B := (fun j_ => j_ == 5 || j_ == 7)) (fun h_ => by cases h_) ?_
       refine gx_step 6 rfl (by kernel_rfl) ?_
       refine V H233 (op_field (gwfld35_2 _ _) rfl (H233.ev rfl)) ?_
       intro _ H237; clear H233
       refine gx_on (i := 6) (B := (fun j_ => j_ == 5 || j_ == 7)) (fun _ => (by exact O235.sel [2, 3, 4, 5] (by decide))) ?_
       refine gx_step 7 rfl (by kernel_rfl) ?_
       refine gw_set 2 H237 O235 rfl (want_none rfl) rfl (op_store1 gwsiz33 rfl (H237.ev rfl) (H237.ev rfl) rfl (blk_at (O235.get 2 rfl) rfl) (blkf (O235.get 2 rfl))) ?_
       intro _ w240 H239 O241; clear H237 O235
       refine gx_on (i := 7) (B := (fun j_ => j_ == 5 || j_ == 7)) (fun h_ => by cases h_) ?_
       refine gx_done (by kernel_rfl) ?_
       refine gw_blk ?_
       refine gw_nx (hK73 _ _ ?_)
       refine wp_region_lit ?_
       refine V H239 (op_add rfl (H239.ev rfl) (ev_c _ _) (by omega)) ?_
       intro _ H243; clear H239
       refine V H243 (op_move rfl (H243.ev rfl)) ?_
       intro _ H245; clear H243
       refine wpList_nil ?_
       rw [show x.f2.take i.toNat ++ [x.f2.getD i.toNat ([] : List S51)] = x.f2.take (i + 1).toNat from take_nextL _ _ (by omega) (by omega)] at O241
       (try rw [show x.f2.take i.toNat ++ [x.f2.getD i.toNat ([] : List S51)] = x.f2.take (i + 1).toNat from take_nextL _ _ (by omega) (by omega)] at H245)
       refine gw_nx ⟨_, ?_, i + 1, A228, c229, S230, (H245.pick (t := 15) rfl (H245.pick (t := 2) rfl (H245.pick (t := 3) rfl (H245.pick (t := 13) rfl (H245.pick (t := 14) rfl H245.nil))))), O241.sel [0, 2, 3, 4, 5] (by decide), ?_, rfl⟩
       ·
        rw [hm66]; omega
       ·
        omega
   ·
    have H246 := H69.subst_ (d := 16) (b := false) rfl hb71
    clear H69
    (try simp only [decide_eq_false_iff_not, Int.not_lt] at hb71)
    refine wp_exit ?_
    refine gw_thx ?_
    refine gw_thx ?_
    refine gw_in ?_
    refine gw_nx (hK48 _ _ ?_)
    refine gR fun K247 hK247 => ?_
    refine V H246 (op_loadn gwagg35 gwsiz35 rfl (H246.ev rfl) (O65.get 1 rfl) rfl rfl) ?_
    intro _ H249; clear H246
    refine gw_setn 3 H249 O65 rfl (want_none rfl) rfl (op_storen gwsiz35 rfl (H249.ev rfl) (H249.ev rfl) (O65.get 3 rfl) rfl (by simp) (by simp [Value.oneCell'])) ?_
    intro _ w252 H251 O253; clear H249 O65
    refine gE hK247 ?_
    refine wp_ret ?_
    refine gw_rets1 H251 rfl (rv_celln H251 rfl gwagg35 gwsiz35 (O253.get 3 rfl) rfl) ?_
    have htk : x.f2.take i.toNat = x.f2 := List.take_of_length_le (by omega)
    have O254 := ent_of (x := x) (by have h_ := O253.sel [2, 0] (by decide); simp only [htk] at h_; exact h_)
    simp only [htk]
    exact ⟨_, _, _, rfl, O254.out⟩
 ·
  refine gw_new H24 O16 (want_none rfl) rfl (by decide) (op_alloc gwzer35 rfl) ?_
  intro g255 _ w257 H258 O259; clear H24 O16
  have O260 : Own w w257 [Bk g255 [J 0, .slice none 0 0, .slice none 0 0] 35, Bk g8 [J 0, .slice none 0 0, .slice none 0 0] 35, Bk g2 [J x.f0, .slice A1 x.f1.length c1, .slice A2 x.f2.length c2] 35] := O259
  clear O259
  refine gx_on (i := 6) (B := (fun j_ => j_ == 7)) (fun _ => (by exact O260.sel [1, 2] (by decide))) ?_
  refine gx_step 4 rfl (by kernel_rfl) ?_
  refine gw_call H258 (want_none rfl) rfl (by decide) (op_callL Try.func18 (by kernel_rfl) rfl rfl (ar_cons (H258.ev rfl) ar_nil)) (clone0_R A1 c1 x.f1 _ (Kd.C_below h1 O260.below) l1 (hx1)) ?_
  rintro e264 w265 ⟨A261, c262, S263, rfl, hb266⟩
  refine ⟨_, rfl, fun _ H268 => ?_⟩
  have O269 := O260.fresh hb266
  have hbel270 := O260.below
  clear H258 O260 hb266
  have O271 := O269.lowrow 0 rfl (base' := w.heap.size) (Below.size hbel270)
  refine gx_on (i := 4) (B := (fun j_ => j_ == 7)) (fun _ => (by exact O271.sel [2, 3] (by decide))) ?_
  refine gx_take 5 rfl (by kernel_rfl) H268 (by exact O271.sel [2, 3] (by decide)) (want_none rfl) rfl (by decide) (fun wq HO => (op_build (cells := #[J x.f0, .slice A261 x.f1.length c262, .slice none 0 0]) rfl (pt_cons (H268.ev rfl) (pt_cons (H268.ev rfl) pt_nil)) (by kernel_rfl))) ?_
  intro _ H273; clear H268
  refine gx_step 7 rfl (by kernel_rfl) ?_
  refine gw_setn 1 H273 O271 rfl (want_none rfl) rfl (op_storen gwsiz35 rfl (H273.ev rfl) (H273.ev rfl) (O271.get 1 rfl) rfl (by simp) (by simp [Value.oneCell'])) ?_
  intro _ w276 H275 O277; clear H273 O271
  refine gx_on (i := 7) (B := (fun j_ => j_ == 7)) (fun h_ => by cases h_) ?_
  refine gx_done (by kernel_rfl) ?_
  refine gw_nx (hK14 _ _ ?_)
  refine gw_seq fun K278 hK278 => ?_
  refine gR fun K279 hK279 => ?_
  refine V H275 (op_field (gwfld35_2 _ _) rfl (H275.ev rfl)) ?_
  intro _ H281; clear H275
  refine V H281 (op_load1 gwagg33 rfl (H281.ev rfl) (blk_at (O277.get 3 rfl) rfl)) ?_
  intro _ H283; clear H281
  refine V H283 (op_len Try.underlying33 rfl (H283.ev rfl)) ?_
  intro _ H285; clear H283
  refine V H285 (op_move rfl (ev_c _ _)) ?_
  intro _ H287; clear H285
  refine gE hK279 ?_
  refine wp_block ?_
  have O288 := O277.row_nil (Kd.slice 51 k51) 42 w.heap.size
  clear O277
  have O289 : Own w w276 [Chunk.row (Kd.slice 51 k51) 42 w.heap.size (fun _ => False) (.slice none (([] : List (List S51)).length) 0) ([] : List (List S51)), Chunk.row k37 37 w.heap.size S263 (.slice A261 x.f1.length c262) x.f1, Bk g255 [J x.f0, .slice A261 x.f1.length c262, .slice none (([] : List (List S51)).length) 0] 35, Bk g8 [J 0, .slice none 0 0, .slice none 0 0] 35, Bk g2 [J x.f0, .slice A1 x.f1.length c1, .slice A2 x.f2.length c2] 35] := O288
  clear O288
  refine gw_loop (fun m_ a_ w_ => ∃ (i : Int) (At : Option Addr) (ct : Nat) (St : Nat → Prop), Fr 28 a_ [(15, J i), (2, .pointer (some ⟨g8, 0, none⟩)), (3, .pointer (some ⟨g255, 0, none⟩)), (13, .slice A2 x.f2.length c2), (14, J (x.f2.length : Int))] ∧ Own w w_ [Chunk.row (Kd.slice 51 k51) 42 w.heap.size St (.slice At ((x.f2.take i.toNat).length) ct) (x.f2.take i.toNat), Bk g255 [J x.f0, .slice A261 x.f1.length c262, .slice At ((x.f2.take i.toNat).length) ct] 35, Chunk.row k37 37 w.heap.size S263 (.slice A261 x.f1.length c262) x.f1, Bk g8 [J 0, .slice none 0 0, .slice none 0 0] 35, Bk g2 [J x.f0, .slice A1 x.f1.length c1, .slice A2 x.f2.length c2] 35] ∧ (0 ≤ i ∧ i ≤ x.f2.length) ∧ m_ = (x.f2.length - i.toNat)) ((x.f2.length - (0 : Int).toNat)) ?_ ?_
  ·
   refine ⟨0, none, 0, (fun _ => False), (H287.pick (t := 15) rfl (H287.pick (t := 2) rfl (H287.pick (t := 3) rfl (H287.pick (t := 13) rfl (H287.pick (t := 14) rfl H287.nil))))), O289.sel [0, 2, 1, 3, 4] (by decide), ?_, rfl⟩
   ·
    omega
  ·
   rintro m291 _ w293 ⟨i, At, ct, St, H294, O295, hi, hm296⟩
   refine gR fun K297 hK297 => ?_
   refine V H294 (op_lss rfl (H294.ev rfl) (H294.ev rfl)) ?_
   intro _ H299; clear H294
   refine gE hK297 ?_
   refine gw_seq fun K300 hK300 => ?_
   refine gw_cond H299 rfl (fun hb301 => ?_) (fun hb301 => ?_)
   ·
    have H302 := H299.subst_ (d := 16) (b := true) rfl hb301
    clear H299
    (try simp only [decide_eq_true_eq] at hb301)
    refine wp_skip ?_
    refine gw_nx (hK300 _ _ ?_)
    refine gw_seq fun K303 hK303 => ?_
    refine wp_block ?_
    refine gR fun K304 hK304 => ?_
    obtain ⟨ad305, cs308, hA306, hl309, hK310, hc307⟩ := Kd.C_get h2 ([] : List S51) i (by omega) (by omega)
    obtain ⟨A311, c312, rfl, hl313, hC314⟩ := id hK310
    clear hl309
    refine V H302 (op_index Try.underlying33 gwsiz42 rfl (H302.ev rfl) (H302.ev rfl) hA306 (⟨by omega, by omega⟩)) ?_
    intro _ H316; clear H302
    refine V H316 (op_load1 gwagg42 rfl (H316.ev rfl) (O295.cell0 (at0 hc307))) ?_
    intro _ H318; clear H316
    refine V H318 (op_assign rfl (H318.ev rfl)) ?_
    intro _ H320; clear H318
    refine gE hK304 ?_
    refine gx_draw (M := [Bk g255 [J x.f0, .slice A261 x.f1.length c262, .slice At ((x.f2.take i.toNat).length) ct] 35, Chunk.row k37 37 w.heap.size S263 (.slice A261 x.f1.length c262) x.f1, Bk g8 [J 0, .slice none 0 0, .slice none 0 0] 35, Bk g2 [J x.f0, .slice A1 x.f1.length c1, .slice A2 x.f2.length c2] 35]) (fun j_ => j_ == 5 || j_ == 7) O295 (by kernel_rfl) fun w321 O322 => ?_
    clear O295
    refine gx_step2 0 2 rfl rfl (by kernel_rfl) ?_ ?_
    ·
     refine V H320 (op_field (gwfld35_2 _ _) rfl (H320.ev rfl)) ?_
     intro _ H324; clear H320
     refine gx_on (i := 0) (B := (fun j_ => j_ == 5 || j_ == 7)) (fun _ => (by exact O322.sel [1, 2, 3, 4] (by decide))) ?_
     refine gx_take 1 rfl (by kernel_rfl) H324 (by exact O322.sel [1, 2, 3, 4] (by decide)) (want_none rfl) rfl (by decide) (fun wq HO => (op_load1 gwagg33 rfl (H324.ev rfl) (blk_at (HO.get 0 rfl) rfl))) ?_
     intro _ H326; clear H324
     refine gx_step 2 rfl (by kernel_rfl) ?_
     refine V H326 (op_move rfl (H326.ev rfl)) ?_
     intro _ H328; clear H326
     refine gx_on (i := 2) (B := (fun j_ => j_ == 5 || j_ == 7)) (fun _ => (by exact O322.sel [1, 2, 3, 4] (by decide))) ?_
     refine gx_step 3 rfl (by kernel_rfl) ?_
     refine gw_call H328 (want_none rfl) rfl (by decide) (op_callL Try.func19 (by kernel_rfl) rfl rfl (ar_cons (H328.ev rfl) ar_nil)) (clone0_V A311 c312 (x.f2.getD i.toNat ([] : List S51)) _ (Kd.C_below hC314 O322.below) hl313 (hx3 _ (getD_mem (z := ([] : List S51)) x.f2 i.toNat (by omega)))) ?_
     rintro e332 w333 ⟨A329, c330, S331, rfl, hb334⟩
     refine ⟨_, rfl, fun _ H336 => ?_⟩
     have O337 := O322.fresh hb334
     have hbel338 := O322.below
     clear H328 O322 hb334
     have O339 := O337.lowrow 0 rfl (base' := w.heap.size) (Below.size hbel338)
     refine gx_on (i := 3) (B := (fun j_ => j_ == 5 || j_ == 7)) (fun _ => (by exact O339.sel [2, 3, 4, 5] (by decide))) ?_
     refine gx_step 4 rfl (by kernel_rfl) ?_
     refine gw_news (O := .cells #[.slice A329 ((x.f2.getD i.toNat ([] : List S51)).length) c330] 42 (0, 0)) (n := 1) H336 O339 (want_none rfl) rfl (by decide) (op_bslice (by kernel_rfl) rfl (pt_cons (H336.ev rfl) pt_nil)) ?_
     intro g340 _ w342 H343 O344; clear H336 O339
     have O345 : Own w w342 [Bk g340 [.slice A329 ((x.f2.getD i.toNat ([] : List S51)).length) c330] 42, Chunk.row k51 51 w.heap.size S331 (.slice A329 ((x.f2.getD i.toNat ([] : List S51)).length) c330) (x.f2.getD i.toNat ([] : List S51)), Chunk.row (Kd.slice 51 k51) 42 w.heap.size St (.slice At ((x.f2.take i.toNat).length) ct) (x.f2.take i.toNat), Bk g255 [J x.f0, .slice A261 x.f1.length c262, .slice At ((x.f2.take i.toNat).length) ct] 35, Chunk.row k37 37 w.heap.size S263 (.slice A261 x.f1.length c262) x.f1, Bk g8 [J 0, .slice none 0 0, .slice none 0 0] 35, Bk g2 [J x.f0, .slice A1 x.f1.length c1, .slice A2 x.f2.length c2] 35] := O344
     clear O344
     refine gx_on (i := 4) (B := (fun j_ => j_ == 5 || j_ == 7)) (fun _ => (by exact O345.sel [3, 4, 5, 6] (by decide))) ?_
     refine gx_step 5 rfl (by kernel_rfl) ?_
     have O346 : Own w _ [Chunk.row (Kd.slice 51 k51) 42 w.heap.size St (.slice At ((x.f2.take i.toNat).length) ct) (x.f2.take i.toNat), Chunk.row k51 51 w.heap.size S331 (.slice A329 ((x.f2.getD i.toNat ([] : List S51)).length) c330) (x.f2.getD i.toNat ([] : List S51)), Bk g340 [.slice A329 ((x.f2.getD i.toNat ([] : List S51)).length) c330] 42, Bk g255 [J x.f0, .slice A261 x.f1.length c262, .slice At ((x.f2.take i.toNat).length) ct] 35, Chunk.row k37 37 w.heap.size S263 (.slice A261 x.f1.length c262) x.f1, Bk g8 [J 0, .slice none 0 0, .slice none 0 0] 35, Bk g2 [J x.f0, .slice A1 x.f1.length c1, .slice A2 x.f2.length c2] 35] := O345.sel [2, 1, 0, 3, 4, 5, 6] (by decide)
     refine gw_append1 (Kd.slice 51 k51) 0 (p := (x.f2.getD i.toNat ([] : List S51))) (cs := [.slice A329 ((x.f2.getD i.toNat ([] : List S51)).length) c330]) H343 O346 (want_none rfl) rfl (by decide) rfl Try.underlying33 gwinfo42 rfl (by decide) (by decide) rfl (H343.ev rfl) (H343.ev rfl) (fun w_ h_ => ⟨_, rfl, h_⟩) O346.below.size (by rw [List.length_take]; omega) ?_
     intro A347 c348 S349 _ w351 H352 O353; clear H343 O345 O346
     have O354 : Own w w351 [Chunk.row (Kd.slice 51 k51) 42 w.heap.size S349 (.slice A347 (((x.f2.take i.toNat) ++ [(x.f2.getD i.toNat ([] : List S51))]).length) c348) ((x.f2.take i.toNat) ++ [(x.f2.getD i.toNat ([] : List S51))]), Bk g340 [.slice A329 ((x.f2.getD i.toNat ([] : List S51)).length) c330] 42, Bk g255 [J x.f0, .slice A261 x.f1.length c262, .slice At ((x.f2.take i.toNat).length) ct] 35, Chunk.row k37 37 w.heap.size S263 (.slice A261 x.f1.length c262) x.f1, Bk g8 [J 0, .slice none 0 0, .slice none 0 0] 35, Bk g2 [J x.f0, .slice A1 x.f1.length c1, .slice A2 x.f2.length c2] 35] := O353
     clear O353
     refine gx_on (i := 5) (B := (fun j_ => j_ == 5 || j_ == 7)) (fun h_ => by cases h_) ?_
     refine gx_step 6 rfl (by kernel_rfl) ?_
     refine V H352 (op_field (gwfld35_2 _ _) rfl (H352.ev rfl)) ?_
     intro _ H356; clear H352
     refine gx_on (i := 6) (B := (fun j_ => j_ == 5 || j_ == 7)) (fun _ => (by exact O354.sel [2, 3, 4, 5] (by decide))) ?_
     refine gx_step 7 rfl (by kernel_rfl) ?_
     refine gw_set 2 H356 O354 rfl (want_none rfl) rfl (op_store1 gwsiz33 rfl (H356.ev rfl) (H356.ev rfl) rfl (blk_at (O354.get 2 rfl) rfl) (blkf (O354.get 2 rfl))) ?_
     intro _ w359 H358 O360; clear H356 O354
     refine gx_on (i := 7) (B := (fun j_ => j_ == 5 || j_ == 7)) (fun h_ => by cases h_) ?_
     refine gx_done (by kernel_rfl) ?_
     refine gw_blk ?_
     refine gw_nx (hK303 _ _ ?_)
     refine wp_region_lit ?_
     refine V H358 (op_add rfl (H358.ev rfl) (ev_c _ _) (by omega)) ?_
     intro _ H362; clear H358
     refine V H362 (op_move rfl (H362.ev rfl)) ?_
     intro _ H364; clear H362
     refine wpList_nil ?_
     rw [show x.f2.take i.toNat ++ [x.f2.getD i.toNat ([] : List S51)] = x.f2.take (i + 1).toNat from take_nextL _ _ (by omega) (by omega)] at O360
     (try rw [show x.f2.take i.toNat ++ [x.f2.getD i.toNat ([] : List S51)] = x.f2.take (i + 1).toNat from take_nextL _ _ (by omega) (by omega)] at H364)
     refine gw_nx ⟨_, ?_, i + 1, A347, c348, S349, (H364.pick (t := 15) rfl (H364.pick (t := 2) rfl (H364.pick (t := 3) rfl (H364.pick (t := 13) rfl (H364.pick (t := 14) rfl H364.nil))))), O360.sel [0, 2, 3, 4, 5] (by decide), ?_, rfl⟩
     ·
      rw [hm296]; omega
     ·
      omega
    ·
     refine V H320 (op_move rfl (H320.ev rfl)) ?_
     intro _ H366; clear H320
     refine gx_on (i := 2) (B := (fun j_ => j_ == 5 || j_ == 7)) (fun _ => (by exact O322.sel [1, 2, 3, 4] (by decide))) ?_
     refine gx_step2 0 3 rfl rfl (by kernel_rfl) ?_ ?_
     ·
      refine V H366 (op_field (gwfld35_2 _ _) rfl (H366.ev rfl)) ?_
      intro _ H368; clear H366
      refine gx_on (i := 0) (B := (fun j_ => j_ == 5 || j_ == 7)) (fun _ => (by exact O322.sel [1, 2, 3, 4] (by decide))) ?_
      refine gx_take 1 rfl (by kernel_rfl) H368 (by exact O322.sel [1, 2, 3, 4] (by decide)) (want_none rfl) rfl (by decide) (fun wq HO => (op_load1 gwagg33 rfl (H368.ev rfl) (blk_at (HO.get 0 rfl) rfl))) ?_
      intro _ H370; clear H368
      refine gx_step 3 rfl (by kernel_rfl) ?_
      refine gw_call H370 (want_none rfl) rfl (by decide) (op_callL Try.func19 (by kernel_rfl) rfl rfl (ar_cons (H370.ev rfl) ar_nil)) (clone0_V A311 c312 (x.f2.getD i.toNat ([] : List S51)) _ (Kd.C_below hC314 O322.below) hl313 (hx3 _ (getD_mem (z := ([] : List S51)) x.f2 i.toNat (by omega)))) ?_
      rintro e374 w375 ⟨A371, c372, S373, rfl, hb376⟩
      refine ⟨_, rfl, fun _ H378 => ?_⟩
      have O379 := O322.fresh hb376
      have hbel380 := O322.below
      clear H370 O322 hb376
      have O381 := O379.lowrow 0 rfl (base' := w.heap.size) (Below.size hbel380)
      refine gx_on (i := 3) (B := (fun j_ => j_ == 5 || j_ == 7)) (fun _ => (by exact O381.sel [2, 3, 4, 5] (by decide))) ?_
      refine gx_step 4 rfl (by kernel_rfl) ?_
      refine gw_news (O := .cells #[.slice A371 ((x.f2.getD i.toNat ([] : List S51)).length) c372] 42 (0, 0)) (n := 1) H378 O381 (want_none rfl) rfl (by decide) (op_bslice (by kernel_rfl) rfl (pt_cons (H378.ev rfl) pt_nil)) ?_
      intro g382 _ w384 H385 O386; clear H378 O381
      have O387 : Own w w384 [Bk g382 [.slice A371 ((x.f2.getD i.toNat ([] : List S51)).length) c372] 42, Chunk.row k51 51 w.heap.size S373 (.slice A371 ((x.f2.getD i.toNat ([] : List S51)).length) c372) (x.f2.getD i.toNat ([] : List S51)), Chunk.row (Kd.slice 51 k51) 42 w.heap.size St (.slice At ((x.f2.take i.toNat).length) ct) (x.f2.take i.toNat), Bk g255 [J x.f0, .slice A261 x.f1.length c262, .slice At ((x.f2.take i.toNat).length) ct] 35, Chunk.row k37 37 w.heap.size S263 (.slice A261 x.f1.length c262) x.f1, Bk g8 [J 0, .slice none 0 0, .slice none 0 0] 35, Bk g2 [J x.f0, .slice A1 x.f1.length c1, .slice A2 x.f2.length c2] 35] := O386
      clear O386
      refine gx_on (i := 4) (B := (fun j_ => j_ == 5 || j_ == 7)) (fun _ => (by exact O387.sel [3, 4, 5, 6] (by decide))) ?_
      refine gx_step 5 rfl (by kernel_rfl) ?_
      have O388 : Own w _ [Chunk.row (Kd.slice 51 k51) 42 w.heap.size St (.slice At ((x.f2.take i.toNat).length) ct) (x.f2.take i.toNat), Chunk.row k51 51 w.heap.size S373 (.slice A371 ((x.f2.getD i.toNat ([] : List S51)).length) c372) (x.f2.getD i.toNat ([] : List S51)), Bk g382 [.slice A371 ((x.f2.getD i.toNat ([] : List S51)).length) c372] 42, Bk g255 [J x.f0, .slice A261 x.f1.length c262, .slice At ((x.f2.take i.toNat).length) ct] 35, Chunk.row k37 37 w.heap.size S263 (.slice A261 x.f1.length c262) x.f1, Bk g8 [J 0, .slice none 0 0, .slice none 0 0] 35, Bk g2 [J x.f0, .slice A1 x.f1.length c1, .slice A2 x.f2.length c2] 35] := O387.sel [2, 1, 0, 3, 4, 5, 6] (by decide)
      refine gw_append1 (Kd.slice 51 k51) 0 (p := (x.f2.getD i.toNat ([] : List S51))) (cs := [.slice A371 ((x.f2.getD i.toNat ([] : List S51)).length) c372]) H385 O388 (want_none rfl) rfl (by decide) rfl Try.underlying33 gwinfo42 rfl (by decide) (by decide) rfl (H385.ev rfl) (H385.ev rfl) (fun w_ h_ => ⟨_, rfl, h_⟩) O388.below.size (by rw [List.length_take]; omega) ?_
      intro A389 c390 S391 _ w393 H394 O395; clear H385 O387 O388
      have O396 : Own w w393 [Chunk.row (Kd.slice 51 k51) 42 w.heap.size S391 (.slice A389 (((x.f2.take i.toNat) ++ [(x.f2.getD i.toNat ([] : List S51))]).length) c390) ((x.f2.take i.toNat) ++ [(x.f2.getD i.toNat ([] : List S51))]), Bk g382 [.slice A371 ((x.f2.getD i.toNat ([] : List S51)).length) c372] 42, Bk g255 [J x.f0, .slice A261 x.f1.length c262, .slice At ((x.f2.take i.toNat).length) ct] 35, Chunk.row k37 37 w.heap.size S263 (.slice A261 x.f1.length c262) x.f1, Bk g8 [J 0, .slice none 0 0, .slice none 0 0] 35, Bk g2 [J x.f0, .slice A1 x.f1.length c1, .slice A2 x.f2.length c2] 35] := O395
      clear O395
      refine gx_on (i := 5) (B := (fun j_ => j_ == 5 || j_ == 7)) (fun h_ => by cases h_) ?_
      refine gx_step 6 rfl (by kernel_rfl) ?_
      refine V H394 (op_field (gwfld35_2 _ _) rfl (H394.ev rfl)) ?_
      intro _ H398; clear H394
      refine gx_on (i := 6) (B := (fun j_ => j_ == 5 || j_ == 7)) (fun _ => (by exact O396.sel [2, 3, 4, 5] (by decide))) ?_
      refine gx_step 7 rfl (by kernel_rfl) ?_
      refine gw_set 2 H398 O396 rfl (want_none rfl) rfl (op_store1 gwsiz33 rfl (H398.ev rfl) (H398.ev rfl) rfl (blk_at (O396.get 2 rfl) rfl) (blkf (O396.get 2 rfl))) ?_
      intro _ w401 H400 O402; clear H398 O396
      refine gx_on (i := 7) (B := (fun j_ => j_ == 5 || j_ == 7)) (fun h_ => by cases h_) ?_
      refine gx_done (by kernel_rfl) ?_
      refine gw_blk ?_
      refine gw_nx (hK303 _ _ ?_)
      refine wp_region_lit ?_
      refine V H400 (op_add rfl (H400.ev rfl) (ev_c _ _) (by omega)) ?_
      intro _ H404; clear H400
      refine V H404 (op_move rfl (H404.ev rfl)) ?_
      intro _ H406; clear H404
      refine wpList_nil ?_
      rw [show x.f2.take i.toNat ++ [x.f2.getD i.toNat ([] : List S51)] = x.f2.take (i + 1).toNat from take_nextL _ _ (by omega) (by omega)] at O402
      (try rw [show x.f2.take i.toNat ++ [x.f2.getD i.toNat ([] : List S51)] = x.f2.take (i + 1).toNat from take_nextL _ _ (by omega) (by omega)] at H406)
      refine gw_nx ⟨_, ?_, i + 1, A389, c390, S391, (H406.pick (t := 15) rfl (H406.pick (t := 2) rfl (H406.pick (t := 3) rfl (H406.pick (t := 13) rfl (H406.pick (t := 14) rfl H406.nil))))), O402.sel [0, 2, 3, 4, 5] (by decide), ?_, rfl⟩
      ·
       rw [hm296]; omega
      ·
       omega
     ·
      refine gw_call H366 (want_none rfl) rfl (by decide) (op_callL Try.func19 (by kernel_rfl) rfl rfl (ar_cons (H366.ev rfl) ar_nil)) (clone0_V A311 c312 (x.f2.getD i.toNat ([] : List S51)) _ (Kd.C_below hC314 O322.below) hl313 (hx3 _ (getD_mem (z := ([] : List S51)) x.f2 i.toNat (by omega)))) ?_
      rintro e410 w411 ⟨A407, c408, S409, rfl, hb412⟩
      refine ⟨_, rfl, fun _ H414 => ?_⟩
      have O415 := O322.fresh hb412
      have hbel416 := O322.below
      clear H366 O322 hb412
      have O417 := O415.lowrow 0 rfl (base' := w.heap.size) (Below.size hbel416)
      refine gx_on (i := 3) (B := (fun j_ => j_ == 5 || j_ == 7)) (fun _ => (by exact O417.sel [2, 3, 4, 5] (by decide))) ?_
      refine gx_step2 0 4 rfl rfl (by kernel_rfl) ?_ ?_
      ·
       refine V H414 (op_field (gwfld35_2 _ _) rfl (H414.ev rfl)) ?_
       intro _ H419; clear H414
       refine gx_on (i := 0) (B := (fun j_ => j_ == 5 || j_ == 7)) (fun _ => (by exact O417.sel [2, 3, 4, 5] (by decide))) ?_
       refine gx_take 1 rfl (by kernel_rfl) H419 (by exact O417.sel [2, 3, 4, 5] (by decide)) (want_none rfl) rfl (by decide) (fun wq HO => (op_load1 gwagg33 rfl (H419.ev rfl) (blk_at (HO.get 0 rfl) rfl))) ?_
       intro _ H421; clear H419
       refine gx_step 4 rfl (by kernel_rfl) ?_
       refine gw_news (O := .cells #[.slice A407 ((x.f2.getD i.toNat ([] : List S51)).length) c408] 42 (0, 0)) (n := 1) H421 O417 (want_none rfl) rfl (by decide) (op_bslice (by kernel_rfl) rfl (pt_cons (H421.ev rfl) pt_nil)) ?_
       intro g422 _ w424 H425 O426; clear H421 O417
       have O427 : Own w w424 [Bk g422 [.slice A407 ((x.f2.getD i.toNat ([] : List S51)).length) c408] 42, Chunk.row k51 51 w.heap.size S409 (.slice A407 ((x.f2.getD i.toNat ([] : List S51)).length) c408) (x.f2.getD i.toNat ([] : List S51)), Chunk.row (Kd.slice 51 k51) 42 w.heap.size St (.slice At ((x.f2.take i.toNat).length) ct) (x.f2.take i.toNat), Bk g255 [J x.f0, .slice A261 x.f1.length c262, .slice At ((x.f2.take i.toNat).length) ct] 35, Chunk.row k37 37 w.heap.size S263 (.slice A261 x.f1.length c262) x.f1, Bk g8 [J 0, .slice none 0 0, .slice none 0 0] 35, Bk g2 [J x.f0, .slice A1 x.f1.length c1, .slice A2 x.f2.length c2] 35] := O426
       clear O426
       refine gx_on (i := 4) (B := (fun j_ => j_ == 5 || j_ == 7)) (fun _ => (by exact O427.sel [3, 4, 5, 6] (by decide))) ?_
       refine gx_step 5 rfl (by kernel_rfl) ?_
       have O428 : Own w _ [Chunk.row (Kd.slice 51 k51) 42 w.heap.size St (.slice At ((x.f2.take i.toNat).length) ct) (x.f2.take i.toNat), Chunk.row k51 51 w.heap.size S409 (.slice A407 ((x.f2.getD i.toNat ([] : List S51)).length) c408) (x.f2.getD i.toNat ([] : List S51)), Bk g422 [.slice A407 ((x.f2.getD i.toNat ([] : List S51)).length) c408] 42, Bk g255 [J x.f0, .slice A261 x.f1.length c262, .slice At ((x.f2.take i.toNat).length) ct] 35, Chunk.row k37 37 w.heap.size S263 (.slice A261 x.f1.length c262) x.f1, Bk g8 [J 0, .slice none 0 0, .slice none 0 0] 35, Bk g2 [J x.f0, .slice A1 x.f1.length c1, .slice A2 x.f2.length c2] 35] := O427.sel [2, 1, 0, 3, 4, 5, 6] (by decide)
       refine gw_append1 (Kd.slice 51 k51) 0 (p := (x.f2.getD i.toNat ([] : List S51))) (cs := [.slice A407 ((x.f2.getD i.toNat ([] : List S51)).length) c408]) H425 O428 (want_none rfl) rfl (by decide) rfl Try.underlying33 gwinfo42 rfl (by decide) (by decide) rfl (H425.ev rfl) (H425.ev rfl) (fun w_ h_ => ⟨_, rfl, h_⟩) O428.below.size (by rw [List.length_take]; omega) ?_
       intro A429 c430 S431 _ w433 H434 O435; clear H425 O427 O428
       have O436 : Own w w433 [Chunk.row (Kd.slice 51 k51) 42 w.heap.size S431 (.slice A429 (((x.f2.take i.toNat) ++ [(x.f2.getD i.toNat ([] : List S51))]).length) c430) ((x.f2.take i.toNat) ++ [(x.f2.getD i.toNat ([] : List S51))]), Bk g422 [.slice A407 ((x.f2.getD i.toNat ([] : List S51)).length) c408] 42, Bk g255 [J x.f0, .slice A261 x.f1.length c262, .slice At ((x.f2.take i.toNat).length) ct] 35, Chunk.row k37 37 w.heap.size S263 (.slice A261 x.f1.length c262) x.f1, Bk g8 [J 0, .slice none 0 0, .slice none 0 0] 35, Bk g2 [J x.f0, .slice A1 x.f1.length c1, .slice A2 x.f2.length c2] 35] := O435
       clear O435
       refine gx_on (i := 5) (B := (fun j_ => j_ == 5 || j_ == 7)) (fun h_ => by cases h_) ?_
       refine gx_step 6 rfl (by kernel_rfl) ?_
       refine V H434 (op_field (gwfld35_2 _ _) rfl (H434.ev rfl)) ?_
       intro _ H438; clear H434
       refine gx_on (i := 6) (B := (fun j_ => j_ == 5 || j_ == 7)) (fun _ => (by exact O436.sel [2, 3, 4, 5] (by decide))) ?_
       refine gx_step 7 rfl (by kernel_rfl) ?_
       refine gw_set 2 H438 O436 rfl (want_none rfl) rfl (op_store1 gwsiz33 rfl (H438.ev rfl) (H438.ev rfl) rfl (blk_at (O436.get 2 rfl) rfl) (blkf (O436.get 2 rfl))) ?_
       intro _ w441 H440 O442; clear H438 O436
       refine gx_on (i := 7) (B := (fun j_ => j_ == 5 || j_ == 7)) (fun h_ => by cases h_) ?_
       refine gx_done (by kernel_rfl) ?_
       refine gw_blk ?_
       refine gw_nx (hK303 _ _ ?_)
       refine wp_region_lit ?_
       refine V H440 (op_add rfl (H440.ev rfl) (ev_c _ _) (by omega)) ?_
       intro _ H444; clear H440
       refine V H444 (op_move rfl (H444.ev rfl)) ?_
       intro _ H446; clear H444
       refine wpList_nil ?_
       rw [show x.f2.take i.toNat ++ [x.f2.getD i.toNat ([] : List S51)] = x.f2.take (i + 1).toNat from take_nextL _ _ (by omega) (by omega)] at O442
       (try rw [show x.f2.take i.toNat ++ [x.f2.getD i.toNat ([] : List S51)] = x.f2.take (i + 1).toNat from take_nextL _ _ (by omega) (by omega)] at H446)
       refine gw_nx ⟨_, ?_, i + 1, A429, c430, S431, (H446.pick (t := 15) rfl (H446.pick (t := 2) rfl (H446.pick (t := 3) rfl (H446.pick (t := 13) rfl (H446.pick (t := 14) rfl H446.nil))))), O442.sel [0, 2, 3, 4, 5] (by decide), ?_, rfl⟩
       ·
        rw [hm296]; omega
       ·
        omega
      ·
       refine gw_news (O := .cells #[.slice A407 ((x.f2.getD i.toNat ([] : List S51)).length) c408] 42 (0, 0)) (n := 1) H414 O417 (want_none rfl) rfl (by decide) (op_bslice (by kernel_rfl) rfl (pt_cons (H414.ev rfl) pt_nil)) ?_
       intro g447 _ w449 H450 O451; clear H414 O417
       have O452 : Own w w449 [Bk g447 [.slice A407 ((x.f2.getD i.toNat ([] : List S51)).length) c408] 42, Chunk.row k51 51 w.heap.size S409 (.slice A407 ((x.f2.getD i.toNat ([] : List S51)).length) c408) (x.f2.getD i.toNat ([] : List S51)), Chunk.row (Kd.slice 51 k51) 42 w.heap.size St (.slice At ((x.f2.take i.toNat).length) ct) (x.f2.take i.toNat), Bk g255 [J x.f0, .slice A261 x.f1.length c262, .slice At ((x.f2.take i.toNat).length) ct] 35, Chunk.row k37 37 w.heap.size S263 (.slice A261 x.f1.length c262) x.f1, Bk g8 [J 0, .slice none 0 0, .slice none 0 0] 35, Bk g2 [J x.f0, .slice A1 x.f1.length c1, .slice A2 x.f2.length c2] 35] := O451
       clear O451
       refine gx_on (i := 4) (B := (fun j_ => j_ == 5 || j_ == 7)) (fun _ => (by exact O452.sel [3, 4, 5, 6] (by decide))) ?_
       refine gx_step 0 rfl (by kernel_rfl) ?_
       refine V H450 (op_field (gwfld35_2 _ _) rfl (H450.ev rfl)) ?_
       intro _ H454; clear H450
       refine gx_on (i := 0) (B := (fun j_ => j_ == 5 || j_ == 7)) (fun _ => (by exact O452.sel [3, 4, 5, 6] (by decide))) ?_
       refine gx_take 1 rfl (by kernel_rfl) H454 (by exact O452.sel [3, 4, 5, 6] (by decide)) (want_none rfl) rfl (by decide) (fun wq HO => (op_load1 gwagg33 rfl (H454.ev rfl) (blk_at (HO.get 0 rfl) rfl))) ?_
       intro _ H456; clear H454
       refine gx_step 5 rfl (by kernel_rfl) ?_
       have O457 : Own w _ [Chunk.row (Kd.slice 51 k51) 42 w.heap.size St (.slice At ((x.f2.take i.toNat).length) ct) (x.f2.take i.toNat), Chunk.row k51 51 w.heap.size S409 (.slice A407 ((x.f2.getD i.toNat ([] : List S51)).length) c408) (x.f2.getD i.toNat ([] : List S51)), Bk g447 [.slice A407 ((x.f2.getD i.toNat ([] : List S51)).length) c408] 42, Bk g255 [J x.f0, .slice A261 x.f1.length c262, .slice At ((x.f2.take i.toNat).length) ct] 35, Chunk.row k37 37 w.heap.size S263 (.slice A261 x.f1.length c262) x.f1, Bk g8 [J 0, .slice none 0 0, .slice none 0 0] 35, Bk g2 [J x.f0, .slice A1 x.f1.length c1, .slice A2 x.f2.length c2] 35] := O452.sel [2, 1, 0, 3, 4, 5, 6] (by decide)
       refine gw_append1 (Kd.slice 51 k51) 0 (p := (x.f2.getD i.toNat ([] : List S51))) (cs := [.slice A407 ((x.f2.getD i.toNat ([] : List S51)).length) c408]) H456 O457 (want_none rfl) rfl (by decide) rfl Try.underlying33 gwinfo42 rfl (by decide) (by decide) rfl (H456.ev rfl) (H456.ev rfl) (fun w_ h_ => ⟨_, rfl, h_⟩) O457.below.size (by rw [List.length_take]; omega) ?_
       intro A458 c459 S460 _ w462 H463 O464; clear H456 O452 O457
       have O465 : Own w w462 [Chunk.row (Kd.slice 51 k51) 42 w.heap.size S460 (.slice A458 (((x.f2.take i.toNat) ++ [(x.f2.getD i.toNat ([] : List S51))]).length) c459) ((x.f2.take i.toNat) ++ [(x.f2.getD i.toNat ([] : List S51))]), Bk g447 [.slice A407 ((x.f2.getD i.toNat ([] : List S51)).length) c408] 42, Bk g255 [J x.f0, .slice A261 x.f1.length c262, .slice At ((x.f2.take i.toNat).length) ct] 35, Chunk.row k37 37 w.heap.size S263 (.slice A261 x.f1.length c262) x.f1, Bk g8 [J 0, .slice none 0 0, .slice none 0 0] 35, Bk g2 [J x.f0, .slice A1 x.f1.length c1, .slice A2 x.f2.length c2] 35] := O464
       clear O464
       refine gx_on (i := 5) (B := (fun j_ => j_ == 5 || j_ == 7)) (fun h_ => by cases h_) ?_
       refine gx_step 6 rfl (by kernel_rfl) ?_
       refine V H463 (op_field (gwfld35_2 _ _) rfl (H463.ev rfl)) ?_
       intro _ H467; clear H463
       refine gx_on (i := 6) (B := (fun j_ => j_ == 5 || j_ == 7)) (fun _ => (by exact O465.sel [2, 3, 4, 5] (by decide))) ?_
       refine gx_step 7 rfl (by kernel_rfl) ?_
       refine gw_set 2 H467 O465 rfl (want_none rfl) rfl (op_store1 gwsiz33 rfl (H467.ev rfl) (H467.ev rfl) rfl (blk_at (O465.get 2 rfl) rfl) (blkf (O465.get 2 rfl))) ?_
       intro _ w470 H469 O471; clear H467 O465
       refine gx_on (i := 7) (B := (fun j_ => j_ == 5 || j_ == 7)) (fun h_ => by cases h_) ?_
       refine gx_done (by kernel_rfl) ?_
       refine gw_blk ?_
       refine gw_nx (hK303 _ _ ?_)
       refine wp_region_lit ?_
       refine V H469 (op_add rfl (H469.ev rfl) (ev_c _ _) (by omega)) ?_
       intro _ H473; clear H469
       refine V H473 (op_move rfl (H473.ev rfl)) ?_
       intro _ H475; clear H473
       refine wpList_nil ?_
       rw [show x.f2.take i.toNat ++ [x.f2.getD i.toNat ([] : List S51)] = x.f2.take (i + 1).toNat from take_nextL _ _ (by omega) (by omega)] at O471
       (try rw [show x.f2.take i.toNat ++ [x.f2.getD i.toNat ([] : List S51)] = x.f2.take (i + 1).toNat from take_nextL _ _ (by omega) (by omega)] at H475)
       refine gw_nx ⟨_, ?_, i + 1, A458, c459, S460, (H475.pick (t := 15) rfl (H475.pick (t := 2) rfl (H475.pick (t := 3) rfl (H475.pick (t := 13) rfl (H475.pick (t := 14) rfl H475.nil))))), O471.sel [0, 2, 3, 4, 5] (by decide), ?_, rfl⟩
       ·
        rw [hm296]; omega
       ·
        omega
   ·
    have H476 := H299.subst_ (d := 16) (b := false) rfl hb301
    clear H299
    (try simp only [decide_eq_false_iff_not, Int.not_lt] at hb301)
    refine wp_exit ?_
    refine gw_thx ?_
    refine gw_thx ?_
    refine gw_in ?_
    refine gw_nx (hK278 _ _ ?_)
    refine gR fun K477 hK477 => ?_
    refine V H476 (op_loadn gwagg35 gwsiz35 rfl (H476.ev rfl) (O295.get 1 rfl) rfl rfl) ?_
    intro _ H479; clear H476
    refine gw_setn 3 H479 O295 rfl (want_none rfl) rfl (op_storen gwsiz35 rfl (H479.ev rfl) (H479.ev rfl) (O295.get 3 rfl) rfl (by simp) (by simp [Value.oneCell'])) ?_
    intro _ w482 H481 O483; clear H479 O295
    refine gE hK477 ?_
    refine wp_ret ?_
    refine gw_rets1 H481 rfl (rv_celln H481 rfl gwagg35 gwsiz35 (O483.get 3 rfl) rfl) ?_
    have htk : x.f2.take i.toNat = x.f2 := List.take_of_length_le (by omega)
    have O484 := ent_of (x := x) (by have h_ := O483.sel [2, 0] (by decide); simp only [htk] at h_; exact h_)
    simp only [htk]
    exact ⟨_, _, _, rfl, O484.out⟩
end GCloneE_
export GCloneE_ (clone_walk)
end Go.Proofs.Ytmhgblhmkhoopaa.PA
end
section
namespace Go.Proofs.Ytmhgblhmkhoopaa.PA
open Go.RowKit Go.Proofs.YtmhgblhmkhoopaaW.PrintWords Go.Proofs.YtmhgblhmkhoopaaW.PrintLast Go.Proofs.YtmhgblhmkhoopaaW.PrintMore
set_option linter.unusedVariables false
set_option linter.unusedSimpArgs false
namespace GMerge_
theorem gwagg25 : ∀ w, (isAgg 25).run Try.prog w = .ok false w := fun _ => by kernel_rfl
theorem gwagg3 : ∀ w, (isAgg 3).run Try.prog w = .ok false w := fun _ => by kernel_rfl
theorem gwagg35 : ∀ w, (isAgg 35).run Try.prog w = .ok true w := fun _ => by kernel_rfl
theorem gwfld35_0 (g off : Nat) : ∀ w, (Instr.fieldAt 35 (.pointer (some ⟨g, off, none⟩)) 0).run Try.prog w = .ok (.pointer (some ⟨g, off + 0, none⟩)) w := fun _ => by kernel_rfl
theorem gwinfo35 : (Try.prog.info? 35).map (fun i => (i.zero, i.size, i.bytes)) = some (some (.agg #[.int .i64 0, .slice none 0 0, .slice none 0 0]), 3, 56) := by kernel_rfl
theorem gwsiz25 : ∀ w, (sizeOf 25).run Try.prog w = .ok 1 w := fun _ => by kernel_rfl
theorem gwsiz35 : ∀ w, (sizeOf 35).run Try.prog w = .ok 3 w := fun _ => by kernel_rfl
theorem gwzer35 : ∀ w, (zeroValue 35).run Try.prog w = .ok (.agg #[.int .i64 0, .slice none 0 0, .slice none 0 0]) w := fun _ => by kernel_rfl
set_option maxHeartbeats 4000000 in
set_option maxRecDepth 100000 in
theorem Merge_walk (n : Int) (A1 : Option Addr) (c1 : Nat) (ps : List (List EE)) (w : World) (hr : Kd.C (Kd.slice 35 k35) w A1 ps.length ps) (hc : ps.length ≤ c1) (hf : fewP ps) (hn : n ≤ 2000) (hw : ∀ e ∈ ps.flatten, -9223372036854775808 ≤ e.f0 ∧ e.f0 ≤ 9223372036854775807) :
    Calls Try.prog 7 #[.int .i64 n, .slice A1 ps.length c1] w fun e w' => ∃ A c S_, e = .returned (.tuple #[.slice A (mergeG n ps.flatten).1.length c, .int .i64 (mergeG n ps.flatten).2]) ∧ Out w w' (fun _ => False) [Chunk.row k35 35 w.heap.size S_ (.slice A (mergeG n ps.flatten).1.length c) (mergeG n ps.flatten).1] := by
 have hmx : (0 ≤ n → mx n 0 = n) ∧ (n < 0 → mx n 0 = 0) := by unfold mx; constructor <;> intro h_ <;> split <;> omega
 have hfl := hf.2.1
 have hfp := hf.1
 refine gw_start (N := 78) (vs := [J n, .slice A1 ps.length c1]) Try.func7 rfl rfl (by simp) fun a HF HO => ?_
 replace HO : Own w w [] := HO
 refine gR fun K1 hK1 => ?_
 refine V HF (op_assign rfl (ev_c _ _)) ?_
 intro _ H3; clear HF
 refine V H3 (op_assign rfl (ev_c _ _)) ?_
 intro _ H5; clear H3
 refine gE hK1 ?_
 refine gR fun K6 hK6 => ?_
 refine V H5 (op_move rfl (H5.ev rfl)) ?_
 intro _ H8; clear H5
 refine V H8 (op_max rfl (H8.ev rfl) (ev_c _ _)) ?_
 intro _ H10; clear H8
 refine V H10 (op_assign rfl (H10.ev rfl)) ?_
 intro _ H12; clear H10
 refine gE hK6 ?_
 refine gR fun K13 hK13 => ?_
 refine gw_mkmap (K := 3) H12 HO (want_none rfl) rfl (by decide) rfl ?_
 intro g14 _ w16 H17 O18; clear H12 HO
 have O19 : Own w w16 [Chunk.lmap Try.prog 3 g14 ([] : List (Lit × Value))] := O18
 clear O18
 refine V H17 (op_assign rfl (H17.ev rfl)) ?_
 intro _ H21; clear H17
 refine gE hK13 ?_
 refine gw_seq fun K22 hK22 => ?_
 refine gR fun K23 hK23 => ?_
 refine V H21 (op_move rfl (H21.ev rfl)) ?_
 intro _ H25; clear H21
 refine V H25 (op_len Try.underlying22 rfl (H25.ev rfl)) ?_
 intro _ H27; clear H25
 refine V H27 (op_move rfl (ev_c _ _)) ?_
 intro _ H29; clear H27
 refine gE hK23 ?_
 refine wp_block ?_
 refine gw_loop (fun m_ a_ w_ => ∃ (i : Int) (M : List (Lit × Value)), Fr 78 a_ [(20, J i), (0, J (mx n 0)), (6, .map (some g14)), (18, .slice A1 ps.length c1), (19, J (ps.length : Int))] ∧ Own w w_ [Chunk.lmap Try.prog 3 g14 M] ∧ (0 ≤ i ∧ i ≤ ps.length) ∧ (MRel w M (ps.take i.toNat).flatten) ∧ (goodE n (ps.take i.toNat).flatten) ∧ m_ = (ps.length - i.toNat)) ((ps.length - (0 : Int).toNat)) ?_ ?_
 ·
  refine ⟨0, ([] : List (Lit × Value)), (H29.pick (t := 20) rfl (H29.pick (t := 0) rfl (H29.pick (t := 6) rfl (H29.pick (t := 18) rfl (H29.pick (t := 19) rfl H29.nil))))), O19.sel [0] (by decide), ?_, ?_, ?_, rfl⟩
  ·
   omega
  ·
   exact MRel.nil w
  ·
   exact good0 n
 ·
  rintro m31 _ w33 ⟨i, M, H34, O35, hi, hM, hG, hm36⟩
  refine gR fun K37 hK37 => ?_
  refine V H34 (op_lss rfl (H34.ev rfl) (H34.ev rfl)) ?_
  intro _ H39; clear H34
  refine gE hK37 ?_
  refine gw_seq fun K40 hK40 => ?_
  refine gw_cond H39 rfl (fun hb41 => ?_) (fun hb41 => ?_)
  ·
   have H42 := H39.subst_ (d := 21) (b := true) rfl hb41
   clear H39
   (try simp only [decide_eq_true_eq] at hb41)
   refine wp_skip ?_
   refine gw_nx (hK40 _ _ ?_)
   refine gw_seq fun K43 hK43 => ?_
   refine wp_block ?_
   refine gR fun K44 hK44 => ?_
   obtain ⟨ad45, cs48, hA46, hl49, hK50, hc47⟩ := Kd.C_get hr ([] : List S35) i (by omega) (by omega)
   obtain ⟨A51, c52, rfl, hl53, hC54⟩ := id hK50
   clear hl49
   refine V H42 (op_index Try.underlying22 gwsiz25 rfl (H42.ev rfl) (H42.ev rfl) hA46 (⟨by omega, by omega⟩)) ?_
   intro _ H56; clear H42
   refine V H56 (op_load1 gwagg25 rfl (H56.ev rfl) (O35.cell0 (at0 hc47))) ?_
   intro _ H58; clear H56
   refine V H58 (op_assign rfl (H58.ev rfl)) ?_
   intro _ H60; clear H58
   refine gE hK44 ?_
   refine gR fun K61 hK61 => ?_
   refine V H60 (op_move rfl (H60.ev rfl)) ?_
   intro _ H63; clear H60
   refine V H63 (op_len Try.underlying25 rfl (H63.ev rfl)) ?_
   intro _ H65; clear H63
   refine V H65 (op_move rfl (ev_c _ _)) ?_
   intro _ H67; clear H65
   refine gE hK61 ?_
   refine wp_block ?_
   refine gw_loop (fun m_ a_ w_ => ∃ (j : Int) (M2 : List (Lit × Value)), Fr 78 a_ [(26, J j), (20, J i), (0, J (mx n 0)), (6, .map (some g14)), (18, .slice A1 ps.length c1), (19, J (ps.length : Int)), (21, .bool true), (22, .pointer (some (ad45.add (i.toNat * 1)))), (23, .slice A51 ((ps.getD i.toNat ([] : List S35)).length) c52), (8, .slice A51 ((ps.getD i.toNat ([] : List S35)).length) c52), (24, .slice A51 ((ps.getD i.toNat ([] : List S35)).length) c52), (25, J (((ps.getD i.toNat ([] : List S35)).length) : Int))] ∧ Own w w_ [Chunk.lmap Try.prog 3 g14 M2] ∧ (0 ≤ j ∧ j ≤ (ps.getD i.toNat ([] : List S35)).length ∧ (ps.getD i.toNat ([] : List S35)).length ≤ 2000) ∧ (MRel w M2 ((ps.take i.toNat).flatten ++ (ps.getD i.toNat ([] : List S35)).take j.toNat)) ∧ (goodE n ((ps.take i.toNat).flatten ++ (ps.getD i.toNat ([] : List S35)).take j.toNat)) ∧ m_ = ((ps.getD i.toNat ([] : List S35)).length - j.toNat)) (((ps.getD i.toNat ([] : List S35)).length - (0 : Int).toNat)) ?_ ?_
   ·
    refine ⟨0, M, (H67.pick (t := 26) rfl (H67.pick (t := 20) rfl (H67.pick (t := 0) rfl (H67.pick (t := 6) rfl (H67.pick (t := 18) rfl (H67.pick (t := 19) rfl (H67.pick (t := 21) rfl (H67.pick (t := 22) rfl (H67.pick (t := 23) rfl (H67.pick (t := 8) rfl (H67.pick (t := 24) rfl (H67.pick (t := 25) rfl H67.nil)))))))))))), O35.sel [0] (by decide), ?_, ?_, ?_, rfl⟩
    ·
     have h_ := flat_le ps i.toNat (ps.getD i.toNat ([] : List S35)).length (by omega); rw [List.length_append, List.take_length] at h_; omega
    ·
     simpa using hM
    ·
     simpa using hG
   ·
    rintro m69 _ w71 ⟨j, M2, H72, O73, hj, hM2, hG2, hm74⟩
    refine gR fun K75 hK75 => ?_
    refine V H72 (op_lss rfl (H72.ev rfl) (H72.ev rfl)) ?_
    intro _ H77; clear H72
    refine gE hK75 ?_
    refine gw_seq fun K78 hK78 => ?_
    refine gw_cond H77 rfl (fun hb79 => ?_) (fun hb79 => ?_)
    ·
     have H80 := H77.subst_ (d := 27) (b := true) rfl hb79
     clear H77
     (try simp only [decide_eq_true_eq] at hb79)
     have hpl := flat_le ps i.toNat (ps.getD i.toNat ([] : List S35)).length (by omega)
     rw [List.length_append, List.take_length] at hpl
     have hem := flat_mem ps z35 i.toNat j.toNat (by omega) (by omega)
     have hwe := hw _ hem
     rcases hf_ : lfind (gk ((ps.getD i.toNat ([] : List S35)).getD j.toNat z35).f0) M2 with _ | V_
     ·
      refine wp_skip ?_
      refine gw_nx (hK78 _ _ ?_)
      refine gw_seq fun K81 hK81 => ?_
      refine wp_block ?_
      refine gR fun K82 hK82 => ?_
      obtain ⟨ad83, cs86, hA84, hl87, hK88, hc85⟩ := Kd.C_get hC54 z35 j (by omega) (by omega)
      obtain ⟨A89, c90, A93, c94, rfl, hl91, hC92, hl95, hC96⟩ := k35_open hK88
      clear hl87
      refine V H80 (op_index Try.underlying25 gwsiz35 rfl (H80.ev rfl) (H80.ev rfl) hA84 (⟨by omega, by omega⟩)) ?_
      intro _ H98; clear H80
      refine V H98 (op_loadc gwagg35 gwsiz35 rfl (H98.ev rfl) rfl (cells0 O73 hc85)) ?_
      intro _ H100; clear H98
      refine gw_new H100 O73 (want_none rfl) rfl (by decide) (op_alloc gwzer35 rfl) ?_
      intro g101 _ w103 H104 O105; clear H100 O73
      have O106 : Own w w103 [Bk g101 [J 0, .slice none 0 0, .slice none 0 0] 35, Chunk.lmap Try.prog 3 g14 M2] := O105
      clear O105
      refine gw_setn 0 H104 O106 rfl (want_none rfl) rfl (op_storen gwsiz35 rfl (H104.ev rfl) (H104.ev rfl) (O106.get 0 rfl) rfl (by simp) (by simp [Value.oneCell'])) ?_
      intro _ w109 H108 O110; clear H104 O106
      refine gE hK82 ?_
      refine gR fun K111 hK111 => ?_
      refine V H108 (op_move rfl (H108.ev rfl)) ?_
      intro _ H113; clear H108
      refine V H113 (op_field (gwfld35_0 _ _) rfl (H113.ev rfl)) ?_
      intro _ H115; clear H113
      refine V H115 (op_load1 gwagg3 rfl (H115.ev rfl) (blk_at (O110.get 0 rfl) rfl)) ?_
      intro _ H117; clear H115
      refine V H117 (op_mlok_none (Go.Maps.int_keyed Try.underlying3) Try.underlying43 gwzer35 rfl (H117.ev rfl) (H117.ev rfl) (Go.Maps.keyOf_int_mk Try.underlying3 (wfI _ (by omega))) (O110.get 1 rfl) (hf_)) ?_
      intro _ H119; clear H117
      refine V H119 (op_move rfl (H119.ev rfl)) ?_
      intro _ H121; clear H119
      refine V H121 (op_extract rfl (H121.ev rfl) rfl) ?_
      intro _ H123; clear H121
      refine V H123 (op_extract rfl (H123.ev rfl) rfl) ?_
      intro _ H125; clear H123
      refine gw_new H125 O110 (want_none rfl) rfl (by decide) (op_alloc gwzer35 rfl) ?_
      intro g126 _ w128 H129 O130; clear H125 O110
      have O131 : Own w w128 [Bk g126 [J 0, .slice none 0 0, .slice none 0 0] 35, Bk g101 [J (((ps.getD i.toNat ([] : List S35)).getD j.toNat z35).f0), .slice A89 (((ps.getD i.toNat ([] : List S35)).getD j.toNat z35).f1.length) c90, .slice A93 (((ps.getD i.toNat ([] : List S35)).getD j.toNat z35).f2.length) c94] 35, Chunk.lmap Try.prog 3 g14 M2] := O130
      clear O130
      refine gw_setn 0 H129 O131 rfl (want_none rfl) rfl (op_storen gwsiz35 rfl (H129.ev rfl) (H129.ev rfl) (O131.get 0 rfl) rfl (by simp) (by simp [Value.oneCell'])) ?_
      intro _ w134 H133 O135; clear H129 O131
      refine V H133 (op_assign rfl (H133.ev rfl)) ?_
      intro _ H137; clear H133
      refine gE hK111 ?_
      refine gw_seq fun K138 hK138 => ?_
      refine gR fun K139 hK139 => ?_
      refine V H137 (op_field (gwfld35_0 _ _) rfl (H137.ev rfl)) ?_
      intro _ H141; clear H137
      refine V H141 (op_load1 gwagg3 rfl (H141.ev rfl) (blk_at (O135.get 1 rfl) rfl)) ?_
      intro _ H143; clear H141
      refine V H143 (op_lss rfl (H143.ev rfl) (ev_c _ _)) ?_
      intro _ H145; clear H143
      refine V H145 (op_move rfl (H145.ev rfl)) ?_
      intro _ H147; clear H145
      refine gw_evG H147 rfl rfl rfl rfl (on_f _) rfl (by decide) (fun h_ => (op_field (gwfld35_0 _ _) rfl (H147.ev rfl))) ?_
      intro _ H149; clear H147
      refine gw_evG H149 rfl rfl rfl rfl (on_f _) rfl (by decide) (fun h_ => (op_load1 gwagg3 rfl (ev_gv (H149.ev rfl) h_) (blk_at (O135.get 1 rfl) rfl))) ?_
      intro _ H151; clear H149
      refine gw_evG H151 rfl rfl rfl rfl (on_f _) rfl (by decide) (fun h_ => (op_move rfl (H151.ev rfl))) ?_
      intro _ H153; clear H151
      refine gw_evG H153 rfl rfl rfl rfl (on_f _) rfl (by decide) (fun h_ => (op_geq rfl (ev_gv (H153.ev rfl) h_) (ev_gv (H153.ev rfl) h_))) ?_
      intro _ H155; clear H153
      refine V H155 (op_pick_or rfl (H155.ev rfl) (ev_c _ _) (fun hp_ => (ev_gv (H155.ev rfl) (not_t hp_)))) ?_
      intro _ H157; clear H155
      refine V H157 (op_move rfl (H157.ev rfl)) ?_
      intro _ H159; clear H157
      refine gw_evG H159 rfl rfl rfl rfl (on_f _) rfl (by decide) (fun h_ => (op_move rfl (H159.ev rfl))) ?_
      intro _ H161; clear H159
      refine gw_evG H161 rfl rfl rfl rfl (on_f _) rfl (by decide) (fun h_ => (op_move rfl (ev_gv (H161.ev rfl) h_))) ?_
      intro _ H163; clear H161
      refine gw_evG H163 rfl rfl rfl rfl (on_gt _ _) rfl (by decide) (fun h_ => (op_loadn gwagg35 gwsiz35 rfl (H163.ev rfl) (O135.get 0 rfl) rfl rfl)) ?_
      intro _ H165; clear H163
      refine gw_evG H165 rfl rfl rfl rfl (on_gt _ _) rfl (by decide) (fun h_ => (op_loadn gwagg35 gwsiz35 rfl (H165.ev rfl) (O135.get 1 rfl) rfl rfl)) ?_
      intro _ H167; clear H165
      refine gw_callG H167 rfl rfl rfl rfl (on_gt _ _) rfl (by decide) (fun h_ => (op_callL Try.func10 (by kernel_rfl) rfl rfl (ar_cons (ev_gv (H167.ev rfl) (andi (and1 h_) (and2 h_))) (ar_cons (ev_gv (H167.ev rfl) (andi (and1 h_) (and2 h_))) ar_nil)))) (fun h_ => show Calls _ _ _ _ (fun e w' => e = .returned (.bool false) ∧ Below _ _ w') from (by simp at h_)) ?_
      intro _ w170 hb171 H169
      have O172 := O135.after hb171; clear H167 O135 hb171
      refine gw_evG H169 rfl rfl rfl rfl (on_gt _ _) rfl (by decide) (fun h_ => (op_not rfl (ev_gv (H169.ev rfl) (andi (and1 h_) (and2 h_))))) ?_
      intro _ H174; clear H169
      refine gw_evG H174 rfl rfl rfl rfl (on_f _) rfl (by decide) (fun h_ => (op_pick_f rfl (ev_gv (H174.ev rfl) h_) (ev_c _ _))) ?_
      intro _ H176; clear H174
      refine V H176 (op_pick_or rfl (H176.ev rfl) (ev_c _ _) (fun hp_ => (ev_gv (H176.ev rfl) (not_t hp_)))) ?_
      intro _ H178; clear H176
      refine gE hK139 ?_
      refine gw_cond H178 rfl (fun hb179 => ?_) (fun hb179 => ?_)
      ·
       have H180 := H178.subst_ (d := 54) (b := true) rfl hb179
       clear H178
       (try simp only [Bool.or_eq_true, Bool.or_eq_false_iff, decide_eq_true_eq, decide_eq_false_iff_not, Int.not_lt, Int.not_le] at hb179)
       have hbad : ¬ goodE n ps.flatten := by (try simp only [Bool.false_and, Bool.false_eq_true, false_and, or_false] at hb179); exact bad_range hem (by omega)
       refine gR fun K181 hK181 => ?_
       refine V H180 (op_assign rfl (ev_c _ _)) ?_
       intro _ H183; clear H180
       refine V H183 (op_assign rfl (ev_c _ _)) ?_
       intro _ H185; clear H183
       refine gE hK181 ?_
       refine wp_ret ?_
       refine gw_thr ?_
       refine gw_blr ?_
       refine gw_thr ?_
       refine gw_thr ?_
       refine gw_blr ?_
       refine gw_blr ?_
       refine gw_thr ?_
       refine gw_thr ?_
       refine gw_blr ?_
       refine gw_thr ?_
       refine gw_ret2 H185 rfl rfl rfl ?_
       rw [mergeG_bad hbad]
       exact ⟨none, 0, _, rfl, ((O172.row_nil k35 35 w.heap.size).sel [0] (by decide)).out⟩
      ·
       have H186 := H178.subst_ (d := 54) (b := false) rfl hb179
       clear H178
       (try simp only [Bool.or_eq_true, Bool.or_eq_false_iff, decide_eq_true_eq, decide_eq_false_iff_not, Int.not_lt, Int.not_le] at hb179)
       have hok : ¬ ((ps.getD i.toNat ([] : List S35)).getD j.toNat z35).f0 < 0 ∧ ((ps.getD i.toNat ([] : List S35)).getD j.toNat z35).f0 < mx n 0 := by have h_ := hb179; omega
       refine wp_skip ?_
       refine gw_nx (hK138 _ _ ?_)
       refine wp_region_lit ?_
       refine V H186 (op_move rfl (H186.ev rfl)) ?_
       intro _ H188; clear H186
       refine V H188 (op_field (gwfld35_0 _ _) rfl (H188.ev rfl)) ?_
       intro _ H190; clear H188
       refine V H190 (op_load1 gwagg3 rfl (H190.ev rfl) (blk_at (O172.get 1 rfl) rfl)) ?_
       intro _ H192; clear H190
       refine V H192 (op_loadn gwagg35 gwsiz35 rfl (H192.ev rfl) (O172.get 1 rfl) rfl rfl) ?_
       intro _ H194; clear H192
       refine gw_mput 2 (Go.Maps.int_keyed Try.underlying3) Try.underlying43 H194 O172 rfl (want_none rfl) rfl rfl (H194.ev rfl) (H194.ev rfl) (H194.ev rfl) (Go.Maps.keyOf_int_mk Try.underlying3 (wfI _ (by omega))) (by have h_ := hM2.len; have h2_ := flat_le ps i.toNat j.toNat (by omega); omega) ?_
       intro _ w196 H197 O198; clear H194 O172
       have O199 : Own w w196 [Bk g126 [J 0, .slice none 0 0, .slice none 0 0] 35, Bk g101 [J (((ps.getD i.toNat ([] : List S35)).getD j.toNat z35).f0), .slice A89 (((ps.getD i.toNat ([] : List S35)).getD j.toNat z35).f1.length) c90, .slice A93 (((ps.getD i.toNat ([] : List S35)).getD j.toNat z35).f2.length) c94] 35, Chunk.lmap Try.prog 3 g14 (lput (Lit.int .i64 (((ps.getD i.toNat ([] : List S35)).getD j.toNat z35).f0)) (.agg #[J (((ps.getD i.toNat ([] : List S35)).getD j.toNat z35).f0), .slice A89 (((ps.getD i.toNat ([] : List S35)).getD j.toNat z35).f1.length) c90, .slice A93 (((ps.getD i.toNat ([] : List S35)).getD j.toNat z35).f2.length) c94]) M2)] := O198
       clear O198
       refine wpList_nil ?_
       refine gw_blk ?_
       refine gw_nx (hK81 _ _ ?_)
       refine wp_region_lit ?_
       refine V H197 (op_add rfl (H197.ev rfl) (ev_c _ _) (by omega)) ?_
       intro _ H201; clear H197
       refine V H201 (op_move rfl (H201.ev rfl)) ?_
       intro _ H203; clear H201
       refine wpList_nil ?_
       refine gw_nx ⟨_, ?_, j + 1, (lput (Lit.int .i64 (((ps.getD i.toNat ([] : List S35)).getD j.toNat z35).f0)) (.agg #[J (((ps.getD i.toNat ([] : List S35)).getD j.toNat z35).f0), .slice A89 (((ps.getD i.toNat ([] : List S35)).getD j.toNat z35).f1.length) c90, .slice A93 (((ps.getD i.toNat ([] : List S35)).getD j.toNat z35).f2.length) c94]) M2), (H203.pick (t := 26) rfl (H203.pick (t := 20) rfl (H203.pick (t := 0) rfl (H203.pick (t := 6) rfl (H203.pick (t := 18) rfl (H203.pick (t := 19) rfl (H203.pick (t := 21) rfl (H203.pick (t := 22) rfl (H203.pick (t := 23) rfl (H203.pick (t := 8) rfl (H203.pick (t := 24) rfl (H203.pick (t := 25) rfl H203.nil)))))))))))), O199.sel [2] (by decide), ?_, ?_, ?_, rfl⟩
       ·
        rw [hm74]; omega
       ·
        omega
       ·
        rw [show (j + 1).toNat = j.toNat + 1 by omega, flat_at ps z35 _ _ (by omega) (by omega)]; exact hM2.put ⟨_, _, _, _, rfl, hl91, hC92, hl95, hC96⟩
       ·
        rw [show (j + 1).toNat = j.toNat + 1 by omega, flat_at ps z35 _ _ (by omega) (by omega)]; exact good_step hG2 (by omega) (by omega) (fun y_ hy_ h_ => absurd h_ (hM2.none_ hf_ y_ hy_))
     ·
      obtain ⟨x_, hxm, hxg, A5, c5, A6, c6, rfl, k1, k2, k3, k4⟩ := hM2.from_ _ _ hf_
      refine wp_skip ?_
      refine gw_nx (hK78 _ _ ?_)
      refine gw_seq fun K204 hK204 => ?_
      refine wp_block ?_
      refine gR fun K205 hK205 => ?_
      obtain ⟨ad206, cs209, hA207, hl210, hK211, hc208⟩ := Kd.C_get hC54 z35 j (by omega) (by omega)
      obtain ⟨A212, c213, A216, c217, rfl, hl214, hC215, hl218, hC219⟩ := k35_open hK211
      clear hl210
      refine V H80 (op_index Try.underlying25 gwsiz35 rfl (H80.ev rfl) (H80.ev rfl) hA207 (⟨by omega, by omega⟩)) ?_
      intro _ H221; clear H80
      refine V H221 (op_loadc gwagg35 gwsiz35 rfl (H221.ev rfl) rfl (cells0 O73 hc208)) ?_
      intro _ H223; clear H221
      refine gw_new H223 O73 (want_none rfl) rfl (by decide) (op_alloc gwzer35 rfl) ?_
      intro g224 _ w226 H227 O228; clear H223 O73
      have O229 : Own w w226 [Bk g224 [J 0, .slice none 0 0, .slice none 0 0] 35, Chunk.lmap Try.prog 3 g14 M2] := O228
      clear O228
      refine gw_setn 0 H227 O229 rfl (want_none rfl) rfl (op_storen gwsiz35 rfl (H227.ev rfl) (H227.ev rfl) (O229.get 0 rfl) rfl (by simp) (by simp [Value.oneCell'])) ?_
      intro _ w232 H231 O233; clear H227 O229
      refine gE hK205 ?_
      refine gR fun K234 hK234 => ?_
      refine V H231 (op_move rfl (H231.ev rfl)) ?_
      intro _ H236; clear H231
      refine V H236 (op_field (gwfld35_0 _ _) rfl (H236.ev rfl)) ?_
      intro _ H238; clear H236
      refine V H238 (op_load1 gwagg3 rfl (H238.ev rfl) (blk_at (O233.get 0 rfl) rfl)) ?_
      intro _ H240; clear H238
      refine V H240 (op_mlok_some (Go.Maps.int_keyed Try.underlying3) Try.underlying43 gwzer35 rfl (H240.ev rfl) (H240.ev rfl) (Go.Maps.keyOf_int_mk Try.underlying3 (wfI _ (by omega))) (O233.get 1 rfl) (hf_)) ?_
      intro _ H242; clear H240
      refine V H242 (op_move rfl (H242.ev rfl)) ?_
      intro _ H244; clear H242
      refine V H244 (op_extract rfl (H244.ev rfl) rfl) ?_
      intro _ H246; clear H244
      refine V H246 (op_extract rfl (H246.ev rfl) rfl) ?_
      intro _ H248; clear H246
      refine gw_new H248 O233 (want_none rfl) rfl (by decide) (op_alloc gwzer35 rfl) ?_
      intro g249 _ w251 H252 O253; clear H248 O233
      have O254 : Own w w251 [Bk g249 [J 0, .slice none 0 0, .slice none 0 0] 35, Bk g224 [J (((ps.getD i.toNat ([] : List S35)).getD j.toNat z35).f0), .slice A212 (((ps.getD i.toNat ([] : List S35)).getD j.toNat z35).f1.length) c213, .slice A216 (((ps.getD i.toNat ([] : List S35)).getD j.toNat z35).f2.length) c217] 35, Chunk.lmap Try.prog 3 g14 M2] := O253
      clear O253
      refine gw_setn 0 H252 O254 rfl (want_none rfl) rfl (op_storen gwsiz35 rfl (H252.ev rfl) (H252.ev rfl) (O254.get 0 rfl) rfl (by simp) (by simp [Value.oneCell'])) ?_
      intro _ w257 H256 O258; clear H252 O254
      refine V H256 (op_assign rfl (H256.ev rfl)) ?_
      intro _ H260; clear H256
      refine gE hK234 ?_
      refine gw_seq fun K261 hK261 => ?_
      refine gR fun K262 hK262 => ?_
      refine V H260 (op_field (gwfld35_0 _ _) rfl (H260.ev rfl)) ?_
      intro _ H264; clear H260
      refine V H264 (op_load1 gwagg3 rfl (H264.ev rfl) (blk_at (O258.get 1 rfl) rfl)) ?_
      intro _ H266; clear H264
      refine V H266 (op_lss rfl (H266.ev rfl) (ev_c _ _)) ?_
      intro _ H268; clear H266
      refine V H268 (op_move rfl (H268.ev rfl)) ?_
      intro _ H270; clear H268
      refine gw_evG H270 rfl rfl rfl rfl (on_f _) rfl (by decide) (fun h_ => (op_field (gwfld35_0 _ _) rfl (H270.ev rfl))) ?_
      intro _ H272; clear H270
      refine gw_evG H272 rfl rfl rfl rfl (on_f _) rfl (by decide) (fun h_ => (op_load1 gwagg3 rfl (ev_gv (H272.ev rfl) h_) (blk_at (O258.get 1 rfl) rfl))) ?_
      intro _ H274; clear H272
      refine gw_evG H274 rfl rfl rfl rfl (on_f _) rfl (by decide) (fun h_ => (op_move rfl (H274.ev rfl))) ?_
      intro _ H276; clear H274
      refine gw_evG H276 rfl rfl rfl rfl (on_f _) rfl (by decide) (fun h_ => (op_geq rfl (ev_gv (H276.ev rfl) h_) (ev_gv (H276.ev rfl) h_))) ?_
      intro _ H278; clear H276
      refine V H278 (op_pick_or rfl (H278.ev rfl) (ev_c _ _) (fun hp_ => (ev_gv (H278.ev rfl) (not_t hp_)))) ?_
      intro _ H280; clear H278
      refine V H280 (op_move rfl (H280.ev rfl)) ?_
      intro _ H282; clear H280
      refine gw_evG H282 rfl rfl rfl rfl (on_f _) rfl (by decide) (fun h_ => (op_move rfl (H282.ev rfl))) ?_
      intro _ H284; clear H282
      refine gw_evG H284 rfl rfl rfl rfl (on_f _) rfl (by decide) (fun h_ => (op_move rfl (ev_gv (H284.ev rfl) h_))) ?_
      intro _ H286; clear H284
      refine gw_evG H286 rfl rfl rfl rfl (on_gt _ _) rfl (by decide) (fun h_ => (op_loadn gwagg35 gwsiz35 rfl (H286.ev rfl) (O258.get 0 rfl) rfl rfl)) ?_
      intro _ H288; clear H286
      refine gw_evG H288 rfl rfl rfl rfl (on_gt _ _) rfl (by decide) (fun h_ => (op_loadn gwagg35 gwsiz35 rfl (H288.ev rfl) (O258.get 1 rfl) rfl rfl)) ?_
      intro _ H290; clear H288
      refine gw_callG H290 rfl rfl rfl rfl (on_gt _ _) rfl (by decide) (fun h_ => (op_callL Try.func10 (by kernel_rfl) rfl rfl (ar_cons (ev_gv (H290.ev rfl) (andi (and1 h_) (and2 h_))) (ar_cons (ev_gv (H290.ev rfl) (andi (and1 h_) (and2 h_))) ar_nil)))) (fun h_ => Same_walk x_ A5 c5 A6 c6 ((ps.getD i.toNat ([] : List S35)).getD j.toNat z35) A212 c213 A216 c217 _ (Kd.C_below k2 O258.below) k1 (Kd.C_below k4 O258.below) k3 (Kd.C_below hC215 O258.below) hl214 (Kd.C_below hC219 O258.below) hl218) ?_
      intro _ w293 hb294 H292
      have O295 := O258.after hb294; clear H290 O258 hb294
      refine gw_evG H292 rfl rfl rfl rfl (on_gt _ _) rfl (by decide) (fun h_ => (op_not rfl (ev_gv (H292.ev rfl) (andi (and1 h_) (and2 h_))))) ?_
      intro _ H297; clear H292
      refine gw_evG H297 rfl rfl rfl rfl (on_f _) rfl (by decide) (fun h_ => (op_pick_t rfl (ev_gv (H297.ev rfl) h_) (ev_gv (H297.ev rfl) (andi h_ (by rfl))))) ?_
      intro _ H299; clear H297
      refine V H299 (op_pick_or rfl (H299.ev rfl) (ev_c _ _) (fun hp_ => (ev_gv (H299.ev rfl) (not_t hp_)))) ?_
      intro _ H301; clear H299
      refine gE hK262 ?_
      refine gw_cond H301 rfl (fun hb302 => ?_) (fun hb302 => ?_)
      ·
       have H303 := H301.subst_ (d := 54) (b := true) rfl hb302
       clear H301
       (try simp only [Bool.and_eq_true, Bool.and_eq_false_iff, Bool.not_and, Bool.or_eq_true, Bool.or_eq_false_iff, Bool.not_or, Bool.not_not, Bool.not_eq_true', Bool.not_eq_false', Bool.not_eq_true, Bool.not_eq_false, decide_eq_true_eq, decide_eq_false_iff_not, Int.not_lt, Int.not_le] at hb302)
       have hbad : ¬ goodE n ps.flatten := by (try simp only [true_and] at hb302); rcases hb302 with h_ | h_; exact bad_range hem (by omega); exact bad_two (flat_sub ps i.toNat j.toNat (by omega) _ hxm) hem hxg (eqA_no.1 h_)
       refine gR fun K304 hK304 => ?_
       refine V H303 (op_assign rfl (ev_c _ _)) ?_
       intro _ H306; clear H303
       refine V H306 (op_assign rfl (ev_c _ _)) ?_
       intro _ H308; clear H306
       refine gE hK304 ?_
       refine wp_ret ?_
       refine gw_thr ?_
       refine gw_blr ?_
       refine gw_thr ?_
       refine gw_thr ?_
       refine gw_blr ?_
       refine gw_blr ?_
       refine gw_thr ?_
       refine gw_thr ?_
       refine gw_blr ?_
       refine gw_thr ?_
       refine gw_ret2 H308 rfl rfl rfl ?_
       rw [mergeG_bad hbad]
       exact ⟨none, 0, _, rfl, ((O295.row_nil k35 35 w.heap.size).sel [0] (by decide)).out⟩
      ·
       have H309 := H301.subst_ (d := 54) (b := false) rfl hb302
       clear H301
       (try simp only [Bool.and_eq_true, Bool.and_eq_false_iff, Bool.not_and, Bool.or_eq_true, Bool.or_eq_false_iff, Bool.not_or, Bool.not_not, Bool.not_eq_true', Bool.not_eq_false', Bool.not_eq_true, Bool.not_eq_false, decide_eq_true_eq, decide_eq_false_iff_not, Int.not_lt, Int.not_le] at hb302)
       have hok : ¬ ((ps.getD i.toNat ([] : List S35)).getD j.toNat z35).f0 < 0 ∧ ((ps.getD i.toNat ([] : List S35)).getD j.toNat z35).f0 < mx n 0 := by have h_ := (hb302).1; omega
       have hbs : eqA x_ ((ps.getD i.toNat ([] : List S35)).getD j.toNat z35) = true := by have h_ := (hb302).2; simpa using h_
       refine wp_skip ?_
       refine gw_nx (hK261 _ _ ?_)
       refine wp_region_lit ?_
       refine V H309 (op_move rfl (H309.ev rfl)) ?_
       intro _ H311; clear H309
       refine V H311 (op_field (gwfld35_0 _ _) rfl (H311.ev rfl)) ?_
       intro _ H313; clear H311
       refine V H313 (op_load1 gwagg3 rfl (H313.ev rfl) (blk_at (O295.get 1 rfl) rfl)) ?_
       intro _ H315; clear H313
       refine V H315 (op_loadn gwagg35 gwsiz35 rfl (H315.ev rfl) (O295.get 1 rfl) rfl rfl) ?_
       intro _ H317; clear H315
       refine gw_mput 2 (Go.Maps.int_keyed Try.underlying3) Try.underlying43 H317 O295 rfl (want_none rfl) rfl rfl (H317.ev rfl) (H317.ev rfl) (H317.ev rfl) (Go.Maps.keyOf_int_mk Try.underlying3 (wfI _ (by omega))) (by have h_ := hM2.len; have h2_ := flat_le ps i.toNat j.toNat (by omega); omega) ?_
       intro _ w319 H320 O321; clear H317 O295
       have O322 : Own w w319 [Bk g249 [J x_.f0, .slice A5 x_.f1.length c5, .slice A6 x_.f2.length c6] 35, Bk g224 [J (((ps.getD i.toNat ([] : List S35)).getD j.toNat z35).f0), .slice A212 (((ps.getD i.toNat ([] : List S35)).getD j.toNat z35).f1.length) c213, .slice A216 (((ps.getD i.toNat ([] : List S35)).getD j.toNat z35).f2.length) c217] 35, Chunk.lmap Try.prog 3 g14 (lput (Lit.int .i64 (((ps.getD i.toNat ([] : List S35)).getD j.toNat z35).f0)) (.agg #[J (((ps.getD i.toNat ([] : List S35)).getD j.toNat z35).f0), .slice A212 (((ps.getD i.toNat ([] : List S35)).getD j.toNat z35).f1.length) c213, .slice A216 (((ps.getD i.toNat ([] : List S35)).getD j.toNat z35).f2.length) c217]) M2)] := O321
       clear O321
       refine wpList_nil ?_
       refine gw_blk ?_
       refine gw_nx (hK204 _ _ ?_)
       refine wp_region_lit ?_
       refine V H320 (op_add rfl (H320.ev rfl) (ev_c _ _) (by omega)) ?_
       intro _ H324; clear H320
       refine V H324 (op_move rfl (H324.ev rfl)) ?_
       intro _ H326; clear H324
       refine wpList_nil ?_
       refine gw_nx ⟨_, ?_, j + 1, (lput (Lit.int .i64 (((ps.getD i.toNat ([] : List S35)).getD j.toNat z35).f0)) (.agg #[J (((ps.getD i.toNat ([] : List S35)).getD j.toNat z35).f0), .slice A212 (((ps.getD i.toNat ([] : List S35)).getD j.toNat z35).f1.length) c213, .slice A216 (((ps.getD i.toNat ([] : List S35)).getD j.toNat z35).f2.length) c217]) M2), (H326.pick (t := 26) rfl (H326.pick (t := 20) rfl (H326.pick (t := 0) rfl (H326.pick (t := 6) rfl (H326.pick (t := 18) rfl (H326.pick (t := 19) rfl (H326.pick (t := 21) rfl (H326.pick (t := 22) rfl (H326.pick (t := 23) rfl (H326.pick (t := 8) rfl (H326.pick (t := 24) rfl (H326.pick (t := 25) rfl H326.nil)))))))))))), O322.sel [2] (by decide), ?_, ?_, ?_, rfl⟩
       ·
        rw [hm74]; omega
       ·
        omega
       ·
        rw [show (j + 1).toNat = j.toNat + 1 by omega, flat_at ps z35 _ _ (by omega) (by omega)]; exact hM2.put ⟨_, _, _, _, rfl, hl214, hC215, hl218, hC219⟩
       ·
        rw [show (j + 1).toNat = j.toNat + 1 by omega, flat_at ps z35 _ _ (by omega) (by omega)]; exact good_step hG2 (by omega) (by omega) (fun y_ hy_ h_ => (hG2.2 y_ hy_ x_ hxm (by omega)).trans (eqA_iff.1 hbs))
    ·
     have H327 := H77.subst_ (d := 27) (b := false) rfl hb79
     clear H77
     (try simp only [decide_eq_false_iff_not, Int.not_lt] at hb79)
     refine wp_exit ?_
     refine gw_thx ?_
     refine gw_thx ?_
     refine gw_in ?_
     refine gw_blk ?_
     refine gw_nx (hK43 _ _ ?_)
     refine wp_region_lit ?_
     refine V H327 (op_add rfl (H327.ev rfl) (ev_c _ _) (by omega)) ?_
     intro _ H329; clear H327
     refine V H329 (op_move rfl (H329.ev rfl)) ?_
     intro _ H331; clear H329
     refine wpList_nil ?_
     refine gw_nx ⟨_, ?_, i + 1, M2, (H331.pick (t := 20) rfl (H331.pick (t := 0) rfl (H331.pick (t := 6) rfl (H331.pick (t := 18) rfl (H331.pick (t := 19) rfl H331.nil))))), O73.sel [0] (by decide), ?_, ?_, ?_, rfl⟩
     ·
      rw [hm36]; omega
     ·
      omega
     ·
      rw [show (i + 1).toNat = i.toNat + 1 by omega, flat_take ps _ (by omega)]; have h_ := hM2; rw [List.take_of_length_le (show (ps.getD i.toNat ([] : List S35)).length ≤ j.toNat by omega)] at h_; exact h_
     ·
      rw [show (i + 1).toNat = i.toNat + 1 by omega, flat_take ps _ (by omega)]; have h_ := hG2; rw [List.take_of_length_le (show (ps.getD i.toNat ([] : List S35)).length ≤ j.toNat by omega)] at h_; exact h_
  ·
   have H332 := H39.subst_ (d := 21) (b := false) rfl hb41
   clear H39
   (try simp only [decide_eq_false_iff_not, Int.not_lt] at hb41)
   rw [List.take_of_length_le (by omega)] at hM hG
   refine wp_exit ?_
   refine gw_thx ?_
   refine gw_thx ?_
   refine gw_in ?_
   refine gw_nx (hK22 _ _ ?_)
   refine gw_seq fun K333 hK333 => ?_
   refine gR fun K334 hK334 => ?_
   refine V H332 (op_move rfl (H332.ev rfl)) ?_
   intro _ H336; clear H332
   refine V H336 (op_mlen Try.underlying43 rfl (H336.ev rfl) (O35.get 0 rfl)) ?_
   intro _ H338; clear H336
   refine V H338 (op_move rfl (H338.ev rfl)) ?_
   intro _ H340; clear H338
   refine V H340 (op_lss rfl (H340.ev rfl) (H340.ev rfl)) ?_
   intro _ H342; clear H340
   refine gE hK334 ?_
   refine gw_cond H342 rfl (fun hb343 => ?_) (fun hb343 => ?_)
   ·
    have H344 := H342.subst_ (d := 64) (b := true) rfl hb343
    clear H342
    (try simp only [decide_eq_true_eq] at hb343)
    have hsh := hM.short (lmap_rising (Go.Maps.int_keyed Try.underlying3) (O35.get 0 rfl)).1 hb343
    refine gR fun K345 hK345 => ?_
    refine V H344 (op_assign rfl (ev_c _ _)) ?_
    intro _ H347; clear H344
    refine V H347 (op_assign rfl (ev_c _ _)) ?_
    intro _ H349; clear H347
    refine gE hK345 ?_
    refine wp_ret ?_
    refine gw_thr ?_
    refine gw_ret2 H349 rfl rfl rfl ?_
    rw [mergeG_gap hG hsh]
    exact ⟨none, 0, _, rfl, ((O35.row_nil k35 35 w.heap.size).sel [0] (by decide)).out⟩
   ·
    have H350 := H342.subst_ (d := 64) (b := false) rfl hb343
    clear H342
    (try simp only [decide_eq_false_iff_not, Int.not_lt] at hb343)
    have hfu := hM.full hG (lmap_rising (Go.Maps.int_keyed Try.underlying3) (O35.get 0 rfl)).1 (by omega)
    refine wp_skip ?_
    refine gw_nx (hK333 _ _ ?_)
    refine gR fun K351 hK351 => ?_
    refine V H350 (op_assign rfl (ev_c _ _)) ?_
    intro _ H353; clear H350
    refine gE hK351 ?_
    refine gw_seq fun K354 hK354 => ?_
    refine gR fun K355 hK355 => ?_
    refine V H353 (op_move rfl (H353.ev rfl)) ?_
    intro _ H357; clear H353
    refine V H357 (op_move rfl (ev_c _ _)) ?_
    intro _ H359; clear H357
    refine gE hK355 ?_
    refine wp_block ?_
    have O360 := O35.row_nil k35 35 w.heap.size
    clear O35
    have O361 : Own w w33 [Chunk.row k35 35 w.heap.size (fun _ => False) (.slice none (([] : List S35).length) 0) ([] : List S35), Chunk.lmap Try.prog 3 g14 M] := O360
    clear O360
    refine gw_loop (fun m_ a_ w_ => ∃ (g : Int) (Ao : Option Addr) (co : Nat) (So : Nat → Prop), Fr 78 a_ [(66, J g), (13, .slice Ao ((groupsU g.toNat ps.flatten).length) co), (6, .map (some g14)), (65, J (mx n 0))] ∧ Own w w_ [Chunk.row k35 35 w.heap.size So (.slice Ao ((groupsU g.toNat ps.flatten).length) co) (groupsU g.toNat ps.flatten), Chunk.lmap Try.prog 3 g14 M] ∧ (0 ≤ g ∧ g ≤ mx n 0) ∧ m_ = ((mx n 0).toNat - g.toNat)) (((mx n 0).toNat - (0 : Int).toNat)) ?_ ?_
    ·
     refine ⟨0, none, 0, (fun _ => False), (H359.pick (t := 66) rfl (H359.pick (t := 13) rfl (H359.pick (t := 6) rfl (H359.pick (t := 65) rfl H359.nil)))), O361.sel [0, 1] (by decide), ?_, rfl⟩
     ·
      omega
    ·
     rintro m363 _ w365 ⟨g, Ao, co, So, H366, O367, hg, hm368⟩
     refine gR fun K369 hK369 => ?_
     refine V H366 (op_lss rfl (H366.ev rfl) (H366.ev rfl)) ?_
     intro _ H371; clear H366
     refine gE hK369 ?_
     refine gw_seq fun K372 hK372 => ?_
     refine gw_cond H371 rfl (fun hb373 => ?_) (fun hb373 => ?_)
     ·
      have H374 := H371.subst_ (d := 67) (b := true) rfl hb373
      clear H371
      (try simp only [decide_eq_true_eq] at hb373)
      obtain ⟨V_, x_, hf_, hxm, hxg, A5, c5, A6, c6, rfl, k1, k2, k3, k4⟩ := hM.get hfu (g := g) (by omega) (by omega)
      refine wp_skip ?_
      refine gw_nx (hK372 _ _ ?_)
      refine gw_seq fun K375 hK375 => ?_
      refine wp_block ?_
      refine gR fun K376 hK376 => ?_
      refine V H374 (op_move rfl (H374.ev rfl)) ?_
      intro _ H378; clear H374
      refine V H378 (op_assign rfl (H378.ev rfl)) ?_
      intro _ H380; clear H378
      refine gE hK376 ?_
      refine wp_region_lit ?_
      refine V H380 (op_move rfl (H380.ev rfl)) ?_
      intro _ H382; clear H380
      refine V H382 (op_move rfl (H382.ev rfl)) ?_
      intro _ H384; clear H382
      refine V H384 (op_move rfl (H384.ev rfl)) ?_
      intro _ H386; clear H384
      refine V H386 (op_ml_some (Go.Maps.int_keyed Try.underlying3) Try.underlying43 gwzer35 rfl (H386.ev rfl) (H386.ev rfl) (Go.Maps.keyOf_int_mk Try.underlying3 (wfI _ (by omega))) (O367.get 1 rfl) (hf_)) ?_
      intro _ H388; clear H386
      refine gw_call H388 (want_none rfl) rfl (by decide) (op_callL Try.func12 (by kernel_rfl) rfl rfl (ar_cons (H388.ev rfl) ar_nil)) (clone_walk x_ A5 c5 A6 c6 _ (Kd.C_below k2 O367.below) k1 (Kd.C_below k4 O367.below) k3 (okB_of (hf.2.2 _ hxm))) ?_
      rintro e393 w394 ⟨v389, v390, S391, rfl, hb395⟩
      refine ⟨_, rfl, fun _ H397 => ?_⟩
      have O398 := O367.fresh hb395
      have hbel399 := O367.below
      clear H388 O367 hb395
      have O400 := O398.ent_low 0 rfl (base' := w.heap.size) (Below.size hbel399)
      refine gw_news (O := .cells #[J x_.f0, v389, v390] 35 (0, 0)) (n := 1) H397 O400 (want_none rfl) rfl (by decide) (op_bslice (by kernel_rfl) rfl (pt_cons (H397.ev rfl) pt_nil)) ?_
      intro g401 _ w403 H404 O405; clear H397 O400
      have O406 : Own w w403 [Bk g401 [J x_.f0, v389, v390] 35, Chunk.ent w.heap.size S391 x_ v389 v390, Chunk.row k35 35 w.heap.size So (.slice Ao ((groupsU g.toNat ps.flatten).length) co) (groupsU g.toNat ps.flatten), Chunk.lmap Try.prog 3 g14 M] := O405
      clear O405
      have O407 : Own w _ [Chunk.row k35 35 w.heap.size So (.slice Ao ((groupsU g.toNat ps.flatten).length) co) (groupsU g.toNat ps.flatten), Chunk.ent w.heap.size S391 x_ v389 v390, Bk g401 [J x_.f0, v389, v390] 35, Chunk.lmap Try.prog 3 g14 M] := O406.sel [2, 1, 0, 3] (by decide)
      refine gw_append1 k35 0 (p := x_) (cs := [J x_.f0, v389, v390]) H404 O407 (want_none rfl) rfl (by decide) rfl Try.underlying25 gwinfo35 rfl (by decide) (by decide) rfl (H404.ev rfl) (H404.ev rfl) (fun w_ h_ => h_) O407.below.size (by rw [groups_len]; omega) ?_
      intro A408 c409 S410 _ w412 H413 O414; clear H404 O406 O407
      have O415 : Own w w412 [Chunk.row k35 35 w.heap.size S410 (.slice A408 (((groupsU g.toNat ps.flatten) ++ [x_]).length) c409) ((groupsU g.toNat ps.flatten) ++ [x_]), Bk g401 [J x_.f0, v389, v390] 35, Chunk.lmap Try.prog 3 g14 M] := O414
      clear O414
      refine V H413 (op_assign rfl (H413.ev rfl)) ?_
      intro _ H417; clear H413
      refine wpList_nil ?_
      refine gw_blk ?_
      refine gw_nx (hK375 _ _ ?_)
      refine wp_region_lit ?_
      refine V H417 (op_add rfl (H417.ev rfl) (ev_c _ _) (by omega)) ?_
      intro _ H419; clear H417
      refine V H419 (op_move rfl (H419.ev rfl)) ?_
      intro _ H421; clear H419
      refine wpList_nil ?_
      rw [show (groupsU g.toNat ps.flatten) ++ [x_] = groupsU (g + 1).toNat ps.flatten from by rw [show (g + 1).toNat = g.toNat + 1 by omega, groups_next, first_at hG hxm (by omega)]] at O415
      (try rw [show (groupsU g.toNat ps.flatten) ++ [x_] = groupsU (g + 1).toNat ps.flatten from by rw [show (g + 1).toNat = g.toNat + 1 by omega, groups_next, first_at hG hxm (by omega)]] at H421)
      refine gw_nx ⟨_, ?_, g + 1, A408, c409, S410, (H421.pick (t := 66) rfl (H421.pick (t := 13) rfl (H421.pick (t := 6) rfl (H421.pick (t := 65) rfl H421.nil)))), O415.sel [0, 2] (by decide), ?_, rfl⟩
      ·
       rw [hm368]; omega
      ·
       omega
     ·
      have H422 := H371.subst_ (d := 67) (b := false) rfl hb373
      clear H371
      (try simp only [decide_eq_false_iff_not, Int.not_lt] at hb373)
      refine wp_exit ?_
      refine gw_thx ?_
      refine gw_thx ?_
      refine gw_in ?_
      refine gw_nx (hK354 _ _ ?_)
      refine gR fun K423 hK423 => ?_
      refine V H422 (op_move rfl (H422.ev rfl)) ?_
      intro _ H425; clear H422
      refine V H425 (op_assign rfl (H425.ev rfl)) ?_
      intro _ H427; clear H425
      refine V H427 (op_assign rfl (ev_c _ _)) ?_
      intro _ H429; clear H427
      refine gE hK423 ?_
      refine wp_ret ?_
      refine gw_ret2 H429 rfl rfl rfl ?_
      rw [mergeG_all hG hfu, show n.toNat = g.toNat by omega]
      exact ⟨_, _, _, rfl, (O367.sel [0] (by decide)).out⟩
end GMerge_
export GMerge_ (Merge_walk)
end Go.Proofs.Ytmhgblhmkhoopaa.PA
end
section
namespace Go.Proofs.Ytmhgblhmkhoopaa.PA
open Go.RowKit Go.Proofs.YtmhgblhmkhoopaaW.PrintWords Go.Proofs.YtmhgblhmkhoopaaW.PrintLast Go.Proofs.YtmhgblhmkhoopaaW.PrintMore
set_option linter.unusedVariables false
set_option linter.unusedSimpArgs false
namespace GMergeI_
theorem Merge_is (n : Int) (A1 : Option Addr) (c1 : Nat) (ps : List (List EE)) (w : World) {RS : List EE × Int} (hRS : RS = mergeG n ps.flatten) (hr : Kd.C (Kd.slice 35 k35) w A1 ps.length ps) (hc : ps.length ≤ c1) (hf : fewP ps) (hn : n ≤ 2000) (hw : ∀ e ∈ ps.flatten, -9223372036854775808 ≤ e.f0 ∧ e.f0 ≤ 9223372036854775807) :
    Calls Try.prog 7 #[.int .i64 n, .slice A1 ps.length c1] w fun e w' => ∃ A c S_, e = .returned (.tuple #[.slice A RS.1.length c, .int .i64 RS.2]) ∧ Out w w' (fun _ => False) [Chunk.row k35 35 w.heap.size S_ (.slice A RS.1.length c) RS.1] := by
  subst hRS
  exact Merge_walk n A1 c1 ps w hr hc hf hn hw
end GMergeI_
export GMergeI_ (Merge_is)
end Go.Proofs.Ytmhgblhmkhoopaa.PA
end
section
namespace Go.Proofs.Ytmhgblhmkhoopaa.PA
open Go.RowKit Go.Proofs.YtmhgblhmkhoopaaW.PrintWords Go.Proofs.YtmhgblhmkhoopaaW.PrintLast Go.Proofs.YtmhgblhmkhoopaaW.PrintMore
attribute [local go_sem] max2_int min2_int max_two min_two max_three min_three max_four min_four   -- for this text's walks alone
set_option linter.unusedVariables false
set_option linter.unusedSimpArgs false
def colloquylaw22_entry.f (a0 : Int) : Option (Int × (List (S37)) × (List (List (S51)))) := some (a0, (([(⟨(⟨#[116]⟩ : ByteArray), 6⟩ : S37)] : List (S37))), (([[]] : List (List (S51)))))
set_option maxHeartbeats 8000000 in
set_option maxRecDepth 100000 in
theorem colloquylaw22_entry.calls (a0 : Int) (r1 : Int) (r2 : List (S37)) (r3 : List (List (S51))) (w : World) (h : colloquylaw22_entry.f a0 = some (r1, r2, r3)) :
    Calls Try.prog 11 #[.int .i64 a0] w fun e w' => ∃ v1_ v2_ : Value, e = .returned (.agg #[.int .i64 r1, v1_, v2_]) ∧ Kd.R k37 37 w' w.heap.size (fun _ => True) v1_ r2 ∧ Kd.S (Kd.slice 51 k51) 42 w' w.heap.size (fun _ => True) v2_ r3 ∧ Below w.heap.size w w' := by
  have hu35 := Try.underlying35
  have hu37 := Try.underlying37
  have HB := Aside0.mk (Below.refl w.heap.size w)
  have H : (some (a0, (([(⟨(⟨#[116]⟩ : ByteArray), 6⟩ : S37)] : List (S37))), (([[]] : List (List (S51)))))) = some (r1, r2, r3) := h
  clear h
  obtain ⟨y113, hy113⟩ : ∃ y_ : List (S37), y_ = (([(⟨(⟨#[116]⟩ : ByteArray), 6⟩ : S37)] : List (S37))) := ⟨_, rfl⟩
  replace H : (some (a0, y113, (([[]] : List (List (S51)))))) = some (r1, r2, r3) := by first | (rw [hy113]; with_reducible exact H) | (have H2_ := (Option.bind_some _ _).symm.trans H; rw [hy113]; with_reducible exact H2_) | (have H2_ := (Option.bind_some _ _).symm.trans H; with_reducible exact H2_) | with_reducible exact H | (rw [hy113]; exact H) | exact H
  have Ny113 := Aside0.mk hy113
  clear hy113
  obtain ⟨y116, hy116⟩ : ∃ y_ : List (List (S51)), y_ = (([[]] : List (List (S51)))) := ⟨_, rfl⟩
  replace H : (some (a0, y113, y116)) = some (r1, r2, r3) := by first | (rw [hy116]; with_reducible exact H) | (have H2_ := (Option.bind_some _ _).symm.trans H; rw [hy116]; with_reducible exact H2_) | (have H2_ := (Option.bind_some _ _).symm.trans H; with_reducible exact H2_) | with_reducible exact H | (rw [hy116]; exact H) | exact H
  have Ny116 := Aside0.mk hy116
  clear hy116
  simp only [Option.some.injEq, Prod.mk.injEq] at H
  obtain ⟨rfl, rfl, rfl⟩ := H
  go_enter Try.func11, Try.ntmps11
  go_wp2_with (first | ((with_reducible refine gate_dst (N := 2) rfl ?_); refine box_event ?hg (N := 2) ?hd (cs := #[.int .i64 0, .slice none 0 0, .slice none 0 0]) (t := 35) ?hr ?_; (case hd => rfl); (case hg => rfl); (case hr => first | (go_simp; done) | (go_simp; rfl)); intro gb112 hg w2 hbox hb; have n0_ := Aside0.mk (below_step (by repeat (first | (with_reducible first | exact HB.out | apply below_alloc | apply pw_below_drewN | apply below_drew1) | exact HB.out)) hb); have n1_ := Aside0.mk (hbox); have n2_ := Aside0.mk ((by rw [hg]; exact (below_size (by repeat (first | (with_reducible first | exact HB.out | apply below_alloc | apply pw_below_drewN | apply below_drew1) | exact HB.out))) : w.heap.size ≤ gb112)); have n3_ := Aside0.mk ((by rw [hg]; exact (below_size (by repeat (first | (with_reducible first | exact HB.out | apply below_alloc | apply pw_below_drewN | apply below_drew1) | exact HB.out))) : w.heap.size ≤ gb112)); clear HB; have HB := n0_; have BK112 := n1_; have GW112 := n2_; have GE112 := n3_; clear n0_ n1_ n2_ n3_; clear hb hbox hg) | ((with_reducible refine gate_dst (N := 5) rfl ?_); refine Kd.R_lit k37 _ 37 ?hg (N := 5) ?hd (xs := ([(⟨(⟨#[116]⟩ : ByteArray), 6⟩ : S37)] : List (S37))) (inner := [.string (⟨#[116]⟩ : ByteArray), .int .i64 6]) (ok := fun _ => True) (okp := fun _ => True) ?hr ?hp (fun _ hk => hk) trivial (Below.refl _ _) (Nat.le_refl _) (by simp) ?_; (case hd => rfl); (case hg => rfl); (case hr => first | (go_simp; done) | (go_simp; rfl)); (case hp => exact (Reps.c2 (show Kd.M k37 _ _ _ (⟨(⟨#[116]⟩ : ByteArray), 6⟩ : S37) [.string (⟨#[116]⟩ : ByteArray), .int .i64 6] from (k37_mkM _ _ _ (⟨(⟨#[116]⟩ : ByteArray), 6⟩ : S37) )) (Reps.none _ _))); intro v114 w3 ho4 hb hg_ hnew_; clear hg_ hnew_; (first | rw [← Ny113.out] at ho4 | (simp only [Int.reduceToNat] at ho4; rw [← Ny113.out] at ho4)); have n0_ := Aside0.mk (Kd.R_lower ho4 (below_size (by repeat (first | (with_reducible first | exact HB.out | apply below_alloc | apply pw_below_drewN | apply below_drew1 | refine below_set ?_ GE112.out) | exact HB.out)))); have n1_ := Aside0.mk (blk_below (g := gb112) (o := .cells #[.int .i64 0, .slice none 0 0, .slice none 0 0] 35 (0, 0)) (by (with_reducible repeat (first | refine blk_drewN ?_ _ | refine blk_drew ?_ | refine blk_alloc ?_ _)); exact BK112.out) hb); have n2_ := Aside0.mk (below_step (by repeat (first | (with_reducible first | exact HB.out | apply below_alloc | apply pw_below_drewN | apply below_drew1 | refine below_set ?_ GE112.out) | exact HB.out)) hb); clear BK112; clear HB; have HO115 := n0_; have BK112 := n1_; have HB := n2_; clear n0_ n1_ n2_; clear hb ho4) | ((with_reducible refine gate_dst (N := 6) rfl ?_); refine Kd.S_lit (Kd.slice 51 k51) _ 42 ?hg (N := 6) ?hd (xs := ([[]] : List (List (S51)))) (inner := [.slice none 0 0]) (ok := fun _ => True) (okp := fun _ => True) ?hr ?hp (fun _ hk => hk) trivial (Below.refl _ _) (Nat.le_refl _) (by simp) ?_; (case hd => rfl); (case hg => rfl); (case hr => first | (go_simp; done) | (go_simp; rfl)); (case hp => exact (Reps.one (show Kd.M (Kd.slice 51 k51) _ _ _ [] [.slice none 0 0] from ⟨_, rfl, Kd.R_nil _ _ _ _ _⟩) (Reps.none _ _))); intro v117 w5 ho6 hb hg_ hnew_; clear hg_ hnew_; (first | rw [← Ny116.out] at ho6 | (simp only [Int.reduceToNat] at ho6; rw [← Ny116.out] at ho6)); have n0_ := Aside0.mk (Kd.R_below (by (with_reducible repeat (first | apply Kd.R_alloc | apply Kd.R_drewN | apply Kd.R_drew)); exact HO115.out) hb); have n1_ := Aside0.mk (Kd.S_lower ho6 (below_size (by repeat (first | (with_reducible first | exact HB.out | apply below_alloc | apply pw_below_drewN | apply below_drew1 | refine below_set ?_ GE112.out) | exact HB.out)))); have n2_ := Aside0.mk (blk_below (g := gb112) (o := .cells #[.int .i64 0, .slice none 0 0, .slice none 0 0] 35 (0, 0)) (by (with_reducible repeat (first | refine blk_drewN ?_ _ | refine blk_drew ?_ | refine blk_alloc ?_ _)); exact BK112.out) hb); have n3_ := Aside0.mk (below_step (by repeat (first | (with_reducible first | exact HB.out | apply below_alloc | apply pw_below_drewN | apply below_drew1 | refine below_set ?_ GE112.out) | exact HB.out)) hb); clear HO115; clear BK112; clear HB; have HO115 := n0_; have HO118 := n1_; have BK112 := n2_; have HB := n3_; clear n0_ n1_ n2_ n3_; clear hb ho6; obtain ⟨Ao7, co7, eo7⟩ := Kd.S_slice HO118.out; subst eo7; obtain ⟨Ao8, co8, eo8⟩ := Kd.R_slice HO115.out; subst eo8; have hcz9_0 : w5.cell? ⟨gb112, 0, none⟩ = some (.int .i64 0) := (blk_cell BK112.out 0).trans rfl; have hcz9_1 : w5.cell? ⟨gb112, 1, none⟩ = some (.slice none 0 0) := (blk_cell BK112.out 1).trans rfl; have hcz9_2 : w5.cell? ⟨gb112, 2, none⟩ = some (.slice none 0 0) := (blk_cell BK112.out 2).trans rfl; have hfz9_0 := blk_frozen BK112.out 0; have hfz9_1 := blk_frozen BK112.out 1; have hfz9_2 := blk_frozen BK112.out 2))
  refine bodyPost_ret (results_cell_row rfl _ _ gb112 35 #[.int .i64 a0, .slice Ao8 y113.length co8, .slice Ao7 y116.length co7] (0, 0) _ rfl (by (with_reducible repeat (first | refine blk_drewN ?_ _ | refine blk_drew ?_ | refine blk_alloc ?_ _)); refine blk_put (cs := #[.int .i64 a0, .slice Ao8 y113.length co8, .slice none 0 0]) ?_ 2 _ rfl; (with_reducible repeat (first | refine blk_drewN ?_ _ | refine blk_drew ?_ | refine blk_alloc ?_ _)); refine blk_put (cs := #[.int .i64 a0, .slice none 0 0, .slice none 0 0]) ?_ 1 _ rfl; (with_reducible repeat (first | refine blk_drewN ?_ _ | refine blk_drew ?_ | refine blk_alloc ?_ _)); refine blk_put (cs := #[.int .i64 0, .slice none 0 0, .slice none 0 0]) ?_ 0 _ rfl; (with_reducible repeat (first | refine blk_drewN ?_ _ | refine blk_drew ?_ | refine blk_alloc ?_ _)); exact BK112.out) Try.underlying35 rfl (by kernel_rfl)) rfl ?_
  exact ⟨_, _, by first | rfl | (simp [errW_none, errW_some] <;> rfl) | (simp [*, errW_none, errW_some] <;> rfl), by (with_reducible repeat (first | apply Kd.R_alloc | apply Kd.R_drewN | apply Kd.R_drew)); exact Kd.R_mono (Kd.R_far (p := ⟨gb112, 2, none⟩) (Kd.R_far (p := ⟨gb112, 1, none⟩) (Kd.R_far (p := ⟨gb112, 0, none⟩) (Kd.R_types HO115.out BK112.out (by decide)) (fun _ hk => hk.2) (.int .i64 a0)) (fun _ hk => hk.2) (.slice Ao8 y113.length co8)) (fun _ hk => hk.2) (.slice Ao7 y116.length co7)) (fun _ hk => trivial), by (with_reducible repeat (first | apply Kd.S_alloc | apply Kd.S_drewN | apply Kd.S_drew)); exact Kd.S_mono (Kd.S_far (p := ⟨gb112, 2, none⟩) (Kd.S_far (p := ⟨gb112, 1, none⟩) (Kd.S_far (p := ⟨gb112, 0, none⟩) (Kd.S_types HO118.out BK112.out (by decide)) (fun _ hk => hk.2) (.int .i64 a0)) (fun _ hk => hk.2) (.slice Ao8 y113.length co8)) (fun _ hk => hk.2) (.slice Ao7 y116.length co7)) (fun _ hk => trivial), by repeat (first | (with_reducible first | exact HB.out | apply below_alloc | apply pw_below_drewN | apply below_drew1 | refine below_set ?_ GE112.out) | exact HB.out)⟩
end Go.Proofs.Ytmhgblhmkhoopaa.PA
end
section
namespace Go.Proofs.Ytmhgblhmkhoopaa.PA
open Go.RowKit Go.Maps Go.Proofs.YtmhgblhmkhoopaaW.PrintWords Go.Proofs.YtmhgblhmkhoopaaW.PrintLast Go.Proofs.YtmhgblhmkhoopaaW.PrintMore
set_option linter.unusedVariables false
set_option linter.unusedSimpArgs false
def entR : List RR := [⟨(⟨#[116]⟩ : ByteArray), 6⟩]
def entT : List (List VV) := [[]]
def entE (g : Int) : EE := ⟨g, entR, entT⟩
def Chunk.elv (S : Nat → Prop) (x : EE) (cs : List Value) : Chunk := ⟨S, fun w => Kd.FK kE w S x cs, fun h hm => Foot.step h fun k hk _ => hm k hk⟩
theorem entry_elv (g : Int) (w : World) : Calls Try.prog 11 #[.int .i64 g] w fun e w' => ∃ A1 c1 A2 c2 S, e = .returned (.agg #[.int .i64 g, .slice A1 1 c1, .slice A2 1 c2]) ∧ Out w w' (fun _ => False) [Chunk.elv S (entE g) [.int .i64 g, .slice A1 1 c1, .slice A2 1 c2]] := by
  refine (colloquylaw22_entry.calls g g entR entT w rfl).mono ?_
  rintro e w' ⟨v1, v2, rfl, h1, h2, hb⟩
  obtain ⟨A1, c1, rfl⟩ := Kd.R_slice h1
  have h2 := Kd.S_R h2
  obtain ⟨A2, c2, rfl⟩ := Kd.R_slice h2
  have hM : kE.M w' w.heap.size (fun k => w.heap.size ≤ k ∧ k < w'.heap.size) (entE g) [.int .i64 g, .slice A1 1 c1, .slice A2 1 c2] :=
    k35_mkM w' _ _ (entE g) (Kd.R_mono (Kd.R_bound h1) fun k hk => ⟨hk.2.1, hk.2.2.1⟩) (Kd.R_mono (Kd.R_bound h2) fun k hk => ⟨hk.2.1, hk.2.2.1⟩)
  exact ⟨A1, c1, A2, c2, _, rfl, Out.one (Out.of_below hb _) (c := Chunk.elv (fun k => w.heap.size ≤ k ∧ k < w'.heap.size) (entE g) [.int .i64 g, .slice A1 1 c1, .slice A2 1 c2]) (Kd.FK_of_M hM) fun k hk => ⟨.inr hk.1, hk.2⟩⟩
section
variable {w0 w : World} {L : List Chunk} {g T : Nat} {S1 S2 : Nat → Prop} {x y : EE} {a b c a' b' c' : Value}
theorem elv_1 {A1 A2 : Option Addr} {n1 n2 c1 c2 : Nat} (h : (Chunk.elv S1 x [a, .slice A1 n1 c1, .slice A2 n2 c2]).P w) : Kd.C k37 w A1 x.f1.length x.f1 ∧ x.f1.length ≤ c1 ∧ Kd.C (Kd.slice 51 k51) w A2 x.f2.length x.f2 ∧ x.f2.length ≤ c2 := by
  obtain ⟨B1, d1, B2, d2, he, l1, g1, l2, g2⟩ := k35_open (Kd.FK_now h)
  injection he with _ he
  injection he with h1 he
  injection he with h2 _
  injection h1 with q1 q2 q3
  injection h2 with q4 q5 q6
  subst q1 q3 q4 q6
  exact ⟨g1, l1, g2, l2⟩
theorem lit_e1 (h : Own w0 w (Chunk.blk g (.cells #[a, b, c] T (0, 0)) :: Chunk.elv S1 x [a, b, c] :: L)) : Own w0 w (Chunk.view kE (fun k => k = g ∨ S1 k) (some ⟨g, 0, none⟩) 1 1 [x] :: L) :=
  Own.lit_view (cs := [a, b, c]) h kE [x] (fun w h => reps_more (show Kd.FK kE w S1 x [a, b, c] from h) rfl reps_none) (by simp [maxLen])
theorem two_all {c1 c2 : Chunk} (h : Own w0 w (c1 :: c2 :: L)) : Own w0 w (Chunk.all [c1, c2] :: L) := Own.bundle (A := [_, _]) h
theorem all_1 {c1 c2 : Chunk} (h : (Chunk.all [c1, c2]).P w) : c1.P w := h.1 _ (List.mem_cons_self ..)
theorem all_2 {c1 c2 : Chunk} (h : (Chunk.all [c1, c2]).P w) : c2.P w := h.1 _ (List.mem_cons_of_mem _ (List.mem_cons_self ..))
theorem allS_1 {c1 c2 : Chunk} (k : Nat) (h : c1.S k) : (Chunk.all [c1, c2]).S k := ⟨_, List.mem_cons_self .., h⟩
theorem allS_2 {c1 c2 : Chunk} (k : Nat) (h : c2.S k) : (Chunk.all [c1, c2]).S k := ⟨_, List.mem_cons_of_mem _ (List.mem_cons_self ..), h⟩
theorem lit_e2 (h : Own w0 w (Chunk.blk g (.cells #[a, b, c, a', b', c'] T (0, 0)) :: Chunk.all [Chunk.elv S1 x [a, b, c], Chunk.elv S2 y [a', b', c']] :: L)) : Own w0 w (Chunk.view kE (fun k => k = g ∨ (Chunk.all [Chunk.elv S1 x [a, b, c], Chunk.elv S2 y [a', b', c']]).S k) (some ⟨g, 0, none⟩) 2 2 [x, y] :: L) :=
  Own.lit_view (cs := [a, b, c, a', b', c']) h kE [x, y] (fun w h => reps_more (show Kd.FK kE w _ x [a, b, c] from Foot.mono (all_1 h) (allS_1 (c1 := Chunk.elv S1 x [a, b, c]) (c2 := Chunk.elv S2 y [a', b', c']))) rfl (reps_more (show Kd.FK kE w _ y [a', b', c'] from Foot.mono (all_2 h) (allS_2 (c1 := Chunk.elv S1 x [a, b, c]) (c2 := Chunk.elv S2 y [a', b', c']))) rfl reps_none)) (by simp [maxLen])
theorem view_FK {A : Option Addr} {n m : Nat} {xs : List EE} {S : Nat → Prop} (h : (Chunk.view kE S A n m xs).P w) (hn : n = xs.length) : Kd.FK (Kd.slice 35 kE) w S xs [.slice A n m] := fun W' hW => by
  subst hn
  exact ⟨A, m, rfl, h.2.1, h.1 W' hW⟩
theorem lit_s2 {A1 A2 : Option Addr} {n1 n2 m1 m2 : Nat} {xs ys : List EE} (h : Own w0 w (Chunk.blk g (.cells #[.slice A1 n1 m1, .slice A2 n2 m2] T (0, 0)) :: Chunk.all [Chunk.view kE S1 A1 n1 m1 xs, Chunk.view kE S2 A2 n2 m2 ys] :: L)) (h1 : n1 = xs.length) (h2 : n2 = ys.length) : Own w0 w (Chunk.view (Kd.slice 35 kE) (fun k => k = g ∨ (Chunk.all [Chunk.view kE S1 A1 n1 m1 xs, Chunk.view kE S2 A2 n2 m2 ys]).S k) (some ⟨g, 0, none⟩) 2 2 [xs, ys] :: L) :=
  Own.lit_view (cs := [.slice A1 n1 m1, .slice A2 n2 m2]) h (Kd.slice 35 kE) [xs, ys] (fun w h => reps_more (show Kd.FK (Kd.slice 35 kE) w _ xs [.slice A1 n1 m1] from Foot.mono (view_FK (all_1 h) h1) (allS_1 (c1 := Chunk.view kE S1 A1 n1 m1 xs) (c2 := Chunk.view kE S2 A2 n2 m2 ys))) rfl (reps_more (show Kd.FK (Kd.slice 35 kE) w _ ys [.slice A2 n2 m2] from Foot.mono (view_FK (all_2 h) h2) (allS_2 (c1 := Chunk.view kE S1 A1 n1 m1 xs) (c2 := Chunk.view kE S2 A2 n2 m2 ys))) rfl reps_none)) (by simp [maxLen])
end
theorem al_okE (g : Int) : okE (entE g) := ⟨by show (1 : Nat) ≤ 2000; decide, by show (1 : Nat) ≤ 100; decide, fun t ht => by rw [List.mem_singleton.1 (show t ∈ [[]] from ht)]; decide⟩
theorem al_in {ps : List (List EE)} (h : ps.flatten = [entE 1, entE 0, entE 1] ∨ ps.flatten = [entE 1, entE 0]) : ∀ e ∈ ps.flatten, e = entE 0 ∨ e = entE 1 := by
  rcases h with h | h <;> rw [h] <;> intro e he <;> simp at he <;> rcases he with rfl | he <;> simp_all
theorem al_few {ps : List (List EE)} (hp : ps.length ≤ 100) (h : ps.flatten = [entE 1, entE 0, entE 1] ∨ ps.flatten = [entE 1, entE 0]) : fewP ps :=
  ⟨hp, by rcases h with h | h <;> rw [h] <;> decide, fun e he => by rcases al_in h e he with rfl | rfl <;> exact al_okE _⟩
theorem al_wf {ps : List (List EE)} (h : ps.flatten = [entE 1, entE 0, entE 1] ∨ ps.flatten = [entE 1, entE 0]) : ∀ e ∈ ps.flatten, -9223372036854775808 ≤ e.f0 ∧ e.f0 ≤ 9223372036854775807 := fun e he => by
  rcases al_in h e he with rfl | rfl <;> decide
theorem al_good (n : Int) (h : 2 ≤ n) (l : List EE) (hl : ∀ e ∈ l, e = entE 0 ∨ e = entE 1) : goodE n l := by
  refine ⟨fun e he => ?_, fun e he e' he' hh => ?_⟩
  · rcases hl e he with rfl | rfl
    · show 0 ≤ (0 : Int) ∧ 0 < n; omega
    · show 0 ≤ (1 : Int) ∧ 1 < n; omega
  · rcases hl e he with rfl | rfl <;> rcases hl e' he' with rfl | rfl
    · rfl
    · exact absurd (show (0 : Int) = 1 from hh) (by decide)
    · exact absurd (show (1 : Int) = 0 from hh) (by decide)
    · rfl
theorem al_ok {ps : List (List EE)} (h : ps.flatten = [entE 1, entE 0, entE 1]) : (([entE 0, entE 1], 0) : List EE × Int) = mergeG 2 ps.flatten := by
  have hi := al_in (.inl h)
  rw [h] at hi ⊢
  rw [mergeG_all (al_good 2 (by decide) _ hi)]
  · rfl
  · intro g h0 h1
    by_cases e : g = 0
    · exact ⟨entE 0, by simp, e.symm⟩
    · exact ⟨entE 1, by simp, by show (1 : Int) = g; omega⟩
theorem al_gap {ps : List (List EE)} (h : ps.flatten = [entE 1, entE 0]) : (([], 4) : List EE × Int) = mergeG 3 ps.flatten := by
  have hi := al_in (.inr h)
  rw [h] at hi ⊢
  rw [mergeG_gap (al_good 3 (by decide) _ hi)]
  refine gap_is (g := 2) (by decide) (by decide) fun e he => ?_
  rcases hi e he with rfl | rfl
  · show (0 : Int) ≠ 2; decide
  · show (1 : Int) ≠ 2; decide
theorem al_ne : eqA (entE 0) (entE 1) = false := eqA_no.2 fun h => absurd (congrArg (·.f0) h) (by show ¬ ((0 : Int) = 1); decide)
end Go.Proofs.Ytmhgblhmkhoopaa.PA
end
section
namespace Go.Proofs.Ytmhgblhmkhoopaa.PA
open Go.RowKit Go.Proofs.YtmhgblhmkhoopaaW.PrintWords Go.Proofs.YtmhgblhmkhoopaaW.PrintLast Go.Proofs.YtmhgblhmkhoopaaW.PrintMore
set_option linter.unusedVariables false
set_option linter.unusedSimpArgs false
namespace GAliveM_
theorem gwagg3 : ∀ w, (isAgg 3).run Try.prog w = .ok false w := fun _ => by kernel_rfl
theorem gwagg35 : ∀ w, (isAgg 35).run Try.prog w = .ok true w := fun _ => by kernel_rfl
theorem gwflda35_0 (ad : Addr) : ∀ w, (Instr.fieldAt 35 (.pointer (some ad)) 0).run Try.prog w = .ok (.pointer (some (ad.add 0))) w := fun _ => by kernel_rfl
theorem gwsiz35 : ∀ w, (sizeOf 35).run Try.prog w = .ok 3 w := fun _ => by kernel_rfl
set_option maxHeartbeats 4000000 in
set_option maxRecDepth 100000 in
theorem alive_walk (w : World) :
    Calls Try.prog 5 #[] w fun e w' => e = .returned (.bool true) ∧ Below w.heap.size w w' := by
 refine gw_start (N := 66) (vs := []) Try.func5 rfl rfl (by simp) fun a HF HO => ?_
 replace HO : Own w w [] := HO
 refine gR fun K1 hK1 => ?_
 refine V HF (op_assign rfl (ev_c _ _)) ?_
 intro _ H3; clear HF
 refine gE hK1 ?_
 refine gR fun K4 hK4 => ?_
 refine gw_call H3 (want_none rfl) rfl (by decide) (op_callL Try.func11 (by kernel_rfl) rfl rfl (ar_cons (ev_c _ _) ar_nil)) (entry_elv 1 _) ?_
 rintro e11 w12 ⟨A5, c6, A7, c8, S9, rfl, hb13⟩
 refine ⟨_, rfl, fun _ H15 => ?_⟩
 have O16 := HO.fresh hb13
 clear H3 HO hb13
 refine gw_news (O := .cells #[J 1, .slice A5 1 c6, .slice A7 1 c8] 35 (0, 0)) (n := 1) H15 O16 (want_none rfl) rfl (by decide) (op_bslice (by kernel_rfl) rfl (pt_cons (H15.ev rfl) pt_nil)) ?_
 intro g18 _ w20 H21 O22; clear H15 O16
 have O23 : Own w w20 [Bk g18 [J 1, .slice A5 1 c6, .slice A7 1 c8] 35, Chunk.elv S9 (entE 1) [J 1, .slice A5 1 c6, .slice A7 1 c8]] := O22
 clear O22
 have O25 := lit_e1 (by exact O23.sel [0, 1] (by decide))
 clear O23
 have O27 : Own w w20 [Chunk.view k35 (fun k_ => k_ = g18 ∨ S9 k_) (some ⟨g18, 0, none⟩) 1 1 ([(entE 1)])] := O25
 clear O25
 refine gw_call H21 (want_none rfl) rfl (by decide) (op_callL Try.func11 (by kernel_rfl) rfl rfl (ar_cons (ev_c _ _) ar_nil)) (entry_elv 0 _) ?_
 rintro e34 w35 ⟨A28, c29, A30, c31, S32, rfl, hb36⟩
 refine ⟨_, rfl, fun _ H38 => ?_⟩
 have O39 := O27.fresh hb36
 clear H21 O27 hb36
 refine gw_call H38 (want_none rfl) rfl (by decide) (op_callL Try.func11 (by kernel_rfl) rfl rfl (ar_cons (ev_c _ _) ar_nil)) (entry_elv 1 _) ?_
 rintro e47 w48 ⟨A41, c42, A43, c44, S45, rfl, hb49⟩
 refine ⟨_, rfl, fun _ H51 => ?_⟩
 have O52 := O39.fresh hb49
 clear H38 O39 hb49
 refine gw_news (O := .cells #[J 0, .slice A28 1 c29, .slice A30 1 c31, J 1, .slice A41 1 c42, .slice A43 1 c44] 35 (0, 0)) (n := 2) H51 O52 (want_none rfl) rfl (by decide) (op_bslice (by kernel_rfl) rfl (pt_cons (H51.ev rfl) (pt_cons (H51.ev rfl) pt_nil))) ?_
 intro g54 _ w56 H57 O58; clear H51 O52
 have O59 : Own w w56 [Bk g54 [J 0, .slice A28 1 c29, .slice A30 1 c31, J 1, .slice A41 1 c42, .slice A43 1 c44] 35, Chunk.elv S45 (entE 1) [J 1, .slice A41 1 c42, .slice A43 1 c44], Chunk.elv S32 (entE 0) [J 0, .slice A28 1 c29, .slice A30 1 c31], Chunk.view k35 (fun k_ => k_ = g18 ∨ S9 k_) (some ⟨g18, 0, none⟩) 1 1 ([(entE 1)])] := O58
 clear O58
 have O60 : Own w w56 [Chunk.all [Chunk.elv S32 (entE 0) [J 0, .slice A28 1 c29, .slice A30 1 c31], Chunk.elv S45 (entE 1) [J 1, .slice A41 1 c42, .slice A43 1 c44]], Bk g54 [J 0, .slice A28 1 c29, .slice A30 1 c31, J 1, .slice A41 1 c42, .slice A43 1 c44] 35, Chunk.view k35 (fun k_ => k_ = g18 ∨ S9 k_) (some ⟨g18, 0, none⟩) 1 1 ([(entE 1)])] := two_all (by exact O59.sel [2, 1, 0, 3] (by decide))
 have O61 := lit_e2 (by exact O60.sel [1, 0, 2] (by decide))
 clear O60
 clear O59
 have O63 : Own w w56 [Chunk.view k35 (fun k_ => k_ = g54 ∨ (Chunk.all [Chunk.elv S32 (entE 0) [J 0, .slice A28 1 c29, .slice A30 1 c31], Chunk.elv S45 (entE 1) [J 1, .slice A41 1 c42, .slice A43 1 c44]]).S k_) (some ⟨g54, 0, none⟩) 2 2 ([(entE 0), (entE 1)]), Chunk.view k35 (fun k_ => k_ = g18 ∨ S9 k_) (some ⟨g18, 0, none⟩) 1 1 ([(entE 1)])] := O61
 clear O61
 refine gw_news (O := .cells #[.slice (some ⟨g18, 0, none⟩) 1 1, .slice (some ⟨g54, 0, none⟩) 2 2] 25 (0, 0)) (n := 2) H57 O63 (want_none rfl) rfl (by decide) (op_bslice (by kernel_rfl) rfl (pt_cons (H57.ev rfl) (pt_cons (H57.ev rfl) pt_nil))) ?_
 intro g64 _ w66 H67 O68; clear H57 O63
 have O69 : Own w w66 [Bk g64 [.slice (some ⟨g18, 0, none⟩) 1 1, .slice (some ⟨g54, 0, none⟩) 2 2] 25, Chunk.view k35 (fun k_ => k_ = g54 ∨ (Chunk.all [Chunk.elv S32 (entE 0) [J 0, .slice A28 1 c29, .slice A30 1 c31], Chunk.elv S45 (entE 1) [J 1, .slice A41 1 c42, .slice A43 1 c44]]).S k_) (some ⟨g54, 0, none⟩) 2 2 ([(entE 0), (entE 1)]), Chunk.view k35 (fun k_ => k_ = g18 ∨ S9 k_) (some ⟨g18, 0, none⟩) 1 1 ([(entE 1)])] := O68
 clear O68
 have O70 : Own w w66 [Chunk.all [Chunk.view k35 (fun k_ => k_ = g18 ∨ S9 k_) (some ⟨g18, 0, none⟩) 1 1 ([(entE 1)]), Chunk.view k35 (fun k_ => k_ = g54 ∨ (Chunk.all [Chunk.elv S32 (entE 0) [J 0, .slice A28 1 c29, .slice A30 1 c31], Chunk.elv S45 (entE 1) [J 1, .slice A41 1 c42, .slice A43 1 c44]]).S k_) (some ⟨g54, 0, none⟩) 2 2 ([(entE 0), (entE 1)])], Bk g64 [.slice (some ⟨g18, 0, none⟩) 1 1, .slice (some ⟨g54, 0, none⟩) 2 2] 25] := two_all (by exact O69.sel [2, 1, 0] (by decide))
 have O71 := lit_s2 (by exact O70.sel [1, 0] (by decide)) (by rfl) (by rfl)
 clear O70
 clear O69
 have O73 : Own w w66 [Chunk.view (Kd.slice 35 k35) (fun k_ => k_ = g64 ∨ (Chunk.all [Chunk.view k35 (fun k_ => k_ = g18 ∨ S9 k_) (some ⟨g18, 0, none⟩) 1 1 ([(entE 1)]), Chunk.view k35 (fun k_ => k_ = g54 ∨ (Chunk.all [Chunk.elv S32 (entE 0) [J 0, .slice A28 1 c29, .slice A30 1 c31], Chunk.elv S45 (entE 1) [J 1, .slice A41 1 c42, .slice A43 1 c44]]).S k_) (some ⟨g54, 0, none⟩) 2 2 ([(entE 0), (entE 1)])]).S k_) (some ⟨g64, 0, none⟩) 2 2 ([[(entE 1)], [(entE 0), (entE 1)]])] := O71
 clear O71
 refine gw_call H67 (want_none rfl) rfl (by decide) (op_callL Try.func7 (by kernel_rfl) rfl rfl (ar_cons (ev_c _ _) (ar_cons (H67.ev rfl) ar_nil))) (Merge_is 2 (some ⟨g64, 0, none⟩) 2 ([[(entE 1)], [(entE 0), (entE 1)]]) _ (al_ok rfl) (view_C (O73.get 0 rfl)) (view_le (O73.get 0 rfl)) (al_few (by decide) (.inl rfl)) (by decide) (al_wf (.inl rfl))) ?_
 rintro e77 w78 ⟨A74, c75, S76, rfl, hb79⟩
 refine ⟨_, rfl, fun _ H81 => ?_⟩
 have O82 := O73.fresh hb79
 have hbel83 := O73.below
 clear H67 O73 hb79
 have O84 := O82.lowrow 0 rfl (base' := w.heap.size) (Below.size hbel83)
 refine V H81 (op_move rfl (H81.ev rfl)) ?_
 intro _ H86; clear H81
 refine V H86 (op_extract rfl (H86.ev rfl) rfl) ?_
 intro _ H88; clear H86
 refine V H88 (op_extract rfl (H88.ev rfl) rfl) ?_
 intro _ H90; clear H88
 refine V H90 (op_assign rfl (H90.ev rfl)) ?_
 intro _ H92; clear H90
 have O93 := O84.row_view 0 rfl
 clear O84
 have O94 : Own w w78 [Chunk.view k35 S76 A74 (([entE 0, entE 1] : List EE).length) c75 ([entE 0, entE 1] : List EE), Chunk.view (Kd.slice 35 k35) (fun k_ => k_ = g64 ∨ (Chunk.all [Chunk.view k35 (fun k_ => k_ = g18 ∨ S9 k_) (some ⟨g18, 0, none⟩) 1 1 ([(entE 1)]), Chunk.view k35 (fun k_ => k_ = g54 ∨ (Chunk.all [Chunk.elv S32 (entE 0) [J 0, .slice A28 1 c29, .slice A30 1 c31], Chunk.elv S45 (entE 1) [J 1, .slice A41 1 c42, .slice A43 1 c44]]).S k_) (some ⟨g54, 0, none⟩) 2 2 ([(entE 0), (entE 1)])]).S k_) (some ⟨g64, 0, none⟩) 2 2 ([[(entE 1)], [(entE 0), (entE 1)]])] := O93
 clear O93
 refine V H92 (op_assign rfl (H92.ev rfl)) ?_
 intro _ H96; clear H92
 refine gE hK4 ?_
 refine gR fun K97 hK97 => ?_
 refine gw_call H96 (want_none rfl) rfl (by decide) (op_callL Try.func11 (by kernel_rfl) rfl rfl (ar_cons (ev_c _ _) ar_nil)) (entry_elv 1 _) ?_
 rintro e104 w105 ⟨A98, c99, A100, c101, S102, rfl, hb106⟩
 refine ⟨_, rfl, fun _ H108 => ?_⟩
 have O109 := O94.fresh hb106
 clear H96 O94 hb106
 refine gw_news (O := .cells #[J 1, .slice A98 1 c99, .slice A100 1 c101] 35 (0, 0)) (n := 1) H108 O109 (want_none rfl) rfl (by decide) (op_bslice (by kernel_rfl) rfl (pt_cons (H108.ev rfl) pt_nil)) ?_
 intro g111 _ w113 H114 O115; clear H108 O109
 have O116 : Own w w113 [Bk g111 [J 1, .slice A98 1 c99, .slice A100 1 c101] 35, Chunk.elv S102 (entE 1) [J 1, .slice A98 1 c99, .slice A100 1 c101], Chunk.view k35 S76 A74 (([entE 0, entE 1] : List EE).length) c75 ([entE 0, entE 1] : List EE), Chunk.view (Kd.slice 35 k35) (fun k_ => k_ = g64 ∨ (Chunk.all [Chunk.view k35 (fun k_ => k_ = g18 ∨ S9 k_) (some ⟨g18, 0, none⟩) 1 1 ([(entE 1)]), Chunk.view k35 (fun k_ => k_ = g54 ∨ (Chunk.all [Chunk.elv S32 (entE 0) [J 0, .slice A28 1 c29, .slice A30 1 c31], Chunk.elv S45 (entE 1) [J 1, .slice A41 1 c42, .slice A43 1 c44]]).S k_) (some ⟨g54, 0, none⟩) 2 2 ([(entE 0), (entE 1)])]).S k_) (some ⟨g64, 0, none⟩) 2 2 ([[(entE 1)], [(entE 0), (entE 1)]])] := O115
 clear O115
 have O118 := lit_e1 (by exact O116.sel [0, 1, 2, 3] (by decide))
 clear O116
 have O120 : Own w w113 [Chunk.view k35 (fun k_ => k_ = g111 ∨ S102 k_) (some ⟨g111, 0, none⟩) 1 1 ([(entE 1)]), Chunk.view k35 S76 A74 (([entE 0, entE 1] : List EE).length) c75 ([entE 0, entE 1] : List EE), Chunk.view (Kd.slice 35 k35) (fun k_ => k_ = g64 ∨ (Chunk.all [Chunk.view k35 (fun k_ => k_ = g18 ∨ S9 k_) (some ⟨g18, 0, none⟩) 1 1 ([(entE 1)]), Chunk.view k35 (fun k_ => k_ = g54 ∨ (Chunk.all [Chunk.elv S32 (entE 0) [J 0, .slice A28 1 c29, .slice A30 1 c31], Chunk.elv S45 (entE 1) [J 1, .slice A41 1 c42, .slice A43 1 c44]]).S k_) (some ⟨g54, 0, none⟩) 2 2 ([(entE 0), (entE 1)])]).S k_) (some ⟨g64, 0, none⟩) 2 2 ([[(entE 1)], [(entE 0), (entE 1)]])] := O118
 clear O118
 refine gw_call H114 (want_none rfl) rfl (by decide) (op_callL Try.func11 (by kernel_rfl) rfl rfl (ar_cons (ev_c _ _) ar_nil)) (entry_elv 0 _) ?_
 rintro e127 w128 ⟨A121, c122, A123, c124, S125, rfl, hb129⟩
 refine ⟨_, rfl, fun _ H131 => ?_⟩
 have O132 := O120.fresh hb129
 clear H114 O120 hb129
 refine gw_news (O := .cells #[J 0, .slice A121 1 c122, .slice A123 1 c124] 35 (0, 0)) (n := 1) H131 O132 (want_none rfl) rfl (by decide) (op_bslice (by kernel_rfl) rfl (pt_cons (H131.ev rfl) pt_nil)) ?_
 intro g134 _ w136 H137 O138; clear H131 O132
 have O139 : Own w w136 [Bk g134 [J 0, .slice A121 1 c122, .slice A123 1 c124] 35, Chunk.elv S125 (entE 0) [J 0, .slice A121 1 c122, .slice A123 1 c124], Chunk.view k35 (fun k_ => k_ = g111 ∨ S102 k_) (some ⟨g111, 0, none⟩) 1 1 ([(entE 1)]), Chunk.view k35 S76 A74 (([entE 0, entE 1] : List EE).length) c75 ([entE 0, entE 1] : List EE), Chunk.view (Kd.slice 35 k35) (fun k_ => k_ = g64 ∨ (Chunk.all [Chunk.view k35 (fun k_ => k_ = g18 ∨ S9 k_) (some ⟨g18, 0, none⟩) 1 1 ([(entE 1)]), Chunk.view k35 (fun k_ => k_ = g54 ∨ (Chunk.all [Chunk.elv S32 (entE 0) [J 0, .slice A28 1 c29, .slice A30 1 c31], Chunk.elv S45 (entE 1) [J 1, .slice A41 1 c42, .slice A43 1 c44]]).S k_) (some ⟨g54, 0, none⟩) 2 2 ([(entE 0), (entE 1)])]).S k_) (some ⟨g64, 0, none⟩) 2 2 ([[(entE 1)], [(entE 0), (entE 1)]])] := O138
 clear O138
 have O141 := lit_e1 (by exact O139.sel [0, 1, 2, 3, 4] (by decide))
 clear O139
 have O143 : Own w w136 [Chunk.view k35 (fun k_ => k_ = g134 ∨ S125 k_) (some ⟨g134, 0, none⟩) 1 1 ([(entE 0)]), Chunk.view k35 (fun k_ => k_ = g111 ∨ S102 k_) (some ⟨g111, 0, none⟩) 1 1 ([(entE 1)]), Chunk.view k35 S76 A74 (([entE 0, entE 1] : List EE).length) c75 ([entE 0, entE 1] : List EE), Chunk.view (Kd.slice 35 k35) (fun k_ => k_ = g64 ∨ (Chunk.all [Chunk.view k35 (fun k_ => k_ = g18 ∨ S9 k_) (some ⟨g18, 0, none⟩) 1 1 ([(entE 1)]), Chunk.view k35 (fun k_ => k_ = g54 ∨ (Chunk.all [Chunk.elv S32 (entE 0) [J 0, .slice A28 1 c29, .slice A30 1 c31], Chunk.elv S45 (entE 1) [J 1, .slice A41 1 c42, .slice A43 1 c44]]).S k_) (some ⟨g54, 0, none⟩) 2 2 ([(entE 0), (entE 1)])]).S k_) (some ⟨g64, 0, none⟩) 2 2 ([[(entE 1)], [(entE 0), (entE 1)]])] := O141
 clear O141
 refine gw_news (O := .cells #[.slice (some ⟨g111, 0, none⟩) 1 1, .slice (some ⟨g134, 0, none⟩) 1 1] 25 (0, 0)) (n := 2) H137 O143 (want_none rfl) rfl (by decide) (op_bslice (by kernel_rfl) rfl (pt_cons (H137.ev rfl) (pt_cons (H137.ev rfl) pt_nil))) ?_
 intro g144 _ w146 H147 O148; clear H137 O143
 have O149 : Own w w146 [Bk g144 [.slice (some ⟨g111, 0, none⟩) 1 1, .slice (some ⟨g134, 0, none⟩) 1 1] 25, Chunk.view k35 (fun k_ => k_ = g134 ∨ S125 k_) (some ⟨g134, 0, none⟩) 1 1 ([(entE 0)]), Chunk.view k35 (fun k_ => k_ = g111 ∨ S102 k_) (some ⟨g111, 0, none⟩) 1 1 ([(entE 1)]), Chunk.view k35 S76 A74 (([entE 0, entE 1] : List EE).length) c75 ([entE 0, entE 1] : List EE), Chunk.view (Kd.slice 35 k35) (fun k_ => k_ = g64 ∨ (Chunk.all [Chunk.view k35 (fun k_ => k_ = g18 ∨ S9 k_) (some ⟨g18, 0, none⟩) 1 1 ([(entE 1)]), Chunk.view k35 (fun k_ => k_ = g54 ∨ (Chunk.all [Chunk.elv S32 (entE 0) [J 0, .slice A28 1 c29, .slice A30 1 c31], Chunk.elv S45 (entE 1) [J 1, .slice A41 1 c42, .slice A43 1 c44]]).S k_) (some ⟨g54, 0, none⟩) 2 2 ([(entE 0), (entE 1)])]).S k_) (some ⟨g64, 0, none⟩) 2 2 ([[(entE 1)], [(entE 0), (entE 1)]])] := O148
 clear O148
 have O150 : Own w w146 [Chunk.all [Chunk.view k35 (fun k_ => k_ = g111 ∨ S102 k_) (some ⟨g111, 0, none⟩) 1 1 ([(entE 1)]), Chunk.view k35 (fun k_ => k_ = g134 ∨ S125 k_) (some ⟨g134, 0, none⟩) 1 1 ([(entE 0)])], Bk g144 [.slice (some ⟨g111, 0, none⟩) 1 1, .slice (some ⟨g134, 0, none⟩) 1 1] 25, Chunk.view k35 S76 A74 (([entE 0, entE 1] : List EE).length) c75 ([entE 0, entE 1] : List EE), Chunk.view (Kd.slice 35 k35) (fun k_ => k_ = g64 ∨ (Chunk.all [Chunk.view k35 (fun k_ => k_ = g18 ∨ S9 k_) (some ⟨g18, 0, none⟩) 1 1 ([(entE 1)]), Chunk.view k35 (fun k_ => k_ = g54 ∨ (Chunk.all [Chunk.elv S32 (entE 0) [J 0, .slice A28 1 c29, .slice A30 1 c31], Chunk.elv S45 (entE 1) [J 1, .slice A41 1 c42, .slice A43 1 c44]]).S k_) (some ⟨g54, 0, none⟩) 2 2 ([(entE 0), (entE 1)])]).S k_) (some ⟨g64, 0, none⟩) 2 2 ([[(entE 1)], [(entE 0), (entE 1)]])] := two_all (by exact O149.sel [2, 1, 0, 3, 4] (by decide))
 have O151 := lit_s2 (by exact O150.sel [1, 0, 2, 3] (by decide)) (by rfl) (by rfl)
 clear O150
 clear O149
 have O153 : Own w w146 [Chunk.view (Kd.slice 35 k35) (fun k_ => k_ = g144 ∨ (Chunk.all [Chunk.view k35 (fun k_ => k_ = g111 ∨ S102 k_) (some ⟨g111, 0, none⟩) 1 1 ([(entE 1)]), Chunk.view k35 (fun k_ => k_ = g134 ∨ S125 k_) (some ⟨g134, 0, none⟩) 1 1 ([(entE 0)])]).S k_) (some ⟨g144, 0, none⟩) 2 2 ([[(entE 1)], [(entE 0)]]), Chunk.view k35 S76 A74 (([entE 0, entE 1] : List EE).length) c75 ([entE 0, entE 1] : List EE), Chunk.view (Kd.slice 35 k35) (fun k_ => k_ = g64 ∨ (Chunk.all [Chunk.view k35 (fun k_ => k_ = g18 ∨ S9 k_) (some ⟨g18, 0, none⟩) 1 1 ([(entE 1)]), Chunk.view k35 (fun k_ => k_ = g54 ∨ (Chunk.all [Chunk.elv S32 (entE 0) [J 0, .slice A28 1 c29, .slice A30 1 c31], Chunk.elv S45 (entE 1) [J 1, .slice A41 1 c42, .slice A43 1 c44]]).S k_) (some ⟨g54, 0, none⟩) 2 2 ([(entE 0), (entE 1)])]).S k_) (some ⟨g64, 0, none⟩) 2 2 ([[(entE 1)], [(entE 0), (entE 1)]])] := O151
 clear O151
 refine gw_call H147 (want_none rfl) rfl (by decide) (op_callL Try.func7 (by kernel_rfl) rfl rfl (ar_cons (ev_c _ _) (ar_cons (H147.ev rfl) ar_nil))) (Merge_is 3 (some ⟨g144, 0, none⟩) 2 ([[(entE 1)], [(entE 0)]]) _ (al_gap rfl) (view_C (O153.get 0 rfl)) (view_le (O153.get 0 rfl)) (al_few (by decide) (.inr rfl)) (by decide) (al_wf (.inr rfl))) ?_
 rintro e157 w158 ⟨A154, c155, S156, rfl, hb159⟩
 refine ⟨_, rfl, fun _ H161 => ?_⟩
 have O162 := O153.fresh hb159
 have hbel163 := O153.below
 clear H147 O153 hb159
 have O164 := O162.lowrow 0 rfl (base' := w.heap.size) (Below.size hbel163)
 refine V H161 (op_move rfl (H161.ev rfl)) ?_
 intro _ H166; clear H161
 refine V H166 (op_extract rfl (H166.ev rfl) rfl) ?_
 intro _ H168; clear H166
 refine V H168 (op_extract rfl (H168.ev rfl) rfl) ?_
 intro _ H170; clear H168
 refine V H170 (op_assign rfl (H170.ev rfl)) ?_
 intro _ H172; clear H170
 refine V H172 (op_assign rfl (H172.ev rfl)) ?_
 intro _ H174; clear H172
 refine gE hK97 ?_
 refine gw_seq fun K175 hK175 => ?_
 have O176 := O164.pin 1 rfl
 clear O164
 have O177 : Own w w158 [Chunk.row k35 35 w.heap.size S156 (.slice A154 (([] : List EE).length) c155) ([] : List EE), Chunk.viewAt w158 (Kd.slice 35 k35) (fun k_ => k_ = g144 ∨ (Chunk.all [Chunk.view k35 (fun k_ => k_ = g111 ∨ S102 k_) (some ⟨g111, 0, none⟩) 1 1 ([(entE 1)]), Chunk.view k35 (fun k_ => k_ = g134 ∨ S125 k_) (some ⟨g134, 0, none⟩) 1 1 ([(entE 0)])]).S k_) (some ⟨g144, 0, none⟩) 2 2 ([[(entE 1)], [(entE 0)]]), Chunk.view k35 S76 A74 (([entE 0, entE 1] : List EE).length) c75 ([entE 0, entE 1] : List EE), Chunk.view (Kd.slice 35 k35) (fun k_ => k_ = g64 ∨ (Chunk.all [Chunk.view k35 (fun k_ => k_ = g18 ∨ S9 k_) (some ⟨g18, 0, none⟩) 1 1 ([(entE 1)]), Chunk.view k35 (fun k_ => k_ = g54 ∨ (Chunk.all [Chunk.elv S32 (entE 0) [J 0, .slice A28 1 c29, .slice A30 1 c31], Chunk.elv S45 (entE 1) [J 1, .slice A41 1 c42, .slice A43 1 c44]]).S k_) (some ⟨g54, 0, none⟩) 2 2 ([(entE 0), (entE 1)])]).S k_) (some ⟨g64, 0, none⟩) 2 2 ([[(entE 1)], [(entE 0), (entE 1)]])] := O176
 clear O176
 have O178 := O177.pin 2 rfl
 clear O177
 have O179 : Own w w158 [Chunk.row k35 35 w.heap.size S156 (.slice A154 (([] : List EE).length) c155) ([] : List EE), Chunk.viewAt w158 (Kd.slice 35 k35) (fun k_ => k_ = g144 ∨ (Chunk.all [Chunk.view k35 (fun k_ => k_ = g111 ∨ S102 k_) (some ⟨g111, 0, none⟩) 1 1 ([(entE 1)]), Chunk.view k35 (fun k_ => k_ = g134 ∨ S125 k_) (some ⟨g134, 0, none⟩) 1 1 ([(entE 0)])]).S k_) (some ⟨g144, 0, none⟩) 2 2 ([[(entE 1)], [(entE 0)]]), Chunk.viewAt w158 k35 S76 A74 (([entE 0, entE 1] : List EE).length) c75 ([entE 0, entE 1] : List EE), Chunk.view (Kd.slice 35 k35) (fun k_ => k_ = g64 ∨ (Chunk.all [Chunk.view k35 (fun k_ => k_ = g18 ∨ S9 k_) (some ⟨g18, 0, none⟩) 1 1 ([(entE 1)]), Chunk.view k35 (fun k_ => k_ = g54 ∨ (Chunk.all [Chunk.elv S32 (entE 0) [J 0, .slice A28 1 c29, .slice A30 1 c31], Chunk.elv S45 (entE 1) [J 1, .slice A41 1 c42, .slice A43 1 c44]]).S k_) (some ⟨g54, 0, none⟩) 2 2 ([(entE 0), (entE 1)])]).S k_) (some ⟨g64, 0, none⟩) 2 2 ([[(entE 1)], [(entE 0), (entE 1)]])] := O178
 clear O178
 have O180 := O179.pin 3 rfl
 clear O179
 have O181 : Own w w158 [Chunk.row k35 35 w.heap.size S156 (.slice A154 (([] : List EE).length) c155) ([] : List EE), Chunk.viewAt w158 (Kd.slice 35 k35) (fun k_ => k_ = g144 ∨ (Chunk.all [Chunk.view k35 (fun k_ => k_ = g111 ∨ S102 k_) (some ⟨g111, 0, none⟩) 1 1 ([(entE 1)]), Chunk.view k35 (fun k_ => k_ = g134 ∨ S125 k_) (some ⟨g134, 0, none⟩) 1 1 ([(entE 0)])]).S k_) (some ⟨g144, 0, none⟩) 2 2 ([[(entE 1)], [(entE 0)]]), Chunk.viewAt w158 k35 S76 A74 (([entE 0, entE 1] : List EE).length) c75 ([entE 0, entE 1] : List EE), Chunk.viewAt w158 (Kd.slice 35 k35) (fun k_ => k_ = g64 ∨ (Chunk.all [Chunk.view k35 (fun k_ => k_ = g18 ∨ S9 k_) (some ⟨g18, 0, none⟩) 1 1 ([(entE 1)]), Chunk.view k35 (fun k_ => k_ = g54 ∨ (Chunk.all [Chunk.elv S32 (entE 0) [J 0, .slice A28 1 c29, .slice A30 1 c31], Chunk.elv S45 (entE 1) [J 1, .slice A41 1 c42, .slice A43 1 c44]]).S k_) (some ⟨g54, 0, none⟩) 2 2 ([(entE 0), (entE 1)])]).S k_) (some ⟨g64, 0, none⟩) 2 2 ([[(entE 1)], [(entE 0), (entE 1)]])] := O180
 clear O180
 refine gx_draw (M := [Chunk.row k35 35 w.heap.size S156 (.slice A154 (([] : List EE).length) c155) ([] : List EE), Chunk.viewAt w158 (Kd.slice 35 k35) (fun k_ => k_ = g144 ∨ (Chunk.all [Chunk.view k35 (fun k_ => k_ = g111 ∨ S102 k_) (some ⟨g111, 0, none⟩) 1 1 ([(entE 1)]), Chunk.view k35 (fun k_ => k_ = g134 ∨ S125 k_) (some ⟨g134, 0, none⟩) 1 1 ([(entE 0)])]).S k_) (some ⟨g144, 0, none⟩) 2 2 ([[(entE 1)], [(entE 0)]]), Chunk.viewAt w158 k35 S76 A74 (([entE 0, entE 1] : List EE).length) c75 ([entE 0, entE 1] : List EE), Chunk.viewAt w158 (Kd.slice 35 k35) (fun k_ => k_ = g64 ∨ (Chunk.all [Chunk.view k35 (fun k_ => k_ = g18 ∨ S9 k_) (some ⟨g18, 0, none⟩) 1 1 ([(entE 1)]), Chunk.view k35 (fun k_ => k_ = g54 ∨ (Chunk.all [Chunk.elv S32 (entE 0) [J 0, .slice A28 1 c29, .slice A30 1 c31], Chunk.elv S45 (entE 1) [J 1, .slice A41 1 c42, .slice A43 1 c44]]).S k_) (some ⟨g54, 0, none⟩) 2 2 ([(entE 0), (entE 1)])]).S k_) (some ⟨g64, 0, none⟩) 2 2 ([[(entE 1)], [(entE 0), (entE 1)]])]) (fun j_ => false) O181 (by kernel_rfl) fun w182 O183 => ?_
 clear O181
 refine gx_take 0 rfl (by kernel_rfl) H174 (by exact O183.sel [0, 1, 2, 3] (by decide)) (want_none rfl) rfl (by decide) (fun wq HO => (op_move rfl (H174.ev rfl))) ?_
 intro _ H185; clear H174
 refine gx_take 1 rfl (by kernel_rfl) H185 (by exact O183.sel [0, 1, 2, 3] (by decide)) (want_none rfl) rfl (by decide) (fun wq HO => (op_eqi rfl (H185.ev rfl) (ev_c _ _))) ?_
 intro _ H187; clear H185
 have H188 := H187.lit (b := true) (by decide)
 clear H187
 refine gx_take 2 rfl (by kernel_rfl) H188 (by exact O183.sel [0, 1, 2, 3] (by decide)) (want_none rfl) rfl (by decide) (fun wq HO => (op_move rfl (H188.ev rfl))) ?_
 intro _ H190; clear H188
 refine gx_take 3 rfl (by kernel_rfl) H190 (by exact O183.sel [0, 1, 2, 3] (by decide)) (want_yes H190 rfl rfl rfl rfl) rfl (by decide) (fun wq HO => (op_move rfl (H190.ev rfl))) ?_
 intro _ H192; clear H190
 refine gx_take 4 rfl (by kernel_rfl) H192 (by exact O183.sel [0, 1, 2, 3] (by decide)) (want_yes H192 rfl rfl rfl rfl) rfl (by decide) (fun wq HO => (op_len Try.underlying25 rfl (H192.ev rfl))) ?_
 intro _ H194; clear H192
 refine gx_take 5 rfl (by kernel_rfl) H194 (by exact O183.sel [0, 1, 2, 3] (by decide)) (want_yes H194 rfl rfl rfl rfl) rfl (by decide) (fun wq HO => (op_eqi rfl (H194.ev rfl) (ev_c _ _))) ?_
 intro _ H196; clear H194
 have H197 := H196.lit (b := true) (by decide)
 clear H196
 refine gx_take 6 rfl (by kernel_rfl) H197 (by exact O183.sel [0, 1, 2, 3] (by decide)) (want_none rfl) rfl (by decide) (fun wq HO => (op_pick_t rfl (H197.ev rfl) (H197.ev rfl))) ?_
 intro _ H199; clear H197
 refine gx_take 7 rfl (by kernel_rfl) H199 (by exact O183.sel [0, 1, 2, 3] (by decide)) (want_none rfl) rfl (by decide) (fun wq HO => (op_move rfl (H199.ev rfl))) ?_
 intro _ H201; clear H199
 refine gx_take 8 rfl (by kernel_rfl) H201 (by exact O183.sel [0, 1, 2, 3] (by decide)) (want_yes H201 rfl rfl rfl rfl) rfl (by decide) (fun wq HO => (op_move rfl (H201.ev rfl))) ?_
 intro _ H203; clear H201
 obtain ⟨ad204, cs207, hA205, hl208, hK209, hc206, _⟩ := Kd.F_get (viewAt_F (O183.get 2 rfl)) z35 0 (by decide) (by decide)
 obtain ⟨A210, c211, A214, c215, rfl, hl212, hC213, hl216, hC217⟩ := k35_openF hK209
 clear hl208
 refine gx_take 9 rfl (by kernel_rfl) H203 (by exact O183.sel [0, 1, 2, 3] (by decide)) (want_yes H203 rfl rfl rfl rfl) rfl (by decide) (fun wq HO => (op_index Try.underlying25 gwsiz35 rfl (H203.ev rfl) (ev_c _ _) hA205 (⟨by decide, by decide⟩))) ?_
 intro _ H219; clear H203
 refine gx_take 10 rfl (by kernel_rfl) H219 (by exact O183.sel [0, 1, 2, 3] (by decide)) (want_yes H219 rfl rfl rfl rfl) rfl (by decide) (fun wq HO => (op_field (gwflda35_0 _) rfl (H219.ev rfl))) ?_
 intro _ H221; clear H219
 refine gx_take 11 rfl (by kernel_rfl) H221 (by exact O183.sel [0, 1, 2, 3] (by decide)) (want_yes H221 rfl rfl rfl rfl) rfl (by decide) (fun wq HO => (op_load1 gwagg3 rfl (H221.ev rfl) (((pin_cells (HO.get 2 rfl) hA205 hc206) 0 _ rfl)))) ?_
 intro _ H223; clear H221
 refine gx_take 12 rfl (by kernel_rfl) H223 (by exact O183.sel [0, 1, 2, 3] (by decide)) (want_yes H223 rfl rfl rfl rfl) rfl (by decide) (fun wq HO => (op_eqi rfl (H223.ev rfl) (ev_c _ _))) ?_
 intro _ H225; clear H223
 have H226 := H225.lit (b := true) (by decide)
 clear H225
 refine gx_take 13 rfl (by kernel_rfl) H226 (by exact O183.sel [0, 1, 2, 3] (by decide)) (want_none rfl) rfl (by decide) (fun wq HO => (op_pick_t rfl (H226.ev rfl) (H226.ev rfl))) ?_
 intro _ H228; clear H226
 refine gx_take 14 rfl (by kernel_rfl) H228 (by exact O183.sel [0, 1, 2, 3] (by decide)) (want_none rfl) rfl (by decide) (fun wq HO => (op_move rfl (H228.ev rfl))) ?_
 intro _ H230; clear H228
 refine gx_take 15 rfl (by kernel_rfl) H230 (by exact O183.sel [0, 1, 2, 3] (by decide)) (want_yes H230 rfl rfl rfl rfl) rfl (by decide) (fun wq HO => (op_move rfl (H230.ev rfl))) ?_
 intro _ H232; clear H230
 obtain ⟨ad233, cs236, hA234, hl237, hK238, hc235, _⟩ := Kd.F_get (viewAt_F (O183.get 2 rfl)) z35 1 (by decide) (by decide)
 obtain ⟨A239, c240, A243, c244, rfl, hl241, hC242, hl245, hC246⟩ := k35_openF hK238
 clear hl237
 refine gx_take 16 rfl (by kernel_rfl) H232 (by exact O183.sel [0, 1, 2, 3] (by decide)) (want_yes H232 rfl rfl rfl rfl) rfl (by decide) (fun wq HO => (op_index Try.underlying25 gwsiz35 rfl (H232.ev rfl) (ev_c _ _) hA234 (⟨by decide, by decide⟩))) ?_
 intro _ H248; clear H232
 refine gx_take 17 rfl (by kernel_rfl) H248 (by exact O183.sel [0, 1, 2, 3] (by decide)) (want_yes H248 rfl rfl rfl rfl) rfl (by decide) (fun wq HO => (op_field (gwflda35_0 _) rfl (H248.ev rfl))) ?_
 intro _ H250; clear H248
 refine gx_take 18 rfl (by kernel_rfl) H250 (by exact O183.sel [0, 1, 2, 3] (by decide)) (want_yes H250 rfl rfl rfl rfl) rfl (by decide) (fun wq HO => (op_load1 gwagg3 rfl (H250.ev rfl) (((pin_cells (HO.get 2 rfl) hA234 hc235) 0 _ rfl)))) ?_
 intro _ H252; clear H250
 refine gx_take 19 rfl (by kernel_rfl) H252 (by exact O183.sel [0, 1, 2, 3] (by decide)) (want_yes H252 rfl rfl rfl rfl) rfl (by decide) (fun wq HO => (op_eqi rfl (H252.ev rfl) (ev_c _ _))) ?_
 intro _ H254; clear H252
 have H255 := H254.lit (b := true) (by decide)
 clear H254
 refine gx_take 20 rfl (by kernel_rfl) H255 (by exact O183.sel [0, 1, 2, 3] (by decide)) (want_none rfl) rfl (by decide) (fun wq HO => (op_pick_t rfl (H255.ev rfl) (H255.ev rfl))) ?_
 intro _ H257; clear H255
 refine gx_take 21 rfl (by kernel_rfl) H257 (by exact O183.sel [0, 1, 2, 3] (by decide)) (want_none rfl) rfl (by decide) (fun wq HO => (op_move rfl (H257.ev rfl))) ?_
 intro _ H259; clear H257
 refine gx_take 22 rfl (by kernel_rfl) H259 (by exact O183.sel [0, 1, 2, 3] (by decide)) (want_yes H259 rfl rfl rfl rfl) rfl (by decide) (fun wq HO => (op_move rfl (H259.ev rfl))) ?_
 intro _ H261; clear H259
 refine gx_take 23 rfl (by kernel_rfl) H261 (by exact O183.sel [0, 1, 2, 3] (by decide)) (want_yes H261 rfl rfl rfl rfl) rfl (by decide) (fun wq HO => (op_eqi rfl (H261.ev rfl) (ev_c _ _))) ?_
 intro _ H263; clear H261
 have H264 := H263.lit (b := true) (by decide)
 clear H263
 refine gx_take 24 rfl (by kernel_rfl) H264 (by exact O183.sel [0, 1, 2, 3] (by decide)) (want_none rfl) rfl (by decide) (fun wq HO => (op_pick_t rfl (H264.ev rfl) (H264.ev rfl))) ?_
 intro _ H266; clear H264
 refine gx_take 25 rfl (by kernel_rfl) H266 (by exact O183.sel [0, 1, 2, 3] (by decide)) (want_none rfl) rfl (by decide) (fun wq HO => (op_move rfl (H266.ev rfl))) ?_
 intro _ H268; clear H266
 refine gx_take 26 rfl (by kernel_rfl) H268 (by exact O183.sel [0, 1, 2, 3] (by decide)) (want_yes H268 rfl rfl rfl rfl) rfl (by decide) (fun wq HO => (op_move rfl (H268.ev rfl))) ?_
 intro _ H270; clear H268
 obtain ⟨ad271, cs274, hA272, hl275, hK276, hc273, _⟩ := Kd.F_get (viewAt_F (O183.get 2 rfl)) z35 0 (by decide) (by decide)
 obtain ⟨A277, c278, A281, c282, rfl, hl279, hC280, hl283, hC284⟩ := k35_openF hK276
 clear hl275
 refine gx_take 27 rfl (by kernel_rfl) H270 (by exact O183.sel [0, 1, 2, 3] (by decide)) (want_yes H270 rfl rfl rfl rfl) rfl (by decide) (fun wq HO => (op_index Try.underlying25 gwsiz35 rfl (H270.ev rfl) (ev_c _ _) hA272 (⟨by decide, by decide⟩))) ?_
 intro _ H286; clear H270
 refine gx_take 28 rfl (by kernel_rfl) H286 (by exact O183.sel [0, 1, 2, 3] (by decide)) (want_yes H286 rfl rfl rfl rfl) rfl (by decide) (fun wq HO => (op_loadc gwagg35 gwsiz35 rfl (H286.ev rfl) rfl ((pin_cells (HO.get 2 rfl) hA272 hc273)))) ?_
 intro _ H288; clear H286
 refine gx_step 29 rfl (by kernel_rfl) ?_
 refine gw_call H288 (want_yes H288 rfl rfl rfl rfl) rfl (by decide) (op_callL Try.func11 (by kernel_rfl) rfl rfl (ar_cons (ev_c _ _) ar_nil)) (entry_elv 0 _) ?_
 rintro e295 w296 ⟨A289, c290, A291, c292, S293, rfl, hb297⟩
 refine ⟨_, rfl, fun _ H299 => ?_⟩
 have O300 := O183.fresh hb297
 clear H288 O183 hb297
 refine gx_on (i := 29) (B := (fun j_ => false)) (fun _ => (by exact O300.sel [1, 2, 3, 4] (by decide))) ?_
 refine gx_step 30 rfl (by kernel_rfl) ?_
 refine gw_call H299 (want_yes H299 rfl rfl rfl rfl) rfl (by decide) (op_callL Try.func10 (by kernel_rfl) rfl rfl (ar_cons (H299.ev rfl) (ar_cons (H299.ev rfl) ar_nil))) (Same_walk (([entE 0, entE 1] : List EE).getD (0 : Int).toNat z35) A277 c278 A281 c282 (entE 0) A289 c290 A291 c292 _ (pinC (O300.get 3 rfl) hC280) hl279 (pinC (O300.get 3 rfl) hC284) hl283 (elv_1 (O300.get 0 rfl)).1 (elv_1 (O300.get 0 rfl)).2.1 (elv_1 (O300.get 0 rfl)).2.2.1 (elv_1 (O300.get 0 rfl)).2.2.2) ?_
 rintro e302 w303 ⟨rfl, hb304⟩
 refine ⟨_, rfl, fun _ H306 => ?_⟩
 have O307 := O300.after hb304
 clear H299 O300 hb304
 have H309 := H306.lit (b := true) (eqA_iff.2 rfl)
 clear H306
 refine gx_on (i := 30) (B := (fun j_ => false)) (fun _ => (by exact O307.sel [1, 2, 3, 4] (by decide))) ?_
 refine gx_take 31 rfl (by kernel_rfl) H309 (by exact O307.sel [1, 2, 3, 4] (by decide)) (want_none rfl) rfl (by decide) (fun wq HO => (op_pick_t rfl (H309.ev rfl) (H309.ev rfl))) ?_
 intro _ H311; clear H309
 refine gx_take 32 rfl (by kernel_rfl) H311 (by exact O307.sel [1, 2, 3, 4] (by decide)) (want_none rfl) rfl (by decide) (fun wq HO => (op_move rfl (H311.ev rfl))) ?_
 intro _ H313; clear H311
 refine gx_take 33 rfl (by kernel_rfl) H313 (by exact O307.sel [1, 2, 3, 4] (by decide)) (want_yes H313 rfl rfl rfl rfl) rfl (by decide) (fun wq HO => (op_move rfl (H313.ev rfl))) ?_
 intro _ H315; clear H313
 obtain ⟨ad316, cs319, hA317, hl320, hK321, hc318, _⟩ := Kd.F_get (viewAt_F (O307.get 3 rfl)) z35 0 (by decide) (by decide)
 obtain ⟨A322, c323, A326, c327, rfl, hl324, hC325, hl328, hC329⟩ := k35_openF hK321
 clear hl320
 refine gx_take 34 rfl (by kernel_rfl) H315 (by exact O307.sel [1, 2, 3, 4] (by decide)) (want_yes H315 rfl rfl rfl rfl) rfl (by decide) (fun wq HO => (op_index Try.underlying25 gwsiz35 rfl (H315.ev rfl) (ev_c _ _) hA317 (⟨by decide, by decide⟩))) ?_
 intro _ H331; clear H315
 refine gx_take 35 rfl (by kernel_rfl) H331 (by exact O307.sel [1, 2, 3, 4] (by decide)) (want_yes H331 rfl rfl rfl rfl) rfl (by decide) (fun wq HO => (op_loadc gwagg35 gwsiz35 rfl (H331.ev rfl) rfl ((pin_cells (HO.get 2 rfl) hA317 hc318)))) ?_
 intro _ H333; clear H331
 refine gx_take 36 rfl (by kernel_rfl) H333 (by exact O307.sel [1, 2, 3, 4] (by decide)) (want_yes H333 rfl rfl rfl rfl) rfl (by decide) (fun wq HO => (op_move rfl (H333.ev rfl))) ?_
 intro _ H335; clear H333
 obtain ⟨ad336, cs339, hA337, hl340, hK341, hc338, _⟩ := Kd.F_get (viewAt_F (O307.get 3 rfl)) z35 1 (by decide) (by decide)
 obtain ⟨A342, c343, A346, c347, rfl, hl344, hC345, hl348, hC349⟩ := k35_openF hK341
 clear hl340
 refine gx_take 37 rfl (by kernel_rfl) H335 (by exact O307.sel [1, 2, 3, 4] (by decide)) (want_yes H335 rfl rfl rfl rfl) rfl (by decide) (fun wq HO => (op_index Try.underlying25 gwsiz35 rfl (H335.ev rfl) (ev_c _ _) hA337 (⟨by decide, by decide⟩))) ?_
 intro _ H351; clear H335
 refine gx_take 38 rfl (by kernel_rfl) H351 (by exact O307.sel [1, 2, 3, 4] (by decide)) (want_yes H351 rfl rfl rfl rfl) rfl (by decide) (fun wq HO => (op_loadc gwagg35 gwsiz35 rfl (H351.ev rfl) rfl ((pin_cells (HO.get 2 rfl) hA337 hc338)))) ?_
 intro _ H353; clear H351
 refine gx_step 39 rfl (by kernel_rfl) ?_
 refine gw_call H353 (want_yes H353 rfl rfl rfl rfl) rfl (by decide) (op_callL Try.func10 (by kernel_rfl) rfl rfl (ar_cons (H353.ev rfl) (ar_cons (H353.ev rfl) ar_nil))) (Same_walk (([entE 0, entE 1] : List EE).getD (0 : Int).toNat z35) A322 c323 A326 c327 (([entE 0, entE 1] : List EE).getD (1 : Int).toNat z35) A342 c343 A346 c347 _ (pinC (O307.get 3 rfl) hC325) hl324 (pinC (O307.get 3 rfl) hC329) hl328 (pinC (O307.get 3 rfl) hC345) hl344 (pinC (O307.get 3 rfl) hC349) hl348) ?_
 rintro e354 w355 ⟨rfl, hb356⟩
 refine ⟨_, rfl, fun _ H358 => ?_⟩
 have O359 := O307.after hb356
 clear H353 O307 hb356
 have H361 := H358.lit (b := false) (al_ne)
 clear H358
 refine gx_on (i := 39) (B := (fun j_ => false)) (fun _ => (by exact O359.sel [1, 2, 3, 4] (by decide))) ?_
 refine gx_take 40 rfl (by kernel_rfl) H361 (by exact O359.sel [1, 2, 3, 4] (by decide)) (want_yes H361 rfl rfl rfl rfl) rfl (by decide) (fun wq HO => (op_not rfl (H361.ev rfl))) ?_
 intro _ H363; clear H361
 refine gx_take 41 rfl (by kernel_rfl) H363 (by exact O359.sel [1, 2, 3, 4] (by decide)) (want_none rfl) rfl (by decide) (fun wq HO => (op_pick_t rfl (H363.ev rfl) (H363.ev rfl))) ?_
 intro _ H365; clear H363
 refine gx_take 42 rfl (by kernel_rfl) H365 (by exact O359.sel [1, 2, 3, 4] (by decide)) (want_none rfl) rfl (by decide) (fun wq HO => (op_assign rfl (H365.ev rfl))) ?_
 intro _ H367; clear H365
 refine gx_done (by kernel_rfl) ?_
 refine gw_nx (hK175 _ _ ?_)
 refine wp_ret ?_
 have O368 := O359.unpin 2 rfl
 clear O359
 have O369 : Own w w355 [Chunk.elv S293 (entE 0) [J 0, .slice A289 1 c290, .slice A291 1 c292], Chunk.row k35 35 w.heap.size S156 (.slice A154 (([] : List EE).length) c155) ([] : List EE), Chunk.view (Kd.slice 35 k35) (fun k_ => k_ = g144 ∨ (Chunk.all [Chunk.view k35 (fun k_ => k_ = g111 ∨ S102 k_) (some ⟨g111, 0, none⟩) 1 1 ([(entE 1)]), Chunk.view k35 (fun k_ => k_ = g134 ∨ S125 k_) (some ⟨g134, 0, none⟩) 1 1 ([(entE 0)])]).S k_) (some ⟨g144, 0, none⟩) 2 2 ([[(entE 1)], [(entE 0)]]), Chunk.viewAt w158 k35 S76 A74 (([entE 0, entE 1] : List EE).length) c75 ([entE 0, entE 1] : List EE), Chunk.viewAt w158 (Kd.slice 35 k35) (fun k_ => k_ = g64 ∨ (Chunk.all [Chunk.view k35 (fun k_ => k_ = g18 ∨ S9 k_) (some ⟨g18, 0, none⟩) 1 1 ([(entE 1)]), Chunk.view k35 (fun k_ => k_ = g54 ∨ (Chunk.all [Chunk.elv S32 (entE 0) [J 0, .slice A28 1 c29, .slice A30 1 c31], Chunk.elv S45 (entE 1) [J 1, .slice A41 1 c42, .slice A43 1 c44]]).S k_) (some ⟨g54, 0, none⟩) 2 2 ([(entE 0), (entE 1)])]).S k_) (some ⟨g64, 0, none⟩) 2 2 ([[(entE 1)], [(entE 0), (entE 1)]])] := O368
 clear O368
 have O370 := O369.unpin 3 rfl
 clear O369
 have O371 : Own w w355 [Chunk.elv S293 (entE 0) [J 0, .slice A289 1 c290, .slice A291 1 c292], Chunk.row k35 35 w.heap.size S156 (.slice A154 (([] : List EE).length) c155) ([] : List EE), Chunk.view (Kd.slice 35 k35) (fun k_ => k_ = g144 ∨ (Chunk.all [Chunk.view k35 (fun k_ => k_ = g111 ∨ S102 k_) (some ⟨g111, 0, none⟩) 1 1 ([(entE 1)]), Chunk.view k35 (fun k_ => k_ = g134 ∨ S125 k_) (some ⟨g134, 0, none⟩) 1 1 ([(entE 0)])]).S k_) (some ⟨g144, 0, none⟩) 2 2 ([[(entE 1)], [(entE 0)]]), Chunk.view k35 S76 A74 (([entE 0, entE 1] : List EE).length) c75 ([entE 0, entE 1] : List EE), Chunk.viewAt w158 (Kd.slice 35 k35) (fun k_ => k_ = g64 ∨ (Chunk.all [Chunk.view k35 (fun k_ => k_ = g18 ∨ S9 k_) (some ⟨g18, 0, none⟩) 1 1 ([(entE 1)]), Chunk.view k35 (fun k_ => k_ = g54 ∨ (Chunk.all [Chunk.elv S32 (entE 0) [J 0, .slice A28 1 c29, .slice A30 1 c31], Chunk.elv S45 (entE 1) [J 1, .slice A41 1 c42, .slice A43 1 c44]]).S k_) (some ⟨g54, 0, none⟩) 2 2 ([(entE 0), (entE 1)])]).S k_) (some ⟨g64, 0, none⟩) 2 2 ([[(entE 1)], [(entE 0), (entE 1)]])] := O370
 clear O370
 have O372 := O371.unpin 4 rfl
 clear O371
 have O373 : Own w w355 [Chunk.elv S293 (entE 0) [J 0, .slice A289 1 c290, .slice A291 1 c292], Chunk.row k35 35 w.heap.size S156 (.slice A154 (([] : List EE).length) c155) ([] : List EE), Chunk.view (Kd.slice 35 k35) (fun k_ => k_ = g144 ∨ (Chunk.all [Chunk.view k35 (fun k_ => k_ = g111 ∨ S102 k_) (some ⟨g111, 0, none⟩) 1 1 ([(entE 1)]), Chunk.view k35 (fun k_ => k_ = g134 ∨ S125 k_) (some ⟨g134, 0, none⟩) 1 1 ([(entE 0)])]).S k_) (some ⟨g144, 0, none⟩) 2 2 ([[(entE 1)], [(entE 0)]]), Chunk.view k35 S76 A74 (([entE 0, entE 1] : List EE).length) c75 ([entE 0, entE 1] : List EE), Chunk.view (Kd.slice 35 k35) (fun k_ => k_ = g64 ∨ (Chunk.all [Chunk.view k35 (fun k_ => k_ = g18 ∨ S9 k_) (some ⟨g18, 0, none⟩) 1 1 ([(entE 1)]), Chunk.view k35 (fun k_ => k_ = g54 ∨ (Chunk.all [Chunk.elv S32 (entE 0) [J 0, .slice A28 1 c29, .slice A30 1 c31], Chunk.elv S45 (entE 1) [J 1, .slice A41 1 c42, .slice A43 1 c44]]).S k_) (some ⟨g54, 0, none⟩) 2 2 ([(entE 0), (entE 1)])]).S k_) (some ⟨g64, 0, none⟩) 2 2 ([[(entE 1)], [(entE 0), (entE 1)]])] := O372
 clear O372
 refine gw_ret1 H367 rfl rfl ?_
 exact ⟨rfl, O373.below⟩
end GAliveM_
export GAliveM_ (alive_walk)
end Go.Proofs.Ytmhgblhmkhoopaa.PA
end
section
namespace Go.Proofs.Ytmhgblhmkhoopaa.PA
open Go.RowKit Go.Maps Go.Proofs.YtmhgblhmkhoopaaW.PrintWords Go.Proofs.YtmhgblhmkhoopaaW.PrintLast Go.Proofs.YtmhgblhmkhoopaaW.PrintMore
set_option linter.unusedVariables false
set_option linter.unusedSimpArgs false
theorem lit1_C {w : World} {g T n c : Nat} {A : Option Addr} {es : List EE} (hb : w.heap[g]? = some (.cells #[.slice A n c] T (0, 0))) (hn : n = es.length) (hC : kE.C w A n es) (hc : n ≤ c) : Kd.C (Kd.slice 35 kE) w (some ⟨g, 0, none⟩) 1 [es] := by
  subst hn
  exact Cg_lit (cs := [.slice A es.length c]) (xs := [es]) hb (reps_more (show (Kd.slice 35 kE).K w es [.slice A es.length c] from ⟨A, c, rfl, hc, hC⟩) rfl reps_none) (by simp [maxLen])
def relG (w : World) (es : List EE) (G : List W3) : Prop := ∀ j, j < G.length → (G.getD j zW).f0 = (j : Int) ∧ RelE w (G.getD j zW) (Ee es (G.getD j zW))
theorem relG_nil (w : World) (es : List EE) : relG w es [] := fun j hj => absurd hj (Nat.not_lt_zero _)
theorem relG_ord {w : World} {es : List EE} {G : List W3} (h : relG w es G) : ordG G := fun j hj => (h j hj).1
theorem relG_in {w w' : World} {es : List EE} {G : List W3} (h : relG w es G) (hb : Below w.heap.size w w') {x : W3} (hx : x ∈ G) : RelE w' x (Ee es x) := by
  obtain ⟨j, hj, rfl⟩ := mem_G hx
  exact (h j hj).2.below hb
theorem relG_next {w : World} {es : List EE} {G : List W3} (h : relG w es G) {i : Int} (hi : i = G.length) {A1 A2 : Option Addr} {c1 c2 : Nat} (l1 : (es.getD i.toNat zE).f1.length ≤ c1) (h1 : k37.C w A1 (es.getD i.toNat zE).f1.length (es.getD i.toNat zE).f1) (l2 : (es.getD i.toNat zE).f2.length ≤ c2) (h2 : (Kd.slice 51 k51).C w A2 (es.getD i.toNat zE).f2.length (es.getD i.toNat zE).f2) :
    relG w es (G ++ [⟨i, ⟨A1, (es.getD i.toNat zE).f1.length, c1⟩, ⟨A2, (es.getD i.toNat zE).f2.length, c2⟩⟩]) := fun j hj => by
  rw [List.length_append, List.length_singleton] at hj
  by_cases e : j < G.length
  · rw [show (G ++ [(⟨i, ⟨A1, (es.getD i.toNat zE).f1.length, c1⟩, ⟨A2, (es.getD i.toNat zE).f2.length, c2⟩⟩ : W3)]).getD j zW = G.getD j zW by rw [List.getD_eq_getElem?_getD, List.getElem?_append_left e, ← List.getD_eq_getElem?_getD]]; exact h j e
  · obtain rfl : j = G.length := by omega
    have eg : (G ++ [(⟨i, ⟨A1, (es.getD i.toNat zE).f1.length, c1⟩, ⟨A2, (es.getD i.toNat zE).f2.length, c2⟩⟩ : W3)]).getD G.length zW = ⟨i, ⟨A1, (es.getD i.toNat zE).f1.length, c1⟩, ⟨A2, (es.getD i.toNat zE).f2.length, c2⟩⟩ := by
      rw [List.getD_eq_getElem?_getD, List.getElem?_append_right (Nat.le_refl _), Nat.sub_self]
      rfl
    rw [eg]
    exact ⟨hi, ⟨rfl, l1, h1, l2, h2⟩⟩
theorem Same_W (x y : EE) (z : W3) (A1 : Option Addr) (c1 : Nat) (A2 : Option Addr) (c2 : Nat) (w : World) (h1 : Kd.C k37 w A1 x.f1.length x.f1) (l1 : x.f1.length ≤ c1) (h2 : Kd.C (Kd.slice 51 k51) w A2 x.f2.length x.f2) (l2 : x.f2.length ≤ c2) (hz : RelE w z y) :
    Calls Try.prog 10 #[.agg #[.int .i64 x.f0, .slice A1 x.f1.length c1, .slice A2 x.f2.length c2], .agg #[.int .i64 z.f0, .slice z.f1.A z.f1.n z.f1.c, .slice z.f2.A z.f2.n z.f2.c]] w fun e w' => e = .returned (.bool (eqA x y)) ∧ Below w.heap.size w w' := by
  have e1 : y.f1.length = z.f1.n := hz.C1.1
  have e2 : y.f2.length = z.f2.n := hz.C2.1
  have g1 := hz.C1
  have g2 := hz.C2
  rw [← e1] at g1
  rw [← e2] at g2
  rw [hz.g, ← e1, ← e2]
  exact Same_walk x A1 c1 A2 c2 y z.f1.A z.f1.c z.f2.A z.f2.c w h1 l1 h2 l2 g1 hz.l1 g2 hz.l2
theorem Merge_n (n : Int) (A1 : Option Addr) (c1 m : Nat) (ps : List (List EE)) (w : World) {RS : List EE × Int} (hRS : mergeG n ps.flatten = RS) (hm : ps.length = m) (hr : Kd.C (Kd.slice 35 kE) w A1 m ps) (hc : m ≤ c1) (hf : fewP ps) (hn : n ≤ 2000) (hw : ∀ e ∈ ps.flatten, -9223372036854775808 ≤ e.f0 ∧ e.f0 ≤ 9223372036854775807) :
    Calls Try.prog 7 #[.int .i64 n, .slice A1 m c1] w fun e w' => ∃ A c S_, e = .returned (.tuple #[.slice A RS.1.length c, .int .i64 RS.2]) ∧ Out w w' (fun _ => False) [Chunk.row kE 35 w.heap.size S_ (.slice A RS.1.length c) RS.1] := by
  subst hm
  exact Merge_is n A1 c1 ps w hRS.symm hr hc hf hn hw
theorem lito_C {w : World} {g T n c n2 c2 : Nat} {m : Int} {A A2 : Option Addr} {ys : List RR} {zs : List (List VV)} (hb : w.heap[g]? = some (.cells #[.int .i64 m, .slice A n c, .slice A2 n2 c2] T (0, 0))) (h1 : k37.C w A n ys) (l1 : n ≤ c) (h2 : (Kd.slice 51 k51).C w A2 n2 zs) (l2 : n2 ≤ c2) : kE.C w (some ⟨g, 0, none⟩) 1 [(⟨m, ys, zs⟩ : EE)] := by
  have e1 : ys.length = n := h1.1
  have e2 : zs.length = n2 := h2.1
  subst e1 e2
  exact Cg_lit (cs := [.int .i64 m, .slice A ys.length c, .slice A2 zs.length c2]) (xs := [(⟨m, ys, zs⟩ : EE)]) hb (reps_more (show kE.K w ⟨m, ys, zs⟩ [.int .i64 m, .slice A ys.length c, .slice A2 zs.length c2] from k35_mk w ⟨m, ys, zs⟩ l1 h1 l2 h2) rfl reps_none) (by simp [maxLen])
theorem p9_C {w : World} {T base g g9 e d : Nat} {A : Nat → Option Addr} {C : Nat → Nat} {X : Nat → List W3} {Sk : Nat → Nat → Prop} {cs9 : Array Value} {B : Option Addr} {es : List EE} {o : EE} (hp : (Chunk.p8 T base g A C X Sk 8).P w) (hE : ∀ k, k < 8 → ∀ x ∈ X k, RelE w x (Ee es x)) (h9 : w.heap[g9]? = some (.cells cs9 e (0, 0))) (hcs : ∀ j, j < 8 → cs9[j]? = some (.slice (A j) (X j).length (C j))) (h8 : cs9[8]? = some (.slice B 1 d)) (ho : kE.C w B 1 [o]) (hd : 1 ≤ d) : Kd.C (Kd.slice 35 kE) w (some ⟨g9, 0, none⟩) 9 (PS8 es X ++ [[o]]) := by
  have hlen : (PS8 es X).length = 8 := rfl
  refine ⟨by rw [List.length_append, hlen]; rfl, by decide, fun _ => ⟨_, rfl, fun j p hj => ?_⟩⟩
  have hj9 : j < 9 := by have := (List.getElem?_eq_some_iff.1 hj).1; rw [List.length_append, hlen] at this; simpa using this
  by_cases hj8 : j < 8
  · rw [List.getElem?_append_left (by rw [hlen]; exact hj8)] at hj
    unfold PS8 at hj
    rw [List.getElem?_map, rows8_at X hj8] at hj
    obtain rfl : (X j).map (Ee es) = p := by simpa using hj
    have hR := Kd.R_reads' (hp.rows j hj8 (by omega))
    refine ⟨[.slice (A j) (X j).length (C j)], rfl, ⟨A j, C j, by rw [List.length_map], by rw [List.length_map]; exact hR.2.1, ?_⟩, fun i u hu => ?_⟩
    · have := kW_C hR.2.2 (hE j hj8)
      rwa [List.length_map] at *
    · cases i with
      | zero =>
        obtain rfl : Value.slice (A j) (X j).length (C j) = u := by simpa using hu
        rw [add_plain, show j * (Kd.slice 35 kE).sz + 0 = j from Nat.mul_one j]
        exact blk_at h9 (hcs j hj8)
      | succ i => simp at hu
  · obtain rfl : j = 8 := by omega
    rw [List.getElem?_append_right (by rw [hlen]; exact Nat.le_refl _), hlen] at hj
    obtain rfl : [o] = p := by simpa using hj
    refine ⟨[.slice B 1 d], rfl, ⟨B, d, rfl, hd, ho⟩, fun i u hu => ?_⟩
    cases i with
    | zero =>
      obtain rfl : Value.slice B 1 d = u := by simpa using hu
      rw [add_plain, show 8 * (Kd.slice 35 kE).sz + 0 = 8 from rfl]
      exact blk_at h9 h8
    | succ i => simp at hu
theorem rows_rel {w w' : World} {es : List EE} {G : List W3} {X : Nat → List W3} (h : relG w es G) (hI : inG G X) (hb : Below w.heap.size w w') : ∀ k, k < 8 → ∀ x ∈ X k, RelE w' x (Ee es x) := fun k hk x hx => relG_in h hb (hI k hk x hx)
theorem lit_row {w0 w : World} {L : List Chunk} {g : Nat} {x : W3} (h : Own w0 w L) (i : Nat) (hi : L[i]? = some (Chunk.blk g (.cells #[.int .i64 x.f0, .slice x.f1.A x.f1.n x.f1.c, .slice x.f2.A x.f2.n x.f2.c] 35 (0, 0)))) : Own w0 w (L.set i (Chunk.row kW 35 w0.heap.size (fun k => k = g) (.slice (some ⟨g, 0, none⟩) [x].length 1) [x])) := by
  have hb : w.heap[g]? = some (.cells #[.int .i64 x.f0, .slice x.f1.A x.f1.n x.f1.c, .slice x.f2.A x.f2.n x.f2.c] 35 (0, 0)) := h.get i hi
  have hg := (h.lt i hi (k := g) rfl).1
  refine h.calls (cs := []) i hi (Out.one (Out.refl w _) (c := Chunk.row kW 35 w0.heap.size (fun k => k = g) (.slice (some ⟨g, 0, none⟩) [x].length 1) [x]) ?_ fun k hk => ⟨.inl hk, (h.lt i hi hk).2⟩)
  refine ⟨fun k hk => ?_, encW x, ⟨rfl, .inr ⟨g, 1, _, rfl, hg, hb, Nat.le_refl _, by decide, rfl, rfl⟩⟩, rfl, fun j p hj => ?_⟩
  · have : g = k := by simpa [Value.ownBlock] using hk
    exact this.symm
  · cases j with
    | zero =>
      obtain rfl : x = p := by simpa using hj
      exact kW_mkM _ _ _ x
    | succ j => simp at hj
theorem new8 {w0 w : World} {L : List Chunk} {g T : Nat} (h : Own w0 w L) (i : Nat) (hi : L[i]? = some (Chunk.blk g (.cells (cells8 (fun _ => none) (fun _ => 0) (fun _ => [])) T (0, 0)))) : Own w0 w (L.set i (Chunk.p8 T w0.heap.size g (fun _ => none) (fun _ => 0) (fun _ => []) (fun _ _ => False) 8)) :=
  h.mapc i hi (fun b hb => hb.elim id fun ⟨_, _, _, hf⟩ => hf.elim) fun _ hP => ⟨hP, fun k _ _ => Kd.R_nil _ _ _ _ _, fun _ _ _ _ _ _ _ _ hf => hf.elim, fun _ _ _ hf => hf⟩
section
variable {D : List Deferred} {P : Program} {ops : Array Oper} {Q : Exit → Act → World → Prop} {rest : List Oper} {o : Oper} {N dd : Nat} {a : Act} {F : List (Nat × Value)} {w w0 : World} {L : List Chunk}
theorem gw_app9 {T T2 base g g2 t e hole : Nat} {z : Value} {A : Nat → Option Addr} {C : Nat → Nat} {X : Nat → List W3} {Sk : Nat → Nat → Prop} {v : Value} {s x : Operand} {bytes : Nat} (i j : Nat) (HF : FrD D N a F) (HO : Own w0 w L) (hi : L[i]? = some (Chunk.p8 T base g A C X Sk hole)) (hj : L[j]? = some (Chunk.blk g2 (.cells #[v] T2 (0, 0)))) (hw : Region.wanted o (yielded ops a.tmps) = true) (hd : o.dst = some dd) (hN : dd < N)
    (ho : o.op = .call { callee := .builtin .append, args := #[s, x], argTypes := #[t, t] }) (ht : P.underlying t = some (.slice e)) (hinfo : (P.info? e).map (fun i => (i.zero, i.size, i.bytes)) = some (some z, 1, bytes)) (hb : 9 * bytes ≤ 140737488355328)
    (hs : a.eval s = .slice (some ⟨g, 0, none⟩) 8 8) (hx : a.eval x = .slice (some ⟨g2, 0, none⟩) 1 1)
    (kk : ∀ g9 c9 cs9 a' w1, 9 ≤ c9 → (∀ j, j < 8 → (cs9 : Array Value)[j]? = some (.slice (A j) (X j).length (C j))) → cs9[8]? = some v → FrD D N a' ((dd, .slice (some ⟨g9, 0, none⟩) 9 c9) :: F) → Own w0 w1 (Chunk.blk g9 (.cells cs9 e (0, 0)) :: L) → wpList P ops Q rest a' w1) : wpList P ops Q (o :: rest) a w := by
  have hP : P8 w T base g A C X Sk hole := HO.get i hi
  have hB : w.heap[g2]? = some (.cells #[v] T2 (0, 0)) := HO.get j hj
  obtain ⟨i0, hinf, hzz⟩ := Option.map_eq_some_iff.1 hinfo
  simp only [Prod.mk.injEq] at hzz
  obtain ⟨hz0, hz1, hz2⟩ := hzz
  have hr := run_append_grow (P := P) w t o.type e i0 z ht hinf hz0 ⟨g, 0, none⟩ 8 8 (cells8 A C X).toList (by rw [hz1]; rfl) (fun j u hu => by rw [add_plain]; exact blk_at hP.blk (by simpa using hu)) ⟨g2, 0, none⟩ 1 1 [v] (by rw [hz1]; rfl) (fun j u hu => by rw [add_plain]; exact blk_at hB (by simpa using hu)) (by decide) (by decide) (growslice_fits (by decide) (by rw [hz2]; exact hb))
  have hRuns : Runs P o a w (.slice (some ⟨w.heap.size, 0, none⟩) (8 + 1) (grownCap w (8 + 1) 8 e)) (w.drew.alloc (.cells ((cells8 A C X).toList.toArray ++ [v].toArray ++ Builtin.zeroCells z.cells (grownCap w (8 + 1) 8 e - (8 + 1))) e)) := by
    unfold Runs execOp
    simp only [ho, resolve, invoke, builtin, Sem.run_bind, Sem.run_pure, Result.andThen_ok, List.map_toArray, List.map_cons, List.map_nil, hs, hx, hr]
  refine gw_ev HF hw hd hN hRuns fun a' HF' => kk w.heap.size (grownCap w (8 + 1) 8 e) ((cells8 A C X).toList.toArray ++ [v].toArray ++ Builtin.zeroCells z.cells (grownCap w (8 + 1) 8 e - (8 + 1))) a' _ (grownCap_ge w 9 8 e) (fun j hj => ?_) ?_ HF' (HO.drew.new _)
  · have := cells8_at A C X hj
    rw [Array.getElem?_append_left (by simp [cells8]; omega), Array.getElem?_append_left (by simp [cells8]; omega)]
    simpa using this
  · rw [Array.getElem?_append_left (by simp [cells8]), Array.getElem?_append_right (by simp [cells8])]
    simp [cells8]
end
end Go.Proofs.Ytmhgblhmkhoopaa.PA
end
section
namespace Go.Proofs.Ytmhgblhmkhoopaa.PA
open Go.RowKit Go.Proofs.YtmhgblhmkhoopaaW.PrintWords Go.Proofs.YtmhgblhmkhoopaaW.PrintLast Go.Proofs.YtmhgblhmkhoopaaW.PrintMore
set_option linter.unusedVariables false
set_option linter.unusedSimpArgs false
section
variable {P : Program} {o : Oper} {a : Act} {w : World} {t e nb : Nat} {l c : Operand} {α : Type} {enc : α → Value} {x0 : α} {n : Int}
theorem op_make (ht : P.underlying t = some (.slice e)) (hi : (P.info? e).map (fun i => (i.zero, i.size, i.bytes)) = some (some (enc x0), 1, nb)) (hz : (enc x0).cells = #[enc x0]) (ho : o.op = .makeSlice t l c) (hl : a.eval l = .int .i64 n) (hc : a.eval c = .int .i64 n) (h0 : 0 ≤ n) (hn : (nb : Int) * n ≤ 281474976710656 ∧ n ≤ 9223372036854775807) :
    Runs P o a w (.slice (some ⟨w.heap.size, 0, none⟩) (List.replicate n.toNat x0).length (List.replicate n.toNat x0).length) (w.alloc (.cells (encs enc (List.replicate n.toNat x0)).toArray e (0, 0))) := by
  obtain ⟨i, hi1, hi2⟩ := Option.map_eq_some_iff.1 hi
  simp only [Prod.mk.injEq] at hi2
  obtain ⟨hi3, hi4, hi5⟩ := hi2
  have hr := run_make (P := P) w t e i (enc x0) ht hi1 hi3 .i64 .i64 n n h0 (Int.le_refl _) (by rw [hi5]; exact hn.1) hn.2
  have hcells : madeCells (enc x0).cells (n.toNat * i.size) = (encs enc (List.replicate n.toNat x0)).toArray := by
    rw [hi4, hz, Nat.mul_one]
    apply Array.ext'
    simp [madeCells, encs, Array.toList_map, List.map_const', Nat.mod_one]
  rw [hcells] at hr
  unfold Runs execOp
  simp only [ho, hl, hc, Sem.run_bind, hr, Result.andThen_ok, Sem.run_pure, List.length_replicate]
end
end Go.Proofs.Ytmhgblhmkhoopaa.PA
end
section
namespace Go.Proofs.Ytmhgblhmkhoopaa.PA
open Go.RowKit Go.Proofs.YtmhgblhmkhoopaaW.PrintWords Go.Proofs.YtmhgblhmkhoopaaW.PrintLast Go.Proofs.YtmhgblhmkhoopaaW.PrintMore
set_option linter.unusedVariables false
set_option linter.unusedSimpArgs false
namespace GSpread_
theorem gwagg25 : ∀ w, (isAgg 25).run Try.prog w = .ok false w := fun _ => by kernel_rfl
theorem gwagg3 : ∀ w, (isAgg 3).run Try.prog w = .ok false w := fun _ => by kernel_rfl
theorem gwagg32 : ∀ w, (isAgg 32).run Try.prog w = .ok false w := fun _ => by kernel_rfl
theorem gwagg35 : ∀ w, (isAgg 35).run Try.prog w = .ok true w := fun _ => by kernel_rfl
theorem gwfld35_0 (g off : Nat) : ∀ w, (Instr.fieldAt 35 (.pointer (some ⟨g, off, none⟩)) 0).run Try.prog w = .ok (.pointer (some ⟨g, off + 0, none⟩)) w := fun _ => by kernel_rfl
theorem gwfld35_1 (g off : Nat) : ∀ w, (Instr.fieldAt 35 (.pointer (some ⟨g, off, none⟩)) 1).run Try.prog w = .ok (.pointer (some ⟨g, off + 1, none⟩)) w := fun _ => by kernel_rfl
theorem gwinfo25 : (Try.prog.info? 25).map (fun i => (i.zero, i.size, i.bytes)) = some (some (.slice none 0 0), 1, 24) := by kernel_rfl
theorem gwinfo35 : (Try.prog.info? 35).map (fun i => (i.zero, i.size, i.bytes)) = some (some (.agg #[.int .i64 0, .slice none 0 0, .slice none 0 0]), 3, 56) := by kernel_rfl
theorem gwinfo37 : (Try.prog.info? 37).map (fun i => (i.zero, i.size, i.bytes)) = some (some (.agg #[.string (⟨#[]⟩ : ByteArray), .int .i64 0]), 2, 24) := by kernel_rfl
theorem gwsiz25 : ∀ w, (sizeOf 25).run Try.prog w = .ok 1 w := fun _ => by kernel_rfl
theorem gwsiz3 : ∀ w, (sizeOf 3).run Try.prog w = .ok 1 w := fun _ => by kernel_rfl
theorem gwsiz32 : ∀ w, (sizeOf 32).run Try.prog w = .ok 1 w := fun _ => by kernel_rfl
theorem gwsiz35 : ∀ w, (sizeOf 35).run Try.prog w = .ok 3 w := fun _ => by kernel_rfl
theorem gwzer35 : ∀ w, (zeroValue 35).run Try.prog w = .ok (.agg #[.int .i64 0, .slice none 0 0, .slice none 0 0]) w := fun _ => by kernel_rfl
set_option maxHeartbeats 4000000 in
set_option maxRecDepth 100000 in
theorem MergeSpread_walk (A0 : Option Addr) (c0 : Nat) (es : List EE) (A1 : Option Addr) (c1 : Nat) (whr : List Int) (A2 : Option Addr) (c2 : Nat) (ags : List Int) (w : World) (hr : Kd.C k35 w A0 es.length es) (hc : es.length ≤ c0) (hr1 : Kd.C (Kd.int .i64) w A1 whr.length whr) (hc1 : whr.length ≤ c1) (hr2 : Kd.C (Kd.int .i64) w A2 ags.length ags) (hc2 : ags.length ≤ c2) (hH : smallP [es]) :
    Calls Try.prog 4 #[.slice A0 es.length c0, .slice A1 whr.length c1, .slice A2 ags.length c2] w fun e w' => e = .returned (.bool true) ∧ Below w.heap.size w w' := by
 have hwl := len_C hr1
 have hal := len_C hr2
 refine gw_start (N := 199) (vs := [.slice A0 es.length c0, .slice A1 whr.length c1, .slice A2 ags.length c2]) Try.func4 rfl rfl (by simp) fun a HF HO => ?_
 replace HO : Own w w [] := HO
 refine gR fun K1 hK1 => ?_
 refine V HF (op_assign rfl (ev_c _ _)) ?_
 intro _ H3; clear HF
 refine gE hK1 ?_
 refine gw_seq fun K4 hK4 => ?_
 refine gR fun K5 hK5 => ?_
 refine gw_call H3 (want_none rfl) rfl (by decide) (op_callL Try.func5 (by kernel_rfl) rfl rfl ar_nil) (alive_walk _) ?_
 rintro e6 w7 ⟨rfl, hb8⟩
 refine ⟨_, rfl, fun _ H10 => ?_⟩
 have O11 := HO.after hb8
 clear H3 HO hb8
 refine V H10 (op_not rfl (H10.ev rfl)) ?_
 intro _ H14; clear H10
 refine gE hK5 ?_
 refine gw_cond H14 rfl (fun hb15 => ?_) (fun hb15 => ?_)
 skip
 ·
  cases hb15
 refine wp_skip ?_
 refine gw_nx (hK4 _ _ ?_)
 refine gw_seq fun K16 hK16 => ?_
 refine gR fun K17 hK17 => ?_
 refine V H14 (op_move rfl (H14.ev rfl)) ?_
 intro _ H19; clear H14
 refine V H19 (op_len Try.underlying25 rfl (H19.ev rfl)) ?_
 intro _ H21; clear H19
 refine V H21 (op_gtr rfl (H21.ev rfl) (ev_c _ _)) ?_
 intro _ H23; clear H21
 refine V H23 (op_move rfl (H23.ev rfl)) ?_
 intro _ H25; clear H23
 rcases Bool.eq_false_or_eq_true (decide (50 < (es.length : Int))) with hb26 | hb26
 ·
  have H27 := H25.subst_ (d := 31) (b := true) rfl hb26
  clear H25
  (try simp only [decide_eq_true_eq] at hb26)
  refine Vo H27 (wn H27 rfl rfl rfl rfl) ?_
  intro _ H29; clear H27
  refine Vo H29 (wn H29 rfl rfl rfl rfl) ?_
  intro _ H31; clear H29
  refine Vo H31 (wn H31 rfl rfl rfl rfl) ?_
  intro _ H33; clear H31
  refine Vo H33 (wn H33 rfl rfl rfl rfl) ?_
  intro _ H35; clear H33
  refine V H35 (op_pick_t rfl (H35.ev rfl) (ev_c _ _)) ?_
  intro _ H37; clear H35
  refine gE hK17 ?_
  refine gw_cond H37 rfl (fun hb38 => ?_) (fun hb38 => ?_)
  rotate_left
  ·
   cases hb38
  refine gR fun K39 hK39 => ?_
  refine V H37 (op_assign rfl (ev_c _ _)) ?_
  intro _ H41; clear H37
  refine gE hK39 ?_
  refine wp_ret ?_
  refine gw_thr ?_
  refine gw_ret1 H41 rfl rfl ?_
  exact ⟨rfl, O11.below⟩
 ·
  have H42 := H25.subst_ (d := 31) (b := false) rfl hb26
  clear H25
  (try simp only [decide_eq_false_iff_not, Int.not_lt] at hb26)
  refine V2 H42 (want_yes H42 rfl rfl rfl rfl) (op_move rfl (H42.ev rfl)) ?_
  intro _ H44; clear H42
  refine gw_news (O := .cells #[.slice A0 es.length c0] 25 (0, 0)) (n := 1) H44 O11 (want_yes H44 rfl rfl rfl rfl) rfl (by decide) (op_bslice (by kernel_rfl) rfl (pt_cons (H44.ev rfl) pt_nil)) ?_
  intro g45 _ w47 H48 O49; clear H44 O11
  have O50 : Own w w47 [Bk g45 [.slice A0 es.length c0] 25] := O49
  clear O49
  refine gw_call H48 (want_yes H48 rfl rfl rfl rfl) rfl (by decide) (op_callL Try.func6 (by kernel_rfl) rfl rfl (ar_cons (H48.ev rfl) ar_nil)) (few_calls (some ⟨g45, 0, none⟩) 1 ([es]) _ hH (lit1_C (O50.get 0 rfl) rfl (Kd.C_below hr O50.below) hc) (Nat.le_refl _)) ?_
  rintro e53 w54 ⟨b51, rfl, hb55, hfew52⟩
  refine ⟨_, rfl, fun _ H57 => ?_⟩
  have O58 := O50.after hb55
  clear H48 O50 hb55
  refine V2 H57 (want_yes H57 rfl rfl rfl rfl) (op_not rfl (H57.ev rfl)) ?_
  intro _ H61; clear H57
  refine V H61 (op_pick_f rfl (H61.ev rfl) (H61.ev rfl)) ?_
  intro _ H63; clear H61
  refine gE hK17 ?_
  refine gw_cond H63 rfl (fun hb64 => ?_) (fun hb64 => ?_)
  ·
   have H65 := H63.subst_ (d := 36) (b := true) rfl hb64
   clear H63
   (try simp only [Bool.and_eq_true, Bool.and_eq_false_iff, Bool.not_and, Bool.or_eq_true, Bool.or_eq_false_iff, Bool.not_or, Bool.not_not, Bool.not_eq_true', Bool.not_eq_false', Bool.not_eq_true, Bool.not_eq_false] at hb64)
   refine gR fun K66 hK66 => ?_
   refine V H65 (op_assign rfl (ev_c _ _)) ?_
   intro _ H68; clear H65
   refine gE hK66 ?_
   refine wp_ret ?_
   refine gw_thr ?_
   refine gw_ret1 H68 rfl rfl ?_
   exact ⟨rfl, O58.below⟩
  ·
   have H69 := H63.subst_ (d := 36) (b := false) rfl hb64
   clear H63
   (try simp only [Bool.and_eq_true, Bool.and_eq_false_iff, Bool.not_and, Bool.or_eq_true, Bool.or_eq_false_iff, Bool.not_or, Bool.not_not, Bool.not_eq_true', Bool.not_eq_false', Bool.not_eq_true, Bool.not_eq_false] at hb64)
   have hf1 : fewP1 [es] := hfew52 (by simpa using hb64)
   refine wp_skip ?_
   refine gw_nx (hK16 _ _ ?_)
   refine gR fun K70 hK70 => ?_
   refine gw_rlit0 kW (e := 35) H69 O58 (want_none rfl) rfl (by decide) (op_bslice (by kernel_rfl) rfl pt_nil) ?_
   intro A71 S72 _ w74 H75 O76; clear H69 O58
   have O77 : Own w w74 [Chunk.row kW 35 w.heap.size S72 (.slice A71 (([] : List W3).length) 0) ([] : List W3), Bk g45 [.slice A0 es.length c0] 25] := O76
   clear O76
   refine V H75 (op_assign rfl (H75.ev rfl)) ?_
   intro _ H79; clear H75
   refine gE hK70 ?_
   refine gw_seq fun K80 hK80 => ?_
   refine gR fun K81 hK81 => ?_
   refine V H79 (op_move rfl (H79.ev rfl)) ?_
   intro _ H83; clear H79
   refine V H83 (op_len Try.underlying25 rfl (H83.ev rfl)) ?_
   intro _ H85; clear H83
   refine V H85 (op_move rfl (ev_c _ _)) ?_
   intro _ H87; clear H85
   refine gE hK81 ?_
   refine wp_block ?_
   refine gw_loop (fun m_ a_ w_ => ∃ (i : Int) (G : List W3) (Ag : Option Addr) (cg : Nat) (Sg : Nat → Prop), Fr 199 a_ [(40, J i), (7, .slice Ag G.length cg), (1, .slice A1 whr.length c1), (2, .slice A2 ags.length c2), (6, .bool false), (38, .slice A0 es.length c0), (39, J (es.length : Int))] ∧ Own w w_ [Chunk.row kW 35 w.heap.size Sg (.slice Ag G.length cg) G] ∧ (0 ≤ i ∧ i ≤ es.length) ∧ ((G.length : Int) = i) ∧ (relG w es G) ∧ m_ = (es.length - i.toNat)) ((es.length - (0 : Int).toNat)) ?_ ?_
   ·
    refine ⟨0, ([] : List W3), A71, 0, _, (H87.pick (t := 40) rfl (H87.pick (t := 7) rfl (H87.pick (t := 1) rfl (H87.pick (t := 2) rfl (H87.pick (t := 6) rfl (H87.pick (t := 38) rfl (H87.pick (t := 39) rfl H87.nil))))))), O77.sel [0] (by decide), ?_, ?_, ?_, rfl⟩
    ·
     omega
    ·
     rfl
    ·
     exact relG_nil w es
   ·
    rintro m89 _ w91 ⟨i, G, Ag, cg, Sg, H92, O93, hi, hGl, hGr, hm94⟩
    refine gR fun K95 hK95 => ?_
    refine V H92 (op_lss rfl (H92.ev rfl) (H92.ev rfl)) ?_
    intro _ H97; clear H92
    refine gE hK95 ?_
    refine gw_seq fun K98 hK98 => ?_
    refine gw_cond H97 rfl (fun hb99 => ?_) (fun hb99 => ?_)
    ·
     have H100 := H97.subst_ (d := 41) (b := true) rfl hb99
     clear H97
     (try simp only [decide_eq_true_eq] at hb99)
     refine wp_skip ?_
     refine gw_nx (hK98 _ _ ?_)
     refine gw_seq fun K101 hK101 => ?_
     refine wp_block ?_
     refine gR fun K102 hK102 => ?_
     refine V H100 (op_move rfl (H100.ev rfl)) ?_
     intro _ H104; clear H100
     obtain ⟨ad105, cs108, hA106, hl109, hK110, hc107⟩ := Kd.C_get hr z35 i (by omega) (by omega)
     obtain ⟨A111, c112, A115, c116, rfl, hl113, hC114, hl117, hC118⟩ := k35_open hK110
     clear hl109
     refine V H104 (op_index Try.underlying25 gwsiz35 rfl (H104.ev rfl) (H104.ev rfl) hA106 (⟨by omega, by omega⟩)) ?_
     intro _ H120; clear H104
     refine V H120 (op_loadc gwagg35 gwsiz35 rfl (H120.ev rfl) rfl (cells0 O93 hc107)) ?_
     intro _ H122; clear H120
     refine gw_new H122 O93 (want_none rfl) rfl (by decide) (op_alloc gwzer35 rfl) ?_
     intro g123 _ w125 H126 O127; clear H122 O93
     have O128 : Own w w125 [Bk g123 [J 0, .slice none 0 0, .slice none 0 0] 35, Chunk.row kW 35 w.heap.size Sg (.slice Ag G.length cg) G] := O127
     clear O127
     refine V H126 (op_assign rfl (H126.ev rfl)) ?_
     intro _ H130; clear H126
     refine gw_setn 0 H130 O128 rfl (want_none rfl) rfl (op_storen gwsiz35 rfl (H130.ev rfl) (H130.ev rfl) (O128.get 0 rfl) rfl (by simp) (by simp [Value.oneCell'])) ?_
     intro _ w133 H132 O134; clear H130 O128
     refine gE hK102 ?_
     refine gR fun K135 hK135 => ?_
     refine V H132 (op_move rfl (H132.ev rfl)) ?_
     intro _ H137; clear H132
     refine V H137 (op_field (gwfld35_0 _ _) rfl (H137.ev rfl)) ?_
     intro _ H139; clear H137
     refine gw_set 0 H139 O134 rfl (want_none rfl) rfl (op_store1 gwsiz3 rfl (H139.ev rfl) (H139.ev rfl) rfl (blk_at (O134.get 0 rfl) rfl) (blkf (O134.get 0 rfl))) ?_
     intro _ w142 H141 O143; clear H139 O134
     refine gE hK135 ?_
     refine wp_region_lit ?_
     refine V H141 (op_move rfl (H141.ev rfl)) ?_
     intro _ H145; clear H141
     refine V H145 (op_loadn gwagg35 gwsiz35 rfl (H145.ev rfl) (O143.get 0 rfl) rfl rfl) ?_
     intro _ H147; clear H145
     refine gw_news (O := .cells #[J i, .slice A111 ((es.getD i.toNat z35).f1.length) c112, .slice A115 ((es.getD i.toNat z35).f2.length) c116] 35 (0, 0)) (n := 1) H147 O143 (want_none rfl) rfl (by decide) (op_bslice (by kernel_rfl) rfl (pt_cons (H147.ev rfl) pt_nil)) ?_
     intro g148 _ w150 H151 O152; clear H147 O143
     have O153 : Own w w150 [Bk g148 [J i, .slice A111 ((es.getD i.toNat z35).f1.length) c112, .slice A115 ((es.getD i.toNat z35).f2.length) c116] 35, Bk g123 [J i, .slice A111 ((es.getD i.toNat z35).f1.length) c112, .slice A115 ((es.getD i.toNat z35).f2.length) c116] 35, Chunk.row kW 35 w.heap.size Sg (.slice Ag G.length cg) G] := O152
     clear O152
     have O154 : Own w _ [Chunk.row kW 35 w.heap.size Sg (.slice Ag G.length cg) G, Chunk.void, Bk g148 [J i, .slice A111 ((es.getD i.toNat z35).f1.length) c112, .slice A115 ((es.getD i.toNat z35).f2.length) c116] 35, Bk g123 [J i, .slice A111 ((es.getD i.toNat z35).f1.length) c112, .slice A115 ((es.getD i.toNat z35).f2.length) c116] 35] := O153.void.sel [3, 0, 1, 2] (by decide)
     refine gw_append1 kW 0 (p := (⟨i, ⟨A111, (es.getD i.toNat z35).f1.length, c112⟩, ⟨A115, (es.getD i.toNat z35).f2.length, c116⟩⟩ : W3)) (cs := [J i, .slice A111 ((es.getD i.toNat z35).f1.length) c112, .slice A115 ((es.getD i.toNat z35).f2.length) c116]) H151 O154 (want_none rfl) rfl (by decide) rfl Try.underlying25 gwinfo35 rfl (by decide) (by decide) rfl (H151.ev rfl) (H151.ev rfl) (fun w_ h_ => kW_mkM w_ _ _ (⟨i, ⟨A111, (es.getD i.toNat z35).f1.length, c112⟩, ⟨A115, (es.getD i.toNat z35).f2.length, c116⟩⟩ : W3) ) O154.below.size (by omega) ?_
     intro A155 c156 S157 _ w159 H160 O161; clear H151 O153 O154
     have O162 : Own w w159 [Chunk.row kW 35 w.heap.size S157 (.slice A155 ((G ++ [(⟨i, ⟨A111, (es.getD i.toNat z35).f1.length, c112⟩, ⟨A115, (es.getD i.toNat z35).f2.length, c116⟩⟩ : W3)]).length) c156) (G ++ [(⟨i, ⟨A111, (es.getD i.toNat z35).f1.length, c112⟩, ⟨A115, (es.getD i.toNat z35).f2.length, c116⟩⟩ : W3)]), Bk g148 [J i, .slice A111 ((es.getD i.toNat z35).f1.length) c112, .slice A115 ((es.getD i.toNat z35).f2.length) c116] 35, Bk g123 [J i, .slice A111 ((es.getD i.toNat z35).f1.length) c112, .slice A115 ((es.getD i.toNat z35).f2.length) c116] 35] := O161
     clear O161
     refine V H160 (op_assign rfl (H160.ev rfl)) ?_
     intro _ H164; clear H160
     refine wpList_nil ?_
     refine gw_blk ?_
     refine gw_nx (hK101 _ _ ?_)
     refine wp_region_lit ?_
     refine V H164 (op_add rfl (H164.ev rfl) (ev_c _ _) (by omega)) ?_
     intro _ H166; clear H164
     refine V H166 (op_move rfl (H166.ev rfl)) ?_
     intro _ H168; clear H166
     refine wpList_nil ?_
     refine gw_nx ⟨_, ?_, i + 1, (G ++ [(⟨i, ⟨A111, (es.getD i.toNat z35).f1.length, c112⟩, ⟨A115, (es.getD i.toNat z35).f2.length, c116⟩⟩ : W3)]), A155, c156, S157, (H168.pick (t := 40) rfl (H168.pick (t := 7) rfl (H168.pick (t := 1) rfl (H168.pick (t := 2) rfl (H168.pick (t := 6) rfl (H168.pick (t := 38) rfl (H168.pick (t := 39) rfl H168.nil))))))), O162.sel [0] (by decide), ?_, ?_, ?_, rfl⟩
     ·
      rw [hm94]; omega
     ·
      omega
     ·
      rw [List.length_append, List.length_singleton]; omega
     ·
      exact relG_next hGr (by omega) hl113 hC114 hl117 hC118
    ·
     have H169 := H97.subst_ (d := 41) (b := false) rfl hb99
     clear H97
     (try simp only [decide_eq_false_iff_not, Int.not_lt] at hb99)
     refine wp_exit ?_
     refine gw_thx ?_
     refine gw_thx ?_
     refine gw_in ?_
     refine gw_nx (hK80 _ _ ?_)
     refine gR fun K170 hK170 => ?_
     refine gw_news (O := .cells (cells8 (fun _ => none) (fun _ => 0) (fun _ => [])) 25 (0, 0)) (n := 8) H169 O93 (want_none rfl) rfl (by decide) (op_make (n := 8) (enc := fun _ : Unit => Value.slice none 0 0) (x0 := ()) Try.underlying22 gwinfo25 rfl rfl (ev_c _ _) (ev_c _ _) (by decide) (by decide)) ?_
     intro g171 _ w173 H174 O175; clear H169 O93
     have O176 := new8 O175 0 rfl
     clear O175
     have O177 : Own w w173 [Chunk.p8 25 w.heap.size g171 (fun _ => none) (fun _ => 0) (fun _ => []) (fun _ _ => False) 8, Chunk.row kW 35 w.heap.size Sg (.slice Ag G.length cg) G] := O176
     clear O176
     refine V H174 (op_assign rfl (H174.ev rfl)) ?_
     intro _ H179; clear H174
     refine gE hK170 ?_
     refine gw_seq fun K180 hK180 => ?_
     refine gR fun K181 hK181 => ?_
     refine V H179 (op_move rfl (H179.ev rfl)) ?_
     intro _ H183; clear H179
     refine V H183 (op_len Try.underlying25 rfl (H183.ev rfl)) ?_
     intro _ H185; clear H183
     refine V H185 (op_move rfl (ev_c _ _)) ?_
     intro _ H187; clear H185
     refine gE hK181 ?_
     refine wp_block ?_
     refine gw_loop (fun m_ a_ w_ => ∃ (p : Int) (A8 : Nat → Option Addr) (C8 : Nat → Nat) (X8 : Nat → List W3) (S8 : Nat → Nat → Prop), Fr 199 a_ [(55, J p), (7, .slice Ag G.length cg), (1, .slice A1 whr.length c1), (2, .slice A2 ags.length c2), (6, .bool false), (10, .slice (some ⟨g171, 0, none⟩) 8 8), (53, .slice Ag G.length cg), (54, J (G.length : Int))] ∧ Own w w_ [Chunk.p8 25 w.heap.size g171 A8 C8 X8 S8 8, Chunk.row kW 35 w.heap.size Sg (.slice Ag G.length cg) G] ∧ (0 ≤ p ∧ p ≤ G.length) ∧ (inG G X8) ∧ (hasG G X8 p.toNat) ∧ ((len8 X8 : Int) = p) ∧ m_ = (G.length - p.toNat)) ((G.length - (0 : Int).toNat)) ?_ ?_
     ·
      refine ⟨0, (fun _ => none), (fun _ => 0), (fun _ => []), (fun _ _ => False), (H187.pick (t := 55) rfl (H187.pick (t := 7) rfl (H187.pick (t := 1) rfl (H187.pick (t := 2) rfl (H187.pick (t := 6) rfl (H187.pick (t := 10) rfl (H187.pick (t := 53) rfl (H187.pick (t := 54) rfl H187.nil)))))))), O177.sel [0, 1] (by decide), ?_, ?_, ?_, ?_, rfl⟩
      ·
       omega
      ·
       exact in_nil G
      ·
       exact has_nil G
      ·
       rfl
     ·
      rintro m189 _ w191 ⟨p, A8, C8, X8, S8, H192, O193, hp, hI, hH, hn8, hm194⟩
      refine gR fun K195 hK195 => ?_
      refine V H192 (op_lss rfl (H192.ev rfl) (H192.ev rfl)) ?_
      intro _ H197; clear H192
      refine gE hK195 ?_
      refine gw_seq fun K198 hK198 => ?_
      refine gw_cond H197 rfl (fun hb199 => ?_) (fun hb199 => ?_)
      ·
       have H200 := H197.subst_ (d := 56) (b := true) rfl hb199
       clear H197
       (try simp only [decide_eq_true_eq] at hb199)
       refine wp_skip ?_
       refine gw_nx (hK198 _ _ ?_)
       refine gw_seq fun K201 hK201 => ?_
       refine wp_block ?_
       refine gR fun K202 hK202 => ?_
       refine V H200 (op_move rfl (H200.ev rfl)) ?_
       intro _ H204; clear H200
       obtain ⟨ad205, hA206⟩ := row_head (O193.get 1 rfl) p (by omega) (by omega)
       subst hA206
       refine V H204 (op_index Try.underlying25 gwsiz35 rfl (H204.ev rfl) (H204.ev rfl) rfl (⟨by omega, by omega⟩)) ?_
       intro _ H209; clear H204
       refine V H209 (op_loadc gwagg35 gwsiz35 rfl (H209.ev rfl) rfl ((rowf_cells (z := zW) (O193.get 1 rfl) p (by omega) (by omega) (fun _ _ h_ => kW_open h_)))) ?_
       intro _ H211; clear H209
       refine gw_new H211 O193 (want_none rfl) rfl (by decide) (op_alloc gwzer35 rfl) ?_
       intro g212 _ w214 H215 O216; clear H211 O193
       have O217 : Own w w214 [Bk g212 [J 0, .slice none 0 0, .slice none 0 0] 35, Chunk.p8 25 w.heap.size g171 A8 C8 X8 S8 8, Chunk.row kW 35 w.heap.size Sg (.slice (some ad205) G.length cg) G] := O216
       clear O216
       refine V H215 (op_assign rfl (H215.ev rfl)) ?_
       intro _ H219; clear H215
       refine gw_setn 0 H219 O217 rfl (want_none rfl) rfl (op_storen gwsiz35 rfl (H219.ev rfl) (H219.ev rfl) (O217.get 0 rfl) rfl (by simp) (by simp [Value.oneCell'])) ?_
       intro _ w222 H221 O223; clear H219 O217
       refine gE hK202 ?_
       refine gR fun K224 hK224 => ?_
       refine V H221 (op_assign rfl (ev_c _ _)) ?_
       intro _ H226; clear H221
       refine gE hK224 ?_
       refine gw_seq fun K227 hK227 => ?_
       refine gR fun K228 hK228 => ?_
       refine V H226 (op_move rfl (H226.ev rfl)) ?_
       intro _ H230; clear H226
       refine V H230 (op_len Try.underlying39 rfl (H230.ev rfl)) ?_
       intro _ H232; clear H230
       refine V H232 (op_gtr rfl (H232.ev rfl) (ev_c _ _)) ?_
       intro _ H234; clear H232
       refine gE hK228 ?_
       refine gw_cond H234 rfl (fun hb235 => ?_) (fun hb235 => ?_)
       ·
        have H236 := H234.subst_ (d := 62) (b := true) rfl hb235
        clear H234
        (try simp only [decide_eq_true_eq] at hb235)
        refine wp_region_lit ?_
        refine V H236 (op_move rfl (H236.ev rfl)) ?_
        intro _ H238; clear H236
        refine V H238 (op_move rfl (H238.ev rfl)) ?_
        intro _ H240; clear H238
        refine V H240 (op_move rfl (H240.ev rfl)) ?_
        intro _ H242; clear H240
        refine V H242 (op_len Try.underlying39 rfl (H242.ev rfl)) ?_
        intro _ H244; clear H242
        refine V H244 (op_rem rfl (H244.ev rfl) (H244.ev rfl) (by omega)) ?_
        intro _ H246; clear H244
        obtain ⟨rm, hrm, hrm0, hrm1⟩ : ∃ k_ : Int, Int.tmod p (whr.length : Int) = k_ ∧ 0 ≤ k_ ∧ k_ < (whr.length : Int) := ⟨_, rfl, Int.tmod_nonneg _ (by omega), Int.tmod_lt_of_pos _ (by omega)⟩
        have H247 := H246.conv (v' := J rm) (congrArg (Value.int .i64) hrm)
        clear H246
        obtain ⟨ad248, cs251, hA249, hl252, hK253, hc250⟩ := Kd.C_get hr1 (0 : Int) rm (by omega) (by omega)
        obtain rfl := id hK253
        clear hl252
        refine V H247 (op_index Try.underlying39 gwsiz3 rfl (H247.ev rfl) (H247.ev rfl) hA249 (⟨by omega, by omega⟩)) ?_
        intro _ H255; clear H247
        refine V H255 (op_load1 gwagg3 rfl (H255.ev rfl) (O223.cell0 (at0 hc250))) ?_
        intro _ H257; clear H255
        refine V H257 (op_and rfl (H257.ev rfl) (ev_c _ _)) ?_
        intro _ H259; clear H257
        obtain ⟨kw, hkw, hkw0, hkw1⟩ : ∃ k_ : Int, bits .and .i64 (whr.getD rm.toNat (0 : Int)) 7 = k_ ∧ 0 ≤ k_ ∧ k_ ≤ 7 := ⟨_, rfl, and_low (whr.getD rm.toNat (0 : Int)) 7 (by decide)⟩
        have H260 := H259.conv (v' := J kw) (congrArg (Value.int .i64) hkw)
        clear H259
        refine V H260 (op_assign rfl (H260.ev rfl)) ?_
        intro _ H262; clear H260
        refine gE hK227 ?_
        refine gx_draw (M := [Bk g212 [J ((G.getD p.toNat zW).f0), .slice ((G.getD p.toNat zW).f1.A) ((G.getD p.toNat zW).f1.n) ((G.getD p.toNat zW).f1.c), .slice ((G.getD p.toNat zW).f2.A) ((G.getD p.toNat zW).f2.n) ((G.getD p.toNat zW).f2.c)] 35, Chunk.p8 25 w.heap.size g171 A8 C8 X8 S8 8, Chunk.row kW 35 w.heap.size Sg (.slice (some ad205) G.length cg) G]) (fun j_ => j_ == 10) O223 (by kernel_rfl) fun w263 O264 => ?_
        clear O223
        refine gx_take 0 rfl (by kernel_rfl) H262 (by exact O264.sel [0, 1, 2] (by decide)) (want_none rfl) rfl (by decide) (fun wq HO => (op_move rfl (H262.ev rfl))) ?_
        intro _ H266; clear H262
        refine gx_take 1 rfl (by kernel_rfl) H266 (by exact O264.sel [0, 1, 2] (by decide)) (want_none rfl) rfl (by decide) (fun wq HO => (op_move rfl (H266.ev rfl))) ?_
        intro _ H268; clear H266
        refine gx_take 2 rfl (by kernel_rfl) H268 (by exact O264.sel [0, 1, 2] (by decide)) (want_none rfl) rfl (by decide) (fun wq HO => (op_loadn gwagg35 gwsiz35 rfl (H268.ev rfl) (HO.get 0 rfl) rfl rfl)) ?_
        intro _ H270; clear H268
        refine gx_take 4 rfl (by kernel_rfl) H270 (by exact O264.sel [0, 1, 2] (by decide)) (want_none rfl) rfl (by decide) (fun wq HO => (op_move rfl (H270.ev rfl))) ?_
        intro _ H272; clear H270
        refine gx_take 5 rfl (by kernel_rfl) H272 (by exact O264.sel [0, 1, 2] (by decide)) (want_none rfl) rfl (by decide) (fun wq HO => (op_move rfl (H272.ev rfl))) ?_
        intro _ H274; clear H272
        refine gx_take 6 rfl (by kernel_rfl) H274 (by exact O264.sel [0, 1, 2] (by decide)) (want_none rfl) rfl (by decide) (fun wq HO => (op_index Try.underlying22 gwsiz25 rfl (H274.ev rfl) (H274.ev rfl) rfl (⟨by omega, by omega⟩))) ?_
        intro _ H279; clear H274
        refine gx_take 7 rfl (by kernel_rfl) H279 (by exact O264.sel [0, 1, 2] (by decide)) (want_none rfl) rfl (by decide) (fun wq HO => (op_load1 gwagg25 rfl (H279.ev rfl) (p8_cell (HO.get 1 rfl) kw (by omega) (by omega)))) ?_
        intro _ H281; clear H279
        refine gx_step 3 rfl (by kernel_rfl) ?_
        refine gw_news (O := .cells #[J ((G.getD p.toNat zW).f0), .slice ((G.getD p.toNat zW).f1.A) ((G.getD p.toNat zW).f1.n) ((G.getD p.toNat zW).f1.c), .slice ((G.getD p.toNat zW).f2.A) ((G.getD p.toNat zW).f2.n) ((G.getD p.toNat zW).f2.c)] 35 (0, 0)) (n := 1) H281 O264 (want_none rfl) rfl (by decide) (op_bslice (by kernel_rfl) rfl (pt_cons (H281.ev rfl) pt_nil)) ?_
        intro g282 _ w284 H285 O286; clear H281 O264
        have O287 : Own w w284 [Bk g282 [J ((G.getD p.toNat zW).f0), .slice ((G.getD p.toNat zW).f1.A) ((G.getD p.toNat zW).f1.n) ((G.getD p.toNat zW).f1.c), .slice ((G.getD p.toNat zW).f2.A) ((G.getD p.toNat zW).f2.n) ((G.getD p.toNat zW).f2.c)] 35, Bk g212 [J ((G.getD p.toNat zW).f0), .slice ((G.getD p.toNat zW).f1.A) ((G.getD p.toNat zW).f1.n) ((G.getD p.toNat zW).f1.c), .slice ((G.getD p.toNat zW).f2.A) ((G.getD p.toNat zW).f2.n) ((G.getD p.toNat zW).f2.c)] 35, Chunk.p8 25 w.heap.size g171 A8 C8 X8 S8 8, Chunk.row kW 35 w.heap.size Sg (.slice (some ad205) G.length cg) G] := O286
        clear O286
        have O288 := lit_row (x := (⟨(G.getD p.toNat zW).f0, ⟨(G.getD p.toNat zW).f1.A, (G.getD p.toNat zW).f1.n, (G.getD p.toNat zW).f1.c⟩, ⟨(G.getD p.toNat zW).f2.A, (G.getD p.toNat zW).f2.n, (G.getD p.toNat zW).f2.c⟩⟩ : W3)) O287 0 rfl
        clear O287
        have O289 : Own w w284 [Chunk.row kW 35 w.heap.size (fun k => k = g282) (.slice (some ⟨g282, 0, none⟩) ([(⟨(G.getD p.toNat zW).f0, ⟨(G.getD p.toNat zW).f1.A, (G.getD p.toNat zW).f1.n, (G.getD p.toNat zW).f1.c⟩, ⟨(G.getD p.toNat zW).f2.A, (G.getD p.toNat zW).f2.n, (G.getD p.toNat zW).f2.c⟩⟩ : W3)].length) 1) ([(⟨(G.getD p.toNat zW).f0, ⟨(G.getD p.toNat zW).f1.A, (G.getD p.toNat zW).f1.n, (G.getD p.toNat zW).f1.c⟩, ⟨(G.getD p.toNat zW).f2.A, (G.getD p.toNat zW).f2.n, (G.getD p.toNat zW).f2.c⟩⟩ : W3)]), Bk g212 [J ((G.getD p.toNat zW).f0), .slice ((G.getD p.toNat zW).f1.A) ((G.getD p.toNat zW).f1.n) ((G.getD p.toNat zW).f1.c), .slice ((G.getD p.toNat zW).f2.A) ((G.getD p.toNat zW).f2.n) ((G.getD p.toNat zW).f2.c)] 35, Chunk.p8 25 w.heap.size g171 A8 C8 X8 S8 8, Chunk.row kW 35 w.heap.size Sg (.slice (some ad205) G.length cg) G] := O288
        clear O288
        refine gx_on (i := 3) (B := (fun j_ => j_ == 10)) (fun _ => (by exact O289.sel [1, 2, 3] (by decide))) ?_
        refine gx_step 8 rfl (by kernel_rfl) ?_
        refine gw_append kW 0 H285 O289 (want_none rfl) rfl (by decide) rfl Try.underlying25 gwinfo35 rfl (by decide) (by decide) rfl (H285.ev rfl) (H285.ev rfl) (p8_row (O289.get 2 rfl) kw (by omega) (by omega)) (fun _ _ h_ => (flatW.M _ _ _ _ _).2 (flatW.K _ _ _ h_)) O289.below.size (by first | (have h_ := len_le8 X8 kw.toNat (by omega); simp; omega) | (have h_ := len_le8 X8 (0 : Int).toNat (by decide); simp at h_ ⊢; omega)) ?_
        intro A290 c291 S292 _ w294 H295 O296; clear H285 O289
        have O297 : Own w w294 [Chunk.row kW 35 w.heap.size S292 (.slice A290 (([(⟨(G.getD p.toNat zW).f0, ⟨(G.getD p.toNat zW).f1.A, (G.getD p.toNat zW).f1.n, (G.getD p.toNat zW).f1.c⟩, ⟨(G.getD p.toNat zW).f2.A, (G.getD p.toNat zW).f2.n, (G.getD p.toNat zW).f2.c⟩⟩ : W3)] ++ (X8 kw.toNat)).length) c291) ([(⟨(G.getD p.toNat zW).f0, ⟨(G.getD p.toNat zW).f1.A, (G.getD p.toNat zW).f1.n, (G.getD p.toNat zW).f1.c⟩, ⟨(G.getD p.toNat zW).f2.A, (G.getD p.toNat zW).f2.n, (G.getD p.toNat zW).f2.c⟩⟩ : W3)] ++ (X8 kw.toNat)), Bk g212 [J ((G.getD p.toNat zW).f0), .slice ((G.getD p.toNat zW).f1.A) ((G.getD p.toNat zW).f1.n) ((G.getD p.toNat zW).f1.c), .slice ((G.getD p.toNat zW).f2.A) ((G.getD p.toNat zW).f2.n) ((G.getD p.toNat zW).f2.c)] 35, Chunk.p8 25 w.heap.size g171 A8 C8 X8 S8 8, Chunk.row kW 35 w.heap.size Sg (.slice (some ad205) G.length cg) G] := O296
        clear O296
        refine gx_on (i := 8) (B := (fun j_ => j_ == 10)) (fun _ => (by exact O297.sel [1, 2, 3] (by decide))) ?_
        refine gx_take 9 rfl (by kernel_rfl) H295 (by exact O297.sel [1, 2, 3] (by decide)) (want_none rfl) rfl (by decide) (fun wq HO => (op_index Try.underlying22 gwsiz25 rfl (H295.ev rfl) (H295.ev rfl) rfl (⟨by omega, by omega⟩))) ?_
        intro _ H302; clear H295
        refine gx_step 10 rfl (by kernel_rfl) ?_
        have O303 := O297.drop8 2 rfl (kw.toNat)
        clear O297
        have O304 : Own w w294 [Chunk.row kW 35 w.heap.size S292 (.slice A290 (([(⟨(G.getD p.toNat zW).f0, ⟨(G.getD p.toNat zW).f1.A, (G.getD p.toNat zW).f1.n, (G.getD p.toNat zW).f1.c⟩, ⟨(G.getD p.toNat zW).f2.A, (G.getD p.toNat zW).f2.n, (G.getD p.toNat zW).f2.c⟩⟩ : W3)] ++ (X8 kw.toNat)).length) c291) ([(⟨(G.getD p.toNat zW).f0, ⟨(G.getD p.toNat zW).f1.A, (G.getD p.toNat zW).f1.n, (G.getD p.toNat zW).f1.c⟩, ⟨(G.getD p.toNat zW).f2.A, (G.getD p.toNat zW).f2.n, (G.getD p.toNat zW).f2.c⟩⟩ : W3)] ++ (X8 kw.toNat)), Bk g212 [J ((G.getD p.toNat zW).f0), .slice ((G.getD p.toNat zW).f1.A) ((G.getD p.toNat zW).f1.n) ((G.getD p.toNat zW).f1.c), .slice ((G.getD p.toNat zW).f2.A) ((G.getD p.toNat zW).f2.n) ((G.getD p.toNat zW).f2.c)] 35, Chunk.p8 25 w.heap.size g171 A8 C8 X8 S8 kw.toNat, Chunk.row kW 35 w.heap.size Sg (.slice (some ad205) G.length cg) G] := O303
        clear O303
        have O305 : Own w w294 [Chunk.row kW 35 w.heap.size S292 (.slice A290 (([(⟨(G.getD p.toNat zW).f0, ⟨(G.getD p.toNat zW).f1.A, (G.getD p.toNat zW).f1.n, (G.getD p.toNat zW).f1.c⟩, ⟨(G.getD p.toNat zW).f2.A, (G.getD p.toNat zW).f2.n, (G.getD p.toNat zW).f2.c⟩⟩ : W3)] ++ (X8 kw.toNat)).length) c291) ([(⟨(G.getD p.toNat zW).f0, ⟨(G.getD p.toNat zW).f1.A, (G.getD p.toNat zW).f1.n, (G.getD p.toNat zW).f1.c⟩, ⟨(G.getD p.toNat zW).f2.A, (G.getD p.toNat zW).f2.n, (G.getD p.toNat zW).f2.c⟩⟩ : W3)] ++ (X8 kw.toNat)), Chunk.p8 25 w.heap.size g171 A8 C8 X8 S8 kw.toNat, Bk g212 [J ((G.getD p.toNat zW).f0), .slice ((G.getD p.toNat zW).f1.A) ((G.getD p.toNat zW).f1.n) ((G.getD p.toNat zW).f1.c), .slice ((G.getD p.toNat zW).f2.A) ((G.getD p.toNat zW).f2.n) ((G.getD p.toNat zW).f2.c)] 35, Chunk.row kW 35 w.heap.size Sg (.slice (some ad205) G.length cg) G] := by exact O304.sel [0, 2, 1, 3] (by decide)
        refine gw_put8 (kt := kw) H302 O305 (want_none rfl) rfl gwsiz25 (by omega) (by omega) rfl (H302.ev rfl) (H302.ev rfl) ?_
        intro _ w308 H307 O309; clear H302 O304 O305
        have O310 : Own w w308 [Chunk.p8 25 w.heap.size g171 (upd A8 kw.toNat A290) (upd C8 kw.toNat c291) (upd X8 kw.toNat ([(⟨(G.getD p.toNat zW).f0, ⟨(G.getD p.toNat zW).f1.A, (G.getD p.toNat zW).f1.n, (G.getD p.toNat zW).f1.c⟩, ⟨(G.getD p.toNat zW).f2.A, (G.getD p.toNat zW).f2.n, (G.getD p.toNat zW).f2.c⟩⟩ : W3)] ++ (X8 kw.toNat))) (upd S8 kw.toNat S292) 8, Bk g212 [J ((G.getD p.toNat zW).f0), .slice ((G.getD p.toNat zW).f1.A) ((G.getD p.toNat zW).f1.n) ((G.getD p.toNat zW).f1.c), .slice ((G.getD p.toNat zW).f2.A) ((G.getD p.toNat zW).f2.n) ((G.getD p.toNat zW).f2.c)] 35, Chunk.row kW 35 w.heap.size Sg (.slice (some ad205) G.length cg) G] := O309
        clear O309
        refine gx_on (i := 10) (B := (fun j_ => j_ == 10)) (fun h_ => by cases h_) ?_
        refine gx_done (by kernel_rfl) ?_
        refine gw_blk ?_
        refine gw_nx (hK201 _ _ ?_)
        refine wp_region_lit ?_
        refine V H307 (op_add rfl (H307.ev rfl) (ev_c _ _) (by omega)) ?_
        intro _ H312; clear H307
        refine V H312 (op_move rfl (H312.ev rfl)) ?_
        intro _ H314; clear H312
        refine wpList_nil ?_
        refine gw_nx ⟨_, ?_, p + 1, (upd A8 kw.toNat A290), (upd C8 kw.toNat c291), (upd X8 kw.toNat ([(⟨(G.getD p.toNat zW).f0, ⟨(G.getD p.toNat zW).f1.A, (G.getD p.toNat zW).f1.n, (G.getD p.toNat zW).f1.c⟩, ⟨(G.getD p.toNat zW).f2.A, (G.getD p.toNat zW).f2.n, (G.getD p.toNat zW).f2.c⟩⟩ : W3)] ++ (X8 kw.toNat))), (upd S8 kw.toNat S292), (H314.pick (t := 55) rfl (H314.pick (t := 7) rfl (H314.pick (t := 1) rfl (H314.pick (t := 2) rfl (H314.pick (t := 6) rfl (H314.pick (t := 10) rfl (H314.pick (t := 53) rfl (H314.pick (t := 54) rfl H314.nil)))))))), O310.sel [0, 2] (by decide), ?_, ?_, ?_, ?_, rfl⟩
        ·
         rw [hm194]; omega
        ·
         omega
        ·
         exact in_upd hI (fun x_ hx_ => (List.mem_append.1 hx_).elim (fun h_ => by rw [List.mem_singleton.1 h_]; exact getD_G (by omega)) (fun h_ => hI kw.toNat (by omega : kw.toNat < 8) x_ h_))
        ·
         rw [show (p + 1).toNat = p.toNat + 1 by omega]; exact has_next (by omega : kw.toNat < 8) hH (fun x_ hx_ => List.mem_append_right _ hx_) (List.mem_append_left _ (List.mem_cons_self ..))
        ·
         have h_ := len_upd (X := X8) (xs := [(⟨(G.getD p.toNat zW).f0, ⟨(G.getD p.toNat zW).f1.A, (G.getD p.toNat zW).f1.n, (G.getD p.toNat zW).f1.c⟩, ⟨(G.getD p.toNat zW).f2.A, (G.getD p.toNat zW).f2.n, (G.getD p.toNat zW).f2.c⟩⟩ : W3)] ++ X8 kw.toNat) (by omega : kw.toNat < 8); rw [List.length_append, List.length_singleton] at h_; omega
       ·
        have H315 := H234.subst_ (d := 62) (b := false) rfl hb235
        clear H234
        (try simp only [decide_eq_false_iff_not, Int.not_lt] at hb235)
        refine wp_skip ?_
        refine gw_nx (hK227 _ _ ?_)
        refine gx_draw (M := [Bk g212 [J ((G.getD p.toNat zW).f0), .slice ((G.getD p.toNat zW).f1.A) ((G.getD p.toNat zW).f1.n) ((G.getD p.toNat zW).f1.c), .slice ((G.getD p.toNat zW).f2.A) ((G.getD p.toNat zW).f2.n) ((G.getD p.toNat zW).f2.c)] 35, Chunk.p8 25 w.heap.size g171 A8 C8 X8 S8 8, Chunk.row kW 35 w.heap.size Sg (.slice (some ad205) G.length cg) G]) (fun j_ => j_ == 10) O223 (by kernel_rfl) fun w316 O317 => ?_
        clear O223
        refine gx_take 0 rfl (by kernel_rfl) H315 (by exact O317.sel [0, 1, 2] (by decide)) (want_none rfl) rfl (by decide) (fun wq HO => (op_move rfl (H315.ev rfl))) ?_
        intro _ H319; clear H315
        refine gx_take 1 rfl (by kernel_rfl) H319 (by exact O317.sel [0, 1, 2] (by decide)) (want_none rfl) rfl (by decide) (fun wq HO => (op_move rfl (H319.ev rfl))) ?_
        intro _ H321; clear H319
        refine gx_take 2 rfl (by kernel_rfl) H321 (by exact O317.sel [0, 1, 2] (by decide)) (want_none rfl) rfl (by decide) (fun wq HO => (op_loadn gwagg35 gwsiz35 rfl (H321.ev rfl) (HO.get 0 rfl) rfl rfl)) ?_
        intro _ H323; clear H321
        refine gx_take 4 rfl (by kernel_rfl) H323 (by exact O317.sel [0, 1, 2] (by decide)) (want_none rfl) rfl (by decide) (fun wq HO => (op_move rfl (H323.ev rfl))) ?_
        intro _ H325; clear H323
        refine gx_take 5 rfl (by kernel_rfl) H325 (by exact O317.sel [0, 1, 2] (by decide)) (want_none rfl) rfl (by decide) (fun wq HO => (op_move rfl (H325.ev rfl))) ?_
        intro _ H327; clear H325
        refine gx_take 6 rfl (by kernel_rfl) H327 (by exact O317.sel [0, 1, 2] (by decide)) (want_none rfl) rfl (by decide) (fun wq HO => (op_index Try.underlying22 gwsiz25 rfl (H327.ev rfl) (H327.ev rfl) rfl (⟨by omega, by omega⟩))) ?_
        intro _ H332; clear H327
        refine gx_take 7 rfl (by kernel_rfl) H332 (by exact O317.sel [0, 1, 2] (by decide)) (want_none rfl) rfl (by decide) (fun wq HO => (op_load1 gwagg25 rfl (H332.ev rfl) (p8_cell (HO.get 1 rfl) 0 (by omega) (by omega)))) ?_
        intro _ H334; clear H332
        refine gx_step 3 rfl (by kernel_rfl) ?_
        refine gw_news (O := .cells #[J ((G.getD p.toNat zW).f0), .slice ((G.getD p.toNat zW).f1.A) ((G.getD p.toNat zW).f1.n) ((G.getD p.toNat zW).f1.c), .slice ((G.getD p.toNat zW).f2.A) ((G.getD p.toNat zW).f2.n) ((G.getD p.toNat zW).f2.c)] 35 (0, 0)) (n := 1) H334 O317 (want_none rfl) rfl (by decide) (op_bslice (by kernel_rfl) rfl (pt_cons (H334.ev rfl) pt_nil)) ?_
        intro g335 _ w337 H338 O339; clear H334 O317
        have O340 : Own w w337 [Bk g335 [J ((G.getD p.toNat zW).f0), .slice ((G.getD p.toNat zW).f1.A) ((G.getD p.toNat zW).f1.n) ((G.getD p.toNat zW).f1.c), .slice ((G.getD p.toNat zW).f2.A) ((G.getD p.toNat zW).f2.n) ((G.getD p.toNat zW).f2.c)] 35, Bk g212 [J ((G.getD p.toNat zW).f0), .slice ((G.getD p.toNat zW).f1.A) ((G.getD p.toNat zW).f1.n) ((G.getD p.toNat zW).f1.c), .slice ((G.getD p.toNat zW).f2.A) ((G.getD p.toNat zW).f2.n) ((G.getD p.toNat zW).f2.c)] 35, Chunk.p8 25 w.heap.size g171 A8 C8 X8 S8 8, Chunk.row kW 35 w.heap.size Sg (.slice (some ad205) G.length cg) G] := O339
        clear O339
        have O341 := lit_row (x := (⟨(G.getD p.toNat zW).f0, ⟨(G.getD p.toNat zW).f1.A, (G.getD p.toNat zW).f1.n, (G.getD p.toNat zW).f1.c⟩, ⟨(G.getD p.toNat zW).f2.A, (G.getD p.toNat zW).f2.n, (G.getD p.toNat zW).f2.c⟩⟩ : W3)) O340 0 rfl
        clear O340
        have O342 : Own w w337 [Chunk.row kW 35 w.heap.size (fun k => k = g335) (.slice (some ⟨g335, 0, none⟩) ([(⟨(G.getD p.toNat zW).f0, ⟨(G.getD p.toNat zW).f1.A, (G.getD p.toNat zW).f1.n, (G.getD p.toNat zW).f1.c⟩, ⟨(G.getD p.toNat zW).f2.A, (G.getD p.toNat zW).f2.n, (G.getD p.toNat zW).f2.c⟩⟩ : W3)].length) 1) ([(⟨(G.getD p.toNat zW).f0, ⟨(G.getD p.toNat zW).f1.A, (G.getD p.toNat zW).f1.n, (G.getD p.toNat zW).f1.c⟩, ⟨(G.getD p.toNat zW).f2.A, (G.getD p.toNat zW).f2.n, (G.getD p.toNat zW).f2.c⟩⟩ : W3)]), Bk g212 [J ((G.getD p.toNat zW).f0), .slice ((G.getD p.toNat zW).f1.A) ((G.getD p.toNat zW).f1.n) ((G.getD p.toNat zW).f1.c), .slice ((G.getD p.toNat zW).f2.A) ((G.getD p.toNat zW).f2.n) ((G.getD p.toNat zW).f2.c)] 35, Chunk.p8 25 w.heap.size g171 A8 C8 X8 S8 8, Chunk.row kW 35 w.heap.size Sg (.slice (some ad205) G.length cg) G] := O341
        clear O341
        refine gx_on (i := 3) (B := (fun j_ => j_ == 10)) (fun _ => (by exact O342.sel [1, 2, 3] (by decide))) ?_
        refine gx_step 8 rfl (by kernel_rfl) ?_
        refine gw_append kW 0 H338 O342 (want_none rfl) rfl (by decide) rfl Try.underlying25 gwinfo35 rfl (by decide) (by decide) rfl (H338.ev rfl) (H338.ev rfl) (p8_row (O342.get 2 rfl) (0 : Int) (by omega) (by omega)) (fun _ _ h_ => (flatW.M _ _ _ _ _).2 (flatW.K _ _ _ h_)) O342.below.size (by first | (have h_ := len_le8 X8 kw.toNat (by omega); simp; omega) | (have h_ := len_le8 X8 (0 : Int).toNat (by decide); simp at h_ ⊢; omega)) ?_
        intro A343 c344 S345 _ w347 H348 O349; clear H338 O342
        have O350 : Own w w347 [Chunk.row kW 35 w.heap.size S345 (.slice A343 (([(⟨(G.getD p.toNat zW).f0, ⟨(G.getD p.toNat zW).f1.A, (G.getD p.toNat zW).f1.n, (G.getD p.toNat zW).f1.c⟩, ⟨(G.getD p.toNat zW).f2.A, (G.getD p.toNat zW).f2.n, (G.getD p.toNat zW).f2.c⟩⟩ : W3)] ++ (X8 (0 : Int).toNat)).length) c344) ([(⟨(G.getD p.toNat zW).f0, ⟨(G.getD p.toNat zW).f1.A, (G.getD p.toNat zW).f1.n, (G.getD p.toNat zW).f1.c⟩, ⟨(G.getD p.toNat zW).f2.A, (G.getD p.toNat zW).f2.n, (G.getD p.toNat zW).f2.c⟩⟩ : W3)] ++ (X8 (0 : Int).toNat)), Bk g212 [J ((G.getD p.toNat zW).f0), .slice ((G.getD p.toNat zW).f1.A) ((G.getD p.toNat zW).f1.n) ((G.getD p.toNat zW).f1.c), .slice ((G.getD p.toNat zW).f2.A) ((G.getD p.toNat zW).f2.n) ((G.getD p.toNat zW).f2.c)] 35, Chunk.p8 25 w.heap.size g171 A8 C8 X8 S8 8, Chunk.row kW 35 w.heap.size Sg (.slice (some ad205) G.length cg) G] := O349
        clear O349
        refine gx_on (i := 8) (B := (fun j_ => j_ == 10)) (fun _ => (by exact O350.sel [1, 2, 3] (by decide))) ?_
        refine gx_take 9 rfl (by kernel_rfl) H348 (by exact O350.sel [1, 2, 3] (by decide)) (want_none rfl) rfl (by decide) (fun wq HO => (op_index Try.underlying22 gwsiz25 rfl (H348.ev rfl) (H348.ev rfl) rfl (⟨by omega, by omega⟩))) ?_
        intro _ H355; clear H348
        refine gx_step 10 rfl (by kernel_rfl) ?_
        have O356 := O350.drop8 2 rfl ((0 : Int).toNat)
        clear O350
        have O357 : Own w w347 [Chunk.row kW 35 w.heap.size S345 (.slice A343 (([(⟨(G.getD p.toNat zW).f0, ⟨(G.getD p.toNat zW).f1.A, (G.getD p.toNat zW).f1.n, (G.getD p.toNat zW).f1.c⟩, ⟨(G.getD p.toNat zW).f2.A, (G.getD p.toNat zW).f2.n, (G.getD p.toNat zW).f2.c⟩⟩ : W3)] ++ (X8 (0 : Int).toNat)).length) c344) ([(⟨(G.getD p.toNat zW).f0, ⟨(G.getD p.toNat zW).f1.A, (G.getD p.toNat zW).f1.n, (G.getD p.toNat zW).f1.c⟩, ⟨(G.getD p.toNat zW).f2.A, (G.getD p.toNat zW).f2.n, (G.getD p.toNat zW).f2.c⟩⟩ : W3)] ++ (X8 (0 : Int).toNat)), Bk g212 [J ((G.getD p.toNat zW).f0), .slice ((G.getD p.toNat zW).f1.A) ((G.getD p.toNat zW).f1.n) ((G.getD p.toNat zW).f1.c), .slice ((G.getD p.toNat zW).f2.A) ((G.getD p.toNat zW).f2.n) ((G.getD p.toNat zW).f2.c)] 35, Chunk.p8 25 w.heap.size g171 A8 C8 X8 S8 ((0 : Int).toNat), Chunk.row kW 35 w.heap.size Sg (.slice (some ad205) G.length cg) G] := O356
        clear O356
        have O358 : Own w w347 [Chunk.row kW 35 w.heap.size S345 (.slice A343 (([(⟨(G.getD p.toNat zW).f0, ⟨(G.getD p.toNat zW).f1.A, (G.getD p.toNat zW).f1.n, (G.getD p.toNat zW).f1.c⟩, ⟨(G.getD p.toNat zW).f2.A, (G.getD p.toNat zW).f2.n, (G.getD p.toNat zW).f2.c⟩⟩ : W3)] ++ (X8 (0 : Int).toNat)).length) c344) ([(⟨(G.getD p.toNat zW).f0, ⟨(G.getD p.toNat zW).f1.A, (G.getD p.toNat zW).f1.n, (G.getD p.toNat zW).f1.c⟩, ⟨(G.getD p.toNat zW).f2.A, (G.getD p.toNat zW).f2.n, (G.getD p.toNat zW).f2.c⟩⟩ : W3)] ++ (X8 (0 : Int).toNat)), Chunk.p8 25 w.heap.size g171 A8 C8 X8 S8 ((0 : Int).toNat), Bk g212 [J ((G.getD p.toNat zW).f0), .slice ((G.getD p.toNat zW).f1.A) ((G.getD p.toNat zW).f1.n) ((G.getD p.toNat zW).f1.c), .slice ((G.getD p.toNat zW).f2.A) ((G.getD p.toNat zW).f2.n) ((G.getD p.toNat zW).f2.c)] 35, Chunk.row kW 35 w.heap.size Sg (.slice (some ad205) G.length cg) G] := by exact O357.sel [0, 2, 1, 3] (by decide)
        refine gw_put8 (kt := (0 : Int)) H355 O358 (want_none rfl) rfl gwsiz25 (by omega) (by omega) rfl (H355.ev rfl) (H355.ev rfl) ?_
        intro _ w361 H360 O362; clear H355 O357 O358
        have O363 : Own w w361 [Chunk.p8 25 w.heap.size g171 (upd A8 ((0 : Int).toNat) A343) (upd C8 ((0 : Int).toNat) c344) (upd X8 ((0 : Int).toNat) ([(⟨(G.getD p.toNat zW).f0, ⟨(G.getD p.toNat zW).f1.A, (G.getD p.toNat zW).f1.n, (G.getD p.toNat zW).f1.c⟩, ⟨(G.getD p.toNat zW).f2.A, (G.getD p.toNat zW).f2.n, (G.getD p.toNat zW).f2.c⟩⟩ : W3)] ++ (X8 (0 : Int).toNat))) (upd S8 ((0 : Int).toNat) S345) 8, Bk g212 [J ((G.getD p.toNat zW).f0), .slice ((G.getD p.toNat zW).f1.A) ((G.getD p.toNat zW).f1.n) ((G.getD p.toNat zW).f1.c), .slice ((G.getD p.toNat zW).f2.A) ((G.getD p.toNat zW).f2.n) ((G.getD p.toNat zW).f2.c)] 35, Chunk.row kW 35 w.heap.size Sg (.slice (some ad205) G.length cg) G] := O362
        clear O362
        refine gx_on (i := 10) (B := (fun j_ => j_ == 10)) (fun h_ => by cases h_) ?_
        refine gx_done (by kernel_rfl) ?_
        refine gw_blk ?_
        refine gw_nx (hK201 _ _ ?_)
        refine wp_region_lit ?_
        refine V H360 (op_add rfl (H360.ev rfl) (ev_c _ _) (by omega)) ?_
        intro _ H365; clear H360
        refine V H365 (op_move rfl (H365.ev rfl)) ?_
        intro _ H367; clear H365
        refine wpList_nil ?_
        refine gw_nx ⟨_, ?_, p + 1, (upd A8 ((0 : Int).toNat) A343), (upd C8 ((0 : Int).toNat) c344), (upd X8 ((0 : Int).toNat) ([(⟨(G.getD p.toNat zW).f0, ⟨(G.getD p.toNat zW).f1.A, (G.getD p.toNat zW).f1.n, (G.getD p.toNat zW).f1.c⟩, ⟨(G.getD p.toNat zW).f2.A, (G.getD p.toNat zW).f2.n, (G.getD p.toNat zW).f2.c⟩⟩ : W3)] ++ (X8 (0 : Int).toNat))), (upd S8 ((0 : Int).toNat) S345), (H367.pick (t := 55) rfl (H367.pick (t := 7) rfl (H367.pick (t := 1) rfl (H367.pick (t := 2) rfl (H367.pick (t := 6) rfl (H367.pick (t := 10) rfl (H367.pick (t := 53) rfl (H367.pick (t := 54) rfl H367.nil)))))))), O363.sel [0, 2] (by decide), ?_, ?_, ?_, ?_, rfl⟩
        ·
         rw [hm194]; omega
        ·
         omega
        ·
         exact in_upd hI (fun x_ hx_ => (List.mem_append.1 hx_).elim (fun h_ => by rw [List.mem_singleton.1 h_]; exact getD_G (by omega)) (fun h_ => hI (0 : Int).toNat (by omega : (0 : Int).toNat < 8) x_ h_))
        ·
         rw [show (p + 1).toNat = p.toNat + 1 by omega]; exact has_next (by omega : (0 : Int).toNat < 8) hH (fun x_ hx_ => List.mem_append_right _ hx_) (List.mem_append_left _ (List.mem_cons_self ..))
        ·
         have h_ := len_upd (X := X8) (xs := [(⟨(G.getD p.toNat zW).f0, ⟨(G.getD p.toNat zW).f1.A, (G.getD p.toNat zW).f1.n, (G.getD p.toNat zW).f1.c⟩, ⟨(G.getD p.toNat zW).f2.A, (G.getD p.toNat zW).f2.n, (G.getD p.toNat zW).f2.c⟩⟩ : W3)] ++ X8 (0 : Int).toNat) (by omega : (0 : Int).toNat < 8); rw [List.length_append, List.length_singleton] at h_; omega
      ·
       have H368 := H197.subst_ (d := 56) (b := false) rfl hb199
       clear H197
       (try simp only [decide_eq_false_iff_not, Int.not_lt] at hb199)
       refine wp_exit ?_
       refine gw_thx ?_
       refine gw_thx ?_
       refine gw_in ?_
       refine gw_nx (hK180 _ _ ?_)
       refine gw_seq fun K369 hK369 => ?_
       refine gR fun K370 hK370 => ?_
       refine V H368 (op_move rfl (H368.ev rfl)) ?_
       intro _ H372; clear H368
       refine V H372 (op_len Try.underlying39 rfl (H372.ev rfl)) ?_
       intro _ H374; clear H372
       refine V H374 (op_move rfl (ev_c _ _)) ?_
       intro _ H376; clear H374
       refine gE hK370 ?_
       refine wp_block ?_
       refine gw_loop (fun m_ a_ w_ => ∃ (q : Int) (A8 : Nat → Option Addr) (C8 : Nat → Nat) (X8 : Nat → List W3) (S8 : Nat → Nat → Prop), Fr 199 a_ [(84, J q), (7, .slice Ag G.length cg), (6, .bool false), (10, .slice (some ⟨g171, 0, none⟩) 8 8), (82, .slice A2 ags.length c2), (83, J (ags.length : Int))] ∧ Own w w_ [Chunk.p8 25 w.heap.size g171 A8 C8 X8 S8 8, Chunk.row kW 35 w.heap.size Sg (.slice Ag G.length cg) G] ∧ (0 ≤ q ∧ q ≤ ags.length) ∧ (inG G X8) ∧ (hasG G X8 G.length) ∧ ((len8 X8 : Int) ≤ G.length + q ∧ (len8 X8 : Int) ≤ G.length + 50) ∧ m_ = (ags.length - q.toNat)) ((ags.length - (0 : Int).toNat)) ?_ ?_
       ·
        refine ⟨0, A8, C8, X8, S8, (H376.pick (t := 84) rfl (H376.pick (t := 7) rfl (H376.pick (t := 6) rfl (H376.pick (t := 10) rfl (H376.pick (t := 82) rfl (H376.pick (t := 83) rfl H376.nil)))))), O193.sel [0, 1] (by decide), ?_, ?_, ?_, ?_, rfl⟩
        ·
         omega
        ·
         omega
        ·
         rw [show p.toNat = G.length by omega] at hH; exact hH
        ·
         omega
       ·
        rintro m378 _ w380 ⟨q, A8, C8, X8, S8, H381, O382, hq, hI, hH, hn8, hm383⟩
        refine gR fun K384 hK384 => ?_
        refine V H381 (op_lss rfl (H381.ev rfl) (H381.ev rfl)) ?_
        intro _ H386; clear H381
        refine gE hK384 ?_
        refine gw_seq fun K387 hK387 => ?_
        refine gw_cond H386 rfl (fun hb388 => ?_) (fun hb388 => ?_)
        ·
         have H389 := H386.subst_ (d := 85) (b := true) rfl hb388
         clear H386
         (try simp only [decide_eq_true_eq] at hb388)
         refine wp_skip ?_
         refine gw_nx (hK387 _ _ ?_)
         refine gw_seq fun K390 hK390 => ?_
         refine wp_block ?_
         refine gR fun K391 hK391 => ?_
         refine V H389 (op_move rfl (H389.ev rfl)) ?_
         intro _ H393; clear H389
         obtain ⟨ad394, cs397, hA395, hl398, hK399, hc396⟩ := Kd.C_get hr2 (0 : Int) q (by omega) (by omega)
         obtain rfl := id hK399
         clear hl398
         refine V H393 (op_index Try.underlying39 gwsiz3 rfl (H393.ev rfl) (H393.ev rfl) hA395 (⟨by omega, by omega⟩)) ?_
         intro _ H401; clear H393
         refine V H401 (op_load1 gwagg3 rfl (H401.ev rfl) (O382.cell0 (at0 hc396))) ?_
         intro _ H403; clear H401
         refine V H403 (op_assign rfl (H403.ev rfl)) ?_
         intro _ H405; clear H403
         refine V H405 (op_assign rfl (H405.ev rfl)) ?_
         intro _ H407; clear H405
         refine gE hK391 ?_
         refine gR fun K408 hK408 => ?_
         refine V H407 (op_move rfl (H407.ev rfl)) ?_
         intro _ H410; clear H407
         refine V H410 (op_lss rfl (H410.ev rfl) (ev_c _ _)) ?_
         intro _ H412; clear H410
         refine V H412 (op_move rfl (H412.ev rfl)) ?_
         intro _ H414; clear H412
         refine gw_evG H414 rfl rfl rfl rfl (on_t _) rfl (by decide) (fun h_ => (op_move rfl (H414.ev rfl))) ?_
         intro _ H416; clear H414
         refine gw_evG H416 rfl rfl rfl rfl (on_t _) rfl (by decide) (fun h_ => (op_len Try.underlying25 rfl (ev_gv (H416.ev rfl) h_))) ?_
         intro _ H418; clear H416
         refine gw_evG H418 rfl rfl rfl rfl (on_t _) rfl (by decide) (fun h_ => (op_gtr rfl (ev_gv (H418.ev rfl) h_) (ev_c _ _))) ?_
         intro _ H420; clear H418
         refine V H420 (op_pick_and rfl (H420.ev rfl) (fun hp_ => (ev_gv (H420.ev rfl) hp_)) (ev_c _ _)) ?_
         intro _ H422; clear H420
         refine gE hK408 ?_
         refine gw_cond H422 rfl (fun hb423 => ?_) (fun hb423 => ?_)
         ·
          have H424 := H422.subst_ (d := 95) (b := true) rfl hb423
          clear H422
          (try simp only [Bool.and_eq_true, Bool.and_eq_false_iff, decide_eq_true_eq, decide_eq_false_iff_not, Int.not_lt] at hb423)
          obtain ⟨ad425, hA426⟩ := row_head (O382.get 1 rfl) 0 (by omega) (by omega)
          subst hA426
          obtain ⟨kp, hkp, hkp0, hkp1⟩ : ∃ k_ : Int, bits .and .i64 q 7 = k_ ∧ 0 ≤ k_ ∧ k_ ≤ 7 := ⟨_, rfl, and_low q 7 (by decide)⟩
          have O427 := Own.take8 (k := kp.toNat) (by exact O382.sel [0, 1] (by decide)) (by omega)
          clear O382
          have O428 : Own w w380 [Chunk.row kW 35 w.heap.size (S8 kp.toNat) (.slice (A8 kp.toNat) ((X8 kp.toNat).length) (C8 kp.toNat)) (X8 kp.toNat), Chunk.p8 25 w.heap.size g171 A8 C8 X8 S8 kp.toNat, Chunk.row kW 35 w.heap.size Sg (.slice (some ad425) G.length cg) G] := O427
          clear O427
          refine gx_draw (M := [Chunk.p8 25 w.heap.size g171 A8 C8 X8 S8 kp.toNat, Chunk.row kW 35 w.heap.size Sg (.slice (some ad425) G.length cg) G]) (fun j_ => j_ == 19) O428 (by kernel_rfl) fun w429 O430 => ?_
          clear O428
          refine gx_take 0 rfl (by kernel_rfl) H424 (by exact O430.sel [1, 2] (by decide)) (want_none rfl) rfl (by decide) (fun wq HO => (op_move rfl (H424.ev rfl))) ?_
          intro _ H432; clear H424
          refine gx_take 1 rfl (by kernel_rfl) H432 (by exact O430.sel [1, 2] (by decide)) (want_none rfl) rfl (by decide) (fun wq HO => (op_move rfl (H432.ev rfl))) ?_
          intro _ H434; clear H432
          refine gx_take 2 rfl (by kernel_rfl) H434 (by exact O430.sel [1, 2] (by decide)) (want_none rfl) rfl (by decide) (fun wq HO => (op_and rfl (H434.ev rfl) (ev_c _ _))) ?_
          intro _ H436; clear H434
          have H437 := H436.conv (v' := J kp) (congrArg (Value.int .i64) hkp)
          clear H436
          refine gx_take 3 rfl (by kernel_rfl) H437 (by exact O430.sel [1, 2] (by decide)) (want_none rfl) rfl (by decide) (fun wq HO => (op_move rfl (H437.ev rfl))) ?_
          intro _ H439; clear H437
          refine gx_take 4 rfl (by kernel_rfl) H439 (by exact O430.sel [1, 2] (by decide)) (want_none rfl) rfl (by decide) (fun wq HO => (op_move rfl (H439.ev rfl))) ?_
          intro _ H441; clear H439
          refine gx_take 5 rfl (by kernel_rfl) H441 (by exact O430.sel [1, 2] (by decide)) (want_none rfl) rfl (by decide) (fun wq HO => (op_and rfl (H441.ev rfl) (ev_c _ _))) ?_
          intro _ H443; clear H441
          have H444 := H443.conv (v' := J kp) (congrArg (Value.int .i64) hkp)
          clear H443
          refine gx_take 6 rfl (by kernel_rfl) H444 (by exact O430.sel [1, 2] (by decide)) (want_none rfl) rfl (by decide) (fun wq HO => (op_index Try.underlying22 gwsiz25 rfl (H444.ev rfl) (H444.ev rfl) rfl (⟨by omega, by omega⟩))) ?_
          intro _ H449; clear H444
          refine gx_take 7 rfl (by kernel_rfl) H449 (by exact O430.sel [1, 2] (by decide)) (want_none rfl) rfl (by decide) (fun wq HO => (op_load1 gwagg25 rfl (H449.ev rfl) (p8_cell (HO.get 0 rfl) kp (by omega) (by omega)))) ?_
          intro _ H451; clear H449
          refine gx_take 8 rfl (by kernel_rfl) H451 (by exact O430.sel [1, 2] (by decide)) (want_none rfl) rfl (by decide) (fun wq HO => (op_move rfl (H451.ev rfl))) ?_
          intro _ H453; clear H451
          refine gx_take 9 rfl (by kernel_rfl) H453 (by exact O430.sel [1, 2] (by decide)) (want_none rfl) rfl (by decide) (fun wq HO => (op_move rfl (H453.ev rfl))) ?_
          intro _ H455; clear H453
          refine gx_take 10 rfl (by kernel_rfl) H455 (by exact O430.sel [1, 2] (by decide)) (want_none rfl) rfl (by decide) (fun wq HO => (op_and rfl (H455.ev rfl) (ev_c _ _))) ?_
          intro _ H457; clear H455
          obtain ⟨km, hkm, hkm0, hkm1⟩ : ∃ k_ : Int, bits .and .i64 (ags.getD q.toNat (0 : Int)) 1023 = k_ ∧ 0 ≤ k_ ∧ k_ ≤ 1023 := ⟨_, rfl, and_low (ags.getD q.toNat (0 : Int)) 1023 (by decide)⟩
          have H458 := H457.conv (v' := J km) (congrArg (Value.int .i64) hkm)
          clear H457
          refine gx_take 11 rfl (by kernel_rfl) H458 (by exact O430.sel [1, 2] (by decide)) (want_none rfl) rfl (by decide) (fun wq HO => (op_move rfl (H458.ev rfl))) ?_
          intro _ H460; clear H458
          refine gx_take 12 rfl (by kernel_rfl) H460 (by exact O430.sel [1, 2] (by decide)) (want_none rfl) rfl (by decide) (fun wq HO => (op_len Try.underlying25 rfl (H460.ev rfl))) ?_
          intro _ H462; clear H460
          refine gx_take 13 rfl (by kernel_rfl) H462 (by exact O430.sel [1, 2] (by decide)) (want_none rfl) rfl (by decide) (fun wq HO => (op_rem rfl (H462.ev rfl) (H462.ev rfl) (by omega))) ?_
          intro _ H464; clear H462
          obtain ⟨rn, hrn, hrn0, hrn1⟩ : ∃ k_ : Int, Int.tmod km (G.length : Int) = k_ ∧ 0 ≤ k_ ∧ k_ < (G.length : Int) := ⟨_, rfl, Int.tmod_nonneg _ (by omega), Int.tmod_lt_of_pos _ (by omega)⟩
          have H465 := H464.conv (v' := J rn) (congrArg (Value.int .i64) hrn)
          clear H464
          refine gx_take 14 rfl (by kernel_rfl) H465 (by exact O430.sel [1, 2] (by decide)) (want_none rfl) rfl (by decide) (fun wq HO => (op_index Try.underlying25 gwsiz35 rfl (H465.ev rfl) (H465.ev rfl) rfl (⟨by omega, by omega⟩))) ?_
          intro _ H470; clear H465
          refine gx_take 15 rfl (by kernel_rfl) H470 (by exact O430.sel [1, 2] (by decide)) (want_none rfl) rfl (by decide) (fun wq HO => (op_loadc gwagg35 gwsiz35 rfl (H470.ev rfl) rfl ((rowf_cells (z := zW) (HO.get 1 rfl) rn (by omega) (by omega) (fun _ _ h_ => kW_open h_))))) ?_
          intro _ H472; clear H470
          refine gx_step 16 rfl (by kernel_rfl) ?_
          refine gw_news (O := .cells #[J ((G.getD rn.toNat zW).f0), .slice ((G.getD rn.toNat zW).f1.A) ((G.getD rn.toNat zW).f1.n) ((G.getD rn.toNat zW).f1.c), .slice ((G.getD rn.toNat zW).f2.A) ((G.getD rn.toNat zW).f2.n) ((G.getD rn.toNat zW).f2.c)] 35 (0, 0)) (n := 1) H472 O430 (want_none rfl) rfl (by decide) (op_bslice (by kernel_rfl) rfl (pt_cons (H472.ev rfl) pt_nil)) ?_
          intro g473 _ w475 H476 O477; clear H472 O430
          have O478 : Own w w475 [Bk g473 [J ((G.getD rn.toNat zW).f0), .slice ((G.getD rn.toNat zW).f1.A) ((G.getD rn.toNat zW).f1.n) ((G.getD rn.toNat zW).f1.c), .slice ((G.getD rn.toNat zW).f2.A) ((G.getD rn.toNat zW).f2.n) ((G.getD rn.toNat zW).f2.c)] 35, Chunk.row kW 35 w.heap.size (S8 kp.toNat) (.slice (A8 kp.toNat) ((X8 kp.toNat).length) (C8 kp.toNat)) (X8 kp.toNat), Chunk.p8 25 w.heap.size g171 A8 C8 X8 S8 kp.toNat, Chunk.row kW 35 w.heap.size Sg (.slice (some ad425) G.length cg) G] := O477
          clear O477
          refine gx_on (i := 16) (B := (fun j_ => j_ == 19)) (fun _ => (by exact O478.sel [2, 3] (by decide))) ?_
          refine gx_step 17 rfl (by kernel_rfl) ?_
          have O479 : Own w _ [Chunk.row kW 35 w.heap.size (S8 kp.toNat) (.slice (A8 kp.toNat) ((X8 kp.toNat).length) (C8 kp.toNat)) (X8 kp.toNat), Chunk.void, Bk g473 [J ((G.getD rn.toNat zW).f0), .slice ((G.getD rn.toNat zW).f1.A) ((G.getD rn.toNat zW).f1.n) ((G.getD rn.toNat zW).f1.c), .slice ((G.getD rn.toNat zW).f2.A) ((G.getD rn.toNat zW).f2.n) ((G.getD rn.toNat zW).f2.c)] 35, Chunk.p8 25 w.heap.size g171 A8 C8 X8 S8 kp.toNat, Chunk.row kW 35 w.heap.size Sg (.slice (some ad425) G.length cg) G] := O478.void.sel [2, 0, 1, 3, 4] (by decide)
          refine gw_append1 kW 0 (p := (⟨(G.getD rn.toNat zW).f0, ⟨(G.getD rn.toNat zW).f1.A, (G.getD rn.toNat zW).f1.n, (G.getD rn.toNat zW).f1.c⟩, ⟨(G.getD rn.toNat zW).f2.A, (G.getD rn.toNat zW).f2.n, (G.getD rn.toNat zW).f2.c⟩⟩ : W3)) (cs := [J ((G.getD rn.toNat zW).f0), .slice ((G.getD rn.toNat zW).f1.A) ((G.getD rn.toNat zW).f1.n) ((G.getD rn.toNat zW).f1.c), .slice ((G.getD rn.toNat zW).f2.A) ((G.getD rn.toNat zW).f2.n) ((G.getD rn.toNat zW).f2.c)]) H476 O479 (want_none rfl) rfl (by decide) rfl Try.underlying25 gwinfo35 rfl (by decide) (by decide) rfl (H476.ev rfl) (H476.ev rfl) (fun w_ h_ => kW_mkM w_ _ _ (⟨(G.getD rn.toNat zW).f0, ⟨(G.getD rn.toNat zW).f1.A, (G.getD rn.toNat zW).f1.n, (G.getD rn.toNat zW).f1.c⟩, ⟨(G.getD rn.toNat zW).f2.A, (G.getD rn.toNat zW).f2.n, (G.getD rn.toNat zW).f2.c⟩⟩ : W3) ) O479.below.size (by have h_ := len_le8 X8 kp.toNat (by omega); (try simp); omega) ?_
          intro A480 c481 S482 _ w484 H485 O486; clear H476 O478 O479
          have O487 : Own w w484 [Chunk.row kW 35 w.heap.size S482 (.slice A480 (((X8 kp.toNat) ++ [(⟨(G.getD rn.toNat zW).f0, ⟨(G.getD rn.toNat zW).f1.A, (G.getD rn.toNat zW).f1.n, (G.getD rn.toNat zW).f1.c⟩, ⟨(G.getD rn.toNat zW).f2.A, (G.getD rn.toNat zW).f2.n, (G.getD rn.toNat zW).f2.c⟩⟩ : W3)]).length) c481) ((X8 kp.toNat) ++ [(⟨(G.getD rn.toNat zW).f0, ⟨(G.getD rn.toNat zW).f1.A, (G.getD rn.toNat zW).f1.n, (G.getD rn.toNat zW).f1.c⟩, ⟨(G.getD rn.toNat zW).f2.A, (G.getD rn.toNat zW).f2.n, (G.getD rn.toNat zW).f2.c⟩⟩ : W3)]), Bk g473 [J ((G.getD rn.toNat zW).f0), .slice ((G.getD rn.toNat zW).f1.A) ((G.getD rn.toNat zW).f1.n) ((G.getD rn.toNat zW).f1.c), .slice ((G.getD rn.toNat zW).f2.A) ((G.getD rn.toNat zW).f2.n) ((G.getD rn.toNat zW).f2.c)] 35, Chunk.p8 25 w.heap.size g171 A8 C8 X8 S8 kp.toNat, Chunk.row kW 35 w.heap.size Sg (.slice (some ad425) G.length cg) G] := O486
          clear O486
          refine gx_on (i := 17) (B := (fun j_ => j_ == 19)) (fun _ => (by exact O487.sel [2, 3] (by decide))) ?_
          refine gx_take 18 rfl (by kernel_rfl) H485 (by exact O487.sel [2, 3] (by decide)) (want_none rfl) rfl (by decide) (fun wq HO => (op_index Try.underlying22 gwsiz25 rfl (H485.ev rfl) (H485.ev rfl) rfl (⟨by omega, by omega⟩))) ?_
          intro _ H492; clear H485
          refine gx_step 19 rfl (by kernel_rfl) ?_
          have O493 : Own w w484 [Chunk.row kW 35 w.heap.size S482 (.slice A480 (((X8 kp.toNat) ++ [(⟨(G.getD rn.toNat zW).f0, ⟨(G.getD rn.toNat zW).f1.A, (G.getD rn.toNat zW).f1.n, (G.getD rn.toNat zW).f1.c⟩, ⟨(G.getD rn.toNat zW).f2.A, (G.getD rn.toNat zW).f2.n, (G.getD rn.toNat zW).f2.c⟩⟩ : W3)]).length) c481) ((X8 kp.toNat) ++ [(⟨(G.getD rn.toNat zW).f0, ⟨(G.getD rn.toNat zW).f1.A, (G.getD rn.toNat zW).f1.n, (G.getD rn.toNat zW).f1.c⟩, ⟨(G.getD rn.toNat zW).f2.A, (G.getD rn.toNat zW).f2.n, (G.getD rn.toNat zW).f2.c⟩⟩ : W3)]), Chunk.p8 25 w.heap.size g171 A8 C8 X8 S8 kp.toNat, Bk g473 [J ((G.getD rn.toNat zW).f0), .slice ((G.getD rn.toNat zW).f1.A) ((G.getD rn.toNat zW).f1.n) ((G.getD rn.toNat zW).f1.c), .slice ((G.getD rn.toNat zW).f2.A) ((G.getD rn.toNat zW).f2.n) ((G.getD rn.toNat zW).f2.c)] 35, Chunk.row kW 35 w.heap.size Sg (.slice (some ad425) G.length cg) G] := by exact O487.sel [0, 2, 1, 3] (by decide)
          refine gw_put8 (kt := kp) H492 O493 (want_none rfl) rfl gwsiz25 (by omega) (by omega) rfl (H492.ev rfl) (H492.ev rfl) ?_
          intro _ w496 H495 O497; clear H492 O487 O493
          have O498 : Own w w496 [Chunk.p8 25 w.heap.size g171 (upd A8 kp.toNat A480) (upd C8 kp.toNat c481) (upd X8 kp.toNat ((X8 kp.toNat) ++ [(⟨(G.getD rn.toNat zW).f0, ⟨(G.getD rn.toNat zW).f1.A, (G.getD rn.toNat zW).f1.n, (G.getD rn.toNat zW).f1.c⟩, ⟨(G.getD rn.toNat zW).f2.A, (G.getD rn.toNat zW).f2.n, (G.getD rn.toNat zW).f2.c⟩⟩ : W3)])) (upd S8 kp.toNat S482) 8, Bk g473 [J ((G.getD rn.toNat zW).f0), .slice ((G.getD rn.toNat zW).f1.A) ((G.getD rn.toNat zW).f1.n) ((G.getD rn.toNat zW).f1.c), .slice ((G.getD rn.toNat zW).f2.A) ((G.getD rn.toNat zW).f2.n) ((G.getD rn.toNat zW).f2.c)] 35, Chunk.row kW 35 w.heap.size Sg (.slice (some ad425) G.length cg) G] := O497
          clear O497
          refine gx_on (i := 19) (B := (fun j_ => j_ == 19)) (fun h_ => by cases h_) ?_
          refine gx_done (by kernel_rfl) ?_
          refine gw_blk ?_
          refine gw_nx (hK390 _ _ ?_)
          refine wp_region_lit ?_
          refine V H495 (op_add rfl (H495.ev rfl) (ev_c _ _) (by omega)) ?_
          intro _ H500; clear H495
          refine V H500 (op_move rfl (H500.ev rfl)) ?_
          intro _ H502; clear H500
          refine wpList_nil ?_
          refine gw_nx ⟨_, ?_, q + 1, (upd A8 kp.toNat A480), (upd C8 kp.toNat c481), (upd X8 kp.toNat ((X8 kp.toNat) ++ [(⟨(G.getD rn.toNat zW).f0, ⟨(G.getD rn.toNat zW).f1.A, (G.getD rn.toNat zW).f1.n, (G.getD rn.toNat zW).f1.c⟩, ⟨(G.getD rn.toNat zW).f2.A, (G.getD rn.toNat zW).f2.n, (G.getD rn.toNat zW).f2.c⟩⟩ : W3)])), (upd S8 kp.toNat S482), (H502.pick (t := 84) rfl (H502.pick (t := 7) rfl (H502.pick (t := 6) rfl (H502.pick (t := 10) rfl (H502.pick (t := 82) rfl (H502.pick (t := 83) rfl H502.nil)))))), O498.sel [0, 2] (by decide), ?_, ?_, ?_, ?_, rfl⟩
          ·
           rw [hm383]; omega
          ·
           omega
          ·
           exact in_upd hI (fun x_ hx_ => (List.mem_append.1 hx_).elim (fun h_ => hI kp.toNat (by omega : kp.toNat < 8) x_ h_) (fun h_ => by rw [List.mem_singleton.1 h_]; exact getD_G (by omega)))
          ·
           exact has_upd hH (fun x_ hx_ => List.mem_append_left _ hx_)
          ·
           have h_ := len_upd (X := X8) (xs := X8 kp.toNat ++ [(⟨(G.getD rn.toNat zW).f0, ⟨(G.getD rn.toNat zW).f1.A, (G.getD rn.toNat zW).f1.n, (G.getD rn.toNat zW).f1.c⟩, ⟨(G.getD rn.toNat zW).f2.A, (G.getD rn.toNat zW).f2.n, (G.getD rn.toNat zW).f2.c⟩⟩ : W3)]) (by omega : kp.toNat < 8); rw [List.length_append, List.length_singleton] at h_; omega
         ·
          have H503 := H422.subst_ (d := 95) (b := false) rfl hb423
          clear H422
          (try simp only [Bool.and_eq_true, Bool.and_eq_false_iff, decide_eq_true_eq, decide_eq_false_iff_not, Int.not_lt] at hb423)
          refine wp_skip ?_
          refine gw_blk ?_
          refine gw_nx (hK390 _ _ ?_)
          refine wp_region_lit ?_
          refine V H503 (op_add rfl (H503.ev rfl) (ev_c _ _) (by omega)) ?_
          intro _ H505; clear H503
          refine V H505 (op_move rfl (H505.ev rfl)) ?_
          intro _ H507; clear H505
          refine wpList_nil ?_
          refine gw_nx ⟨_, ?_, q + 1, A8, C8, X8, S8, (H507.pick (t := 84) rfl (H507.pick (t := 7) rfl (H507.pick (t := 6) rfl (H507.pick (t := 10) rfl (H507.pick (t := 82) rfl (H507.pick (t := 83) rfl H507.nil)))))), O382.sel [0, 1] (by decide), ?_, ?_, ?_, ?_, rfl⟩
          ·
           rw [hm383]; omega
          ·
           omega
          ·
           omega
          ·
           omega
          ·
           omega
        ·
         have H508 := H386.subst_ (d := 85) (b := false) rfl hb388
         clear H386
         (try simp only [decide_eq_false_iff_not, Int.not_lt] at hb388)
         refine wp_exit ?_
         refine gw_thx ?_
         refine gw_thx ?_
         refine gw_in ?_
         refine gw_nx (hK369 _ _ ?_)
         refine gR fun K509 hK509 => ?_
         refine V H508 (op_move rfl (H508.ev rfl)) ?_
         intro _ H511; clear H508
         refine V H511 (op_len Try.underlying25 rfl (H511.ev rfl)) ?_
         intro _ H513; clear H511
         refine V H513 (op_move rfl (H513.ev rfl)) ?_
         intro _ H515; clear H513
         refine gw_call H515 (want_none rfl) rfl (by decide) (op_callL Try.func7 (by kernel_rfl) rfl rfl (ar_cons (H515.ev rfl) (ar_cons (H515.ev rfl) ar_nil))) (Merge_n (G.length : Int) (some ⟨g171, 0, none⟩) 8 8 (PS8 es X8) _ (sp_ok (relG_ord hGr) hI hH) rfl (p8_parts (O382.get 0 rfl) (rows_rel hGr hI O382.below)) (Nat.le_refl _) (sp_few hf1 (relG_ord hGr) (by omega) hI (by omega)) (by omega) (sp_wf (relG_ord hGr) hI (by omega))) ?_
         rintro e519 w520 ⟨A516, c517, S518, rfl, hb521⟩
         refine ⟨_, rfl, fun _ H523 => ?_⟩
         have O524 := O382.fresh hb521
         have hbel525 := O382.below
         clear H515 O382 hb521
         have O526 := O524.lowrow 0 rfl (base' := w.heap.size) (Below.size hbel525)
         obtain ⟨O527, hFz528, hlz529, hbz530, hRz531⟩ := frz_row O526 0 rfl
         clear O526
         have O532 : Own w w520 [Chunk.frz w520 S518, Chunk.p8 25 w.heap.size g171 A8 C8 X8 S8 8, Chunk.row kW 35 w.heap.size Sg (.slice Ag G.length cg) G] := O527
         clear O527
         have hml : (G.map (Ee es)).length = G.length := List.length_map ..
         refine V H523 (op_move rfl (H523.ev rfl)) ?_
         intro _ H534; clear H523
         refine V H534 (op_extract rfl (H534.ev rfl) rfl) ?_
         intro _ H536; clear H534
         refine V H536 (op_extract rfl (H536.ev rfl) rfl) ?_
         intro _ H538; clear H536
         refine V H538 (op_assign rfl (H538.ev rfl)) ?_
         intro _ H540; clear H538
         refine V H540 (op_assign rfl (H540.ev rfl)) ?_
         intro _ H542; clear H540
         refine gE hK509 ?_
         refine gw_seq fun K543 hK543 => ?_
         refine gR fun K544 hK544 => ?_
         refine V H542 (op_move rfl (H542.ev rfl)) ?_
         intro _ H546; clear H542
         refine V H546 (op_nei rfl (H546.ev rfl) (ev_c _ _)) ?_
         intro _ H548; clear H546
         have H549 := H548.lit (b := false) (by simp)
         clear H548
         refine V H549 (op_move rfl (H549.ev rfl)) ?_
         intro _ H551; clear H549
         refine V2 H551 (want_yes H551 rfl rfl rfl rfl) (op_move rfl (H551.ev rfl)) ?_
         intro _ H553; clear H551
         refine V2 H553 (want_yes H553 rfl rfl rfl rfl) (op_len Try.underlying25 rfl (H553.ev rfl)) ?_
         intro _ H555; clear H553
         refine V2 H555 (want_yes H555 rfl rfl rfl rfl) (op_move rfl (H555.ev rfl)) ?_
         intro _ H557; clear H555
         refine V2 H557 (want_yes H557 rfl rfl rfl rfl) (op_len Try.underlying25 rfl (H557.ev rfl)) ?_
         intro _ H559; clear H557
         refine V2 H559 (want_yes H559 rfl rfl rfl rfl) (op_nei rfl (H559.ev rfl) (H559.ev rfl)) ?_
         intro _ H561; clear H559
         have H562 := H561.lit (b := false) (by simp)
         clear H561
         refine V H562 (op_pick_f rfl (H562.ev rfl) (H562.ev rfl)) ?_
         intro _ H564; clear H562
         refine gE hK544 ?_
         refine gw_cond H564 rfl (fun hb565 => ?_) (fun hb565 => ?_)
         skip
         ·
          cases hb565
         refine wp_skip ?_
         refine gw_nx (hK543 _ _ ?_)
         refine gw_seq fun K566 hK566 => ?_
         refine gR fun K567 hK567 => ?_
         refine V H564 (op_move rfl (H564.ev rfl)) ?_
         intro _ H569; clear H564
         refine V H569 (op_len Try.underlying25 rfl (H569.ev rfl)) ?_
         intro _ H571; clear H569
         refine V H571 (op_move rfl (ev_c _ _)) ?_
         intro _ H573; clear H571
         refine gE hK567 ?_
         refine wp_block ?_
         refine gw_loop (fun m_ a_ w_ => ∃ (m : Int), Fr 199 a_ [(134, J m), (7, .slice Ag G.length cg), (10, .slice (some ⟨g171, 0, none⟩) 8 8), (16, .slice A516 ((G.map (Ee es)).length) c517), (133, J (((G.map (Ee es)).length) : Int))] ∧ Own w w_ [Chunk.frz w520 S518, Chunk.p8 25 w.heap.size g171 A8 C8 X8 S8 8, Chunk.row kW 35 w.heap.size Sg (.slice Ag G.length cg) G] ∧ (0 ≤ m ∧ m ≤ G.length) ∧ m_ = (G.length - m.toNat)) ((G.length - (0 : Int).toNat)) ?_ ?_
         ·
          refine ⟨0, (H573.pick (t := 134) rfl (H573.pick (t := 7) rfl (H573.pick (t := 10) rfl (H573.pick (t := 16) rfl (H573.pick (t := 133) rfl H573.nil))))), O532.sel [0, 1, 2] (by decide), ?_, rfl⟩
          ·
           omega
         ·
          rintro m575 _ w577 ⟨m, H578, O579, him, hm580⟩
          refine gR fun K581 hK581 => ?_
          refine V H578 (op_lss rfl (H578.ev rfl) (H578.ev rfl)) ?_
          intro _ H583; clear H578
          refine gE hK581 ?_
          refine gw_seq fun K584 hK584 => ?_
          refine gw_cond H583 rfl (fun hb585 => ?_) (fun hb585 => ?_)
          ·
           have H586 := H583.subst_ (d := 135) (b := true) rfl hb585
           clear H583
           (try simp only [decide_eq_true_eq] at hb585)
           obtain ⟨ad587, hA588⟩ := row_head (O579.get 2 rfl) 0 (by omega) (by omega)
           subst hA588
           refine wp_skip ?_
           refine gw_nx (hK584 _ _ ?_)
           refine gw_seq fun K589 hK589 => ?_
           refine wp_block ?_
           refine gR fun K590 hK590 => ?_
           refine V H586 (op_move rfl (H586.ev rfl)) ?_
           intro _ H592; clear H586
           refine V H592 (op_assign rfl (H592.ev rfl)) ?_
           intro _ H594; clear H592
           refine gE hK590 ?_
           refine gw_seq fun K595 hK595 => ?_
           refine gw_drawB O579 (by kernel_rfl) (by kernel_rfl) fun w596 O597 => ?_
           clear O579
           refine gq_ev H594 (want_none rfl) rfl (by decide) (fun wq hq => have HO := O597.after hq; (op_move rfl (H594.ev rfl))) ?_
           intro _ H599; clear H594
           refine gq_ev H599 (want_none rfl) rfl (by decide) (fun wq hq => have HO := O597.after hq; (op_move rfl (H599.ev rfl))) ?_
           intro _ H601; clear H599
           obtain ⟨ad602, cs605, hA603, hl606, hK607, hc604, hin608⟩ := Kd.F_get hFz528 z35 m (by omega) (by omega)
           obtain ⟨A609, c610, A613, c614, rfl, hl611, hC612, hl615, hC616⟩ := k35_openF hK607
           clear hl606
           refine gq_ev H601 (want_none rfl) rfl (by decide) (fun wq hq => have HO := O597.after hq; (op_index Try.underlying25 gwsiz35 rfl (H601.ev rfl) (H601.ev rfl) hA603 (⟨by omega, by omega⟩))) ?_
           intro _ H618; clear H601
           refine gq_ev H618 (want_none rfl) rfl (by decide) (fun wq hq => have HO := O597.after hq; (op_loadc gwagg35 gwsiz35 rfl (H618.ev rfl) rfl ((frz_cells (i := 0) HO rfl hbz530 (hin608 (by decide)) hc604)))) ?_
           intro _ H620; clear H618
           refine gq_ev H620 (want_none rfl) rfl (by decide) (fun wq hq => have HO := O597.after hq; (op_move rfl (H620.ev rfl))) ?_
           intro _ H622; clear H620
           refine gq_ev H622 (want_none rfl) rfl (by decide) (fun wq hq => have HO := O597.after hq; (op_move rfl (H622.ev rfl))) ?_
           intro _ H624; clear H622
           refine gq_ev H624 (want_none rfl) rfl (by decide) (fun wq hq => have HO := O597.after hq; (op_index Try.underlying25 gwsiz35 rfl (H624.ev rfl) (H624.ev rfl) rfl (⟨by omega, by omega⟩))) ?_
           intro _ H629; clear H624
           refine gq_ev H629 (want_none rfl) rfl (by decide) (fun wq hq => have HO := O597.after hq; (op_loadc gwagg35 gwsiz35 rfl (H629.ev rfl) rfl ((rowf_cells (z := zW) (HO.get 2 rfl) m (by omega) (by omega) (fun _ _ h_ => kW_open h_))))) ?_
           intro _ H631; clear H629
           refine gq_call H631 (want_none rfl) rfl (by decide) (fun wq hq => have HO := O597.after hq; (op_callL Try.func10 (by kernel_rfl) rfl rfl (ar_cons (H631.ev rfl) (ar_cons (H631.ev rfl) ar_nil)))) (fun wq hq => have HO := O597.after hq; (Same_W ((G.map (Ee es)).getD m.toNat z35) (Ee es (G.getD m.toNat zW)) (G.getD m.toNat zW) A609 c610 A613 c614 _ (frz_C (i := 0) HO rfl hbz530 hC612) hl611 (frz_C (i := 0) HO rfl hbz530 hC616) hl615 (relG_in hGr HO.below (getD_G (by omega)))).mono fun e w' h => ⟨h.1, below_then hq h.2⟩) ?_
           intro _ H633; clear H631
           refine gq_ev H633 (want_none rfl) rfl (by decide) (fun wq hq => have HO := O597.after hq; (op_not rfl (H633.ev rfl))) ?_
           intro _ H635; clear H633
           have H636 := H635.lit (b := false) (by rw [map_getD (by omega), eqA_self]; rfl)
           clear H635
           refine wpQuiet_nil ?_
           intro w637 hq
           have O638 := O597.after hq
           clear O597 hq
           refine gw_nx (hK595 _ _ ?_)
           refine gw_cond H636 rfl (fun hb639 => ?_) (fun hb639 => ?_)
           skip
           ·
            cases hb639
           refine wp_skip ?_
           refine gw_blk ?_
           refine gw_nx (hK589 _ _ ?_)
           refine wp_region_lit ?_
           refine V H636 (op_add rfl (H636.ev rfl) (ev_c _ _) (by omega)) ?_
           intro _ H641; clear H636
           refine V H641 (op_move rfl (H641.ev rfl)) ?_
           intro _ H643; clear H641
           refine wpList_nil ?_
           refine gw_nx ⟨_, ?_, m + 1, (H643.pick (t := 134) rfl (H643.pick (t := 7) rfl (H643.pick (t := 10) rfl (H643.pick (t := 16) rfl (H643.pick (t := 133) rfl H643.nil))))), O638.sel [0, 1, 2] (by decide), ?_, rfl⟩
           ·
            rw [hm580]; omega
           ·
            omega
          ·
           have H644 := H583.subst_ (d := 135) (b := false) rfl hb585
           clear H583
           (try simp only [decide_eq_false_iff_not, Int.not_lt] at hb585)
           refine wp_exit ?_
           refine gw_thx ?_
           refine gw_thx ?_
           refine gw_in ?_
           refine gw_nx (hK566 _ _ ?_)
           refine gw_seq fun K645 hK645 => ?_
           refine gR fun K646 hK646 => ?_
           refine V H644 (op_move rfl (H644.ev rfl)) ?_
           intro _ H648; clear H644
           refine V H648 (op_len Try.underlying25 rfl (H648.ev rfl)) ?_
           intro _ H650; clear H648
           refine V H650 (op_eqi rfl (H650.ev rfl) (ev_c _ _)) ?_
           intro _ H652; clear H650
           refine gE hK646 ?_
           refine gw_cond H652 rfl (fun hb653 => ?_) (fun hb653 => ?_)
           ·
            have H654 := H652.subst_ (d := 150) (b := true) rfl hb653
            clear H652
            (try simp only [decide_eq_true_eq] at hb653)
            refine gR fun K655 hK655 => ?_
            refine V H654 (op_assign rfl (ev_c _ _)) ?_
            intro _ H657; clear H654
            refine gE hK655 ?_
            refine wp_ret ?_
            refine gw_thr ?_
            refine gw_ret1 H657 rfl rfl ?_
            exact ⟨rfl, O579.below⟩
           ·
            have H658 := H652.subst_ (d := 150) (b := false) rfl hb653
            clear H652
            (try simp only [decide_eq_false_iff_not] at hb653)
            obtain ⟨ad659, hA660⟩ := row_head (O579.get 2 rfl) 0 (by omega) (by omega)
            subst hA660
            have hx0 : RelE w (G.getD (0 : Int).toNat zW) (Ee es (G.getD (0 : Int).toNat zW)) := relG_in hGr (Below.refl _ _) (getD_G (by show 0 < _; omega))
            have hn0 : (G.getD (0 : Int).toNat zW).f1.n ≤ 1999 := by have h_ := (okE1_first hf1 (relG_ord hGr) (by omega) (by omega)).1; have h2_ := hx0.C1.1; exact h2_ ▸ h_
            refine wp_skip ?_
            refine gw_nx (hK645 _ _ ?_)
            refine gR fun K661 hK661 => ?_
            refine V H658 (op_move rfl (H658.ev rfl)) ?_
            intro _ H663; clear H658
            refine V H663 (op_index Try.underlying25 gwsiz35 rfl (H663.ev rfl) (ev_c _ _) rfl (⟨by omega, by omega⟩)) ?_
            intro _ H668; clear H663
            refine V H668 (op_loadc gwagg35 gwsiz35 rfl (H668.ev rfl) rfl ((rowf_cells (z := zW) (O579.get 2 rfl) 0 (by omega) (by omega) (fun _ _ h_ => kW_open h_)))) ?_
            intro _ H670; clear H668
            refine gw_new H670 O579 (want_none rfl) rfl (by decide) (op_alloc gwzer35 rfl) ?_
            intro g671 _ w673 H674 O675; clear H670 O579
            have O676 : Own w w673 [Bk g671 [J 0, .slice none 0 0, .slice none 0 0] 35, Chunk.frz w520 S518, Chunk.p8 25 w.heap.size g171 A8 C8 X8 S8 8, Chunk.row kW 35 w.heap.size Sg (.slice (some ad659) G.length cg) G] := O675
            clear O675
            refine gw_setn 0 H674 O676 rfl (want_none rfl) rfl (op_storen gwsiz35 rfl (H674.ev rfl) (H674.ev rfl) (O676.get 0 rfl) rfl (by simp) (by simp [Value.oneCell'])) ?_
            intro _ w679 H678 O680; clear H674 O676
            refine gE hK661 ?_
            refine gR fun K681 hK681 => ?_
            refine gw_rlit0 k37 (e := 37) H678 O680 (want_none rfl) rfl (by decide) (op_bslice (by kernel_rfl) rfl pt_nil) ?_
            intro A682 S683 _ w685 H686 O687; clear H678 O680
            have O688 : Own w w685 [Chunk.row k37 37 w.heap.size S683 (.slice A682 (([] : List S37).length) 0) ([] : List S37), Bk g671 [J ((G.getD (0 : Int).toNat zW).f0), .slice ((G.getD (0 : Int).toNat zW).f1.A) ((G.getD (0 : Int).toNat zW).f1.n) ((G.getD (0 : Int).toNat zW).f1.c), .slice ((G.getD (0 : Int).toNat zW).f2.A) ((G.getD (0 : Int).toNat zW).f2.n) ((G.getD (0 : Int).toNat zW).f2.c)] 35, Chunk.frz w520 S518, Chunk.p8 25 w.heap.size g171 A8 C8 X8 S8 8, Chunk.row kW 35 w.heap.size Sg (.slice (some ad659) G.length cg) G] := O687
            clear O687
            refine V H686 (op_field (gwfld35_1 _ _) rfl (H686.ev rfl)) ?_
            intro _ H690; clear H686
            refine V H690 (op_load1 gwagg32 rfl (H690.ev rfl) (blk_at (O688.get 1 rfl) rfl)) ?_
            intro _ H692; clear H690
            refine gw_append k37 0 H692 O688 (want_none rfl) rfl (by decide) rfl Try.underlying32 gwinfo37 rfl (by decide) (by decide) rfl (H692.ev rfl) (H692.ev rfl) (Kd.C_below (hx0).C1 O688.below) (fun _ _ h => h) O688.below.size (by rw [List.length_nil]; omega) ?_
            intro A693 c694 S695 _ w697 H698 O699; clear H692 O688
            have O700 : Own w w697 [Chunk.row k37 37 w.heap.size S695 (.slice A693 ((([] : List S37) ++ (Ee es (G.getD (0 : Int).toNat zW)).f1).length) c694) (([] : List S37) ++ (Ee es (G.getD (0 : Int).toNat zW)).f1), Bk g671 [J ((G.getD (0 : Int).toNat zW).f0), .slice ((G.getD (0 : Int).toNat zW).f1.A) ((G.getD (0 : Int).toNat zW).f1.n) ((G.getD (0 : Int).toNat zW).f1.c), .slice ((G.getD (0 : Int).toNat zW).f2.A) ((G.getD (0 : Int).toNat zW).f2.n) ((G.getD (0 : Int).toNat zW).f2.c)] 35, Chunk.frz w520 S518, Chunk.p8 25 w.heap.size g171 A8 C8 X8 S8 8, Chunk.row kW 35 w.heap.size Sg (.slice (some ad659) G.length cg) G] := O699
            clear O699
            refine V H698 (op_build (cells := #[.string (⟨#[110, 101, 119]⟩ : ByteArray), J 1]) rfl (pt_cons (ev_c _ _) (pt_cons (ev_c _ _) pt_nil)) (by kernel_rfl)) ?_
            intro _ H702; clear H698
            obtain ⟨OO, hOO⟩ : ∃ O_ : EE, O_ = ⟨((G.getD (0 : Int).toNat zW)).f0, (Ee es (G.getD (0 : Int).toNat zW)).f1 ++ [(⟨(⟨#[110, 101, 119]⟩ : ByteArray), 1⟩ : RR)], (Ee es (G.getD (0 : Int).toNat zW)).f2⟩ := ⟨_, rfl⟩
            have hne : OO.f1.length ≠ (Ee es (G.getD 0 zW)).f1.length := by rw [hOO]; show ((Ee es (G.getD 0 zW)).f1 ++ [(⟨(⟨#[110, 101, 119]⟩ : ByteArray), 1⟩ : RR)]).length ≠ _; rw [List.length_append, List.length_singleton]; omega
            have hO0 : OO.f0 = 0 := by rw [hOO]; exact (hGr 0 (by omega)).1
            have hoo : okE OO := by rw [hOO]; have h1_ := okE1_first hf1 (relG_ord hGr) (by omega) (by omega); exact ⟨by show ((Ee es (G.getD 0 zW)).f1 ++ [(⟨(⟨#[110, 101, 119]⟩ : ByteArray), 1⟩ : RR)]).length ≤ _; rw [List.length_append, List.length_singleton]; have h_ := h1_.1; omega, h1_.2⟩
            refine gw_news (O := .cells #[.string (⟨#[110, 101, 119]⟩ : ByteArray), J 1] 37 (0, 0)) (n := 1) H702 O700 (want_none rfl) rfl (by decide) (op_bslice (by kernel_rfl) rfl (pt_cons (H702.ev rfl) pt_nil)) ?_
            intro g703 _ w705 H706 O707; clear H702 O700
            have O708 : Own w w705 [Bk g703 [.string (⟨#[110, 101, 119]⟩ : ByteArray), J 1] 37, Chunk.row k37 37 w.heap.size S695 (.slice A693 ((([] : List S37) ++ (Ee es (G.getD (0 : Int).toNat zW)).f1).length) c694) (([] : List S37) ++ (Ee es (G.getD (0 : Int).toNat zW)).f1), Bk g671 [J ((G.getD (0 : Int).toNat zW).f0), .slice ((G.getD (0 : Int).toNat zW).f1.A) ((G.getD (0 : Int).toNat zW).f1.n) ((G.getD (0 : Int).toNat zW).f1.c), .slice ((G.getD (0 : Int).toNat zW).f2.A) ((G.getD (0 : Int).toNat zW).f2.n) ((G.getD (0 : Int).toNat zW).f2.c)] 35, Chunk.frz w520 S518, Chunk.p8 25 w.heap.size g171 A8 C8 X8 S8 8, Chunk.row kW 35 w.heap.size Sg (.slice (some ad659) G.length cg) G] := O707
            clear O707
            have O709 : Own w _ [Chunk.row k37 37 w.heap.size S695 (.slice A693 ((([] : List S37) ++ (Ee es (G.getD (0 : Int).toNat zW)).f1).length) c694) (([] : List S37) ++ (Ee es (G.getD (0 : Int).toNat zW)).f1), Chunk.void, Bk g703 [.string (⟨#[110, 101, 119]⟩ : ByteArray), J 1] 37, Bk g671 [J ((G.getD (0 : Int).toNat zW).f0), .slice ((G.getD (0 : Int).toNat zW).f1.A) ((G.getD (0 : Int).toNat zW).f1.n) ((G.getD (0 : Int).toNat zW).f1.c), .slice ((G.getD (0 : Int).toNat zW).f2.A) ((G.getD (0 : Int).toNat zW).f2.n) ((G.getD (0 : Int).toNat zW).f2.c)] 35, Chunk.frz w520 S518, Chunk.p8 25 w.heap.size g171 A8 C8 X8 S8 8, Chunk.row kW 35 w.heap.size Sg (.slice (some ad659) G.length cg) G] := O708.void.sel [2, 0, 1, 3, 4, 5, 6] (by decide)
            refine gw_append1 k37 0 (p := (⟨(⟨#[110, 101, 119]⟩ : ByteArray), 1⟩ : S37)) (cs := [.string (⟨#[110, 101, 119]⟩ : ByteArray), J 1]) H706 O709 (want_none rfl) rfl (by decide) rfl Try.underlying32 gwinfo37 rfl (by decide) (by decide) rfl (H706.ev rfl) (H706.ev rfl) (fun w_ h_ => k37_mkM w_ _ _ (⟨(⟨#[110, 101, 119]⟩ : ByteArray), 1⟩ : S37) ) O709.below.size (by rw [List.nil_append]; have h_ := hx0.C1.1; omega) ?_
            intro A710 c711 S712 _ w714 H715 O716; clear H706 O708 O709
            have O717 : Own w w714 [Chunk.row k37 37 w.heap.size S712 (.slice A710 (((([] : List S37) ++ (Ee es (G.getD (0 : Int).toNat zW)).f1) ++ [(⟨(⟨#[110, 101, 119]⟩ : ByteArray), 1⟩ : S37)]).length) c711) ((([] : List S37) ++ (Ee es (G.getD (0 : Int).toNat zW)).f1) ++ [(⟨(⟨#[110, 101, 119]⟩ : ByteArray), 1⟩ : S37)]), Bk g703 [.string (⟨#[110, 101, 119]⟩ : ByteArray), J 1] 37, Bk g671 [J ((G.getD (0 : Int).toNat zW).f0), .slice ((G.getD (0 : Int).toNat zW).f1.A) ((G.getD (0 : Int).toNat zW).f1.n) ((G.getD (0 : Int).toNat zW).f1.c), .slice ((G.getD (0 : Int).toNat zW).f2.A) ((G.getD (0 : Int).toNat zW).f2.n) ((G.getD (0 : Int).toNat zW).f2.c)] 35, Chunk.frz w520 S518, Chunk.p8 25 w.heap.size g171 A8 C8 X8 S8 8, Chunk.row kW 35 w.heap.size Sg (.slice (some ad659) G.length cg) G] := O716
            clear O716
            refine V H715 (op_field (gwfld35_1 _ _) rfl (H715.ev rfl)) ?_
            intro _ H719; clear H715
            refine gw_set 2 H719 O717 rfl (want_none rfl) rfl (op_store1 gwsiz32 rfl (H719.ev rfl) (H719.ev rfl) rfl (blk_at (O717.get 2 rfl) rfl) (blkf (O717.get 2 rfl))) ?_
            intro _ w722 H721 O723; clear H719 O717
            refine gE hK681 ?_
            refine gR fun K724 hK724 => ?_
            refine V H721 (op_move rfl (H721.ev rfl)) ?_
            intro _ H726; clear H721
            refine V H726 (op_len Try.underlying25 rfl (H726.ev rfl)) ?_
            intro _ H728; clear H726
            refine V H728 (op_move rfl (H728.ev rfl)) ?_
            intro _ H730; clear H728
            refine V H730 (op_loadn gwagg35 gwsiz35 rfl (H730.ev rfl) (O723.get 2 rfl) rfl rfl) ?_
            intro _ H732; clear H730
            refine gw_news (O := .cells #[J ((G.getD (0 : Int).toNat zW).f0), .slice A710 (((([] : List S37) ++ (Ee es (G.getD (0 : Int).toNat zW)).f1) ++ [(⟨(⟨#[110, 101, 119]⟩ : ByteArray), 1⟩ : S37)]).length) c711, .slice ((G.getD (0 : Int).toNat zW).f2.A) ((G.getD (0 : Int).toNat zW).f2.n) ((G.getD (0 : Int).toNat zW).f2.c)] 35 (0, 0)) (n := 1) H732 O723 (want_none rfl) rfl (by decide) (op_bslice (by kernel_rfl) rfl (pt_cons (H732.ev rfl) pt_nil)) ?_
            intro g733 _ w735 H736 O737; clear H732 O723
            have O738 : Own w w735 [Bk g733 [J ((G.getD (0 : Int).toNat zW).f0), .slice A710 (((([] : List S37) ++ (Ee es (G.getD (0 : Int).toNat zW)).f1) ++ [(⟨(⟨#[110, 101, 119]⟩ : ByteArray), 1⟩ : S37)]).length) c711, .slice ((G.getD (0 : Int).toNat zW).f2.A) ((G.getD (0 : Int).toNat zW).f2.n) ((G.getD (0 : Int).toNat zW).f2.c)] 35, Chunk.row k37 37 w.heap.size S712 (.slice A710 (((([] : List S37) ++ (Ee es (G.getD (0 : Int).toNat zW)).f1) ++ [(⟨(⟨#[110, 101, 119]⟩ : ByteArray), 1⟩ : S37)]).length) c711) ((([] : List S37) ++ (Ee es (G.getD (0 : Int).toNat zW)).f1) ++ [(⟨(⟨#[110, 101, 119]⟩ : ByteArray), 1⟩ : S37)]), Bk g703 [.string (⟨#[110, 101, 119]⟩ : ByteArray), J 1] 37, Bk g671 [J ((G.getD (0 : Int).toNat zW).f0), .slice A710 (((([] : List S37) ++ (Ee es (G.getD (0 : Int).toNat zW)).f1) ++ [(⟨(⟨#[110, 101, 119]⟩ : ByteArray), 1⟩ : S37)]).length) c711, .slice ((G.getD (0 : Int).toNat zW).f2.A) ((G.getD (0 : Int).toNat zW).f2.n) ((G.getD (0 : Int).toNat zW).f2.c)] 35, Chunk.frz w520 S518, Chunk.p8 25 w.heap.size g171 A8 C8 X8 S8 8, Chunk.row kW 35 w.heap.size Sg (.slice (some ad659) G.length cg) G] := O737
            clear O737
            refine gw_news (O := .cells #[.slice (some ⟨g733, 0, none⟩) 1 1] 25 (0, 0)) (n := 1) H736 O738 (want_none rfl) rfl (by decide) (op_bslice (by kernel_rfl) rfl (pt_cons (H736.ev rfl) pt_nil)) ?_
            intro g739 _ w741 H742 O743; clear H736 O738
            have O744 : Own w w741 [Bk g739 [.slice (some ⟨g733, 0, none⟩) 1 1] 25, Bk g733 [J ((G.getD (0 : Int).toNat zW).f0), .slice A710 (((([] : List S37) ++ (Ee es (G.getD (0 : Int).toNat zW)).f1) ++ [(⟨(⟨#[110, 101, 119]⟩ : ByteArray), 1⟩ : S37)]).length) c711, .slice ((G.getD (0 : Int).toNat zW).f2.A) ((G.getD (0 : Int).toNat zW).f2.n) ((G.getD (0 : Int).toNat zW).f2.c)] 35, Chunk.row k37 37 w.heap.size S712 (.slice A710 (((([] : List S37) ++ (Ee es (G.getD (0 : Int).toNat zW)).f1) ++ [(⟨(⟨#[110, 101, 119]⟩ : ByteArray), 1⟩ : S37)]).length) c711) ((([] : List S37) ++ (Ee es (G.getD (0 : Int).toNat zW)).f1) ++ [(⟨(⟨#[110, 101, 119]⟩ : ByteArray), 1⟩ : S37)]), Bk g703 [.string (⟨#[110, 101, 119]⟩ : ByteArray), J 1] 37, Bk g671 [J ((G.getD (0 : Int).toNat zW).f0), .slice A710 (((([] : List S37) ++ (Ee es (G.getD (0 : Int).toNat zW)).f1) ++ [(⟨(⟨#[110, 101, 119]⟩ : ByteArray), 1⟩ : S37)]).length) c711, .slice ((G.getD (0 : Int).toNat zW).f2.A) ((G.getD (0 : Int).toNat zW).f2.n) ((G.getD (0 : Int).toNat zW).f2.c)] 35, Chunk.frz w520 S518, Chunk.p8 25 w.heap.size g171 A8 C8 X8 S8 8, Chunk.row kW 35 w.heap.size Sg (.slice (some ad659) G.length cg) G] := O743
            clear O743
            refine gw_app9 6 0 H742 O744 rfl rfl (want_none rfl) rfl (by decide) rfl Try.underlying22 gwinfo25 (by decide) (H742.ev rfl) (H742.ev rfl) ?_
            intro g745 c746 cs747 _ w749 h750 h751 h752 H753 O754; clear H742 O744
            have O755 : Own w w749 [Chunk.blk g745 (.cells cs747 25 (0, 0)), Bk g739 [.slice (some ⟨g733, 0, none⟩) 1 1] 25, Bk g733 [J ((G.getD (0 : Int).toNat zW).f0), .slice A710 (((([] : List S37) ++ (Ee es (G.getD (0 : Int).toNat zW)).f1) ++ [(⟨(⟨#[110, 101, 119]⟩ : ByteArray), 1⟩ : S37)]).length) c711, .slice ((G.getD (0 : Int).toNat zW).f2.A) ((G.getD (0 : Int).toNat zW).f2.n) ((G.getD (0 : Int).toNat zW).f2.c)] 35, Chunk.row k37 37 w.heap.size S712 (.slice A710 (((([] : List S37) ++ (Ee es (G.getD (0 : Int).toNat zW)).f1) ++ [(⟨(⟨#[110, 101, 119]⟩ : ByteArray), 1⟩ : S37)]).length) c711) ((([] : List S37) ++ (Ee es (G.getD (0 : Int).toNat zW)).f1) ++ [(⟨(⟨#[110, 101, 119]⟩ : ByteArray), 1⟩ : S37)]), Bk g703 [.string (⟨#[110, 101, 119]⟩ : ByteArray), J 1] 37, Bk g671 [J ((G.getD (0 : Int).toNat zW).f0), .slice A710 (((([] : List S37) ++ (Ee es (G.getD (0 : Int).toNat zW)).f1) ++ [(⟨(⟨#[110, 101, 119]⟩ : ByteArray), 1⟩ : S37)]).length) c711, .slice ((G.getD (0 : Int).toNat zW).f2.A) ((G.getD (0 : Int).toNat zW).f2.n) ((G.getD (0 : Int).toNat zW).f2.c)] 35, Chunk.frz w520 S518, Chunk.p8 25 w.heap.size g171 A8 C8 X8 S8 8, Chunk.row kW 35 w.heap.size Sg (.slice (some ad659) G.length cg) G] := O754
            clear O754
            refine gw_call H753 (want_none rfl) rfl (by decide) (op_callL Try.func7 (by kernel_rfl) rfl rfl (ar_cons (H753.ev rfl) (ar_cons (H753.ev rfl) ar_nil))) (Merge_n (G.length : Int) (some ⟨g745, 0, none⟩) c746 9 (PS8 es X8 ++ [[OO]]) _ (sp_other (relG_ord hGr) hH (by omega) hO0 hne) rfl (p9_C (O755.get 7 rfl) (rows_rel hGr hI O755.below) (O755.get 0 rfl) h751 h752 (hOO ▸ lito_C (O755.get 2 rfl) (Kd.R_reads' (O755.get 3 rfl)).2.2 (row_cap (O755.get 3 rfl)) (relG_in hGr O755.below (getD_G (i := (0 : Int).toNat) (by show 0 < _; omega))).C2 (by have h_ := (relG_in hGr O755.below (getD_G (i := (0 : Int).toNat) (by show 0 < _; omega))); have h2_ := h_.C2.1; have h3_ := h_.l2; omega)) (Nat.le_refl _)) h750 (sp_few2 hf1 (relG_ord hGr) (by omega) hI (by omega) hoo) (by omega) (wf_more (sp_wf (relG_ord hGr) hI (by omega)) hO0)) ?_
            rintro e759 w760 ⟨A756, c757, S758, rfl, hb761⟩
            refine ⟨_, rfl, fun _ H763 => ?_⟩
            have O764 := O755.fresh hb761
            have hbel765 := O755.below
            clear H753 O755 hb761
            have O766 := O764.lowrow 0 rfl (base' := w.heap.size) (Below.size hbel765)
            refine V H763 (op_move rfl (H763.ev rfl)) ?_
            intro _ H768; clear H763
            refine V H768 (op_extract rfl (H768.ev rfl) rfl) ?_
            intro _ H770; clear H768
            refine V H770 (op_extract rfl (H770.ev rfl) rfl) ?_
            intro _ H772; clear H770
            refine V H772 (op_assign rfl (H772.ev rfl)) ?_
            intro _ H774; clear H772
            refine V H774 (op_assign rfl (H774.ev rfl)) ?_
            intro _ H776; clear H774
            refine gE hK724 ?_
            refine gR fun K777 hK777 => ?_
            refine V H776 (op_move rfl (H776.ev rfl)) ?_
            intro _ H779; clear H776
            refine V H779 (op_len Try.underlying25 rfl (H779.ev rfl)) ?_
            intro _ H781; clear H779
            refine V H781 (op_add rfl (H781.ev rfl) (ev_c _ _) (by omega)) ?_
            intro _ H783; clear H781
            refine V H783 (op_move rfl (H783.ev rfl)) ?_
            intro _ H785; clear H783
            refine gw_call H785 (want_none rfl) rfl (by decide) (op_callL Try.func7 (by kernel_rfl) rfl rfl (ar_cons (H785.ev rfl) (ar_cons (H785.ev rfl) ar_nil))) (Merge_n ((G.length : Int) + 1) (some ⟨g171, 0, none⟩) 8 8 (PS8 es X8) _ (sp_gap (relG_ord hGr) hI) rfl (p8_parts (O766.get 8 rfl) (rows_rel hGr hI O766.below)) (Nat.le_refl _) (sp_few hf1 (relG_ord hGr) (by omega) hI (by omega)) (by omega) (sp_wf (relG_ord hGr) hI (by omega))) ?_
            rintro e789 w790 ⟨A786, c787, S788, rfl, hb791⟩
            refine ⟨_, rfl, fun _ H793 => ?_⟩
            have O794 := O766.fresh hb791
            have hbel795 := O766.below
            clear H785 O766 hb791
            have O796 := O794.lowrow 0 rfl (base' := w.heap.size) (Below.size hbel795)
            refine V H793 (op_move rfl (H793.ev rfl)) ?_
            intro _ H798; clear H793
            refine V H798 (op_extract rfl (H798.ev rfl) rfl) ?_
            intro _ H800; clear H798
            refine V H800 (op_extract rfl (H800.ev rfl) rfl) ?_
            intro _ H802; clear H800
            refine V H802 (op_assign rfl (H802.ev rfl)) ?_
            intro _ H804; clear H802
            refine V H804 (op_assign rfl (H804.ev rfl)) ?_
            intro _ H806; clear H804
            refine gE hK777 ?_
            refine gR fun K807 hK807 => ?_
            refine V H806 (op_move rfl (H806.ev rfl)) ?_
            intro _ H809; clear H806
            refine V H809 (op_len Try.underlying25 rfl (H809.ev rfl)) ?_
            intro _ H811; clear H809
            refine V H811 (op_sub rfl (H811.ev rfl) (ev_c _ _) (by omega)) ?_
            intro _ H813; clear H811
            refine V H813 (op_move rfl (H813.ev rfl)) ?_
            intro _ H815; clear H813
            refine gw_call H815 (want_none rfl) rfl (by decide) (op_callL Try.func7 (by kernel_rfl) rfl rfl (ar_cons (H815.ev rfl) (ar_cons (H815.ev rfl) ar_nil))) (Merge_n ((G.length : Int) - 1) (some ⟨g171, 0, none⟩) 8 8 (PS8 es X8) _ (sp_less (relG_ord hGr) hH (by omega)) rfl (p8_parts (O796.get 9 rfl) (rows_rel hGr hI O796.below)) (Nat.le_refl _) (sp_few hf1 (relG_ord hGr) (by omega) hI (by omega)) (by omega) (sp_wf (relG_ord hGr) hI (by omega))) ?_
            rintro e819 w820 ⟨A816, c817, S818, rfl, hb821⟩
            refine ⟨_, rfl, fun _ H823 => ?_⟩
            have O824 := O796.fresh hb821
            have hbel825 := O796.below
            clear H815 O796 hb821
            have O826 := O824.lowrow 0 rfl (base' := w.heap.size) (Below.size hbel825)
            refine V H823 (op_move rfl (H823.ev rfl)) ?_
            intro _ H828; clear H823
            refine V H828 (op_extract rfl (H828.ev rfl) rfl) ?_
            intro _ H830; clear H828
            refine V H830 (op_extract rfl (H830.ev rfl) rfl) ?_
            intro _ H832; clear H830
            refine V H832 (op_assign rfl (H832.ev rfl)) ?_
            intro _ H834; clear H832
            refine V H834 (op_assign rfl (H834.ev rfl)) ?_
            intro _ H836; clear H834
            refine gE hK807 ?_
            refine gR fun K837 hK837 => ?_
            refine V H836 (op_move rfl (H836.ev rfl)) ?_
            intro _ H839; clear H836
            refine V H839 (op_eqi rfl (H839.ev rfl) (ev_c _ _)) ?_
            intro _ H841; clear H839
            have H842 := H841.lit (b := true) (by simp)
            clear H841
            refine V H842 (op_move rfl (H842.ev rfl)) ?_
            intro _ H844; clear H842
            refine V2 H844 (want_yes H844 rfl rfl rfl rfl) (op_move rfl (H844.ev rfl)) ?_
            intro _ H846; clear H844
            refine V2 H846 (want_yes H846 rfl rfl rfl rfl) (op_eqi rfl (H846.ev rfl) (ev_c _ _)) ?_
            intro _ H848; clear H846
            have H849 := H848.lit (b := true) (by simp)
            clear H848
            refine V H849 (op_pick_t rfl (H849.ev rfl) (H849.ev rfl)) ?_
            intro _ H851; clear H849
            refine V H851 (op_move rfl (H851.ev rfl)) ?_
            intro _ H853; clear H851
            refine V2 H853 (want_yes H853 rfl rfl rfl rfl) (op_move rfl (H853.ev rfl)) ?_
            intro _ H855; clear H853
            refine V2 H855 (want_yes H855 rfl rfl rfl rfl) (op_eqi rfl (H855.ev rfl) (ev_c _ _)) ?_
            intro _ H857; clear H855
            have H858 := H857.lit (b := true) (by simp)
            clear H857
            refine V H858 (op_pick_t rfl (H858.ev rfl) (H858.ev rfl)) ?_
            intro _ H860; clear H858
            refine V H860 (op_assign rfl (H860.ev rfl)) ?_
            intro _ H862; clear H860
            refine gE hK837 ?_
            refine wp_ret ?_
            refine gw_ret1 H862 rfl rfl ?_
            exact ⟨rfl, O826.below⟩
end GSpread_
export GSpread_ (MergeSpread_walk)
open Classical in
noncomputable def colloquylaw22_MergeSpread.f (l0 : List S35) (l1 : List Int) (l2 : List Int) : Option Bool := if (smallP [l0]) then some true else none
theorem colloquylaw22_MergeSpread.calls (A0 : Option Addr) (c0 : Nat) (l0 : List S35) (A1 : Option Addr) (c1 : Nat) (l1 : List Int) (A2 : Option Addr) (c2 : Nat) (l2 : List Int) (r : Bool) (w : World) (hr0 : Kd.C k35 w A0 l0.length l0) (hc0 : l0.length ≤ c0) (hr1 : Kd.C (Kd.int .i64) w A1 l1.length l1) (hc1 : l1.length ≤ c1) (hr2 : Kd.C (Kd.int .i64) w A2 l2.length l2) (hc2 : l2.length ≤ c2) (h : colloquylaw22_MergeSpread.f l0 l1 l2 = some r) :
    Calls Try.prog 4 #[(.slice A0 l0.length c0), (.slice A1 l1.length c1), (.slice A2 l2.length c2)] w fun e w' => e = .returned (.bool r) ∧ Below w.heap.size w w' := by
  unfold colloquylaw22_MergeSpread.f at h
  split at h
  · cases h; rename_i hh; exact MergeSpread_walk A0 c0 l0 A1 c1 l1 A2 c2 l2 w hr0 hc0 hr1 hc1 hr2 hc2 hh
  · cases h
end Go.Proofs.Ytmhgblhmkhoopaa.PA
end
