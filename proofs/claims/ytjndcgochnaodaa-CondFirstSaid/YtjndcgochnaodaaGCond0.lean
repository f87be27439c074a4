/- Conditions: has; functions that are handed a function. Printed by a program of this session; Lean checks it. -/
import Derived.Test.YtjndcgochnaodaaHCond
namespace Go.Proofs.Ytjndcgochnaodaa.PA
open Go.RowKit Go.Proofs.YtjndcgochnaodaaW.PrintWords Go.Proofs.YtjndcgochnaodaaW.PrintLast Go.Proofs.YtjndcgochnaodaaW.PrintMore
set_option linter.unusedVariables false
set_option linter.unusedSimpArgs false
namespace GCond0_
theorem gwagg24 : ∀ w, (isAgg 24).run Try.prog w = .ok true w := fun _ => by kernel_rfl
theorem gwagg25 : ∀ w, (isAgg 25).run Try.prog w = .ok false w := fun _ => by kernel_rfl
theorem gwagg36 : ∀ w, (isAgg 36).run Try.prog w = .ok true w := fun _ => by kernel_rfl
theorem gwagg9 : ∀ w, (isAgg 9).run Try.prog w = .ok false w := fun _ => by kernel_rfl
theorem gwfld27_1 (g off : Nat) : ∀ w, (Instr.fieldAt 27 (.pointer (some ⟨g, off, none⟩)) 1).run Try.prog w = .ok (.pointer (some ⟨g, off + 1, none⟩)) w := fun _ => by kernel_rfl
theorem gwfld36_0 (g off : Nat) : ∀ w, (Instr.fieldAt 36 (.pointer (some ⟨g, off, none⟩)) 0).run Try.prog w = .ok (.pointer (some ⟨g, off + 0, none⟩)) w := fun _ => by kernel_rfl
theorem gwflda36_1 (ad : Addr) : ∀ w, (Instr.fieldAt 36 (.pointer (some ad)) 1).run Try.prog w = .ok (.pointer (some (ad.add 1))) w := fun _ => by kernel_rfl
theorem gwsiz24 : ∀ w, (sizeOf 24).run Try.prog w = .ok 4 w := fun _ => by kernel_rfl
theorem gwsiz36 : ∀ w, (sizeOf 36).run Try.prog w = .ok 2 w := fun _ => by kernel_rfl
set_option maxHeartbeats 4000000 in
set_option maxRecDepth 100000 in
theorem has1_calls (x : S36) (g : Nat) (nm : ByteArray) (w : World) (hB : w.heap[g]? = some (.cells #[.string nm] 9 (0, 0))) :
    Calls Try.prog 48 #[.agg #[.string x.f0, .string x.f1], .pointer (some ⟨g, 0, none⟩)] w fun e w' => e = .returned (.bool (nameIs nm x)) ∧ Below w.heap.size w w' := by
  refine gw_start (N := 8) (vs := [.agg #[.string x.f0, .string x.f1], .pointer (some ⟨g, 0, none⟩)]) Try.func48 rfl rfl (by simp) fun a HF HO => ?_
  replace HO : Own w w [] := HO
  refine gw_seq fun K1 hK1 => ?_
  refine wp_region_lit ?_
  refine gw_new HF HO (want_none rfl) rfl (by decide) (op_box rfl (HF.ev rfl)) ?_
  intro g2 a3 w4 HF5 HO6; clear HF HO
  have HO7 : Own w w4 [Chunk.blk g2 (.cells #[.string x.f0, .string x.f1] 36 (0, 0))] := HO6
  clear HO6
  refine gw_ev HF5 (want_none rfl) rfl (by decide) (op_assign rfl (ev_c _ _)) ?_
  intro a8 HF9; clear HF5
  refine wpList_nil ?_
  refine gw_nx (hK1 _ _ ?_)
  refine gw_seq fun K10 hK10 => ?_
  refine wp_region_lit ?_
  refine gw_ev HF9 (want_none rfl) rfl (by decide) (op_field (gwfld36_0 _ _) rfl (HF9.ev rfl)) ?_
  intro a11 HF12; clear HF9
  refine gw_ev HF12 (want_none rfl) rfl (by decide) (op_load1 gwagg9 rfl (HF12.ev rfl) (blk_at (HO7.get 0 rfl) rfl)) ?_
  intro a13 HF14; clear HF12
  refine gw_ev HF14 (want_none rfl) rfl (by decide) (op_load1 gwagg9 rfl (HF14.ev rfl) (blk_at (argblk HO7 hB) rfl)) ?_
  intro a15 HF16; clear HF14
  refine gw_ev HF16 (want_none rfl) rfl (by decide) (op_eqs rfl (HF16.ev rfl) (HF16.ev rfl)) ?_
  intro a17 HF18; clear HF16
  refine gw_ev HF18 (want_none rfl) rfl (by decide) (op_assign rfl (HF18.ev rfl)) ?_
  intro a19 HF20; clear HF18
  refine wpList_nil ?_
  refine gw_nx (hK10 _ _ ?_)
  refine wp_ret ?_
  refine gw_ret1 HF20 rfl rfl ?_
  exact ⟨rfl, HO7.below⟩
set_option maxHeartbeats 4000000 in
set_option maxRecDepth 100000 in
theorem idxp_calls (A0 : Option Addr) (c0 : Nat) (l : List S36) (w : World) (hr : Kd.C k36 w A0 l.length l) (hc : l.length ≤ c0) (hl : l.length ≤ 9223372036854775807) (fid : Nat) (fn0 : Func) (cap : List Value) (h1 : Try.prog.funcs[fid]? = some fn0) (h2 : (fn0.name == "runtime.NumGoroutine") = false) (h3 : fn0.body.isSome = true) (q : S36 → Bool) (hf : ∀ x ∈ l, ∀ w1, Below w.heap.size w w1 → Calls Try.prog fid ([(.agg #[.string x.f0, .string x.f1] : Value)] ++ cap).toArray w1 fun e w2 => e = .returned (.bool (q x)) ∧ Below w1.heap.size w1 w2) :
    Calls Try.prog 47 #[.slice A0 l.length c0, .func (.func fid) #[] cap.toArray] w fun e w' => e = .returned (.int .i64 (idxI q l)) ∧ Below w.heap.size w w' := by
  refine gw_start (N := 19) (vs := [.slice A0 l.length c0, .func (.func fid) #[] cap.toArray]) Try.func47 rfl rfl (by simp) fun a HF HO => ?_
  replace HO : Own w w [] := HO
  refine gw_seq fun K1 hK1 => ?_
  refine wp_region_lit ?_
  refine gw_ev HF (want_none rfl) rfl (by decide) (op_assign rfl (ev_c _ _)) ?_
  intro a2 HF3; clear HF
  refine wpList_nil ?_
  refine gw_nx (hK1 _ _ ?_)
  refine gw_seq fun K4 hK4 => ?_
  refine gw_seq fun K5 hK5 => ?_
  refine wp_region_lit ?_
  refine gw_ev HF3 (want_none rfl) rfl (by decide) (op_move rfl (HF3.ev rfl)) ?_
  intro a6 HF7; clear HF3
  refine gw_ev HF7 (want_none rfl) rfl (by decide) (op_len Try.underlying25 rfl (HF7.ev rfl)) ?_
  intro a8 HF9; clear HF7
  refine gw_ev HF9 (want_none rfl) rfl (by decide) (op_move rfl (ev_c _ _)) ?_
  intro a10 HF11; clear HF9
  refine wpList_nil ?_
  refine gw_nx (hK5 _ _ ?_)
  refine wp_block ?_
  refine gw_loop (fun m_ a_ w_ => ∃ (i : Int), Fr 19 a_ [(8, .int .i64 i), (0, .slice A0 l.length c0), (1, .func (.func fid) #[] cap.toArray), (7, .int .i64 (l.length : Int))] ∧ Own w w_ [] ∧ (0 ≤ i ∧ i ≤ l.length) ∧ (∀ j : Nat, j < i.toNat → q (l.getD j z36) = false) ∧ m_ = (l.length - i.toNat)) ((l.length - (0 : Int).toNat)) ?_ ?_
  · refine ⟨0, (HF11.pick (t := 8) rfl (HF11.pick (t := 0) rfl (HF11.pick (t := 1) rfl (HF11.pick (t := 7) rfl HF11.nil)))), HO.sel [] (by decide), ?_, ?_, rfl⟩
    · omega
    · intro j hj; simp at hj
  · rintro m13 a14 w15 ⟨i, HF16, HO17, hi, hq, hm18⟩
    refine gw_seq fun K19 hK19 => ?_
    refine wp_region_lit ?_
    refine gw_ev HF16 (want_none rfl) rfl (by decide) (op_lss rfl (HF16.ev rfl) (HF16.ev rfl)) ?_
    intro a20 HF21; clear HF16
    refine wpList_nil ?_
    refine gw_nx (hK19 _ _ ?_)
    refine gw_seq fun K22 hK22 => ?_
    refine gw_cond HF21 rfl (fun hb23 => ?_) (fun hb23 => ?_)
    · skip
      have HF24 := HF21.subst_ (d := 9) (b := true) rfl hb23
      clear HF21
      (try simp only [Bool.and_eq_true, Bool.or_eq_true, Bool.and_eq_false_iff, Bool.or_eq_false_iff, Bool.not_and, Bool.not_or, Bool.not_not, decide_eq_true_eq, decide_eq_false_iff_not, Bool.not_eq_true', Bool.not_eq_false', Bool.not_eq_true, Bool.not_eq_false, ne_eq, Decidable.not_not, Int.not_lt, Int.not_le, not_true_eq_false, not_false_eq_true, bne_iff_ne, beq_iff_eq, bne_eq_false_iff_eq, beq_eq_false_iff_ne] at hb23)
      refine wp_skip ?_
      refine gw_nx (hK22 _ _ ?_)
      refine gw_seq fun K25 hK25 => ?_
      refine wp_block ?_
      refine gw_seq fun K26 hK26 => ?_
      refine wp_region_lit ?_
      refine gw_ev HF24 (want_none rfl) rfl (by decide) (op_move rfl (HF24.ev rfl)) ?_
      intro a27 HF28; clear HF24
      refine gw_ev HF28 (want_none rfl) rfl (by decide) (op_assign rfl (HF28.ev rfl)) ?_
      intro a29 HF30; clear HF28
      refine wpList_nil ?_
      refine gw_nx (hK26 _ _ ?_)
      refine gw_seq fun K31 hK31 => ?_
      refine wp_region_lit ?_
      refine gw_ev HF30 (want_none rfl) rfl (by decide) (op_move rfl (HF30.ev rfl)) ?_
      intro a32 HF33; clear HF30
      refine gw_ev HF33 (want_none rfl) rfl (by decide) (op_move rfl (HF33.ev rfl)) ?_
      intro a34 HF35; clear HF33
      refine gw_ev HF35 (want_none rfl) rfl (by decide) (op_move rfl (HF35.ev rfl)) ?_
      intro a36 HF37; clear HF35
      obtain ⟨ad38, cs41, hA39, hl42, hK43, hc40⟩ := Kd.C_get hr z36 i (by omega) (by omega)
      obtain rfl := k36_open hK43
      clear hl42
      refine gw_ev HF37 (want_none rfl) rfl (by decide) (op_index Try.underlying25 gwsiz36 rfl (HF37.ev rfl) (HF37.ev rfl) hA39 (⟨by omega, by omega⟩)) ?_
      intro a44 HF45; clear HF37
      refine gw_ev HF45 (want_none rfl) rfl (by decide) (op_loadc gwagg36 gwsiz36 rfl (HF45.ev rfl) rfl (cells0 HO17 hc40)) ?_
      intro a46 HF47; clear HF45
      refine gw_call HF47 (want_none rfl) rfl (by decide) (op_callV h1 h2 h3 rfl (HF47.ev rfl) (ar_cons (HF47.ev rfl) ar_nil)) (hf (l.getD i.toNat z36) (getD_mem l i.toNat (by omega)) _ HO17.below) ?_
      rintro e48 w49 ⟨rfl, hb50⟩
      refine ⟨_, rfl, fun a51 HF52 => ?_⟩
      have HO53 := HO17.after hb50
      clear HF47 HO17 hb50
      refine wpList_nil ?_
      refine gw_nx (hK31 _ _ ?_)
      refine gw_cond HF52 rfl (fun hb55 => ?_) (fun hb55 => ?_)
      · skip
        have HF56 := HF52.subst_ (d := 16) (b := true) rfl hb55
        clear HF52
        (try simp only [Bool.and_eq_true, Bool.or_eq_true, Bool.and_eq_false_iff, Bool.or_eq_false_iff, Bool.not_and, Bool.not_or, Bool.not_not, decide_eq_true_eq, decide_eq_false_iff_not, Bool.not_eq_true', Bool.not_eq_false', Bool.not_eq_true, Bool.not_eq_false, ne_eq, Decidable.not_not, Int.not_lt, Int.not_le, not_true_eq_false, not_false_eq_true, bne_iff_ne, beq_iff_eq, bne_eq_false_iff_eq, beq_eq_false_iff_ne] at hb55)
        refine gw_seq fun K57 hK57 => ?_
        refine wp_region_lit ?_
        refine gw_ev HF56 (want_none rfl) rfl (by decide) (op_move rfl (HF56.ev rfl)) ?_
        intro a58 HF59; clear HF56
        refine gw_ev HF59 (want_none rfl) rfl (by decide) (op_assign rfl (HF59.ev rfl)) ?_
        intro a60 HF61; clear HF59
        refine wpList_nil ?_
        refine gw_nx (hK57 _ _ ?_)
        refine wp_ret ?_
        refine gw_blr ?_
        refine gw_thr ?_
        refine gw_thr ?_
        refine gw_blr ?_
        refine gw_thr ?_
        refine gw_ret1 HF61 rfl rfl ?_
        exact ⟨by rw [idxI_at i.toNat z36 (by omega) hq (by assumption)]; congr 2; omega, HO53.below⟩
      · skip
        have HF62 := HF52.subst_ (d := 16) (b := false) rfl hb55
        clear HF52
        (try simp only [Bool.and_eq_true, Bool.or_eq_true, Bool.and_eq_false_iff, Bool.or_eq_false_iff, Bool.not_and, Bool.not_or, Bool.not_not, decide_eq_true_eq, decide_eq_false_iff_not, Bool.not_eq_true', Bool.not_eq_false', Bool.not_eq_true, Bool.not_eq_false, ne_eq, Decidable.not_not, Int.not_lt, Int.not_le, not_true_eq_false, not_false_eq_true, bne_iff_ne, beq_iff_eq, bne_eq_false_iff_eq, beq_eq_false_iff_ne] at hb55)
        refine wp_skip ?_
        refine gw_blk ?_
        refine gw_nx (hK25 _ _ ?_)
        refine wp_region_lit ?_
        refine gw_ev HF62 (want_none rfl) rfl (by decide) (op_add rfl (HF62.ev rfl) (ev_c _ _) (by omega)) ?_
        intro a63 HF64; clear HF62
        refine gw_ev HF64 (want_none rfl) rfl (by decide) (op_move rfl (HF64.ev rfl)) ?_
        intro a65 HF66; clear HF64
        refine wpList_nil ?_
        refine gw_nx ⟨_, ?_, i + 1, (HF66.pick (t := 8) rfl (HF66.pick (t := 0) rfl (HF66.pick (t := 1) rfl (HF66.pick (t := 7) rfl HF66.nil)))), HO53.sel [] (by decide), ?_, ?_, rfl⟩
        · rw [hm18]; omega
        · omega
        · intro j hj; by_cases hji : j = i.toNat; (· subst hji; assumption); exact hq j (by omega)
    · skip
      have HF67 := HF21.subst_ (d := 9) (b := false) rfl hb23
      clear HF21
      (try simp only [Bool.and_eq_true, Bool.or_eq_true, Bool.and_eq_false_iff, Bool.or_eq_false_iff, Bool.not_and, Bool.not_or, Bool.not_not, decide_eq_true_eq, decide_eq_false_iff_not, Bool.not_eq_true', Bool.not_eq_false', Bool.not_eq_true, Bool.not_eq_false, ne_eq, Decidable.not_not, Int.not_lt, Int.not_le, not_true_eq_false, not_false_eq_true, bne_iff_ne, beq_iff_eq, bne_eq_false_iff_eq, beq_eq_false_iff_ne] at hb23)
      refine wp_exit ?_
      refine gw_thx ?_
      refine gw_thx ?_
      refine gw_in ?_
      refine gw_nx (hK4 _ _ ?_)
      refine gw_seq fun K68 hK68 => ?_
      refine wp_region_lit ?_
      refine gw_ev HF67 (want_none rfl) rfl (by decide) (op_assign rfl (ev_c _ _)) ?_
      intro a69 HF70; clear HF67
      refine wpList_nil ?_
      refine gw_nx (hK68 _ _ ?_)
      refine wp_ret ?_
      refine gw_ret1 HF70 rfl rfl ?_
      exact ⟨by rw [idxI_none (l := l) (fun x hx => by obtain ⟨j, hj, rfl⟩ := List.getElem_of_mem hx; have h_ := hq j (by omega); simpa [List.getD_eq_getElem?_getD, List.getElem?_eq_getElem hj] using h_)], HO17.below⟩
set_option maxHeartbeats 4000000 in
set_option maxRecDepth 100000 in
theorem has_calls (b : ByteArray) (Ap : Option Addr) (cp : Nat) (ps : List S36) (nm vl : ByteArray) (w : World) (hrp : Kd.C k36 w Ap ps.length ps) (hcp : ps.length ≤ cp) (hl : ps.length ≤ 9223372036854775807) :
    Calls Try.prog 39 #[.agg #[.string b, .slice Ap ps.length cp], .string nm, .string vl] w fun e w' => e = .returned (.bool (hasB ps nm vl)) ∧ Below w.heap.size w w' := by
  refine gw_start (N := 24) (vs := [.agg #[.string b, .slice Ap ps.length cp], .string nm, .string vl]) Try.func39 rfl rfl (by simp) fun a HF HO => ?_
  replace HO : Own w w [] := HO
  refine gw_seq fun K1 hK1 => ?_
  refine wp_region_lit ?_
  refine gw_new HF HO (want_none rfl) rfl (by decide) (op_box rfl (HF.ev rfl)) ?_
  intro g2 a3 w4 HF5 HO6; clear HF HO
  have HO7 : Own w w4 [Chunk.blk g2 (.cells #[.string b, .slice Ap ps.length cp] 27 (0, 0))] := HO6
  clear HO6
  refine gw_new HF5 HO7 (want_none rfl) rfl (by decide) (op_box rfl (HF5.ev rfl)) ?_
  intro g8 a9 w10 HF11 HO12; clear HF5 HO7
  have HO13 : Own w w10 [Chunk.blk g8 (.cells #[.string nm] 9 (0, 0)), Chunk.blk g2 (.cells #[.string b, .slice Ap ps.length cp] 27 (0, 0))] := HO12
  clear HO12
  refine gw_ev HF11 (want_none rfl) rfl (by decide) (op_assign rfl (ev_c _ _)) ?_
  intro a14 HF15; clear HF11
  refine wpList_nil ?_
  refine gw_nx (hK1 _ _ ?_)
  refine gw_seq fun K16 hK16 => ?_
  refine wp_region_lit ?_
  refine gw_ev HF15 (want_none rfl) rfl (by decide) (op_field (gwfld27_1 _ _) rfl (HF15.ev rfl)) ?_
  intro a17 HF18; clear HF15
  refine gw_ev HF18 (want_none rfl) rfl (by decide) (op_load1 gwagg25 rfl (HF18.ev rfl) (blk_at (HO13.get 1 rfl) rfl)) ?_
  intro a19 HF20; clear HF18
  refine gw_ev HF20 (want_none rfl) rfl (by decide) (op_func rfl (ar_cons (HF20.ev rfl) ar_nil)) ?_
  intro a21 HF22; clear HF20
  refine gw_call HF22 (want_none rfl) rfl (by decide) (op_callL Try.func47 (by kernel_rfl) rfl rfl (ar_cons (HF22.ev rfl) (ar_cons (HF22.ev rfl) ar_nil))) (idxp_calls Ap cp ps _ (Kd.C_below hrp HO13.below) hcp (by omega) 48 _ [.pointer (some ⟨g8, 0, none⟩)] Try.func48 (by kernel_rfl) rfl (nameIs nm) (fun x _ w1 hb => has1_calls x g8 nm w1 (blk_below hb (HO13.get 0 rfl)))) ?_
  rintro e23 w24 ⟨rfl, hb25⟩
  refine ⟨_, rfl, fun a26 HF27 => ?_⟩
  have HO28 := HO13.after hb25
  clear HF22 HO13 hb25
  have hix := idxI_lt (nameIs nm) ps
  refine gw_ev HF27 (want_none rfl) rfl (by decide) (op_assign rfl (HF27.ev rfl)) ?_
  intro a30 HF31; clear HF27
  refine wpList_nil ?_
  refine gw_nx (hK16 _ _ ?_)
  refine gw_seq fun K32 hK32 => ?_
  refine wp_region_lit ?_
  refine gw_ev HF31 (want_none rfl) rfl (by decide) (op_move rfl (HF31.ev rfl)) ?_
  intro a33 HF34; clear HF31
  refine gw_ev HF34 (want_none rfl) rfl (by decide) (op_geq rfl (HF34.ev rfl) (ev_c _ _)) ?_
  intro a35 HF36; clear HF34
  refine gw_ev HF36 (want_none rfl) rfl (by decide) (op_move rfl (HF36.ev rfl)) ?_
  intro a37 HF38; clear HF36
  refine gw_evG HF38 rfl rfl rfl rfl (on_t _) rfl (by decide) (fun h_ => (op_field (gwfld27_1 _ _) rfl (HF38.ev rfl))) ?_
  intro a39 HF40; clear HF38
  refine gw_evG HF40 rfl rfl rfl rfl (on_t _) rfl (by decide) (fun h_ => (op_load1 gwagg25 rfl (ev_gv (HF40.ev rfl) h_) (blk_at (HO28.get 1 rfl) rfl))) ?_
  intro a41 HF42; clear HF40
  refine gw_evG HF42 rfl rfl rfl rfl (on_t _) rfl (by decide) (fun h_ => (op_move rfl (HF42.ev rfl))) ?_
  intro a43 HF44; clear HF42
  obtain ⟨ad48, cs51, hA49, hl52, hK53, hc50⟩ := C_getT hrp z36 (idxI (nameIs nm) ps) (⟨_, k36_mk _ z36⟩)
  obtain rfl := k36_open hK53
  clear hl52
  refine gw_evG HF44 rfl rfl rfl rfl (on_t _) rfl (by decide) (fun h_ => (op_index Try.underlying25 gwsiz36 rfl (ev_gv (HF44.ev rfl) h_) (ev_gv (HF44.ev rfl) h_) (hA49 ⟨by (try simp only [Bool.and_eq_true, Bool.or_eq_true, Bool.and_eq_false_iff, Bool.or_eq_false_iff, Bool.not_and, Bool.not_or, Bool.not_not, decide_eq_true_eq, decide_eq_false_iff_not, Bool.not_eq_true', Bool.not_eq_false', Bool.not_eq_true, Bool.not_eq_false, ne_eq, Decidable.not_not, Int.not_lt, Int.not_le, not_true_eq_false, not_false_eq_true, bne_iff_ne, beq_iff_eq, bne_eq_false_iff_eq, beq_eq_false_iff_ne] at h_); omega, by (try simp only [Bool.and_eq_true, Bool.or_eq_true, Bool.and_eq_false_iff, Bool.or_eq_false_iff, Bool.not_and, Bool.not_or, Bool.not_not, decide_eq_true_eq, decide_eq_false_iff_not, Bool.not_eq_true', Bool.not_eq_false', Bool.not_eq_true, Bool.not_eq_false, ne_eq, Decidable.not_not, Int.not_lt, Int.not_le, not_true_eq_false, not_false_eq_true, bne_iff_ne, beq_iff_eq, bne_eq_false_iff_eq, beq_eq_false_iff_ne] at h_); omega⟩) (⟨by (try simp only [Bool.and_eq_true, Bool.or_eq_true, Bool.and_eq_false_iff, Bool.or_eq_false_iff, Bool.not_and, Bool.not_or, Bool.not_not, decide_eq_true_eq, decide_eq_false_iff_not, Bool.not_eq_true', Bool.not_eq_false', Bool.not_eq_true, Bool.not_eq_false, ne_eq, Decidable.not_not, Int.not_lt, Int.not_le, not_true_eq_false, not_false_eq_true, bne_iff_ne, beq_iff_eq, bne_eq_false_iff_eq, beq_eq_false_iff_ne] at h_); omega, by (try simp only [Bool.and_eq_true, Bool.or_eq_true, Bool.and_eq_false_iff, Bool.or_eq_false_iff, Bool.not_and, Bool.not_or, Bool.not_not, decide_eq_true_eq, decide_eq_false_iff_not, Bool.not_eq_true', Bool.not_eq_false', Bool.not_eq_true, Bool.not_eq_false, ne_eq, Decidable.not_not, Int.not_lt, Int.not_le, not_true_eq_false, not_false_eq_true, bne_iff_ne, beq_iff_eq, bne_eq_false_iff_eq, beq_eq_false_iff_ne] at h_); omega⟩))) ?_
  intro a54 HF55; clear HF44
  refine gw_evG HF55 rfl rfl rfl rfl (on_t _) rfl (by decide) (fun h_ => (op_field (gwflda36_1 _) rfl (ev_gv (HF55.ev rfl) h_))) ?_
  intro a56 HF57; clear HF55
  refine gw_evG HF57 rfl rfl rfl rfl (on_t _) rfl (by decide) (fun h_ => (op_load1 gwagg9 rfl (ev_gv (HF57.ev rfl) h_) ((cells0 HO28 (hc50 ⟨by (try simp only [Bool.and_eq_true, Bool.or_eq_true, Bool.and_eq_false_iff, Bool.or_eq_false_iff, Bool.not_and, Bool.not_or, Bool.not_not, decide_eq_true_eq, decide_eq_false_iff_not, Bool.not_eq_true', Bool.not_eq_false', Bool.not_eq_true, Bool.not_eq_false, ne_eq, Decidable.not_not, Int.not_lt, Int.not_le, not_true_eq_false, not_false_eq_true, bne_iff_ne, beq_iff_eq, bne_eq_false_iff_eq, beq_eq_false_iff_ne] at h_); omega, by (try simp only [Bool.and_eq_true, Bool.or_eq_true, Bool.and_eq_false_iff, Bool.or_eq_false_iff, Bool.not_and, Bool.not_or, Bool.not_not, decide_eq_true_eq, decide_eq_false_iff_not, Bool.not_eq_true', Bool.not_eq_false', Bool.not_eq_true, Bool.not_eq_false, ne_eq, Decidable.not_not, Int.not_lt, Int.not_le, not_true_eq_false, not_false_eq_true, bne_iff_ne, beq_iff_eq, bne_eq_false_iff_eq, beq_eq_false_iff_ne] at h_); omega⟩) 1 _ rfl)))) ?_
  intro a58 HF59; clear HF57
  refine gw_evG HF59 rfl rfl rfl rfl (on_t _) rfl (by decide) (fun h_ => (op_move rfl (HF59.ev rfl))) ?_
  intro a60 HF61; clear HF59
  refine gw_evG HF61 rfl rfl rfl rfl (on_t _) rfl (by decide) (fun h_ => (op_eqs rfl (ev_gv (HF61.ev rfl) h_) (ev_gv (HF61.ev rfl) h_))) ?_
  intro a62 HF63; clear HF61
  refine gw_ev HF63 (want_none rfl) rfl (by decide) (op_pick_and rfl (HF63.ev rfl) (fun hp_ => (ev_gv (HF63.ev rfl) hp_)) (ev_c _ _)) ?_
  intro a64 HF65; clear HF63
  refine gw_ev HF65 (want_none rfl) rfl (by decide) (op_assign rfl (HF65.ev rfl)) ?_
  intro a66 HF67; clear HF65
  refine wpList_nil ?_
  refine gw_nx (hK32 _ _ ?_)
  refine wp_ret ?_
  refine gw_ret1 HF67 rfl rfl ?_
  exact ⟨rfl, HO28.below⟩
set_option maxHeartbeats 4000000 in
set_option maxRecDepth 100000 in
theorem idxc_calls (A0 : Option Addr) (c0 : Nat) (l : List S24) (w : World) (hr : Kd.C k24 w A0 l.length l) (hc : l.length ≤ c0) (hl : l.length ≤ 9223372036854775807) (fid : Nat) (fn0 : Func) (cap : List Value) (h1 : Try.prog.funcs[fid]? = some fn0) (h2 : (fn0.name == "runtime.NumGoroutine") = false) (h3 : fn0.body.isSome = true) (p : S24 → Option Bool) (r : Bool) (h : anyM p l = some r) (hf : ∀ x ∈ l, ∀ (A3 : Option Addr) (c3 : Nat) (w1 : World), Below w.heap.size w w1 → Kd.C k24 w1 A3 x.f3.length x.f3 → x.f3.length ≤ c3 → ∀ b, p x = some b → Calls Try.prog fid ([(.agg #[.int .i64 x.f0, .string x.f1, .string x.f2, .slice A3 x.f3.length c3] : Value)] ++ cap).toArray w1 fun e w2 => e = .returned (.bool b) ∧ Below w1.heap.size w1 w2) :
    Calls Try.prog 44 #[.slice A0 l.length c0, .func (.func fid) #[] cap.toArray] w fun e w' => ∃ j : Int, e = .returned (.int .i64 j) ∧ ((r = true ∧ 0 ≤ j) ∨ (r = false ∧ j = -1)) ∧ Below w.heap.size w w' := by
  refine gw_start (N := 19) (vs := [.slice A0 l.length c0, .func (.func fid) #[] cap.toArray]) Try.func44 rfl rfl (by simp) fun a HF HO => ?_
  replace HO : Own w w [] := HO
  refine gw_seq fun K1 hK1 => ?_
  refine wp_region_lit ?_
  refine gw_ev HF (want_none rfl) rfl (by decide) (op_assign rfl (ev_c _ _)) ?_
  intro a2 HF3; clear HF
  refine wpList_nil ?_
  refine gw_nx (hK1 _ _ ?_)
  refine gw_seq fun K4 hK4 => ?_
  refine gw_seq fun K5 hK5 => ?_
  refine wp_region_lit ?_
  refine gw_ev HF3 (want_none rfl) rfl (by decide) (op_move rfl (HF3.ev rfl)) ?_
  intro a6 HF7; clear HF3
  refine gw_ev HF7 (want_none rfl) rfl (by decide) (op_len Try.underlying22 rfl (HF7.ev rfl)) ?_
  intro a8 HF9; clear HF7
  refine gw_ev HF9 (want_none rfl) rfl (by decide) (op_move rfl (ev_c _ _)) ?_
  intro a10 HF11; clear HF9
  refine wpList_nil ?_
  refine gw_nx (hK5 _ _ ?_)
  refine wp_block ?_
  refine gw_loop (fun m_ a_ w_ => ∃ (i : Int), Fr 19 a_ [(8, .int .i64 i), (0, .slice A0 l.length c0), (1, .func (.func fid) #[] cap.toArray), (7, .int .i64 (l.length : Int))] ∧ Own w w_ [] ∧ (0 ≤ i ∧ i ≤ l.length) ∧ (anyM p (l.drop i.toNat) = some r) ∧ m_ = (l.length - i.toNat)) ((l.length - (0 : Int).toNat)) ?_ ?_
  · refine ⟨0, (HF11.pick (t := 8) rfl (HF11.pick (t := 0) rfl (HF11.pick (t := 1) rfl (HF11.pick (t := 7) rfl HF11.nil)))), HO.sel [] (by decide), ?_, ?_, rfl⟩
    · omega
    · exact h
  · rintro m13 a14 w15 ⟨i, HF16, HO17, hi, hany, hm18⟩
    refine gw_seq fun K19 hK19 => ?_
    refine wp_region_lit ?_
    refine gw_ev HF16 (want_none rfl) rfl (by decide) (op_lss rfl (HF16.ev rfl) (HF16.ev rfl)) ?_
    intro a20 HF21; clear HF16
    refine wpList_nil ?_
    refine gw_nx (hK19 _ _ ?_)
    refine gw_seq fun K22 hK22 => ?_
    refine gw_cond HF21 rfl (fun hb23 => ?_) (fun hb23 => ?_)
    · skip
      have HF24 := HF21.subst_ (d := 9) (b := true) rfl hb23
      clear HF21
      (try simp only [Bool.and_eq_true, Bool.or_eq_true, Bool.and_eq_false_iff, Bool.or_eq_false_iff, Bool.not_and, Bool.not_or, Bool.not_not, decide_eq_true_eq, decide_eq_false_iff_not, Bool.not_eq_true', Bool.not_eq_false', Bool.not_eq_true, Bool.not_eq_false, ne_eq, Decidable.not_not, Int.not_lt, Int.not_le, not_true_eq_false, not_false_eq_true, bne_iff_ne, beq_iff_eq, bne_eq_false_iff_eq, beq_eq_false_iff_ne] at hb23)
      refine wp_skip ?_
      refine gw_nx (hK22 _ _ ?_)
      refine gw_seq fun K25 hK25 => ?_
      refine wp_block ?_
      refine gw_seq fun K26 hK26 => ?_
      refine wp_region_lit ?_
      refine gw_ev HF24 (want_none rfl) rfl (by decide) (op_move rfl (HF24.ev rfl)) ?_
      intro a27 HF28; clear HF24
      refine gw_ev HF28 (want_none rfl) rfl (by decide) (op_assign rfl (HF28.ev rfl)) ?_
      intro a29 HF30; clear HF28
      refine wpList_nil ?_
      refine gw_nx (hK26 _ _ ?_)
      refine gw_seq fun K31 hK31 => ?_
      refine wp_region_lit ?_
      refine gw_ev HF30 (want_none rfl) rfl (by decide) (op_move rfl (HF30.ev rfl)) ?_
      intro a32 HF33; clear HF30
      refine gw_ev HF33 (want_none rfl) rfl (by decide) (op_move rfl (HF33.ev rfl)) ?_
      intro a34 HF35; clear HF33
      refine gw_ev HF35 (want_none rfl) rfl (by decide) (op_move rfl (HF35.ev rfl)) ?_
      intro a36 HF37; clear HF35
      obtain ⟨ad38, cs41, hA39, hl42, hK43, hc40⟩ := Kd.C_get hr z24 i (by omega) (by omega)
      obtain ⟨A44, c45, rfl, hl46, hC47⟩ := k24_open hK43
      clear hl42
      refine gw_ev HF37 (want_none rfl) rfl (by decide) (op_index Try.underlying22 gwsiz24 rfl (HF37.ev rfl) (HF37.ev rfl) hA39 (⟨by omega, by omega⟩)) ?_
      intro a48 HF49; clear HF37
      refine gw_ev HF49 (want_none rfl) rfl (by decide) (op_loadc gwagg24 gwsiz24 rfl (HF49.ev rfl) rfl (cells0 HO17 hc40)) ?_
      intro a50 HF51; clear HF49
      obtain ⟨b0, hp0, hb1, hb0⟩ := any_in z24 (by omega) hany
      refine gw_call HF51 (want_none rfl) rfl (by decide) (op_callV h1 h2 h3 rfl (HF51.ev rfl) (ar_cons (HF51.ev rfl) ar_nil)) (hf (l.getD i.toNat z24) (getD_mem l i.toNat (by omega)) A44 c45 _ HO17.below (Kd.C_below hC47 HO17.below) hl46 b0 hp0) ?_
      rintro e52 w53 ⟨rfl, hb54⟩
      refine ⟨_, rfl, fun a55 HF56 => ?_⟩
      have HO57 := HO17.after hb54
      clear HF51 HO17 hb54
      refine wpList_nil ?_
      refine gw_nx (hK31 _ _ ?_)
      refine gw_cond HF56 rfl (fun hb59 => ?_) (fun hb59 => ?_)
      · skip
        have HF60 := HF56.subst_ (d := 16) (b := true) rfl hb59
        clear HF56
        (try simp only [Bool.and_eq_true, Bool.or_eq_true, Bool.and_eq_false_iff, Bool.or_eq_false_iff, Bool.not_and, Bool.not_or, Bool.not_not, decide_eq_true_eq, decide_eq_false_iff_not, Bool.not_eq_true', Bool.not_eq_false', Bool.not_eq_true, Bool.not_eq_false, ne_eq, Decidable.not_not, Int.not_lt, Int.not_le, not_true_eq_false, not_false_eq_true, bne_iff_ne, beq_iff_eq, bne_eq_false_iff_eq, beq_eq_false_iff_ne] at hb59)
        refine gw_seq fun K61 hK61 => ?_
        refine wp_region_lit ?_
        refine gw_ev HF60 (want_none rfl) rfl (by decide) (op_move rfl (HF60.ev rfl)) ?_
        intro a62 HF63; clear HF60
        refine gw_ev HF63 (want_none rfl) rfl (by decide) (op_assign rfl (HF63.ev rfl)) ?_
        intro a64 HF65; clear HF63
        refine wpList_nil ?_
        refine gw_nx (hK61 _ _ ?_)
        refine wp_ret ?_
        refine gw_blr ?_
        refine gw_thr ?_
        refine gw_thr ?_
        refine gw_blr ?_
        refine gw_thr ?_
        refine gw_ret1 HF65 rfl rfl ?_
        exact ⟨_, rfl, .inl ⟨hb1 (by assumption), by omega⟩, HO57.below⟩
      · skip
        have HF66 := HF56.subst_ (d := 16) (b := false) rfl hb59
        clear HF56
        (try simp only [Bool.and_eq_true, Bool.or_eq_true, Bool.and_eq_false_iff, Bool.or_eq_false_iff, Bool.not_and, Bool.not_or, Bool.not_not, decide_eq_true_eq, decide_eq_false_iff_not, Bool.not_eq_true', Bool.not_eq_false', Bool.not_eq_true, Bool.not_eq_false, ne_eq, Decidable.not_not, Int.not_lt, Int.not_le, not_true_eq_false, not_false_eq_true, bne_iff_ne, beq_iff_eq, bne_eq_false_iff_eq, beq_eq_false_iff_ne] at hb59)
        refine wp_skip ?_
        refine gw_blk ?_
        refine gw_nx (hK25 _ _ ?_)
        refine wp_region_lit ?_
        refine gw_ev HF66 (want_none rfl) rfl (by decide) (op_add rfl (HF66.ev rfl) (ev_c _ _) (by omega)) ?_
        intro a67 HF68; clear HF66
        refine gw_ev HF68 (want_none rfl) rfl (by decide) (op_move rfl (HF68.ev rfl)) ?_
        intro a69 HF70; clear HF68
        refine wpList_nil ?_
        refine gw_nx ⟨_, ?_, i + 1, (HF70.pick (t := 8) rfl (HF70.pick (t := 0) rfl (HF70.pick (t := 1) rfl (HF70.pick (t := 7) rfl HF70.nil)))), HO57.sel [] (by decide), ?_, ?_, rfl⟩
        · rw [hm18]; omega
        · omega
        · rw [show (i + 1).toNat = i.toNat + 1 by omega]; exact hb0 (by assumption)
    · skip
      have HF71 := HF21.subst_ (d := 9) (b := false) rfl hb23
      clear HF21
      (try simp only [Bool.and_eq_true, Bool.or_eq_true, Bool.and_eq_false_iff, Bool.or_eq_false_iff, Bool.not_and, Bool.not_or, Bool.not_not, decide_eq_true_eq, decide_eq_false_iff_not, Bool.not_eq_true', Bool.not_eq_false', Bool.not_eq_true, Bool.not_eq_false, ne_eq, Decidable.not_not, Int.not_lt, Int.not_le, not_true_eq_false, not_false_eq_true, bne_iff_ne, beq_iff_eq, bne_eq_false_iff_eq, beq_eq_false_iff_ne] at hb23)
      refine wp_exit ?_
      refine gw_thx ?_
      refine gw_thx ?_
      refine gw_in ?_
      refine gw_nx (hK4 _ _ ?_)
      refine gw_seq fun K72 hK72 => ?_
      refine wp_region_lit ?_
      refine gw_ev HF71 (want_none rfl) rfl (by decide) (op_assign rfl (ev_c _ _)) ?_
      intro a73 HF74; clear HF71
      refine wpList_nil ?_
      refine gw_nx (hK72 _ _ ?_)
      refine wp_ret ?_
      refine gw_ret1 HF74 rfl rfl ?_
      exact ⟨_, rfl, .inr ⟨any_out (by omega) hany, rfl⟩, HO17.below⟩
set_option maxHeartbeats 4000000 in
set_option maxRecDepth 100000 in
theorem contains_calls (A0 : Option Addr) (c0 : Nat) (l : List S24) (w : World) (hr : Kd.C k24 w A0 l.length l) (hc : l.length ≤ c0) (hl : l.length ≤ 9223372036854775807) (fid : Nat) (fn0 : Func) (cap : List Value) (h1 : Try.prog.funcs[fid]? = some fn0) (h2 : (fn0.name == "runtime.NumGoroutine") = false) (h3 : fn0.body.isSome = true) (p : S24 → Option Bool) (r : Bool) (h : anyM p l = some r) (hf : ∀ x ∈ l, ∀ (A3 : Option Addr) (c3 : Nat) (w1 : World), Below w.heap.size w w1 → Kd.C k24 w1 A3 x.f3.length x.f3 → x.f3.length ≤ c3 → ∀ b, p x = some b → Calls Try.prog fid ([(.agg #[.int .i64 x.f0, .string x.f1, .string x.f2, .slice A3 x.f3.length c3] : Value)] ++ cap).toArray w1 fun e w2 => e = .returned (.bool b) ∧ Below w1.heap.size w1 w2) :
    Calls Try.prog 33 #[.slice A0 l.length c0, .func (.func fid) #[] cap.toArray] w fun e w' => e = .returned (.bool r) ∧ Below w.heap.size w w' := by
  refine gw_start (N := 9) (vs := [.slice A0 l.length c0, .func (.func fid) #[] cap.toArray]) Try.func33 rfl rfl (by simp) fun a HF HO => ?_
  replace HO : Own w w [] := HO
  refine gw_seq fun K1 hK1 => ?_
  refine wp_region_lit ?_
  refine gw_ev HF (want_none rfl) rfl (by decide) (op_assign rfl (ev_c _ _)) ?_
  intro a2 HF3; clear HF
  refine wpList_nil ?_
  refine gw_nx (hK1 _ _ ?_)
  refine gw_seq fun K4 hK4 => ?_
  refine wp_region_lit ?_
  refine gw_ev HF3 (want_none rfl) rfl (by decide) (op_move rfl (HF3.ev rfl)) ?_
  intro a5 HF6; clear HF3
  refine gw_ev HF6 (want_none rfl) rfl (by decide) (op_move rfl (HF6.ev rfl)) ?_
  intro a7 HF8; clear HF6
  refine gw_call HF8 (want_none rfl) rfl (by decide) (op_callL Try.func44 (by kernel_rfl) rfl rfl (ar_cons (HF8.ev rfl) (ar_cons (HF8.ev rfl) ar_nil))) (idxc_calls A0 c0 l _ (Kd.C_below hr HO.below) hc hl fid fn0 cap h1 h2 h3 p r h (fun x hx A3 c3 w1 hb => hf x hx A3 c3 w1 (below_then HO.below hb))) ?_
  rintro e10 w11 ⟨j9, rfl, hj_, hb12⟩
  refine ⟨_, rfl, fun a13 HF14 => ?_⟩
  have HO15 := HO.after hb12
  clear HF8 HO hb12
  refine gw_ev HF14 (want_none rfl) rfl (by decide) (op_geq rfl (HF14.ev rfl) (ev_c _ _)) ?_
  intro a17 HF18; clear HF14
  refine gw_ev HF18 (want_none rfl) rfl (by decide) (op_assign rfl (HF18.ev rfl)) ?_
  intro a19 HF20; clear HF18
  refine wpList_nil ?_
  refine gw_nx (hK4 _ _ ?_)
  refine wp_ret ?_
  refine gw_ret1 HF20 rfl rfl ?_
  exact ⟨by congr 2; rcases hj_ with ⟨rfl, h_⟩ | ⟨rfl, h_⟩ <;> simp [h_], HO15.below⟩
end GCond0_
export GCond0_ (has1_calls idxp_calls has_calls idxc_calls contains_calls)
end Go.Proofs.Ytjndcgochnaodaa.PA
