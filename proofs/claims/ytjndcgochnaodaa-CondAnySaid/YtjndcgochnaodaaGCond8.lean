/- Conditions: of some the first that holds, as the document says. Printed by a program of this session; Lean checks it. -/
import Derived.Test.YtjndcgochnaodaaGCond5
import Derived.Test.YtjndcgochnaodaaGCond4
import Derived.Test.YtjndcgochnaodaaHMixR
namespace Go.Proofs.Ytjndcgochnaodaa.PA
open Go.RowKit Go.Proofs.YtjndcgochnaodaaW.PrintWords Go.Proofs.YtjndcgochnaodaaW.PrintLast Go.Proofs.YtjndcgochnaodaaW.PrintMore
set_option linter.unusedVariables false
set_option linter.unusedSimpArgs false
namespace GCond8_
theorem gwagg24 : ∀ w, (isAgg 24).run Try.prog w = .ok true w := fun _ => by kernel_rfl
theorem gwagg27 : ∀ w, (isAgg 27).run Try.prog w = .ok true w := fun _ => by kernel_rfl
theorem gwsiz24 : ∀ w, (sizeOf 24).run Try.prog w = .ok 4 w := fun _ => by kernel_rfl
theorem gwsiz27 : ∀ w, (sizeOf 27).run Try.prog w = .ok 2 w := fun _ => by kernel_rfl
theorem any_f {q : S24 → Bool} {l : List S24} {i : Nat} (hi : l.length ≤ i) (h : ∀ j : Nat, j < i → q (l.getD j z24) = false) : l.any q = false := by
  rw [List.any_eq_false]
  intro x hx
  obtain ⟨j, hj, rfl⟩ := List.getElem_of_mem hx
  have := h j (by omega)
  rw [List.getD_eq_getElem?_getD, List.getElem?_eq_getElem hj] at this
  simpa using this
theorem any_t {q : S24 → Bool} {l : List S24} {i : Nat} (hi : i < l.length) (h : q (l.getD i z24) = true) : l.any q = true := List.any_eq_true.2 ⟨_, getD_mem l i hi, h⟩
theorem facts_any (b : ByteArray) (ps : List S36) (x : S24) (hs : smallN 20 x) (hp : ps.length ≤ 281474976710656) : ∃ n : Nat, colloquyref12_Right.f n x.f0 x.f1 x.f2 x.f3 20 = some (rightB 20 x) ∧ (rightB 20 x = true → colloquyref12_Holds.f n x.f0 x.f1 x.f2 x.f3 b ps = some (holdB ps 20 x)) := by
  obtain ⟨k2, h2⟩ := rright_ev 20 x (by omega) hs
  by_cases hR : rightB 20 x = true
  · obtain ⟨k4, h4⟩ := rhold_ev b ps hp 20 x hs hR
    exact ⟨k2 + k4, h2 _ (by omega), fun _ => h4 _ (by omega)⟩
  · exact ⟨k2, h2 _ (by omega), fun h => absurd h hR⟩
theorem Any_ev (b : ByteArray) (ps : List S36) (l : List S24) (hs : ∀ x ∈ l, smallN 20 x) : Ev (fun k => cond_Any.f k l b ps) (l.any (fun x : S24 => rightB 20 x && holdB ps 20 x)) := by
  unfold cond_Any.f
  exact anyM_ev (p := fun k x => cond_Holds.f k x.f0 x.f1 x.f2 x.f3 b ps) l (fun x hx => Holds_ev b ps x (hs x hx))
theorem any_alive : cond_Any.f 62 [(⟨noR.1, noR.2.1, noR.2.2.1, noR.2.2.2⟩ : S24)] (⟨#[]⟩ : ByteArray) [] = some true := by kernel_rfl

set_option maxHeartbeats 4000000 in
set_option maxRecDepth 100000 in
theorem refAny_walk (A0 : Option Addr) (c0 : Nat) (l : List S24) (b : ByteArray) (Ap : Option Addr) (cp : Nat) (ps : List S36) (w : World) (hr : Kd.C k24 w A0 l.length l) (hc : l.length ≤ c0) (hrp : Kd.C k36 w Ap ps.length ps) (hcp : ps.length ≤ cp) (hs : ∀ x ∈ l, smallN 20 x) (hp : ps.length ≤ 281474976710656) :
    Calls Try.prog 23 #[.slice A0 l.length c0, .agg #[.string b, .slice Ap ps.length cp]] w fun e w' => e = .returned (.bool (l.any (fun x : S24 => rightB 20 x && holdB ps 20 x))) ∧ Below w.heap.size w w' := by
  have hkl := len_C hr
  refine gw_start (N := 25) (vs := [.slice A0 l.length c0, .agg #[.string b, .slice Ap ps.length cp]]) Try.func23 rfl rfl (by simp) fun a HF HO => ?_
  replace HO : Own w w [] := HO
  refine gw_seq fun K1 hK1 => ?_
  refine wp_region_lit ?_
  refine gw_new HF HO (want_none rfl) rfl (by decide) (op_box rfl (HF.ev rfl)) ?_
  intro g2 a3 w4 HF5 HO6; clear HF HO
  have HO7 : Own w w4 [Chunk.blk g2 (.cells #[.string b, .slice Ap ps.length cp] 27 (0, 0))] := HO6
  clear HO6
  refine gw_ev HF5 (want_none rfl) rfl (by decide) (op_assign rfl (ev_c _ _)) ?_
  intro a8 HF9; clear HF5
  refine wpList_nil ?_
  refine gw_nx (hK1 _ _ ?_)
  refine gw_seq fun K10 hK10 => ?_
  refine gw_seq fun K11 hK11 => ?_
  refine wp_region_lit ?_
  refine gw_ev HF9 (want_none rfl) rfl (by decide) (op_assign rfl (ev_c _ _)) ?_
  intro a12 HF13; clear HF9
  refine wpList_nil ?_
  refine gw_nx (hK11 _ _ ?_)
  refine wp_block ?_
  refine gw_loop (fun m_ a_ w_ => ∃ (i : Int), Fr 25 a_ [(5, .int .i64 i), (0, .slice A0 l.length c0), (3, .pointer (some ⟨g2, 0, none⟩))] ∧ Own w w_ [Chunk.blk g2 (.cells #[.string b, .slice Ap ps.length cp] 27 (0, 0))] ∧ (0 ≤ i ∧ i ≤ l.length) ∧ (∀ j : Nat, j < i.toNat → (fun x : S24 => rightB 20 x && holdB ps 20 x) (l.getD j z24) = false) ∧ m_ = (l.length - i.toNat)) ((l.length - (0 : Int).toNat)) ?_ ?_
  · refine ⟨0, (HF13.pick (t := 5) rfl (HF13.pick (t := 0) rfl (HF13.pick (t := 3) rfl HF13.nil))), HO7.sel [0] (by decide), ?_, ?_, rfl⟩
    · omega
    · intro j hj; simp at hj
  · rintro m15 a16 w17 ⟨i, HF18, HO19, hi, hq, hm20⟩
    refine gw_seq fun K21 hK21 => ?_
    refine gw_seq fun K22 hK22 => ?_
    refine wp_region_lit ?_
    refine gw_ev HF18 (want_none rfl) rfl (by decide) (op_move rfl (HF18.ev rfl)) ?_
    intro a23 HF24; clear HF18
    refine gw_ev HF24 (want_none rfl) rfl (by decide) (op_move rfl (HF24.ev rfl)) ?_
    intro a25 HF26; clear HF24
    refine gw_ev HF26 (want_none rfl) rfl (by decide) (op_len Try.underlying22 rfl (HF26.ev rfl)) ?_
    intro a27 HF28; clear HF26
    refine gw_ev HF28 (want_none rfl) rfl (by decide) (op_lss rfl (HF28.ev rfl) (HF28.ev rfl)) ?_
    intro a29 HF30; clear HF28
    refine wpList_nil ?_
    refine gw_nx (hK22 _ _ ?_)
    refine gw_cond HF30 rfl (fun hb31 => ?_) (fun hb31 => ?_)
    · skip
      have HF32 := HF30.subst_ (d := 9) (b := true) rfl hb31
      clear HF30
      (try simp only [Bool.and_eq_true, Bool.or_eq_true, Bool.and_eq_false_iff, Bool.or_eq_false_iff, Bool.not_and, Bool.not_or, Bool.not_not, decide_eq_true_eq, decide_eq_false_iff_not, Bool.not_eq_true', Bool.not_eq_false', Bool.not_eq_true, Bool.not_eq_false, ne_eq, Decidable.not_not, Int.not_lt, Int.not_le, not_true_eq_false, not_false_eq_true, bne_iff_ne, beq_iff_eq, bne_eq_false_iff_eq, beq_eq_false_iff_ne] at hb31)
      refine wp_skip ?_
      refine gw_nx (hK21 _ _ ?_)
      refine gw_seq fun K33 hK33 => ?_
      refine wp_block ?_
      refine gw_seq fun K34 hK34 => ?_
      refine gw_drawB HO19 (by kernel_rfl) (by kernel_rfl) fun w35 HO36 => ?_
      clear HO19
      refine gq_ev HF32 (want_none rfl) rfl (by decide) (fun wq hq => have HO := HO36.after hq; (op_move rfl (HF32.ev rfl))) ?_
      intro a37 HF38; clear HF32
      refine gq_ev HF38 (want_none rfl) rfl (by decide) (fun wq hq => have HO := HO36.after hq; (op_move rfl (HF38.ev rfl))) ?_
      intro a39 HF40; clear HF38
      obtain ⟨ad41, cs44, hA42, hl45, hK46, hc43⟩ := Kd.C_get hr z24 i (by omega) (by omega)
      obtain ⟨A47, c48, rfl, hl49, hC50⟩ := k24_open hK46
      clear hl45
      refine gq_ev HF40 (want_none rfl) rfl (by decide) (fun wq hq => have HO := HO36.after hq; (op_index Try.underlying22 gwsiz24 rfl (HF40.ev rfl) (HF40.ev rfl) hA42 (⟨by omega, by omega⟩))) ?_
      intro a51 HF52; clear HF40
      refine gq_ev HF52 (want_none rfl) rfl (by decide) (fun wq hq => have HO := HO36.after hq; (op_loadc gwagg24 gwsiz24 rfl (HF52.ev rfl) rfl (cells0 HO hc43))) ?_
      intro a53 HF54; clear HF52
      obtain ⟨n, h2, h4⟩ := facts_any b ps (l.getD i.toNat z24) (hs _ (getD_mem l i.toNat (by omega))) hp
      refine gq_call HF54 (want_none rfl) rfl (by decide) (fun wq hq => have HO := HO36.after hq; (op_callL Try.func10 (by kernel_rfl) rfl rfl (ar_cons (HF54.ev rfl) (ar_cons (ev_c _ _) ar_nil)))) (fun wq hq => have HO := HO36.after hq; (colloquyref12_Right.calls n ((l.getD i.toNat z24).f0) ((l.getD i.toNat z24).f1) ((l.getD i.toNat z24).f2) A47 c48 ((l.getD i.toNat z24).f3) 20 (rightB 20 (l.getD i.toNat z24)) _ (Kd.C_below hC50 HO.below) hl49 h2).mono fun e w' h => ⟨h.1, below_then hq h.2⟩) ?_
      intro a55 HF56; clear HF54
      refine gq_ev HF56 (want_none rfl) rfl (by decide) (fun wq hq => have HO := HO36.after hq; (op_move rfl (HF56.ev rfl))) ?_
      intro a57 HF58; clear HF56
      refine gq_evG HF58 rfl rfl rfl rfl (on_t _) rfl (by decide) (fun h_ wq hq => have HO := HO36.after hq; (op_move rfl (HF58.ev rfl))) ?_
      intro a59 HF60; clear HF58
      refine gq_evG HF60 rfl rfl rfl rfl (on_t _) rfl (by decide) (fun h_ wq hq => have HO := HO36.after hq; (op_move rfl (HF60.ev rfl))) ?_
      intro a61 HF62; clear HF60
      obtain ⟨ad66, cs69, hA67, hl70, hK71, hc68⟩ := C_getT hr z24 i (⟨_, k24_mk _ z24 (A3 := none) (c3 := 0) (Nat.le_refl _) (Kd.C_nil _ _)⟩)
      obtain ⟨A72, c73, rfl, hl74, hC75⟩ := k24_open hK71
      clear hl70
      refine gq_evG HF62 rfl rfl rfl rfl (on_t _) rfl (by decide) (fun h_ wq hq => have HO := HO36.after hq; (op_index Try.underlying22 gwsiz24 rfl (ev_gv (HF62.ev rfl) h_) (ev_gv (HF62.ev rfl) h_) (hA67 ⟨by (try simp only [Bool.and_eq_true, Bool.or_eq_true, Bool.and_eq_false_iff, Bool.or_eq_false_iff, Bool.not_and, Bool.not_or, Bool.not_not, decide_eq_true_eq, decide_eq_false_iff_not, Bool.not_eq_true', Bool.not_eq_false', Bool.not_eq_true, Bool.not_eq_false, ne_eq, Decidable.not_not, Int.not_lt, Int.not_le, not_true_eq_false, not_false_eq_true, bne_iff_ne, beq_iff_eq, bne_eq_false_iff_eq, beq_eq_false_iff_ne] at h_); omega, by (try simp only [Bool.and_eq_true, Bool.or_eq_true, Bool.and_eq_false_iff, Bool.or_eq_false_iff, Bool.not_and, Bool.not_or, Bool.not_not, decide_eq_true_eq, decide_eq_false_iff_not, Bool.not_eq_true', Bool.not_eq_false', Bool.not_eq_true, Bool.not_eq_false, ne_eq, Decidable.not_not, Int.not_lt, Int.not_le, not_true_eq_false, not_false_eq_true, bne_iff_ne, beq_iff_eq, bne_eq_false_iff_eq, beq_eq_false_iff_ne] at h_); omega⟩) (⟨by (try simp only [Bool.and_eq_true, Bool.or_eq_true, Bool.and_eq_false_iff, Bool.or_eq_false_iff, Bool.not_and, Bool.not_or, Bool.not_not, decide_eq_true_eq, decide_eq_false_iff_not, Bool.not_eq_true', Bool.not_eq_false', Bool.not_eq_true, Bool.not_eq_false, ne_eq, Decidable.not_not, Int.not_lt, Int.not_le, not_true_eq_false, not_false_eq_true, bne_iff_ne, beq_iff_eq, bne_eq_false_iff_eq, beq_eq_false_iff_ne] at h_); omega, by (try simp only [Bool.and_eq_true, Bool.or_eq_true, Bool.and_eq_false_iff, Bool.or_eq_false_iff, Bool.not_and, Bool.not_or, Bool.not_not, decide_eq_true_eq, decide_eq_false_iff_not, Bool.not_eq_true', Bool.not_eq_false', Bool.not_eq_true, Bool.not_eq_false, ne_eq, Decidable.not_not, Int.not_lt, Int.not_le, not_true_eq_false, not_false_eq_true, bne_iff_ne, beq_iff_eq, bne_eq_false_iff_eq, beq_eq_false_iff_ne] at h_); omega⟩))) ?_
      intro a76 HF77; clear HF62
      refine gq_evG HF77 rfl rfl rfl rfl (on_t _) rfl (by decide) (fun h_ wq hq => have HO := HO36.after hq; (op_loadc gwagg24 gwsiz24 rfl (ev_gv (HF77.ev rfl) h_) rfl (cells0 HO (hc68 ⟨by (try simp only [Bool.and_eq_true, Bool.or_eq_true, Bool.and_eq_false_iff, Bool.or_eq_false_iff, Bool.not_and, Bool.not_or, Bool.not_not, decide_eq_true_eq, decide_eq_false_iff_not, Bool.not_eq_true', Bool.not_eq_false', Bool.not_eq_true, Bool.not_eq_false, ne_eq, Decidable.not_not, Int.not_lt, Int.not_le, not_true_eq_false, not_false_eq_true, bne_iff_ne, beq_iff_eq, bne_eq_false_iff_eq, beq_eq_false_iff_ne] at h_); omega, by (try simp only [Bool.and_eq_true, Bool.or_eq_true, Bool.and_eq_false_iff, Bool.or_eq_false_iff, Bool.not_and, Bool.not_or, Bool.not_not, decide_eq_true_eq, decide_eq_false_iff_not, Bool.not_eq_true', Bool.not_eq_false', Bool.not_eq_true, Bool.not_eq_false, ne_eq, Decidable.not_not, Int.not_lt, Int.not_le, not_true_eq_false, not_false_eq_true, bne_iff_ne, beq_iff_eq, bne_eq_false_iff_eq, beq_eq_false_iff_ne] at h_); omega⟩)))) ?_
      intro a78 HF79; clear HF77
      refine gq_evG HF79 rfl rfl rfl rfl (on_t _) rfl (by decide) (fun h_ wq hq => have HO := HO36.after hq; (op_loadn gwagg27 gwsiz27 rfl (HF79.ev rfl) (HO.get 0 rfl) rfl rfl)) ?_
      intro a80 HF81; clear HF79
      refine gq_callG HF81 rfl rfl rfl rfl (on_t _) rfl (by decide) (fun h_ wq hq => have HO := HO36.after hq; (op_callL Try.func13 (by kernel_rfl) rfl rfl (ar_cons (ev_gv (HF81.ev rfl) h_) (ar_cons (ev_gv (HF81.ev rfl) h_) ar_nil)))) (fun h_ wq hq => have HO := HO36.after hq; (colloquyref12_Holds.calls n ((l.getD i.toNat z24).f0) ((l.getD i.toNat z24).f1) ((l.getD i.toNat z24).f2) A72 c73 ((l.getD i.toNat z24).f3) b Ap cp ps (holdB ps 20 (l.getD i.toNat z24)) _ (Kd.C_below hC75 HO.below) hl74 (Kd.C_below hrp HO.below) hcp (h4 h_)).mono fun e w' h => ⟨h.1, below_then hq h.2⟩) ?_
      intro a82 HF83; clear HF81
      refine gq_ev HF83 (want_none rfl) rfl (by decide) (fun wq hq => have HO := HO36.after hq; (op_pick_and rfl (HF83.ev rfl) (fun hp_ => (ev_gv (HF83.ev rfl) hp_)) (ev_c _ _))) ?_
      intro a84 HF85; clear HF83
      refine wpQuiet_nil ?_
      intro w86 hq
      have HO87 := HO36.after hq
      clear HO36 hq
      refine gw_nx (hK34 _ _ ?_)
      refine gw_cond HF85 rfl (fun hb88 => ?_) (fun hb88 => ?_)
      · skip
        have HF89 := HF85.subst_ (d := 24) (b := true) rfl hb88
        clear HF85
        (try simp only [Bool.and_eq_true, Bool.or_eq_true, Bool.and_eq_false_iff, Bool.or_eq_false_iff, Bool.not_and, Bool.not_or, Bool.not_not, decide_eq_true_eq, decide_eq_false_iff_not, Bool.not_eq_true', Bool.not_eq_false', Bool.not_eq_true, Bool.not_eq_false, ne_eq, Decidable.not_not, Int.not_lt, Int.not_le, not_true_eq_false, not_false_eq_true, bne_iff_ne, beq_iff_eq, bne_eq_false_iff_eq, beq_eq_false_iff_ne] at hb88)
        refine gw_seq fun K90 hK90 => ?_
        refine wp_region_lit ?_
        refine gw_ev HF89 (want_none rfl) rfl (by decide) (op_assign rfl (ev_c _ _)) ?_
        intro a91 HF92; clear HF89
        refine wpList_nil ?_
        refine gw_nx (hK90 _ _ ?_)
        refine wp_ret ?_
        refine gw_blr ?_
        refine gw_thr ?_
        refine gw_thr ?_
        refine gw_blr ?_
        refine gw_thr ?_
        refine gw_ret1 HF92 rfl rfl ?_
        exact ⟨by rw [any_t (i := i.toNat) (by omega) (by simp_all)], HO87.below⟩
      · skip
        have HF93 := HF85.subst_ (d := 24) (b := false) rfl hb88
        clear HF85
        (try simp only [Bool.and_eq_true, Bool.or_eq_true, Bool.and_eq_false_iff, Bool.or_eq_false_iff, Bool.not_and, Bool.not_or, Bool.not_not, decide_eq_true_eq, decide_eq_false_iff_not, Bool.not_eq_true', Bool.not_eq_false', Bool.not_eq_true, Bool.not_eq_false, ne_eq, Decidable.not_not, Int.not_lt, Int.not_le, not_true_eq_false, not_false_eq_true, bne_iff_ne, beq_iff_eq, bne_eq_false_iff_eq, beq_eq_false_iff_ne] at hb88)
        refine wp_skip ?_
        refine gw_blk ?_
        refine gw_nx (hK33 _ _ ?_)
        refine wp_region_lit ?_
        refine gw_ev HF93 (want_none rfl) rfl (by decide) (op_move rfl (HF93.ev rfl)) ?_
        intro a94 HF95; clear HF93
        refine gw_ev HF95 (want_none rfl) rfl (by decide) (op_add rfl (HF95.ev rfl) (ev_c _ _) (by omega)) ?_
        intro a96 HF97; clear HF95
        refine gw_ev HF97 (want_none rfl) rfl (by decide) (op_assign rfl (HF97.ev rfl)) ?_
        intro a98 HF99; clear HF97
        refine wpList_nil ?_
        refine gw_nx ⟨_, ?_, i + 1, (HF99.pick (t := 5) rfl (HF99.pick (t := 0) rfl (HF99.pick (t := 3) rfl HF99.nil))), HO87.sel [0] (by decide), ?_, ?_, rfl⟩
        · rw [hm20]; omega
        · omega
        · intro j hj; by_cases hji : j = i.toNat; (· subst hji; exact Bool.and_eq_false_iff.2 (by assumption)); exact hq j (by omega)
    · skip
      have HF100 := HF30.subst_ (d := 9) (b := false) rfl hb31
      clear HF30
      (try simp only [Bool.and_eq_true, Bool.or_eq_true, Bool.and_eq_false_iff, Bool.or_eq_false_iff, Bool.not_and, Bool.not_or, Bool.not_not, decide_eq_true_eq, decide_eq_false_iff_not, Bool.not_eq_true', Bool.not_eq_false', Bool.not_eq_true, Bool.not_eq_false, ne_eq, Decidable.not_not, Int.not_lt, Int.not_le, not_true_eq_false, not_false_eq_true, bne_iff_ne, beq_iff_eq, bne_eq_false_iff_eq, beq_eq_false_iff_ne] at hb31)
      refine wp_exit ?_
      refine gw_thx ?_
      refine gw_thx ?_
      refine gw_in ?_
      refine gw_nx (hK10 _ _ ?_)
      refine gw_seq fun K101 hK101 => ?_
      refine wp_region_lit ?_
      refine gw_ev HF100 (want_none rfl) rfl (by decide) (op_assign rfl (ev_c _ _)) ?_
      intro a102 HF103; clear HF100
      refine wpList_nil ?_
      refine gw_nx (hK101 _ _ ?_)
      refine wp_ret ?_
      refine gw_ret1 HF103 rfl rfl ?_
      exact ⟨by rw [any_f (i := i.toNat) (by omega) hq], HO19.below⟩
set_option maxHeartbeats 4000000 in
set_option maxRecDepth 100000 in
theorem CondAny_walk (A0 : Option Addr) (c0 : Nat) (l : List S24) (b : ByteArray) (Ap : Option Addr) (cp : Nat) (ps : List S36) (w : World) (hr : Kd.C k24 w A0 l.length l) (hc : l.length ≤ c0) (hrp : Kd.C k36 w Ap ps.length ps) (hcp : ps.length ≤ cp) (hs : ∀ x ∈ l, smallN 20 x) (hp : ps.length ≤ 281474976710656) :
    Calls Try.prog 8 #[.slice A0 l.length c0, .agg #[.string b, .slice Ap ps.length cp]] w fun e w' => e = .returned (.bool true) ∧ Below w.heap.size w w' := by
  obtain ⟨n, h1⟩ := (Any_ev b ps l hs).rounds
  refine gw_start (N := 21) (vs := [.slice A0 l.length c0, .agg #[.string b, .slice Ap ps.length cp]]) Try.func8 rfl rfl (by simp) fun a HF HO => ?_
  replace HO : Own w w [] := HO
  refine gw_seq fun K1 hK1 => ?_
  refine wp_region_lit ?_
  refine gw_new HF HO (want_none rfl) rfl (by decide) (op_box rfl (HF.ev rfl)) ?_
  intro g2 a3 w4 HF5 HO6; clear HF HO
  have HO7 : Own w w4 [Chunk.blk g2 (.cells #[.string b, .slice Ap ps.length cp] 27 (0, 0))] := HO6
  clear HO6
  refine gw_ev HF5 (want_none rfl) rfl (by decide) (op_assign rfl (ev_c _ _)) ?_
  intro a8 HF9; clear HF5
  refine wpList_nil ?_
  refine gw_nx (hK1 _ _ ?_)
  refine gw_seq fun K10 hK10 => ?_
  refine gx_draw (M := [Chunk.blk g2 (.cells #[.string b, .slice Ap ps.length cp] 27 (0, 0))]) (fun j_ => false) HO7 (by kernel_rfl) fun w11 HO12 => ?_
  clear HO7
  refine gx_step 0 rfl (by kernel_rfl) ?_
  refine gw_call HF9 (want_none rfl) rfl (by decide) (op_callL Try.func9 (by kernel_rfl) rfl rfl ar_nil) (alive_calls _) ?_
  rintro e13 w14 ⟨rfl, hb15⟩
  refine ⟨_, rfl, fun a16 HF17 => ?_⟩
  have HO18 := HO12.after hb15
  clear HF9 HO12 hb15
  refine gx_on (i := 0) (B := (fun j_ => false)) (M := [Chunk.blk g2 (.cells #[.string b, .slice Ap ps.length cp] 27 (0, 0))]) (fun _ => (by exact HO18.sel [0] (by decide))) ?_
  refine gx_take 1 rfl (by kernel_rfl) HF17 (by exact HO18.sel [0] (by decide)) (want_none rfl) rfl (by decide) (fun wq HO => (op_move rfl (HF17.ev rfl))) ?_
  intro a20 HF21; clear HF17
  refine gx_take 4 rfl (by kernel_rfl) HF21 (by exact HO18.sel [0] (by decide)) (want_yes HF21 rfl rfl rfl rfl) rfl (by decide) (fun wq HO => (op_build (cells := #[.string (⟨#[]⟩ : ByteArray), .slice none 0 0]) rfl pt_nil (by kernel_rfl))) ?_
  intro a22 HF23; clear HF21
  refine gx_step 2 rfl (by kernel_rfl) ?_
  refine gw_call HF23 (want_yes HF23 rfl rfl rfl rfl) rfl (by decide) (op_callL Try.func22 (by kernel_rfl) rfl rfl ar_nil) (no_walk _) ?_
  rintro e27 w28 ⟨A24, c25, S26, rfl, hb29⟩
  refine ⟨_, rfl, fun a30 HF31 => ?_⟩
  have HO32 := HO18.fresh hb29
  clear HF23 HO18 hb29
  have HO34 : Own w w28 [Chunk.view k24 S26 A24 noR.2.2.2.length c25 noR.2.2.2, Chunk.blk g2 (.cells #[.string b, .slice Ap ps.length cp] 27 (0, 0))] := HO32
  clear HO32
  refine gx_on (i := 2) (B := (fun j_ => false)) (M := [Chunk.blk g2 (.cells #[.string b, .slice Ap ps.length cp] 27 (0, 0))]) (fun _ => (by exact HO34.sel [1] (by decide))) ?_
  refine gx_step 3 rfl (by kernel_rfl) ?_
  refine gw_news (O := .cells #[.int .i64 noR.1, .string noR.2.1, .string noR.2.2.1, .slice A24 noR.2.2.2.length c25] 24 (0, 0)) (n := 1) HF31 HO34 (want_yes HF31 rfl rfl rfl rfl) rfl (by decide) (op_bslice (by kernel_rfl) rfl (pt_cons (HF31.ev rfl) pt_nil)) ?_
  intro g35 a36 w37 HF38 HO39; clear HF31 HO34
  have HO40 : Own w w37 [Chunk.blk g35 (.cells #[.int .i64 noR.1, .string noR.2.1, .string noR.2.2.1, .slice A24 noR.2.2.2.length c25] 24 (0, 0)), Chunk.view k24 S26 A24 noR.2.2.2.length c25 noR.2.2.2, Chunk.blk g2 (.cells #[.string b, .slice Ap ps.length cp] 27 (0, 0))] := HO39
  clear HO39
  refine gx_on (i := 3) (B := (fun j_ => false)) (M := [Chunk.blk g2 (.cells #[.string b, .slice Ap ps.length cp] 27 (0, 0))]) (fun _ => (by exact HO40.sel [2] (by decide))) ?_
  refine gx_step 5 rfl (by kernel_rfl) ?_
  refine gw_call HF38 (want_yes HF38 rfl rfl rfl rfl) rfl (by decide) (op_callL Try.func21 (by kernel_rfl) rfl rfl (ar_cons (HF38.ev rfl) (ar_cons (HF38.ev rfl) ar_nil))) (cond_Any.calls 62 (some ⟨g35, 0, none⟩) 1 ([(⟨noR.1, noR.2.1, noR.2.2.1, noR.2.2.2⟩ : S24)]) (⟨#[]⟩ : ByteArray) none 0 [] true _ (Cg_lit (cs := [.int .i64 noR.1, .string noR.2.1, .string noR.2.2.1, .slice A24 noR.2.2.2.length c25]) (HO40.get 0 rfl) (reps_more (k24_mk _ (⟨noR.1, noR.2.1, noR.2.2.1, noR.2.2.2⟩ : S24) (view_le (HO40.get 1 rfl)) (view_C (HO40.get 1 rfl))) rfl reps_none) (by simp [maxLen])) (Nat.le_refl _) (Kd.C_nil _ _) (Nat.le_refl _) any_alive) ?_
  rintro e41 w42 ⟨rfl, hb43⟩
  refine ⟨_, rfl, fun a44 HF45 => ?_⟩
  have HO46 := HO40.after hb43
  clear HF38 HO40 hb43
  refine gx_on (i := 5) (B := (fun j_ => false)) (M := [Chunk.blk g2 (.cells #[.string b, .slice Ap ps.length cp] 27 (0, 0))]) (fun _ => (by exact HO46.sel [2] (by decide))) ?_
  refine gx_take 6 rfl (by kernel_rfl) HF45 (by exact HO46.sel [2] (by decide)) (want_none rfl) rfl (by decide) (fun wq HO => (op_pick_t rfl (HF45.ev rfl) (HF45.ev rfl))) ?_
  intro a48 HF49; clear HF45
  refine gx_take 7 rfl (by kernel_rfl) HF49 (by exact HO46.sel [2] (by decide)) (want_none rfl) rfl (by decide) (fun wq HO => (op_move rfl (HF49.ev rfl))) ?_
  intro a50 HF51; clear HF49
  refine gx_take 8 rfl (by kernel_rfl) HF51 (by exact HO46.sel [2] (by decide)) (want_yes HF51 rfl rfl rfl rfl) rfl (by decide) (fun wq HO => (op_move rfl (HF51.ev rfl))) ?_
  intro a52 HF53; clear HF51
  refine gx_take 9 rfl (by kernel_rfl) HF53 (by exact HO46.sel [2] (by decide)) (want_yes HF53 rfl rfl rfl rfl) rfl (by decide) (fun wq HO => (op_loadn gwagg27 gwsiz27 rfl (HF53.ev rfl) (HO.get 0 rfl) rfl rfl)) ?_
  intro a54 HF55; clear HF53
  refine gx_take 11 rfl (by kernel_rfl) HF55 (by exact HO46.sel [2] (by decide)) (want_yes HF55 rfl rfl rfl rfl) rfl (by decide) (fun wq HO => (op_move rfl (HF55.ev rfl))) ?_
  intro a56 HF57; clear HF55
  refine gx_take 12 rfl (by kernel_rfl) HF57 (by exact HO46.sel [2] (by decide)) (want_yes HF57 rfl rfl rfl rfl) rfl (by decide) (fun wq HO => (op_loadn gwagg27 gwsiz27 rfl (HF57.ev rfl) (HO.get 0 rfl) rfl rfl)) ?_
  intro a58 HF59; clear HF57
  refine gx_step 10 rfl (by kernel_rfl) ?_
  refine gw_call HF59 (want_yes HF59 rfl rfl rfl rfl) rfl (by decide) (op_callL Try.func21 (by kernel_rfl) rfl rfl (ar_cons (HF59.ev rfl) (ar_cons (HF59.ev rfl) ar_nil))) (cond_Any.calls n A0 c0 l b Ap cp ps (l.any (fun x : S24 => rightB 20 x && holdB ps 20 x)) _ (Kd.C_below hr HO46.below) hc (Kd.C_below hrp HO46.below) hcp h1) ?_
  rintro e60 w61 ⟨rfl, hb62⟩
  refine ⟨_, rfl, fun a63 HF64 => ?_⟩
  have HO65 := HO46.after hb62
  clear HF59 HO46 hb62
  refine gx_on (i := 10) (B := (fun j_ => false)) (M := [Chunk.blk g2 (.cells #[.string b, .slice Ap ps.length cp] 27 (0, 0))]) (fun _ => (by exact HO65.sel [2] (by decide))) ?_
  refine gx_step 13 rfl (by kernel_rfl) ?_
  refine gw_call HF64 (want_yes HF64 rfl rfl rfl rfl) rfl (by decide) (op_callL Try.func23 (by kernel_rfl) rfl rfl (ar_cons (HF64.ev rfl) (ar_cons (HF64.ev rfl) ar_nil))) (refAny_walk A0 c0 l b Ap cp ps _ (Kd.C_below hr HO65.below) hc (Kd.C_below hrp HO65.below) hcp hs hp) ?_
  rintro e67 w68 ⟨rfl, hb69⟩
  refine ⟨_, rfl, fun a70 HF71 => ?_⟩
  have HO72 := HO65.after hb69
  clear HF64 HO65 hb69
  refine gx_on (i := 13) (B := (fun j_ => false)) (M := [Chunk.blk g2 (.cells #[.string b, .slice Ap ps.length cp] 27 (0, 0))]) (fun _ => (by exact HO72.sel [2] (by decide))) ?_
  refine gx_take 14 rfl (by kernel_rfl) HF71 (by exact HO72.sel [2] (by decide)) (want_yes HF71 rfl rfl rfl rfl) rfl (by decide) (fun wq HO => (op_eqb Try.underlying4 rfl (HF71.ev rfl) (HF71.ev rfl))) ?_
  intro a74 HF75; clear HF71
  refine gx_take 15 rfl (by kernel_rfl) HF75 (by exact HO72.sel [2] (by decide)) (want_none rfl) rfl (by decide) (fun wq HO => (op_pick_t rfl (HF75.ev rfl) (HF75.ev rfl))) ?_
  intro a76 HF77; clear HF75
  refine gx_take 16 rfl (by kernel_rfl) HF77 (by exact HO72.sel [2] (by decide)) (want_none rfl) rfl (by decide) (fun wq HO => (op_assign rfl (HF77.ev rfl))) ?_
  intro a78 HF79; clear HF77
  refine gx_done (by kernel_rfl) ?_
  refine gw_nx (hK10 _ _ ?_)
  refine wp_ret ?_
  refine gw_ret1 HF79 rfl rfl ?_
  exact ⟨by congr 2; simp, HO72.below⟩
end GCond8_
export GCond8_ (CondAny_walk)
open Classical in
noncomputable def colloquylaw12_CondAny.f (l0 : List S24) (a1_0 : ByteArray) (l1_1 : List S36) : Option Bool := if (∀ x ∈ l0, smallN 20 x) ∧ (l1_1.length ≤ 281474976710656) then some true else none
theorem colloquylaw12_CondAny.calls (A0 : Option Addr) (c0 : Nat) (l0 : List S24) (a1_0 : ByteArray) (A1_1 : Option Addr) (c1_1 : Nat) (l1_1 : List S36) (r : Bool) (w : World) (hr0 : Kd.C k24 w A0 l0.length l0) (hc0 : l0.length ≤ c0) (hr1_1 : Kd.C k36 w A1_1 l1_1.length l1_1) (hc1_1 : l1_1.length ≤ c1_1) (h : colloquylaw12_CondAny.f l0 a1_0 l1_1 = some r) :
    Calls Try.prog 8 #[(.slice A0 l0.length c0), (.agg #[.string a1_0, .slice A1_1 l1_1.length c1_1])] w fun e w' => e = .returned (.bool r) ∧ Below w.heap.size w w' := by
  unfold colloquylaw12_CondAny.f at h
  split at h
  · cases h; rename_i hh; exact CondAny_walk A0 c0 l0 a1_0 A1_1 c1_1 l1_1 w hr0 hc0 hr1_1 hc1_1 hh.1 hh.2
  · cases h
end Go.Proofs.Ytjndcgochnaodaa.PA
