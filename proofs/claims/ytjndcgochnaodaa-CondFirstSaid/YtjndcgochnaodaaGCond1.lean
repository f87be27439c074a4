/- Conditions: when one holds of a board, walked. Printed by a program of this session; Lean checks it. -/
import Derived.Test.YtjndcgochnaodaaGCond0
import Derived.Test.YtjndcgochnaodaaPAx5
namespace Go.Proofs.Ytjndcgochnaodaa.PA
open Go.RowKit Go.Proofs.YtjndcgochnaodaaW.PrintWords Go.Proofs.YtjndcgochnaodaaW.PrintLast Go.Proofs.YtjndcgochnaodaaW.PrintMore
set_option linter.unusedVariables false
set_option linter.unusedSimpArgs false
namespace GCond1_
theorem gwagg22 : ∀ w, (isAgg 22).run Try.prog w = .ok false w := fun _ => by kernel_rfl
theorem gwagg24 : ∀ w, (isAgg 24).run Try.prog w = .ok true w := fun _ => by kernel_rfl
theorem gwagg27 : ∀ w, (isAgg 27).run Try.prog w = .ok true w := fun _ => by kernel_rfl
theorem gwagg3 : ∀ w, (isAgg 3).run Try.prog w = .ok false w := fun _ => by kernel_rfl
theorem gwagg30 : ∀ w, (isAgg 30).run Try.prog w = .ok false w := fun _ => by kernel_rfl
theorem gwagg9 : ∀ w, (isAgg 9).run Try.prog w = .ok false w := fun _ => by kernel_rfl
theorem gwfld24_0 (g off : Nat) : ∀ w, (Instr.fieldAt 24 (.pointer (some ⟨g, off, none⟩)) 0).run Try.prog w = .ok (.pointer (some ⟨g, off + 0, none⟩)) w := fun _ => by kernel_rfl
theorem gwfld24_1 (g off : Nat) : ∀ w, (Instr.fieldAt 24 (.pointer (some ⟨g, off, none⟩)) 1).run Try.prog w = .ok (.pointer (some ⟨g, off + 1, none⟩)) w := fun _ => by kernel_rfl
theorem gwfld24_2 (g off : Nat) : ∀ w, (Instr.fieldAt 24 (.pointer (some ⟨g, off, none⟩)) 2).run Try.prog w = .ok (.pointer (some ⟨g, off + 2, none⟩)) w := fun _ => by kernel_rfl
theorem gwfld24_3 (g off : Nat) : ∀ w, (Instr.fieldAt 24 (.pointer (some ⟨g, off, none⟩)) 3).run Try.prog w = .ok (.pointer (some ⟨g, off + 3, none⟩)) w := fun _ => by kernel_rfl
theorem gwsiz24 : ∀ w, (sizeOf 24).run Try.prog w = .ok 4 w := fun _ => by kernel_rfl
theorem gwsiz27 : ∀ w, (sizeOf 27).run Try.prog w = .ok 2 w := fun _ => by kernel_rfl
theorem gwsiz30 : ∀ w, (sizeOf 30).run Try.prog w = .ok 1 w := fun _ => by kernel_rfl
theorem gwzer30 : ∀ w, (zeroValue 30).run Try.prog w = .ok (.nilFunc) w := fun _ => by kernel_rfl
/-- What holds comes to, k rounds deep. -/
def HoldsIH (k : Nat) : Prop := ∀ (kd : Int) (nm vl : ByteArray) (A3 : Option Addr) (c3 : Nat) (kids : List S24) (b : ByteArray) (Ap : Option Addr) (cp : Nat) (ps : List S36) (r : Bool) (w : World), Kd.C k24 w A3 kids.length kids → kids.length ≤ c3 → Kd.C k36 w Ap ps.length ps → ps.length ≤ cp → cond_holds.f k kd nm vl kids b ps = some r → Calls Try.prog 27 #[(.agg #[.int .i64 kd, .string nm, .string vl, .slice A3 kids.length c3] : Value), (.agg #[.string b, .slice Ap ps.length cp] : Value)] w fun e w' => e = .returned (.bool r) ∧ Below w.heap.size w w'

theorem len_C {α : Type} {d : Kd α} {w : World} {A : Option Addr} {n : Nat} {xs : List α} (h : Kd.C d w A n xs) : n ≤ 9223372036854775807 := by
  exact h.2.1

set_option maxHeartbeats 4000000 in
set_option maxRecDepth 100000 in
theorem holds1_calls (k : Nat) (IH : HoldsIH k) (kd : Int) (nm vl : ByteArray) (A3 : Option Addr) (c3 : Nat) (kids : List S24) (b : ByteArray) (Ap : Option Addr) (cp : Nat) (ps : List S36) (r : Bool) (w : World) (hr3 : Kd.C k24 w A3 kids.length kids) (hc3 : kids.length ≤ c3) (hrp : Kd.C k36 w Ap ps.length ps) (hcp : ps.length ≤ cp) (g : Nat) (hB : w.heap[g]? = some (.cells #[.string b, .slice Ap ps.length cp] 27 (0, 0))) (h : cond_holds.f k kd nm vl kids b ps = some r) :
    Calls Try.prog 38 #[.agg #[.int .i64 kd, .string nm, .string vl, .slice A3 kids.length c3], .pointer (some ⟨g, 0, none⟩)] w fun e w' => e = .returned (.bool r) ∧ Below w.heap.size w w' := by
  refine gw_start (N := 7) (vs := [.agg #[.int .i64 kd, .string nm, .string vl, .slice A3 kids.length c3], .pointer (some ⟨g, 0, none⟩)]) Try.func38 rfl rfl (by simp) fun a HF HO => ?_
  replace HO : Own w w [] := HO
  refine gw_seq fun K1 hK1 => ?_
  refine wp_region_lit ?_
  refine gw_new HF HO (want_none rfl) rfl (by decide) (op_box rfl (HF.ev rfl)) ?_
  intro g2 a3 w4 HF5 HO6; clear HF HO
  have HO7 : Own w w4 [Chunk.blk g2 (.cells #[.int .i64 kd, .string nm, .string vl, .slice A3 kids.length c3] 24 (0, 0))] := HO6
  clear HO6
  refine gw_ev HF5 (want_none rfl) rfl (by decide) (op_assign rfl (ev_c _ _)) ?_
  intro a8 HF9; clear HF5
  refine wpList_nil ?_
  refine gw_nx (hK1 _ _ ?_)
  refine gw_seq fun K10 hK10 => ?_
  refine wp_region_lit ?_
  refine gw_ev HF9 (want_none rfl) rfl (by decide) (op_loadn gwagg24 gwsiz24 rfl (HF9.ev rfl) (HO7.get 0 rfl) rfl rfl) ?_
  intro a11 HF12; clear HF9
  refine gw_ev HF12 (want_none rfl) rfl (by decide) (op_loadn gwagg27 gwsiz27 rfl (HF12.ev rfl) (argblk HO7 hB) rfl rfl) ?_
  intro a13 HF14; clear HF12
  refine gw_call HF14 (want_none rfl) rfl (by decide) (op_callL Try.func27 (by kernel_rfl) rfl rfl (ar_cons (HF14.ev rfl) (ar_cons (HF14.ev rfl) ar_nil))) (IH kd nm vl A3 c3 kids b Ap cp ps _ _ (Kd.C_below hr3 HO7.below) hc3 (Kd.C_below hrp HO7.below) hcp h) ?_
  rintro e15 w16 ⟨rfl, hb17⟩
  refine ⟨_, rfl, fun a18 HF19 => ?_⟩
  have HO20 := HO7.after hb17
  clear HF14 HO7 hb17
  refine gw_ev HF19 (want_none rfl) rfl (by decide) (op_assign rfl (HF19.ev rfl)) ?_
  intro a22 HF23; clear HF19
  refine wpList_nil ?_
  refine gw_nx (hK10 _ _ ?_)
  refine wp_ret ?_
  refine gw_ret1 HF23 rfl rfl ?_
  exact ⟨rfl, HO20.below⟩
set_option maxHeartbeats 4000000 in
set_option maxRecDepth 100000 in
theorem holds2_calls (k : Nat) (IH : HoldsIH k) (kd : Int) (nm vl : ByteArray) (A3 : Option Addr) (c3 : Nat) (kids : List S24) (b : ByteArray) (Ap : Option Addr) (cp : Nat) (ps : List S36) (r : Bool) (w : World) (hr3 : Kd.C k24 w A3 kids.length kids) (hc3 : kids.length ≤ c3) (hrp : Kd.C k36 w Ap ps.length ps) (hcp : ps.length ≤ cp) (g : Nat) (hB : w.heap[g]? = some (.cells #[.string b, .slice Ap ps.length cp] 27 (0, 0))) (q : Nat) (hQ : w.heap[q]? = some (.cells #[.func (.func 38) #[] #[.pointer (some ⟨g, 0, none⟩)]] 30 (0, 0))) (h : cond_holds.f k kd nm vl kids b ps = some r) :
    Calls Try.prog 40 #[.agg #[.int .i64 kd, .string nm, .string vl, .slice A3 kids.length c3], .pointer (some ⟨q, 0, none⟩)] w fun e w' => e = .returned (.bool (!r)) ∧ Below w.heap.size w w' := by
  refine gw_start (N := 8) (vs := [.agg #[.int .i64 kd, .string nm, .string vl, .slice A3 kids.length c3], .pointer (some ⟨q, 0, none⟩)]) Try.func40 rfl rfl (by simp) fun a HF HO => ?_
  replace HO : Own w w [] := HO
  refine gw_seq fun K1 hK1 => ?_
  refine wp_region_lit ?_
  refine gw_new HF HO (want_none rfl) rfl (by decide) (op_box rfl (HF.ev rfl)) ?_
  intro g2 a3 w4 HF5 HO6; clear HF HO
  have HO7 : Own w w4 [Chunk.blk g2 (.cells #[.int .i64 kd, .string nm, .string vl, .slice A3 kids.length c3] 24 (0, 0))] := HO6
  clear HO6
  refine gw_ev HF5 (want_none rfl) rfl (by decide) (op_assign rfl (ev_c _ _)) ?_
  intro a8 HF9; clear HF5
  refine wpList_nil ?_
  refine gw_nx (hK1 _ _ ?_)
  refine gw_seq fun K10 hK10 => ?_
  refine wp_region_lit ?_
  refine gw_ev HF9 (want_none rfl) rfl (by decide) (op_load1 gwagg30 rfl (HF9.ev rfl) (blk_at (argblk HO7 hQ) rfl)) ?_
  intro a11 HF12; clear HF9
  refine gw_ev HF12 (want_none rfl) rfl (by decide) (op_loadn gwagg24 gwsiz24 rfl (HF12.ev rfl) (HO7.get 0 rfl) rfl rfl) ?_
  intro a13 HF14; clear HF12
  refine gw_call HF14 (want_none rfl) rfl (by decide) (op_callV Try.func38 (by kernel_rfl) rfl rfl (HF14.ev rfl) (ar_cons (HF14.ev rfl) ar_nil)) (holds1_calls _ IH kd nm vl A3 c3 kids b Ap cp ps r _ (Kd.C_below hr3 HO7.below) hc3 (Kd.C_below hrp HO7.below) hcp g (blk_below HO7.below hB) h) ?_
  rintro e15 w16 ⟨rfl, hb17⟩
  refine ⟨_, rfl, fun a18 HF19 => ?_⟩
  have HO20 := HO7.after hb17
  clear HF14 HO7 hb17
  refine gw_ev HF19 (want_none rfl) rfl (by decide) (op_not rfl (HF19.ev rfl)) ?_
  intro a22 HF23; clear HF19
  refine gw_ev HF23 (want_none rfl) rfl (by decide) (op_assign rfl (HF23.ev rfl)) ?_
  intro a24 HF25; clear HF23
  refine wpList_nil ?_
  refine gw_nx (hK10 _ _ ?_)
  refine wp_ret ?_
  refine gw_ret1 HF25 rfl rfl ?_
  exact ⟨rfl, HO20.below⟩
set_option maxHeartbeats 4000000 in
set_option maxRecDepth 100000 in
theorem holds_step (k : Nat) (IH : HoldsIH k) (kd : Int) (nm vl : ByteArray) (A3 : Option Addr) (c3 : Nat) (kids : List S24) (b : ByteArray) (Ap : Option Addr) (cp : Nat) (ps : List S36) (r : Bool) (w : World) (hr3 : Kd.C k24 w A3 kids.length kids) (hc3 : kids.length ≤ c3) (hrp : Kd.C k36 w Ap ps.length ps) (hcp : ps.length ≤ cp) (h : cond_holds.f (k + 1) kd nm vl kids b ps = some r) :
    Calls Try.prog 27 #[.agg #[.int .i64 kd, .string nm, .string vl, .slice A3 kids.length c3], .agg #[.string b, .slice Ap ps.length cp]] w fun e w' => e = .returned (.bool r) ∧ Below w.heap.size w w' := by
  refine gw_start (N := 46) (vs := [.agg #[.int .i64 kd, .string nm, .string vl, .slice A3 kids.length c3], .agg #[.string b, .slice Ap ps.length cp]]) Try.func27 rfl rfl (by simp) fun a HF HO => ?_
  replace HO : Own w w [] := HO
  refine gw_seq fun K1 hK1 => ?_
  refine wp_region_lit ?_
  refine gw_new HF HO (want_none rfl) rfl (by decide) (op_box rfl (HF.ev rfl)) ?_
  intro g2 a3 w4 HF5 HO6; clear HF HO
  have HO7 : Own w w4 [Chunk.blk g2 (.cells #[.int .i64 kd, .string nm, .string vl, .slice A3 kids.length c3] 24 (0, 0))] := HO6
  clear HO6
  refine gw_new HF5 HO7 (want_none rfl) rfl (by decide) (op_box rfl (HF5.ev rfl)) ?_
  intro g8 a9 w10 HF11 HO12; clear HF5 HO7
  have HO13 : Own w w10 [Chunk.blk g8 (.cells #[.string b, .slice Ap ps.length cp] 27 (0, 0)), Chunk.blk g2 (.cells #[.int .i64 kd, .string nm, .string vl, .slice A3 kids.length c3] 24 (0, 0))] := HO12
  clear HO12
  refine gw_ev HF11 (want_none rfl) rfl (by decide) (op_assign rfl (ev_c _ _)) ?_
  intro a14 HF15; clear HF11
  refine wpList_nil ?_
  refine gw_nx (hK1 _ _ ?_)
  refine gw_seq fun K16 hK16 => ?_
  refine wp_region_lit ?_
  refine gw_ev HF15 (want_none rfl) rfl (by decide) (op_func rfl (ar_cons (HF15.ev rfl) ar_nil)) ?_
  intro a17 HF18; clear HF15
  refine gw_new HF18 HO13 (want_none rfl) rfl (by decide) (op_alloc gwzer30 rfl) ?_
  intro g19 a20 w21 HF22 HO23; clear HF18 HO13
  have HO24 : Own w w21 [Chunk.blk g19 (.cells #[.nilFunc] 30 (0, 0)), Chunk.blk g8 (.cells #[.string b, .slice Ap ps.length cp] 27 (0, 0)), Chunk.blk g2 (.cells #[.int .i64 kd, .string nm, .string vl, .slice A3 kids.length c3] 24 (0, 0))] := HO23
  clear HO23
  refine gw_set 0 HF22 HO24 rfl (want_none rfl) rfl (op_store1 gwsiz30 rfl (HF22.ev rfl) (HF22.ev rfl) rfl (blk_at (HO24.get 0 rfl) rfl) (blkf (HO24.get 0 rfl))) ?_
  intro a25 w27 HF26 HO28; clear HF22 HO24
  have HO29 : Own w w27 [Chunk.blk g19 (.cells #[.func (.func 38) #[] #[.pointer (some ⟨g8, 0, none⟩)]] 30 (0, 0)), Chunk.blk g8 (.cells #[.string b, .slice Ap ps.length cp] 27 (0, 0)), Chunk.blk g2 (.cells #[.int .i64 kd, .string nm, .string vl, .slice A3 kids.length c3] 24 (0, 0))] := HO28
  clear HO28
  refine wpList_nil ?_
  refine gw_nx (hK16 _ _ ?_)
  refine gw_seq fun K30 hK30 => ?_
  refine gw_seq fun K31 hK31 => ?_
  refine wp_region_lit ?_
  refine gw_ev HF26 (want_none rfl) rfl (by decide) (op_field (gwfld24_0 _ _) rfl (HF26.ev rfl)) ?_
  intro a32 HF33; clear HF26
  refine gw_ev HF33 (want_none rfl) rfl (by decide) (op_load1 gwagg3 rfl (HF33.ev rfl) (blk_at (HO29.get 2 rfl) rfl)) ?_
  intro a34 HF35; clear HF33
  refine wpList_nil ?_
  refine gw_nx (hK31 _ _ ?_)
  refine wp_block ?_
  refine gw_seq fun K36 hK36 => ?_
  refine wp_region_lit ?_
  refine gw_ev HF35 (want_none rfl) rfl (by decide) (op_eqi rfl (HF35.ev rfl) (ev_c _ _)) ?_
  intro a37 HF38; clear HF35
  refine gw_ev HF38 (want_none rfl) rfl (by decide) (op_assign rfl (HF38.ev rfl)) ?_
  intro a39 HF40; clear HF38
  refine wpList_nil ?_
  refine gw_nx (hK36 _ _ ?_)
  refine gw_cond HF40 rfl (fun hb41 => ?_) (fun hb41 => ?_)
  · skip
    have HF42 := HF40.subst_ (d := 9) (b := true) rfl hb41
    clear HF40
    (try simp only [Bool.and_eq_true, Bool.or_eq_true, Bool.and_eq_false_iff, Bool.or_eq_false_iff, Bool.not_and, Bool.not_or, Bool.not_not, decide_eq_true_eq, decide_eq_false_iff_not, Bool.not_eq_true', Bool.not_eq_false', Bool.not_eq_true, Bool.not_eq_false, ne_eq, Decidable.not_not, Int.not_lt, Int.not_le, not_true_eq_false, not_false_eq_true, bne_iff_ne, beq_iff_eq, bne_eq_false_iff_eq, beq_eq_false_iff_ne] at hb41)
    refine gw_seq fun K43 hK43 => ?_
    refine wp_region_lit ?_
    refine gw_ev HF42 (want_none rfl) rfl (by decide) (op_loadn gwagg27 gwsiz27 rfl (HF42.ev rfl) (HO29.get 1 rfl) rfl rfl) ?_
    intro a44 HF45; clear HF42
    refine gw_ev HF45 (want_none rfl) rfl (by decide) (op_field (gwfld24_1 _ _) rfl (HF45.ev rfl)) ?_
    intro a46 HF47; clear HF45
    refine gw_ev HF47 (want_none rfl) rfl (by decide) (op_load1 gwagg9 rfl (HF47.ev rfl) (blk_at (HO29.get 2 rfl) rfl)) ?_
    intro a48 HF49; clear HF47
    refine gw_ev HF49 (want_none rfl) rfl (by decide) (op_field (gwfld24_2 _ _) rfl (HF49.ev rfl)) ?_
    intro a50 HF51; clear HF49
    refine gw_ev HF51 (want_none rfl) rfl (by decide) (op_load1 gwagg9 rfl (HF51.ev rfl) (blk_at (HO29.get 2 rfl) rfl)) ?_
    intro a52 HF53; clear HF51
    refine gw_call HF53 (want_none rfl) rfl (by decide) (op_callL Try.func39 (by kernel_rfl) rfl rfl (ar_cons (HF53.ev rfl) (ar_cons (HF53.ev rfl) (ar_cons (HF53.ev rfl) ar_nil)))) (has_calls b Ap cp ps nm vl _ (Kd.C_below hrp HO29.below) hcp (len_C (Kd.C_below hrp HO29.below))) ?_
    rintro e54 w55 ⟨rfl, hb56⟩
    refine ⟨_, rfl, fun a57 HF58 => ?_⟩
    have HO59 := HO29.after hb56
    clear HF53 HO29 hb56
    refine gw_ev HF58 (want_none rfl) rfl (by decide) (op_assign rfl (HF58.ev rfl)) ?_
    intro a61 HF62; clear HF58
    refine wpList_nil ?_
    refine gw_nx (hK43 _ _ ?_)
    refine wp_ret ?_
    refine gw_blr ?_
    refine gw_thr ?_
    refine gw_ret1 HF62 rfl rfl ?_
    exact ⟨by congr 2 <;> first | rfl | exact ho_is h (by assumption) | exact ho_isnt h (by assumption) (by assumption) | exact hrr.symm, HO59.below⟩
  · skip
    have HF63 := HF40.subst_ (d := 9) (b := false) rfl hb41
    clear HF40
    (try simp only [Bool.and_eq_true, Bool.or_eq_true, Bool.and_eq_false_iff, Bool.or_eq_false_iff, Bool.not_and, Bool.not_or, Bool.not_not, decide_eq_true_eq, decide_eq_false_iff_not, Bool.not_eq_true', Bool.not_eq_false', Bool.not_eq_true, Bool.not_eq_false, ne_eq, Decidable.not_not, Int.not_lt, Int.not_le, not_true_eq_false, not_false_eq_true, bne_iff_ne, beq_iff_eq, bne_eq_false_iff_eq, beq_eq_false_iff_ne] at hb41)
    refine gw_seq fun K64 hK64 => ?_
    refine wp_region_lit ?_
    refine gw_ev HF63 (want_none rfl) rfl (by decide) (op_eqi rfl (HF63.ev rfl) (ev_c _ _)) ?_
    intro a65 HF66; clear HF63
    refine gw_ev HF66 (want_none rfl) rfl (by decide) (op_assign rfl (HF66.ev rfl)) ?_
    intro a67 HF68; clear HF66
    refine wpList_nil ?_
    refine gw_nx (hK64 _ _ ?_)
    refine gw_cond HF68 rfl (fun hb69 => ?_) (fun hb69 => ?_)
    · skip
      have HF70 := HF68.subst_ (d := 17) (b := true) rfl hb69
      clear HF68
      (try simp only [Bool.and_eq_true, Bool.or_eq_true, Bool.and_eq_false_iff, Bool.or_eq_false_iff, Bool.not_and, Bool.not_or, Bool.not_not, decide_eq_true_eq, decide_eq_false_iff_not, Bool.not_eq_true', Bool.not_eq_false', Bool.not_eq_true, Bool.not_eq_false, ne_eq, Decidable.not_not, Int.not_lt, Int.not_le, not_true_eq_false, not_false_eq_true, bne_iff_ne, beq_iff_eq, bne_eq_false_iff_eq, beq_eq_false_iff_ne] at hb69)
      refine gw_seq fun K71 hK71 => ?_
      refine wp_region_lit ?_
      refine gw_ev HF70 (want_none rfl) rfl (by decide) (op_loadn gwagg27 gwsiz27 rfl (HF70.ev rfl) (HO29.get 1 rfl) rfl rfl) ?_
      intro a72 HF73; clear HF70
      refine gw_ev HF73 (want_none rfl) rfl (by decide) (op_field (gwfld24_1 _ _) rfl (HF73.ev rfl)) ?_
      intro a74 HF75; clear HF73
      refine gw_ev HF75 (want_none rfl) rfl (by decide) (op_load1 gwagg9 rfl (HF75.ev rfl) (blk_at (HO29.get 2 rfl) rfl)) ?_
      intro a76 HF77; clear HF75
      refine gw_ev HF77 (want_none rfl) rfl (by decide) (op_field (gwfld24_2 _ _) rfl (HF77.ev rfl)) ?_
      intro a78 HF79; clear HF77
      refine gw_ev HF79 (want_none rfl) rfl (by decide) (op_load1 gwagg9 rfl (HF79.ev rfl) (blk_at (HO29.get 2 rfl) rfl)) ?_
      intro a80 HF81; clear HF79
      refine gw_call HF81 (want_none rfl) rfl (by decide) (op_callL Try.func39 (by kernel_rfl) rfl rfl (ar_cons (HF81.ev rfl) (ar_cons (HF81.ev rfl) (ar_cons (HF81.ev rfl) ar_nil)))) (has_calls b Ap cp ps nm vl _ (Kd.C_below hrp HO29.below) hcp (len_C (Kd.C_below hrp HO29.below))) ?_
      rintro e82 w83 ⟨rfl, hb84⟩
      refine ⟨_, rfl, fun a85 HF86 => ?_⟩
      have HO87 := HO29.after hb84
      clear HF81 HO29 hb84
      refine gw_ev HF86 (want_none rfl) rfl (by decide) (op_not rfl (HF86.ev rfl)) ?_
      intro a89 HF90; clear HF86
      refine gw_ev HF90 (want_none rfl) rfl (by decide) (op_assign rfl (HF90.ev rfl)) ?_
      intro a91 HF92; clear HF90
      refine wpList_nil ?_
      refine gw_nx (hK71 _ _ ?_)
      refine wp_ret ?_
      refine gw_blr ?_
      refine gw_thr ?_
      refine gw_ret1 HF92 rfl rfl ?_
      exact ⟨by congr 2 <;> first | rfl | exact ho_is h (by assumption) | exact ho_isnt h (by assumption) (by assumption) | exact hrr.symm, HO87.below⟩
    · skip
      have HF93 := HF68.subst_ (d := 17) (b := false) rfl hb69
      clear HF68
      (try simp only [Bool.and_eq_true, Bool.or_eq_true, Bool.and_eq_false_iff, Bool.or_eq_false_iff, Bool.not_and, Bool.not_or, Bool.not_not, decide_eq_true_eq, decide_eq_false_iff_not, Bool.not_eq_true', Bool.not_eq_false', Bool.not_eq_true, Bool.not_eq_false, ne_eq, Decidable.not_not, Int.not_lt, Int.not_le, not_true_eq_false, not_false_eq_true, bne_iff_ne, beq_iff_eq, bne_eq_false_iff_eq, beq_eq_false_iff_ne] at hb69)
      refine gw_seq fun K94 hK94 => ?_
      refine wp_region_lit ?_
      refine gw_ev HF93 (want_none rfl) rfl (by decide) (op_eqi rfl (HF93.ev rfl) (ev_c _ _)) ?_
      intro a95 HF96; clear HF93
      refine gw_ev HF96 (want_none rfl) rfl (by decide) (op_assign rfl (HF96.ev rfl)) ?_
      intro a97 HF98; clear HF96
      refine wpList_nil ?_
      refine gw_nx (hK94 _ _ ?_)
      refine gw_cond HF98 rfl (fun hb99 => ?_) (fun hb99 => ?_)
      · skip
        have HF100 := HF98.subst_ (d := 26) (b := true) rfl hb99
        clear HF98
        (try simp only [Bool.and_eq_true, Bool.or_eq_true, Bool.and_eq_false_iff, Bool.or_eq_false_iff, Bool.not_and, Bool.not_or, Bool.not_not, decide_eq_true_eq, decide_eq_false_iff_not, Bool.not_eq_true', Bool.not_eq_false', Bool.not_eq_true, Bool.not_eq_false, ne_eq, Decidable.not_not, Int.not_lt, Int.not_le, not_true_eq_false, not_false_eq_true, bne_iff_ne, beq_iff_eq, bne_eq_false_iff_eq, beq_eq_false_iff_ne] at hb99)
        obtain ⟨hlt, r0, hr0, hrr⟩ := ho_not h (by assumption) (by assumption) (by assumption)
        refine gw_seq fun K101 hK101 => ?_
        refine gx_draw (M := [Chunk.blk g19 (.cells #[.func (.func 38) #[] #[.pointer (some ⟨g8, 0, none⟩)]] 30 (0, 0)), Chunk.blk g8 (.cells #[.string b, .slice Ap ps.length cp] 27 (0, 0)), Chunk.blk g2 (.cells #[.int .i64 kd, .string nm, .string vl, .slice A3 kids.length c3] 24 (0, 0))]) (fun j_ => false) HO29 (by kernel_rfl) fun w102 HO103 => ?_
        clear HO29
        refine gx_take 0 rfl (by kernel_rfl) HF100 (by exact HO103.sel [0, 1, 2] (by decide)) (want_none rfl) rfl (by decide) (fun wq HO => (op_load1 gwagg30 rfl (HF100.ev rfl) (blk_at (HO.get 0 rfl) rfl))) ?_
        intro a104 HF105; clear HF100
        refine gx_take 1 rfl (by kernel_rfl) HF105 (by exact HO103.sel [0, 1, 2] (by decide)) (want_none rfl) rfl (by decide) (fun wq HO => (op_field (gwfld24_3 _ _) rfl (HF105.ev rfl))) ?_
        intro a106 HF107; clear HF105
        refine gx_take 2 rfl (by kernel_rfl) HF107 (by exact HO103.sel [0, 1, 2] (by decide)) (want_none rfl) rfl (by decide) (fun wq HO => (op_load1 gwagg22 rfl (HF107.ev rfl) (blk_at (HO.get 2 rfl) rfl))) ?_
        intro a108 HF109; clear HF107
        obtain ⟨ad110, cs113, hA111, hl114, hK115, hc112⟩ := Kd.C_get hr3 z24 0 (by omega) (by omega)
        obtain ⟨A116, c117, rfl, hl118, hC119⟩ := k24_open hK115
        clear hl114
        refine gx_take 3 rfl (by kernel_rfl) HF109 (by exact HO103.sel [0, 1, 2] (by decide)) (want_none rfl) rfl (by decide) (fun wq HO => (op_index Try.underlying22 gwsiz24 rfl (HF109.ev rfl) (ev_c _ _) hA111 (⟨by omega, by omega⟩))) ?_
        intro a120 HF121; clear HF109
        refine gx_take 4 rfl (by kernel_rfl) HF121 (by exact HO103.sel [0, 1, 2] (by decide)) (want_none rfl) rfl (by decide) (fun wq HO => (op_loadc gwagg24 gwsiz24 rfl (HF121.ev rfl) rfl (cells0 HO hc112))) ?_
        intro a122 HF123; clear HF121
        refine gx_step 5 rfl (by kernel_rfl) ?_
        refine gw_call HF123 (want_none rfl) rfl (by decide) (op_callV Try.func38 (by kernel_rfl) rfl rfl (HF123.ev rfl) (ar_cons (HF123.ev rfl) ar_nil)) (holds1_calls _ IH ((kids.getD (0 : Int).toNat z24).f0) ((kids.getD (0 : Int).toNat z24).f1) ((kids.getD (0 : Int).toNat z24).f2) A116 c117 ((kids.getD (0 : Int).toNat z24).f3) b Ap cp ps r0 _ (Kd.C_below hC119 HO103.below) hl118 (Kd.C_below hrp HO103.below) hcp g8 (HO103.get 1 rfl) hr0) ?_
        rintro e124 w125 ⟨rfl, hb126⟩
        refine ⟨_, rfl, fun a127 HF128 => ?_⟩
        have HO129 := HO103.after hb126
        clear HF123 HO103 hb126
        refine gx_on (i := 5) (B := (fun j_ => false)) (M := [Chunk.blk g19 (.cells #[.func (.func 38) #[] #[.pointer (some ⟨g8, 0, none⟩)]] 30 (0, 0)), Chunk.blk g8 (.cells #[.string b, .slice Ap ps.length cp] 27 (0, 0)), Chunk.blk g2 (.cells #[.int .i64 kd, .string nm, .string vl, .slice A3 kids.length c3] 24 (0, 0))]) (fun _ => (by exact HO129.sel [0, 1, 2] (by decide))) ?_
        refine gx_take 6 rfl (by kernel_rfl) HF128 (by exact HO129.sel [0, 1, 2] (by decide)) (want_none rfl) rfl (by decide) (fun wq HO => (op_not rfl (HF128.ev rfl))) ?_
        intro a131 HF132; clear HF128
        refine gx_take 7 rfl (by kernel_rfl) HF132 (by exact HO129.sel [0, 1, 2] (by decide)) (want_none rfl) rfl (by decide) (fun wq HO => (op_assign rfl (HF132.ev rfl))) ?_
        intro a133 HF134; clear HF132
        refine gx_done (by kernel_rfl) ?_
        refine gw_nx (hK101 _ _ ?_)
        refine wp_ret ?_
        refine gw_blr ?_
        refine gw_thr ?_
        refine gw_ret1 HF134 rfl rfl ?_
        exact ⟨by congr 2 <;> first | rfl | exact ho_is h (by assumption) | exact ho_isnt h (by assumption) (by assumption) | exact hrr.symm, HO129.below⟩
      · skip
        have HF135 := HF98.subst_ (d := 26) (b := false) rfl hb99
        clear HF98
        (try simp only [Bool.and_eq_true, Bool.or_eq_true, Bool.and_eq_false_iff, Bool.or_eq_false_iff, Bool.not_and, Bool.not_or, Bool.not_not, decide_eq_true_eq, decide_eq_false_iff_not, Bool.not_eq_true', Bool.not_eq_false', Bool.not_eq_true, Bool.not_eq_false, ne_eq, Decidable.not_not, Int.not_lt, Int.not_le, not_true_eq_false, not_false_eq_true, bne_iff_ne, beq_iff_eq, bne_eq_false_iff_eq, beq_eq_false_iff_ne] at hb99)
        refine gw_seq fun K136 hK136 => ?_
        refine wp_region_lit ?_
        refine gw_ev HF135 (want_none rfl) rfl (by decide) (op_eqi rfl (HF135.ev rfl) (ev_c _ _)) ?_
        intro a137 HF138; clear HF135
        refine gw_ev HF138 (want_none rfl) rfl (by decide) (op_assign rfl (HF138.ev rfl)) ?_
        intro a139 HF140; clear HF138
        refine wpList_nil ?_
        refine gw_nx (hK136 _ _ ?_)
        refine gw_cond HF140 rfl (fun hb141 => ?_) (fun hb141 => ?_)
        · skip
          have HF142 := HF140.subst_ (d := 35) (b := true) rfl hb141
          clear HF140
          (try simp only [Bool.and_eq_true, Bool.or_eq_true, Bool.and_eq_false_iff, Bool.or_eq_false_iff, Bool.not_and, Bool.not_or, Bool.not_not, decide_eq_true_eq, decide_eq_false_iff_not, Bool.not_eq_true', Bool.not_eq_false', Bool.not_eq_true, Bool.not_eq_false, ne_eq, Decidable.not_not, Int.not_lt, Int.not_le, not_true_eq_false, not_false_eq_true, bne_iff_ne, beq_iff_eq, bne_eq_false_iff_eq, beq_eq_false_iff_ne] at hb141)
          obtain ⟨r0, hr0, hrr⟩ := ho_and h (by assumption) (by assumption) (by assumption) (by assumption)
          refine gw_seq fun K143 hK143 => ?_
          refine wp_region_lit ?_
          refine gw_ev HF142 (want_none rfl) rfl (by decide) (op_field (gwfld24_3 _ _) rfl (HF142.ev rfl)) ?_
          intro a144 HF145; clear HF142
          refine gw_ev HF145 (want_none rfl) rfl (by decide) (op_load1 gwagg22 rfl (HF145.ev rfl) (blk_at (HO29.get 2 rfl) rfl)) ?_
          intro a146 HF147; clear HF145
          refine gw_ev HF147 (want_none rfl) rfl (by decide) (op_func rfl (ar_cons (HF147.ev rfl) ar_nil)) ?_
          intro a148 HF149; clear HF147
          refine gw_call HF149 (want_none rfl) rfl (by decide) (op_callL Try.func33 (by kernel_rfl) rfl rfl (ar_cons (HF149.ev rfl) (ar_cons (HF149.ev rfl) ar_nil))) (contains_calls A3 c3 kids _ (Kd.C_below hr3 HO29.below) hc3 (len_C (Kd.C_below hr3 HO29.below)) 40 _ [.pointer (some ⟨g19, 0, none⟩)] Try.func40 (by kernel_rfl) rfl (fun x => (cond_holds.f k x.f0 x.f1 x.f2 x.f3 b ps).map (!·)) r0 hr0 (fun x _ A3_ c3_ w1 hbb hC_ hc_ b_ hp_ => by obtain ⟨r1, hr1, rfl⟩ := map_not hp_; exact holds2_calls k IH x.f0 x.f1 x.f2 A3_ c3_ x.f3 b Ap cp ps r1 w1 hC_ hc_ (Kd.C_below (Kd.C_below hrp HO29.below) hbb) hcp g8 (blk_below hbb (HO29.get 1 rfl)) g19 (blk_below hbb (HO29.get 0 rfl)) hr1)) ?_
          rintro e150 w151 ⟨rfl, hb152⟩
          refine ⟨_, rfl, fun a153 HF154 => ?_⟩
          have HO155 := HO29.after hb152
          clear HF149 HO29 hb152
          refine gw_ev HF154 (want_none rfl) rfl (by decide) (op_not rfl (HF154.ev rfl)) ?_
          intro a157 HF158; clear HF154
          refine gw_ev HF158 (want_none rfl) rfl (by decide) (op_assign rfl (HF158.ev rfl)) ?_
          intro a159 HF160; clear HF158
          refine wpList_nil ?_
          refine gw_nx (hK143 _ _ ?_)
          refine wp_ret ?_
          refine gw_blr ?_
          refine gw_thr ?_
          refine gw_ret1 HF160 rfl rfl ?_
          exact ⟨by congr 2 <;> first | rfl | exact ho_is h (by assumption) | exact ho_isnt h (by assumption) (by assumption) | exact hrr.symm, HO155.below⟩
        · skip
          have HF161 := HF140.subst_ (d := 35) (b := false) rfl hb141
          clear HF140
          (try simp only [Bool.and_eq_true, Bool.or_eq_true, Bool.and_eq_false_iff, Bool.or_eq_false_iff, Bool.not_and, Bool.not_or, Bool.not_not, decide_eq_true_eq, decide_eq_false_iff_not, Bool.not_eq_true', Bool.not_eq_false', Bool.not_eq_true, Bool.not_eq_false, ne_eq, Decidable.not_not, Int.not_lt, Int.not_le, not_true_eq_false, not_false_eq_true, bne_iff_ne, beq_iff_eq, bne_eq_false_iff_eq, beq_eq_false_iff_ne] at hb141)
          refine wp_skip ?_
          refine gw_blk ?_
          refine gw_nx (hK30 _ _ ?_)
          refine gw_seq fun K162 hK162 => ?_
          refine wp_region_lit ?_
          refine gw_ev HF161 (want_none rfl) rfl (by decide) (op_field (gwfld24_3 _ _) rfl (HF161.ev rfl)) ?_
          intro a163 HF164; clear HF161
          refine gw_ev HF164 (want_none rfl) rfl (by decide) (op_load1 gwagg22 rfl (HF164.ev rfl) (blk_at (HO29.get 2 rfl) rfl)) ?_
          intro a165 HF166; clear HF164
          refine gw_ev HF166 (want_none rfl) rfl (by decide) (op_load1 gwagg30 rfl (HF166.ev rfl) (blk_at (HO29.get 0 rfl) rfl)) ?_
          intro a167 HF168; clear HF166
          refine gw_call HF168 (want_none rfl) rfl (by decide) (op_callL Try.func33 (by kernel_rfl) rfl rfl (ar_cons (HF168.ev rfl) (ar_cons (HF168.ev rfl) ar_nil))) (contains_calls A3 c3 kids _ (Kd.C_below hr3 HO29.below) hc3 (len_C (Kd.C_below hr3 HO29.below)) 38 _ [.pointer (some ⟨g8, 0, none⟩)] Try.func38 (by kernel_rfl) rfl (fun x => cond_holds.f k x.f0 x.f1 x.f2 x.f3 b ps) r (ho_or h (by assumption) (by assumption) (by assumption) (by assumption)) (fun x _ A3_ c3_ w1 hbb hC_ hc_ b_ hp_ => holds1_calls k IH x.f0 x.f1 x.f2 A3_ c3_ x.f3 b Ap cp ps b_ w1 hC_ hc_ (Kd.C_below (Kd.C_below hrp HO29.below) hbb) hcp g8 (blk_below hbb (HO29.get 1 rfl)) hp_)) ?_
          rintro e169 w170 ⟨rfl, hb171⟩
          refine ⟨_, rfl, fun a172 HF173 => ?_⟩
          have HO174 := HO29.after hb171
          clear HF168 HO29 hb171
          refine gw_ev HF173 (want_none rfl) rfl (by decide) (op_assign rfl (HF173.ev rfl)) ?_
          intro a176 HF177; clear HF173
          refine wpList_nil ?_
          refine gw_nx (hK162 _ _ ?_)
          refine wp_ret ?_
          refine gw_ret1 HF177 rfl rfl ?_
          exact ⟨by congr 2 <;> first | rfl | exact ho_is h (by assumption) | exact ho_isnt h (by assumption) (by assumption) | exact hrr.symm, HO174.below⟩
theorem cond_holds.calls (k : Nat) : ∀ (a0_0 : Int) (a0_1 a0_2 : ByteArray) (A0_3 : Option Addr) (c0_3 : Nat) (l0_3 : List S24) (a1_0 : ByteArray) (A1_1 : Option Addr) (c1_1 : Nat) (l1_1 : List S36) (r : Bool) (w : World) (hr0_3 : Kd.C k24 w A0_3 l0_3.length l0_3) (hc0_3 : l0_3.length ≤ c0_3) (hr1_1 : Kd.C k36 w A1_1 l1_1.length l1_1) (hc1_1 : l1_1.length ≤ c1_1) (h : cond_holds.f k a0_0 a0_1 a0_2 l0_3 a1_0 l1_1 = some r),
    Calls Try.prog 27 #[.agg #[.int .i64 a0_0, .string a0_1, .string a0_2, .slice A0_3 l0_3.length c0_3], .agg #[.string a1_0, .slice A1_1 l1_1.length c1_1]] w fun e w' => e = .returned (.bool r) ∧ Below w.heap.size w w' := by
  show HoldsIH k
  induction k with
  | zero => intro _ _ _ _ _ _ _ _ _ _ _ _ _ _ _ _ h; cases h
  | succ k ih => intro kd nm vl A3 c3 kids b Ap cp ps r w hr3 hc3 hrp hcp h; exact holds_step k ih kd nm vl A3 c3 kids b Ap cp ps r w hr3 hc3 hrp hcp h

def cond_Holds.f (k : Nat) (kd : Int) (nm vl : ByteArray) (kids : List S24) (b : ByteArray) (ps : List S36) : Option Bool := (cond_Right.f k kd nm vl kids).bind fun t => if t = true then cond_holds.f k kd nm vl kids b ps else some false
theorem cond_Holds.mono : ∀ a0 a1 a2 a3 a4 a5 k, LeO (cond_Holds.f k a0 a1 a2 a3 a4 a5) (cond_Holds.f (k + 1) a0 a1 a2 a3 a4 a5) := by
  intro a0 a1 a2 a3 a4 a5 k r h
  unfold cond_Holds.f at h ⊢
  obtain ⟨t, ht, h⟩ := Option.bind_eq_some_iff.mp h
  rw [cond_Right.mono _ _ _ _ _ _ ht, Option.bind_some]
  split
  · rename_i h1; rw [if_pos h1] at h; exact cond_holds.mono _ _ _ _ _ _ _ _ h
  · rename_i h1; rw [if_neg h1] at h; exact h
theorem hold_in {k : Nat} {kd : Int} {nm vl b : ByteArray} {kids : List S24} {ps : List S36} {r : Bool} (h : cond_Holds.f k kd nm vl kids b ps = some r) : ∃ t, cond_Right.f k kd nm vl kids = some t ∧ (t = true → cond_holds.f k kd nm vl kids b ps = some r) ∧ (t = false → r = false) := by
  unfold cond_Holds.f at h
  obtain ⟨t, ht, h⟩ := Option.bind_eq_some_iff.mp h
  refine ⟨t, ht, fun h1 => ?_, fun h1 => ?_⟩
  · rwa [if_pos h1] at h
  · rw [if_neg (by rw [h1]; decide)] at h; exact (Option.some.inj h).symm

set_option maxHeartbeats 4000000 in
set_option maxRecDepth 100000 in
theorem Holds_walk (k : Nat) (kd : Int) (nm vl : ByteArray) (A3 : Option Addr) (c3 : Nat) (kids : List S24) (b : ByteArray) (Ap : Option Addr) (cp : Nat) (ps : List S36) (r : Bool) (w : World) (hr3 : Kd.C k24 w A3 kids.length kids) (hc3 : kids.length ≤ c3) (hrp : Kd.C k36 w Ap ps.length ps) (hcp : ps.length ≤ cp) (h : cond_Holds.f k kd nm vl kids b ps = some r) :
    Calls Try.prog 12 #[.agg #[.int .i64 kd, .string nm, .string vl, .slice A3 kids.length c3], .agg #[.string b, .slice Ap ps.length cp]] w fun e w' => e = .returned (.bool r) ∧ Below w.heap.size w w' := by
  obtain ⟨t, ht, h2, h3⟩ := hold_in h
  refine gw_start (N := 12) (vs := [.agg #[.int .i64 kd, .string nm, .string vl, .slice A3 kids.length c3], .agg #[.string b, .slice Ap ps.length cp]]) Try.func12 rfl rfl (by simp) fun a HF HO => ?_
  replace HO : Own w w [] := HO
  refine gw_seq fun K1 hK1 => ?_
  refine wp_region_lit ?_
  refine gw_new HF HO (want_none rfl) rfl (by decide) (op_box rfl (HF.ev rfl)) ?_
  intro g2 a3 w4 HF5 HO6; clear HF HO
  have HO7 : Own w w4 [Chunk.blk g2 (.cells #[.int .i64 kd, .string nm, .string vl, .slice A3 kids.length c3] 24 (0, 0))] := HO6
  clear HO6
  refine gw_new HF5 HO7 (want_none rfl) rfl (by decide) (op_box rfl (HF5.ev rfl)) ?_
  intro g8 a9 w10 HF11 HO12; clear HF5 HO7
  have HO13 : Own w w10 [Chunk.blk g8 (.cells #[.string b, .slice Ap ps.length cp] 27 (0, 0)), Chunk.blk g2 (.cells #[.int .i64 kd, .string nm, .string vl, .slice A3 kids.length c3] 24 (0, 0))] := HO12
  clear HO12
  refine gw_ev HF11 (want_none rfl) rfl (by decide) (op_assign rfl (ev_c _ _)) ?_
  intro a14 HF15; clear HF11
  refine wpList_nil ?_
  refine gw_nx (hK1 _ _ ?_)
  refine gw_seq fun K16 hK16 => ?_
  refine wp_region_lit ?_
  refine gw_ev HF15 (want_none rfl) rfl (by decide) (op_loadn gwagg24 gwsiz24 rfl (HF15.ev rfl) (HO13.get 1 rfl) rfl rfl) ?_
  intro a17 HF18; clear HF15
  refine gw_call HF18 (want_none rfl) rfl (by decide) (op_callL Try.func11 (by kernel_rfl) rfl rfl (ar_cons (HF18.ev rfl) ar_nil)) (cond_Right.calls k kd nm vl A3 c3 kids t _ (Kd.C_below hr3 HO13.below) hc3 ht) ?_
  rintro e19 w20 ⟨rfl, hb21⟩
  refine ⟨_, rfl, fun a22 HF23 => ?_⟩
  have HO24 := HO13.after hb21
  clear HF18 HO13 hb21
  refine gw_ev HF23 (want_none rfl) rfl (by decide) (op_move rfl (HF23.ev rfl)) ?_
  intro a26 HF27; clear HF23
  refine gw_evG HF27 rfl rfl rfl rfl (on_t _) rfl (by decide) (fun h_ => (op_loadn gwagg24 gwsiz24 rfl (HF27.ev rfl) (HO24.get 1 rfl) rfl rfl)) ?_
  intro a28 HF29; clear HF27
  refine gw_evG HF29 rfl rfl rfl rfl (on_t _) rfl (by decide) (fun h_ => (op_loadn gwagg27 gwsiz27 rfl (HF29.ev rfl) (HO24.get 0 rfl) rfl rfl)) ?_
  intro a30 HF31; clear HF29
  refine gw_callG HF31 rfl rfl rfl rfl (on_t _) rfl (by decide) (fun h_ => (op_callL Try.func27 (by kernel_rfl) rfl rfl (ar_cons (ev_gv (HF31.ev rfl) h_) (ar_cons (ev_gv (HF31.ev rfl) h_) ar_nil)))) (fun h_ => cond_holds.calls k kd nm vl A3 c3 kids b Ap cp ps r _ (Kd.C_below hr3 HO24.below) hc3 (Kd.C_below hrp HO24.below) hcp (h2 h_)) ?_
  intro a32 w34 hb35 HF33
  have HO36 := HO24.after hb35; clear HF31 HO24 hb35
  refine gw_ev HF33 (want_none rfl) rfl (by decide) (op_pick_and rfl (HF33.ev rfl) (fun hp_ => (ev_gv (HF33.ev rfl) hp_)) (ev_c _ _)) ?_
  intro a37 HF38; clear HF33
  refine gw_ev HF38 (want_none rfl) rfl (by decide) (op_assign rfl (HF38.ev rfl)) ?_
  intro a39 HF40; clear HF38
  refine wpList_nil ?_
  refine gw_nx (hK16 _ _ ?_)
  refine wp_ret ?_
  refine gw_ret1 HF40 rfl rfl ?_
  exact ⟨by congr 2; cases t <;> simp_all, HO36.below⟩
theorem cond_Holds.calls (k : Nat) (a0_0 : Int) (a0_1 a0_2 : ByteArray) (A0_3 : Option Addr) (c0_3 : Nat) (l0_3 : List S24) (a1_0 : ByteArray) (A1_1 : Option Addr) (c1_1 : Nat) (l1_1 : List S36) (r : Bool) (w : World) (hr0_3 : Kd.C k24 w A0_3 l0_3.length l0_3) (hc0_3 : l0_3.length ≤ c0_3) (hr1_1 : Kd.C k36 w A1_1 l1_1.length l1_1) (hc1_1 : l1_1.length ≤ c1_1) (h : cond_Holds.f k a0_0 a0_1 a0_2 l0_3 a1_0 l1_1 = some r) : Calls Try.prog 12 #[.agg #[.int .i64 a0_0, .string a0_1, .string a0_2, .slice A0_3 l0_3.length c0_3], .agg #[.string a1_0, .slice A1_1 l1_1.length c1_1]] w fun e w' => e = .returned (.bool r) ∧ Below w.heap.size w w' := Holds_walk k a0_0 a0_1 a0_2 A0_3 c0_3 l0_3 a1_0 A1_1 c1_1 l1_1 r w hr0_3 hc0_3 hr1_1 hc1_1 h

end GCond1_
export GCond1_ (HoldsIH cond_holds.calls len_C cond_Holds.f cond_Holds.mono cond_Holds.calls)
end Go.Proofs.Ytjndcgochnaodaa.PA
