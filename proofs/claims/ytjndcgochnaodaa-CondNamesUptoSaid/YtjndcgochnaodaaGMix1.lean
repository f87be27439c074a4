/- Several texts of this seat in one (HCond GCond0 GCond1): put together by a program of this session. -/
import Derived.Test.YtjndcgochnaodaaHMix
import Derived.Test.YtjndcgochnaodaaPAx5
namespace Go.Proofs.Ytjndcgochnaodaa.PA
open Go.RowKit Go.Proofs.YtjndcgochnaodaaW.PrintWords Go.Proofs.YtjndcgochnaodaaW.PrintLast Go.Proofs.YtjndcgochnaodaaW.PrintMore
set_option linter.unusedVariables false
set_option linter.unusedSimpArgs false
theorem blk_below {w w1 : World} {g : Nat} {o : Obj} (hb : Below w.heap.size w w1) (h : w.heap[g]? = some o) : w1.heap[g]? = some o := (hb.block g (blk_lt h)).trans h
/-- The first one of which q holds, -1 of none. -/
def idxI {α : Type} (q : α → Bool) : List α → Int
  | [] => -1
  | x :: xs => if q x then 0 else if idxI q xs < 0 then -1 else idxI q xs + 1
theorem idxI_none {α : Type} {q : α → Bool} : ∀ {l : List α}, (∀ x ∈ l, q x = false) → idxI q l = -1
  | [], _ => rfl
  | x :: xs, h => by
    unfold idxI
    rw [h x (List.mem_cons_self ..), idxI_none (fun y hy => h y (List.mem_cons_of_mem _ hy))]
    rfl
theorem idxI_at {α : Type} {q : α → Bool} : ∀ {l : List α} (j : Nat) (z : α), j < l.length → (∀ i, i < j → q (l.getD i z) = false) → q (l.getD j z) = true → idxI q l = j
  | [], j, z, h, _, _ => absurd h (Nat.not_lt_zero _)
  | x :: xs, 0, z, _, _, h => by
    unfold idxI
    rw [show q x = true from h]
    rfl
  | x :: xs, j + 1, z, hj, hb, h => by
    have ih := idxI_at (l := xs) j z (by simpa using hj) (fun i hi => by simpa using hb (i + 1) (by omega)) (by simpa using h)
    unfold idxI
    rw [show q x = false by simpa using hb 0 (by omega), ih]
    simp only [Bool.false_eq_true, if_false]
    rw [if_neg (by omega)]
    omega
theorem idxI_lt {α : Type} (q : α → Bool) : ∀ l : List α, -1 ≤ idxI q l ∧ idxI q l < l.length
  | [] => by simp [idxI]
  | x :: xs => by
    have ih := idxI_lt q xs
    unfold idxI
    rw [List.length_cons]
    split
    · omega
    · split <;> omega
def nameIs (nm : ByteArray) (p : S36) : Bool := p.f0.toList == nm.toList
/-- Has a board a property of a value? -/
def hasB (ps : List S36) (nm vl : ByteArray) : Bool := decide (0 ≤ idxI (nameIs nm) ps) && ((ps.getD (idxI (nameIs nm) ps).toNat z36).f1.toList == vl.toList)
/-- Does one of some answer true? Asked in order, no further than the first that does. -/
def anyM {α : Type} (p : α → Option Bool) : List α → Option Bool
  | [] => some false
  | x :: xs => (p x).bind fun b => if b then some true else anyM p xs
theorem any_in {α : Type} {p : α → Option Bool} {r : Bool} : ∀ {l : List α} {i : Nat} (z : α), i < l.length → anyM p (l.drop i) = some r → ∃ b, p (l.getD i z) = some b ∧ (b = true → r = true) ∧ (b = false → anyM p (l.drop (i + 1)) = some r) := by
  intro l i z hi h
  rw [List.drop_eq_getElem_cons hi] at h
  have e : l.getD i z = l[i] := by simp [List.getD_eq_getElem?_getD, List.getElem?_eq_getElem hi]
  rw [e]
  unfold anyM at h
  cases hp : p l[i] with
  | none => rw [hp] at h; cases h
  | some b =>
    rw [hp] at h
    refine ⟨b, rfl, fun hb => ?_, fun hb => ?_⟩
    · subst hb
      simp only [Option.bind_some, if_true, Option.some.injEq] at h
      exact h.symm
    · subst hb
      simpa using h
theorem any_out {α : Type} {p : α → Option Bool} {r : Bool} {l : List α} {i : Nat} (hi : l.length ≤ i) (h : anyM p (l.drop i) = some r) : r = false := by
  rw [List.drop_of_length_le hi] at h
  simp only [anyM, Option.some.injEq] at h
  exact h.symm
theorem anyM_mono {α : Type} {p p' : α → Option Bool} (h : ∀ x b, p x = some b → p' x = some b) : ∀ (l : List α) (r : Bool), anyM p l = some r → anyM p' l = some r
  | [], r, hr => hr
  | x :: xs, r, hr => by
    unfold anyM at hr ⊢
    cases hp : p x with
    | none => rw [hp] at hr; cases hr
    | some b =>
      rw [hp] at hr
      rw [h x b hp]
      simp only [Option.bind_some] at hr ⊢
      split
      · rename_i hb; rw [if_pos hb] at hr; exact hr
      · rename_i hb; rw [if_neg hb] at hr; exact anyM_mono h xs r hr
def cond_holds.f : Nat → Int → ByteArray → ByteArray → List S24 → ByteArray → List S36 → Option Bool
  | 0, _, _, _, _, _, _ => none
  | k + 1, kd, nm, vl, kids, b, ps =>
    if kd = 1 then some (hasB ps nm vl) else if kd = 2 then some (!hasB ps nm vl)
    else if kd = 3 then (if 0 < (kids.length : Int) then (cond_holds.f k (kids.getD 0 z24).f0 (kids.getD 0 z24).f1 (kids.getD 0 z24).f2 (kids.getD 0 z24).f3 b ps).map (!·) else none)
    else if kd = 4 then (anyM (fun x => (cond_holds.f k x.f0 x.f1 x.f2 x.f3 b ps).map (!·)) kids).map (!·)
    else anyM (fun x => cond_holds.f k x.f0 x.f1 x.f2 x.f3 b ps) kids
theorem map_not {o : Option Bool} {r : Bool} (h : o.map (!·) = some r) : ∃ r0, o = some r0 ∧ r = !r0 := by
  cases o with
  | none => cases h
  | some b => exact ⟨b, rfl, by simpa using h.symm⟩
theorem cond_holds.mono : ∀ a0 a1 a2 a3 a4 a5 k, LeO (cond_holds.f k a0 a1 a2 a3 a4 a5) (cond_holds.f (k + 1) a0 a1 a2 a3 a4 a5) := by
  intro a0 a1 a2 a3 a4 a5 k
  induction k generalizing a0 a1 a2 a3 with
  | zero => intro r h; simp [cond_holds.f] at h
  | succ k ih =>
    intro r h
    unfold cond_holds.f at h ⊢
    split
    · rename_i h1; rw [if_pos h1] at h; exact h
    · rename_i h1; rw [if_neg h1] at h
      split
      · rename_i h2; rw [if_pos h2] at h; exact h
      · rename_i h2; rw [if_neg h2] at h
        split
        · rename_i h3; rw [if_pos h3] at h
          split
          · rename_i h4; rw [if_pos h4] at h
            obtain ⟨r0, h5, rfl⟩ := map_not h
            rw [ih _ _ _ _ _ h5]; rfl
          · rename_i h4; rw [if_neg h4] at h; cases h
        · rename_i h3; rw [if_neg h3] at h
          split
          · rename_i h4; rw [if_pos h4] at h
            obtain ⟨r0, h5, rfl⟩ := map_not h
            rw [anyM_mono (fun x b hb => by obtain ⟨r1, h6, rfl⟩ := map_not hb; rw [ih _ _ _ _ _ h6]; rfl) _ _ h5]; rfl
          · rename_i h4; rw [if_neg h4] at h
            exact anyM_mono (fun x b hb => ih _ _ _ _ _ hb) _ _ h
section
variable {k : Nat} {kd : Int} {nm vl b : ByteArray} {kids : List S24} {ps : List S36} {r : Bool}
theorem ho_is (h : cond_holds.f (k + 1) kd nm vl kids b ps = some r) (h1 : kd = 1) : hasB ps nm vl = r := by
  unfold cond_holds.f at h
  rw [if_pos h1, Option.some.injEq] at h
  exact h
theorem ho_isnt (h : cond_holds.f (k + 1) kd nm vl kids b ps = some r) (h1 : ¬ kd = 1) (h2 : kd = 2) : (!hasB ps nm vl) = r := by
  unfold cond_holds.f at h
  rw [if_neg h1, if_pos h2, Option.some.injEq] at h
  exact h
theorem ho_not (h : cond_holds.f (k + 1) kd nm vl kids b ps = some r) (h1 : ¬ kd = 1) (h2 : ¬ kd = 2) (h3 : kd = 3) : 0 < (kids.length : Int) ∧ ∃ r0, cond_holds.f k (kids.getD 0 z24).f0 (kids.getD 0 z24).f1 (kids.getD 0 z24).f2 (kids.getD 0 z24).f3 b ps = some r0 ∧ r = !r0 := by
  unfold cond_holds.f at h
  rw [if_neg h1, if_neg h2, if_pos h3] at h
  split at h
  · rename_i h4; exact ⟨h4, map_not h⟩
  · cases h
theorem ho_and (h : cond_holds.f (k + 1) kd nm vl kids b ps = some r) (h1 : ¬ kd = 1) (h2 : ¬ kd = 2) (h3 : ¬ kd = 3) (h4 : kd = 4) : ∃ r0, anyM (fun x => (cond_holds.f k x.f0 x.f1 x.f2 x.f3 b ps).map (!·)) kids = some r0 ∧ r = !r0 := by
  unfold cond_holds.f at h
  rw [if_neg h1, if_neg h2, if_neg h3, if_pos h4] at h
  exact map_not h
theorem ho_or (h : cond_holds.f (k + 1) kd nm vl kids b ps = some r) (h1 : ¬ kd = 1) (h2 : ¬ kd = 2) (h3 : ¬ kd = 3) (h4 : ¬ kd = 4) : anyM (fun x => cond_holds.f k x.f0 x.f1 x.f2 x.f3 b ps) kids = some r := by
  unfold cond_holds.f at h
  rw [if_neg h1, if_neg h2, if_neg h3, if_neg h4] at h
  exact h
end
end Go.Proofs.Ytjndcgochnaodaa.PA

/- Conditions: has; functions that are handed a function. Printed by a program of this session; Lean checks it. -/
namespace Go.Proofs.Ytjndcgochnaodaa.PA
open Go.RowKit Go.Proofs.YtjndcgochnaodaaW.PrintWords Go.Proofs.YtjndcgochnaodaaW.PrintLast Go.Proofs.YtjndcgochnaodaaW.PrintMore
set_option linter.unusedVariables false
set_option linter.unusedSimpArgs false
namespace GCond0_
theorem gwagg24 : ∀ w, (isAgg 24).run Try.prog w = .ok true w := fun _ => by kernel_rfl
theorem gwagg25 : ∀ w, (isAgg 25).run Try.prog w = .ok false w := fun _ => by kernel_rfl
theorem gwagg36 : ∀ w, (isAgg 36).run Try.prog w = .ok true w := fun _ => by kernel_rfl
theorem gwagg9 : ∀ w, (isAgg 9).run Try.prog w = .ok false w := fun _ => by kernel_rfl
theorem gwfld27_1 (g off : Nat) : ∀ w, (Instr.fieldAt 27 (.pointer (some ⟨g, off, none⟩)) 1).run Try.prog w = .ok (.pointer (some ⟨g, off + 1, none⟩)) w := fun _ => by kernel_rfl
theorem gwfld36_0 (g off : Nat) : ∀ w, (Instr.fieldAt 36 (.pointer (some ⟨g, off, none⟩)) 0).run Try.prog w = .ok (.pointer (some ⟨g, off + 0, none⟩)) w := fun _ => by kernel_rfl
theorem gwflda36_1 (ad : Addr) : ∀ w, (Instr.fieldAt 36 (.pointer (some ad)) 1).run Try.prog w = .ok (.pointer (some (ad.add 1))) w := fun _ => by kernel_rfl
theorem gwsiz24 : ∀ w, (sizeOf 24).run Try.prog w = .ok 4 w := fun _ => by kernel_rfl
theorem gwsiz36 : ∀ w, (sizeOf 36).run Try.prog w = .ok 2 w := fun _ => by kernel_rfl
set_option maxHeartbeats 4000000 in
set_option maxRecDepth 100000 in
theorem has1_calls (x : S36) (g : Nat) (nm : ByteArray) (w : World) (hB : w.heap[g]? = some (.cells #[.string nm] 9 (0, 0))) :
    Calls Try.prog 48 #[.agg #[.string x.f0, .string x.f1], .pointer (some ⟨g, 0, none⟩)] w fun e w' => e = .returned (.bool (nameIs nm x)) ∧ Below w.heap.size w w' := by
  refine gw_start (N := 8) (vs := [.agg #[.string x.f0, .string x.f1], .pointer (some ⟨g, 0, none⟩)]) Try.func48 rfl rfl (by simp) fun a HF HO => ?_
  replace HO : Own w w [] := HO
  refine gw_seq fun K1 hK1 => ?_
  refine wp_region_lit ?_
  refine gw_new HF HO (want_none rfl) rfl (by decide) (op_box rfl (HF.ev rfl)) ?_
  intro g2 a3 w4 HF5 HO6; clear HF HO
  have HO7 : Own w w4 [Chunk.blk g2 (.cells #[.string x.f0, .string x.f1] 36 (0, 0))] := HO6
  clear HO6
  refine gw_ev HF5 (want_none rfl) rfl (by decide) (op_assign rfl (ev_c _ _)) ?_
  intro a8 HF9; clear HF5
  refine wpList_nil ?_
  refine gw_nx (hK1 _ _ ?_)
  refine gw_seq fun K10 hK10 => ?_
  refine wp_region_lit ?_
  refine gw_ev HF9 (want_none rfl) rfl (by decide) (op_field (gwfld36_0 _ _) rfl (HF9.ev rfl)) ?_
  intro a11 HF12; clear HF9
  refine gw_ev HF12 (want_none rfl) rfl (by decide) (op_load1 gwagg9 rfl (HF12.ev rfl) (blk_at (HO7.get 0 rfl) rfl)) ?_
  intro a13 HF14; clear HF12
  refine gw_ev HF14 (want_none rfl) rfl (by decide) (op_load1 gwagg9 rfl (HF14.ev rfl) (blk_at (argblk HO7 hB) rfl)) ?_
  intro a15 HF16; clear HF14
  refine gw_ev HF16 (want_none rfl) rfl (by decide) (op_eqs rfl (HF16.ev rfl) (HF16.ev rfl)) ?_
  intro a17 HF18; clear HF16
  refine gw_ev HF18 (want_none rfl) rfl (by decide) (op_assign rfl (HF18.ev rfl)) ?_
  intro a19 HF20; clear HF18
  refine wpList_nil ?_
  refine gw_nx (hK10 _ _ ?_)
  refine wp_ret ?_
  refine gw_ret1 HF20 rfl rfl ?_
  exact ⟨rfl, HO7.below⟩
set_option maxHeartbeats 4000000 in
set_option maxRecDepth 100000 in
theorem idxp_calls (A0 : Option Addr) (c0 : Nat) (l : List S36) (w : World) (hr : Kd.C k36 w A0 l.length l) (hc : l.length ≤ c0) (hl : l.length ≤ 9223372036854775807) (fid : Nat) (fn0 : Func) (cap : List Value) (h1 : Try.prog.funcs[fid]? = some fn0) (h2 : (fn0.name == "runtime.NumGoroutine") = false) (h3 : fn0.body.isSome = true) (q : S36 → Bool) (hf : ∀ x ∈ l, ∀ w1, Below w.heap.size w w1 → Calls Try.prog fid ([(.agg #[.string x.f0, .string x.f1] : Value)] ++ cap).toArray w1 fun e w2 => e = .returned (.bool (q x)) ∧ Below w1.heap.size w1 w2) :
    Calls Try.prog 47 #[.slice A0 l.length c0, .func (.func fid) #[] cap.toArray] w fun e w' => e = .returned (.int .i64 (idxI q l)) ∧ Below w.heap.size w w' := by
  refine gw_start (N := 19) (vs := [.slice A0 l.length c0, .func (.func fid) #[] cap.toArray]) Try.func47 rfl rfl (by simp) fun a HF HO => ?_
  replace HO : Own w w [] := HO
  refine gw_seq fun K1 hK1 => ?_
  refine wp_region_lit ?_
  refine gw_ev HF (want_none rfl) rfl (by decide) (op_assign rfl (ev_c _ _)) ?_
  intro a2 HF3; clear HF
  refine wpList_nil ?_
  refine gw_nx (hK1 _ _ ?_)
  refine gw_seq fun K4 hK4 => ?_
  refine gw_seq fun K5 hK5 => ?_
  refine wp_region_lit ?_
  refine gw_ev HF3 (want_none rfl) rfl (by decide) (op_move rfl (HF3.ev rfl)) ?_
  intro a6 HF7; clear HF3
  refine gw_ev HF7 (want_none rfl) rfl (by decide) (op_len Try.underlying25 rfl (HF7.ev rfl)) ?_
  intro a8 HF9; clear HF7
  refine gw_ev HF9 (want_none rfl) rfl (by decide) (op_move rfl (ev_c _ _)) ?_
  intro a10 HF11; clear HF9
  refine wpList_nil ?_
  refine gw_nx (hK5 _ _ ?_)
  refine wp_block ?_
  refine gw_loop (fun m_ a_ w_ => ∃ (i : Int), Fr 19 a_ [(8, .int .i64 i), (0, .slice A0 l.length c0), (1, .func (.func fid) #[] cap.toArray), (7, .int .i64 (l.length : Int))] ∧ Own w w_ [] ∧ (0 ≤ i ∧ i ≤ l.length) ∧ (∀ j : Nat, j < i.toNat → q (l.getD j z36) = false) ∧ m_ = (l.length - i.toNat)) ((l.length - (0 : Int).toNat)) ?_ ?_
  · refine ⟨0, (HF11.pick (t := 8) rfl (HF11.pick (t := 0) rfl (HF11.pick (t := 1) rfl (HF11.pick (t := 7) rfl HF11.nil)))), HO.sel [] (by decide), ?_, ?_, rfl⟩
    · omega
    · intro j hj; simp at hj
  · rintro m13 a14 w15 ⟨i, HF16, HO17, hi, hq, hm18⟩
    refine gw_seq fun K19 hK19 => ?_
    refine wp_region_lit ?_
    refine gw_ev HF16 (want_none rfl) rfl (by decide) (op_lss rfl (HF16.ev rfl) (HF16.ev rfl)) ?_
    intro a20 HF21; clear HF16
    refine wpList_nil ?_
    refine gw_nx (hK19 _ _ ?_)
    refine gw_seq fun K22 hK22 => ?_
    refine gw_cond HF21 rfl (fun hb23 => ?_) (fun hb23 => ?_)
    · skip
      have HF24 := HF21.subst_ (d := 9) (b := true) rfl hb23
      clear HF21
      (try simp only [Bool.and_eq_true, Bool.or_eq_true, Bool.and_eq_false_iff, Bool.or_eq_false_iff, Bool.not_and, Bool.not_or, Bool.not_not, decide_eq_true_eq, decide_eq_false_iff_not, Bool.not_eq_true', Bool.not_eq_false', Bool.not_eq_true, Bool.not_eq_false, ne_eq, Decidable.not_not, Int.not_lt, Int.not_le, not_true_eq_false, not_false_eq_true, bne_iff_ne, beq_iff_eq, bne_eq_false_iff_eq, beq_eq_false_iff_ne] at hb23)
      refine wp_skip ?_
      refine gw_nx (hK22 _ _ ?_)
      refine gw_seq fun K25 hK25 => ?_
      refine wp_block ?_
      refine gw_seq fun K26 hK26 => ?_
      refine wp_region_lit ?_
      refine gw_ev HF24 (want_none rfl) rfl (by decide) (op_move rfl (HF24.ev rfl)) ?_
      intro a27 HF28; clear HF24
      refine gw_ev HF28 (want_none rfl) rfl (by decide) (op_assign rfl (HF28.ev rfl)) ?_
      intro a29 HF30; clear HF28
      refine wpList_nil ?_
      refine gw_nx (hK26 _ _ ?_)
      refine gw_seq fun K31 hK31 => ?_
      refine wp_region_lit ?_
      refine gw_ev HF30 (want_none rfl) rfl (by decide) (op_move rfl (HF30.ev rfl)) ?_
      intro a32 HF33; clear HF30
      refine gw_ev HF33 (want_none rfl) rfl (by decide) (op_move rfl (HF33.ev rfl)) ?_
      intro a34 HF35; clear HF33
      refine gw_ev HF35 (want_none rfl) rfl (by decide) (op_move rfl (HF35.ev rfl)) ?_
      intro a36 HF37; clear HF35
      obtain ⟨ad38, cs41, hA39, hl42, hK43, hc40⟩ := Kd.C_get hr z36 i (by omega) (by omega)
      obtain rfl := k36_open hK43
      clear hl42
      refine gw_ev HF37 (want_none rfl) rfl (by decide) (op_index Try.underlying25 gwsiz36 rfl (HF37.ev rfl) (HF37.ev rfl) hA39 (⟨by omega, by omega⟩)) ?_
      intro a44 HF45; clear HF37
      refine gw_ev HF45 (want_none rfl) rfl (by decide) (op_loadc gwagg36 gwsiz36 rfl (HF45.ev rfl) rfl (cells0 HO17 hc40)) ?_
      intro a46 HF47; clear HF45
      refine gw_call HF47 (want_none rfl) rfl (by decide) (op_callV h1 h2 h3 rfl (HF47.ev rfl) (ar_cons (HF47.ev rfl) ar_nil)) (hf (l.getD i.toNat z36) (getD_mem l i.toNat (by omega)) _ HO17.below) ?_
      rintro e48 w49 ⟨rfl, hb50⟩
      refine ⟨_, rfl, fun a51 HF52 => ?_⟩
      have HO53 := HO17.after hb50
      clear HF47 HO17 hb50
      refine wpList_nil ?_
      refine gw_nx (hK31 _ _ ?_)
      refine gw_cond HF52 rfl (fun hb55 => ?_) (fun hb55 => ?_)
      · skip
        have HF56 := HF52.subst_ (d := 16) (b := true) rfl hb55
        clear HF52
        (try simp only [Bool.and_eq_true, Bool.or_eq_true, Bool.and_eq_false_iff, Bool.or_eq_false_iff, Bool.not_and, Bool.not_or, Bool.not_not, decide_eq_true_eq, decide_eq_false_iff_not, Bool.not_eq_true', Bool.not_eq_false', Bool.not_eq_true, Bool.not_eq_false, ne_eq, Decidable.not_not, Int.not_lt, Int.not_le, not_true_eq_false, not_false_eq_true, bne_iff_ne, beq_iff_eq, bne_eq_false_iff_eq, beq_eq_false_iff_ne] at hb55)
        refine gw_seq fun K57 hK57 => ?_
        refine wp_region_lit ?_
        refine gw_ev HF56 (want_none rfl) rfl (by decide) (op_move rfl (HF56.ev rfl)) ?_
        intro a58 HF59; clear HF56
        refine gw_ev HF59 (want_none rfl) rfl (by decide) (op_assign rfl (HF59.ev rfl)) ?_
        intro a60 HF61; clear HF59
        refine wpList_nil ?_
        refine gw_nx (hK57 _ _ ?_)
        refine wp_ret ?_
        refine gw_blr ?_
        refine gw_thr ?_
        refine gw_thr ?_
        refine gw_blr ?_
        refine gw_thr ?_
        refine gw_ret1 HF61 rfl rfl ?_
        exact ⟨by rw [idxI_at i.toNat z36 (by omega) hq (by assumption)]; congr 2; omega, HO53.below⟩
      · skip
        have HF62 := HF52.subst_ (d := 16) (b := false) rfl hb55
        clear HF52
        (try simp only [Bool.and_eq_true, Bool.or_eq_true, Bool.and_eq_false_iff, Bool.or_eq_false_iff, Bool.not_and, Bool.not_or, Bool.not_not, decide_eq_true_eq, decide_eq_false_iff_not, Bool.not_eq_true', Bool.not_eq_false', Bool.not_eq_true, Bool.not_eq_false, ne_eq, Decidable.not_not, Int.not_lt, Int.not_le, not_true_eq_false, not_false_eq_true, bne_iff_ne, beq_iff_eq, bne_eq_false_iff_eq, beq_eq_false_iff_ne] at hb55)
        refine wp_skip ?_
        refine gw_blk ?_
        refine gw_nx (hK25 _ _ ?_)
        refine wp_region_lit ?_
        refine gw_ev HF62 (want_none rfl) rfl (by decide) (op_add rfl (HF62.ev rfl) (ev_c _ _) (by omega)) ?_
        intro a63 HF64; clear HF62
        refine gw_ev HF64 (want_none rfl) rfl (by decide) (op_move rfl (HF64.ev rfl)) ?_
        intro a65 HF66; clear HF64
        refine wpList_nil ?_
        refine gw_nx ⟨_, ?_, i + 1, (HF66.pick (t := 8) rfl (HF66.pick (t := 0) rfl (HF66.pick (t := 1) rfl (HF66.pick (t := 7) rfl HF66.nil)))), HO53.sel [] (by decide), ?_, ?_, rfl⟩
        · rw [hm18]; omega
        · omega
        · intro j hj; by_cases hji : j = i.toNat; (· subst hji; assumption); exact hq j (by omega)
    · skip
      have HF67 := HF21.subst_ (d := 9) (b := false) rfl hb23
      clear HF21
      (try simp only [Bool.and_eq_true, Bool.or_eq_true, Bool.and_eq_false_iff, Bool.or_eq_false_iff, Bool.not_and, Bool.not_or, Bool.not_not, decide_eq_true_eq, decide_eq_false_iff_not, Bool.not_eq_true', Bool.not_eq_false', Bool.not_eq_true, Bool.not_eq_false, ne_eq, Decidable.not_not, Int.not_lt, Int.not_le, not_true_eq_false, not_false_eq_true, bne_iff_ne, beq_iff_eq, bne_eq_false_iff_eq, beq_eq_false_iff_ne] at hb23)
      refine wp_exit ?_
      refine gw_thx ?_
      refine gw_thx ?_
      refine gw_in ?_
      refine gw_nx (hK4 _ _ ?_)
      refine gw_seq fun K68 hK68 => ?_
      refine wp_region_lit ?_
      refine gw_ev HF67 (want_none rfl) rfl (by decide) (op_assign rfl (ev_c _ _)) ?_
      intro a69 HF70; clear HF67
      refine wpList_nil ?_
      refine gw_nx (hK68 _ _ ?_)
      refine wp_ret ?_
      refine gw_ret1 HF70 rfl rfl ?_
      exact ⟨by rw [idxI_none (l := l) (fun x hx => by obtain ⟨j, hj, rfl⟩ := List.getElem_of_mem hx; have h_ := hq j (by omega); simpa [List.getD_eq_getElem?_getD, List.getElem?_eq_getElem hj] using h_)], HO17.below⟩
set_option maxHeartbeats 4000000 in
set_option maxRecDepth 100000 in
theorem has_calls (b : ByteArray) (Ap : Option Addr) (cp : Nat) (ps : List S36) (nm vl : ByteArray) (w : World) (hrp : Kd.C k36 w Ap ps.length ps) (hcp : ps.length ≤ cp) (hl : ps.length ≤ 9223372036854775807) :
    Calls Try.prog 39 #[.agg #[.string b, .slice Ap ps.length cp], .string nm, .string vl] w fun e w' => e = .returned (.bool (hasB ps nm vl)) ∧ Below w.heap.size w w' := by
  refine gw_start (N := 24) (vs := [.agg #[.string b, .slice Ap ps.length cp], .string nm, .string vl]) Try.func39 rfl rfl (by simp) fun a HF HO => ?_
  replace HO : Own w w [] := HO
  refine gw_seq fun K1 hK1 => ?_
  refine wp_region_lit ?_
  refine gw_new HF HO (want_none rfl) rfl (by decide) (op_box rfl (HF.ev rfl)) ?_
  intro g2 a3 w4 HF5 HO6; clear HF HO
  have HO7 : Own w w4 [Chunk.blk g2 (.cells #[.string b, .slice Ap ps.length cp] 27 (0, 0))] := HO6
  clear HO6
  refine gw_new HF5 HO7 (want_none rfl) rfl (by decide) (op_box rfl (HF5.ev rfl)) ?_
  intro g8 a9 w10 HF11 HO12; clear HF5 HO7
  have HO13 : Own w w10 [Chunk.blk g8 (.cells #[.string nm] 9 (0, 0)), Chunk.blk g2 (.cells #[.string b, .slice Ap ps.length cp] 27 (0, 0))] := HO12
  clear HO12
  refine gw_ev HF11 (want_none rfl) rfl (by decide) (op_assign rfl (ev_c _ _)) ?_
  intro a14 HF15; clear HF11
  refine wpList_nil ?_
  refine gw_nx (hK1 _ _ ?_)
  refine gw_seq fun K16 hK16 => ?_
  refine wp_region_lit ?_
  refine gw_ev HF15 (want_none rfl) rfl (by decide) (op_field (gwfld27_1 _ _) rfl (HF15.ev rfl)) ?_
  intro a17 HF18; clear HF15
  refine gw_ev HF18 (want_none rfl) rfl (by decide) (op_load1 gwagg25 rfl (HF18.ev rfl) (blk_at (HO13.get 1 rfl) rfl)) ?_
  intro a19 HF20; clear HF18
  refine gw_ev HF20 (want_none rfl) rfl (by decide) (op_func rfl (ar_cons (HF20.ev rfl) ar_nil)) ?_
  intro a21 HF22; clear HF20
  refine gw_call HF22 (want_none rfl) rfl (by decide) (op_callL Try.func47 (by kernel_rfl) rfl rfl (ar_cons (HF22.ev rfl) (ar_cons (HF22.ev rfl) ar_nil))) (idxp_calls Ap cp ps _ (Kd.C_below hrp HO13.below) hcp (by omega) 48 _ [.pointer (some ⟨g8, 0, none⟩)] Try.func48 (by kernel_rfl) rfl (nameIs nm) (fun x _ w1 hb => has1_calls x g8 nm w1 (blk_below hb (HO13.get 0 rfl)))) ?_
  rintro e23 w24 ⟨rfl, hb25⟩
  refine ⟨_, rfl, fun a26 HF27 => ?_⟩
  have HO28 := HO13.after hb25
  clear HF22 HO13 hb25
  have hix := idxI_lt (nameIs nm) ps
  refine gw_ev HF27 (want_none rfl) rfl (by decide) (op_assign rfl (HF27.ev rfl)) ?_
  intro a30 HF31; clear HF27
  refine wpList_nil ?_
  refine gw_nx (hK16 _ _ ?_)
  refine gw_seq fun K32 hK32 => ?_
  refine wp_region_lit ?_
  refine gw_ev HF31 (want_none rfl) rfl (by decide) (op_move rfl (HF31.ev rfl)) ?_
  intro a33 HF34; clear HF31
  refine gw_ev HF34 (want_none rfl) rfl (by decide) (op_geq rfl (HF34.ev rfl) (ev_c _ _)) ?_
  intro a35 HF36; clear HF34
  refine gw_ev HF36 (want_none rfl) rfl (by decide) (op_move rfl (HF36.ev rfl)) ?_
  intro a37 HF38; clear HF36
  refine gw_evG HF38 rfl rfl rfl rfl (on_t _) rfl (by decide) (fun h_ => (op_field (gwfld27_1 _ _) rfl (HF38.ev rfl))) ?_
  intro a39 HF40; clear HF38
  refine gw_evG HF40 rfl rfl rfl rfl (on_t _) rfl (by decide) (fun h_ => (op_load1 gwagg25 rfl (ev_gv (HF40.ev rfl) h_) (blk_at (HO28.get 1 rfl) rfl))) ?_
  intro a41 HF42; clear HF40
  refine gw_evG HF42 rfl rfl rfl rfl (on_t _) rfl (by decide) (fun h_ => (op_move rfl (HF42.ev rfl))) ?_
  intro a43 HF44; clear HF42
  obtain ⟨ad48, cs51, hA49, hl52, hK53, hc50⟩ := C_getT hrp z36 (idxI (nameIs nm) ps) (⟨_, k36_mk _ z36⟩)
  obtain rfl := k36_open hK53
  clear hl52
  refine gw_evG HF44 rfl rfl rfl rfl (on_t _) rfl (by decide) (fun h_ => (op_index Try.underlying25 gwsiz36 rfl (ev_gv (HF44.ev rfl) h_) (ev_gv (HF44.ev rfl) h_) (hA49 ⟨by (try simp only [Bool.and_eq_true, Bool.or_eq_true, Bool.and_eq_false_iff, Bool.or_eq_false_iff, Bool.not_and, Bool.not_or, Bool.not_not, decide_eq_true_eq, decide_eq_false_iff_not, Bool.not_eq_true', Bool.not_eq_false', Bool.not_eq_true, Bool.not_eq_false, ne_eq, Decidable.not_not, Int.not_lt, Int.not_le, not_true_eq_false, not_false_eq_true, bne_iff_ne, beq_iff_eq, bne_eq_false_iff_eq, beq_eq_false_iff_ne] at h_); omega, by (try simp only [Bool.and_eq_true, Bool.or_eq_true, Bool.and_eq_false_iff, Bool.or_eq_false_iff, Bool.not_and, Bool.not_or, Bool.not_not, decide_eq_true_eq, decide_eq_false_iff_not, Bool.not_eq_true', Bool.not_eq_false', Bool.not_eq_true, Bool.not_eq_false, ne_eq, Decidable.not_not, Int.not_lt, Int.not_le, not_true_eq_false, not_false_eq_true, bne_iff_ne, beq_iff_eq, bne_eq_false_iff_eq, beq_eq_false_iff_ne] at h_); omega⟩) (⟨by (try simp only [Bool.and_eq_true, Bool.or_eq_true, Bool.and_eq_false_iff, Bool.or_eq_false_iff, Bool.not_and, Bool.not_or, Bool.not_not, decide_eq_true_eq, decide_eq_false_iff_not, Bool.not_eq_true', Bool.not_eq_false', Bool.not_eq_true, Bool.not_eq_false, ne_eq, Decidable.not_not, Int.not_lt, Int.not_le, not_true_eq_false, not_false_eq_true, bne_iff_ne, beq_iff_eq, bne_eq_false_iff_eq, beq_eq_false_iff_ne] at h_); omega, by (try simp only [Bool.and_eq_true, Bool.or_eq_true, Bool.and_eq_false_iff, Bool.or_eq_false_iff, Bool.not_and, Bool.not_or, Bool.not_not, decide_eq_true_eq, decide_eq_false_iff_not, Bool.not_eq_true', Bool.not_eq_false', Bool.not_eq_true, Bool.not_eq_false, ne_eq, Decidable.not_not, Int.not_lt, Int.not_le, not_true_eq_false, not_false_eq_true, bne_iff_ne, beq_iff_eq, bne_eq_false_iff_eq, beq_eq_false_iff_ne] at h_); omega⟩))) ?_
  intro a54 HF55; clear HF44
  refine gw_evG HF55 rfl rfl rfl rfl (on_t _) rfl (by decide) (fun h_ => (op_field (gwflda36_1 _) rfl (ev_gv (HF55.ev rfl) h_))) ?_
  intro a56 HF57; clear HF55
  refine gw_evG HF57 rfl rfl rfl rfl (on_t _) rfl (by decide) (fun h_ => (op_load1 gwagg9 rfl (ev_gv (HF57.ev rfl) h_) ((cells0 HO28 (hc50 ⟨by (try simp only [Bool.and_eq_true, Bool.or_eq_true, Bool.and_eq_false_iff, Bool.or_eq_false_iff, Bool.not_and, Bool.not_or, Bool.not_not, decide_eq_true_eq, decide_eq_false_iff_not, Bool.not_eq_true', Bool.not_eq_false', Bool.not_eq_true, Bool.not_eq_false, ne_eq, Decidable.not_not, Int.not_lt, Int.not_le, not_true_eq_false, not_false_eq_true, bne_iff_ne, beq_iff_eq, bne_eq_false_iff_eq, beq_eq_false_iff_ne] at h_); omega, by (try simp only [Bool.and_eq_true, Bool.or_eq_true, Bool.and_eq_false_iff, Bool.or_eq_false_iff, Bool.not_and, Bool.not_or, Bool.not_not, decide_eq_true_eq, decide_eq_false_iff_not, Bool.not_eq_true', Bool.not_eq_false', Bool.not_eq_true, Bool.not_eq_false, ne_eq, Decidable.not_not, Int.not_lt, Int.not_le, not_true_eq_false, not_false_eq_true, bne_iff_ne, beq_iff_eq, bne_eq_false_iff_eq, beq_eq_false_iff_ne] at h_); omega⟩) 1 _ rfl)))) ?_
  intro a58 HF59; clear HF57
  refine gw_evG HF59 rfl rfl rfl rfl (on_t _) rfl (by decide) (fun h_ => (op_move rfl (HF59.ev rfl))) ?_
  intro a60 HF61; clear HF59
  refine gw_evG HF61 rfl rfl rfl rfl (on_t _) rfl (by decide) (fun h_ => (op_eqs rfl (ev_gv (HF61.ev rfl) h_) (ev_gv (HF61.ev rfl) h_))) ?_
  intro a62 HF63; clear HF61
  refine gw_ev HF63 (want_none rfl) rfl (by decide) (op_pick_and rfl (HF63.ev rfl) (fun hp_ => (ev_gv (HF63.ev rfl) hp_)) (ev_c _ _)) ?_
  intro a64 HF65; clear HF63
  refine gw_ev HF65 (want_none rfl) rfl (by decide) (op_assign rfl (HF65.ev rfl)) ?_
  intro a66 HF67; clear HF65
  refine wpList_nil ?_
  refine gw_nx (hK32 _ _ ?_)
  refine wp_ret ?_
  refine gw_ret1 HF67 rfl rfl ?_
  exact ⟨rfl, HO28.below⟩
set_option maxHeartbeats 4000000 in
set_option maxRecDepth 100000 in
theorem idxc_calls (A0 : Option Addr) (c0 : Nat) (l : List S24) (w : World) (hr : Kd.C k24 w A0 l.length l) (hc : l.length ≤ c0) (hl : l.length ≤ 9223372036854775807) (fid : Nat) (fn0 : Func) (cap : List Value) (h1 : Try.prog.funcs[fid]? = some fn0) (h2 : (fn0.name == "runtime.NumGoroutine") = false) (h3 : fn0.body.isSome = true) (p : S24 → Option Bool) (r : Bool) (h : anyM p l = some r) (hf : ∀ x ∈ l, ∀ (A3 : Option Addr) (c3 : Nat) (w1 : World), Below w.heap.size w w1 → Kd.C k24 w1 A3 x.f3.length x.f3 → x.f3.length ≤ c3 → ∀ b, p x = some b → Calls Try.prog fid ([(.agg #[.int .i64 x.f0, .string x.f1, .string x.f2, .slice A3 x.f3.length c3] : Value)] ++ cap).toArray w1 fun e w2 => e = .returned (.bool b) ∧ Below w1.heap.size w1 w2) :
    Calls Try.prog 44 #[.slice A0 l.length c0, .func (.func fid) #[] cap.toArray] w fun e w' => ∃ j : Int, e = .returned (.int .i64 j) ∧ ((r = true ∧ 0 ≤ j) ∨ (r = false ∧ j = -1)) ∧ Below w.heap.size w w' := by
  refine gw_start (N := 19) (vs := [.slice A0 l.length c0, .func (.func fid) #[] cap.toArray]) Try.func44 rfl rfl (by simp) fun a HF HO => ?_
  replace HO : Own w w [] := HO
  refine gw_seq fun K1 hK1 => ?_
  refine wp_region_lit ?_
  refine gw_ev HF (want_none rfl) rfl (by decide) (op_assign rfl (ev_c _ _)) ?_
  intro a2 HF3; clear HF
  refine wpList_nil ?_
  refine gw_nx (hK1 _ _ ?_)
  refine gw_seq fun K4 hK4 => ?_
  refine gw_seq fun K5 hK5 => ?_
  refine wp_region_lit ?_
  refine gw_ev HF3 (want_none rfl) rfl (by decide) (op_move rfl (HF3.ev rfl)) ?_
  intro a6 HF7; clear HF3
  refine gw_ev HF7 (want_none rfl) rfl (by decide) (op_len Try.underlying22 rfl (HF7.ev rfl)) ?_
  intro a8 HF9; clear HF7
  refine gw_ev HF9 (want_none rfl) rfl (by decide) (op_move rfl (ev_c _ _)) ?_
  intro a10 HF11; clear HF9
  refine wpList_nil ?_
  refine gw_nx (hK5 _ _ ?_)
  refine wp_block ?_
  refine gw_loop (fun m_ a_ w_ => ∃ (i : Int), Fr 19 a_ [(8, .int .i64 i), (0, .slice A0 l.length c0), (1, .func (.func fid) #[] cap.toArray), (7, .int .i64 (l.length : Int))] ∧ Own w w_ [] ∧ (0 ≤ i ∧ i ≤ l.length) ∧ (anyM p (l.drop i.toNat) = some r) ∧ m_ = (l.length - i.toNat)) ((l.length - (0 : Int).toNat)) ?_ ?_
  · refine ⟨0, (HF11.pick (t := 8) rfl (HF11.pick (t := 0) rfl (HF11.pick (t := 1) rfl (HF11.pick (t := 7) rfl HF11.nil)))), HO.sel [] (by decide), ?_, ?_, rfl⟩
    · omega
    · exact h
  · rintro m13 a14 w15 ⟨i, HF16, HO17, hi, hany, hm18⟩
    refine gw_seq fun K19 hK19 => ?_
    refine wp_region_lit ?_
    refine gw_ev HF16 (want_none rfl) rfl (by decide) (op_lss rfl (HF16.ev rfl) (HF16.ev rfl)) ?_
    intro a20 HF21; clear HF16
    refine wpList_nil ?_
    refine gw_nx (hK19 _ _ ?_)
    refine gw_seq fun K22 hK22 => ?_
    refine gw_cond HF21 rfl (fun hb23 => ?_) (fun hb23 => ?_)
    · skip
      have HF24 := HF21.subst_ (d := 9) (b := true) rfl hb23
      clear HF21
      (try simp only [Bool.and_eq_true, Bool.or_eq_true, Bool.and_eq_false_iff, Bool.or_eq_false_iff, Bool.not_and, Bool.not_or, Bool.not_not, decide_eq_true_eq, decide_eq_false_iff_not, Bool.not_eq_true', Bool.not_eq_false', Bool.not_eq_true, Bool.not_eq_false, ne_eq, Decidable.not_not, Int.not_lt, Int.not_le, not_true_eq_false, not_false_eq_true, bne_iff_ne, beq_iff_eq, bne_eq_false_iff_eq, beq_eq_false_iff_ne] at hb23)
      refine wp_skip ?_
      refine gw_nx (hK22 _ _ ?_)
      refine gw_seq fun K25 hK25 => ?_
      refine wp_block ?_
      refine gw_seq fun K26 hK26 => ?_
      refine wp_region_lit ?_
      refine gw_ev HF24 (want_none rfl) rfl (by decide) (op_move rfl (HF24.ev rfl)) ?_
      intro a27 HF28; clear HF24
      refine gw_ev HF28 (want_none rfl) rfl (by decide) (op_assign rfl (HF28.ev rfl)) ?_
      intro a29 HF30; clear HF28
      refine wpList_nil ?_
      refine gw_nx (hK26 _ _ ?_)
      refine gw_seq fun K31 hK31 => ?_
      refine wp_region_lit ?_
      refine gw_ev HF30 (want_none rfl) rfl (by decide) (op_move rfl (HF30.ev rfl)) ?_
      intro a32 HF33; clear HF30
      refine gw_ev HF33 (want_none rfl) rfl (by decide) (op_move rfl (HF33.ev rfl)) ?_
      intro a34 HF35; clear HF33
      refine gw_ev HF35 (want_none rfl) rfl (by decide) (op_move rfl (HF35.ev rfl)) ?_
      intro a36 HF37; clear HF35
      obtain ⟨ad38, cs41, hA39, hl42, hK43, hc40⟩ := Kd.C_get hr z24 i (by omega) (by omega)
      obtain ⟨A44, c45, rfl, hl46, hC47⟩ := k24_open hK43
      clear hl42
      refine gw_ev HF37 (want_none rfl) rfl (by decide) (op_index Try.underlying22 gwsiz24 rfl (HF37.ev rfl) (HF37.ev rfl) hA39 (⟨by omega, by omega⟩)) ?_
      intro a48 HF49; clear HF37
      refine gw_ev HF49 (want_none rfl) rfl (by decide) (op_loadc gwagg24 gwsiz24 rfl (HF49.ev rfl) rfl (cells0 HO17 hc40)) ?_
      intro a50 HF51; clear HF49
      obtain ⟨b0, hp0, hb1, hb0⟩ := any_in z24 (by omega) hany
      refine gw_call HF51 (want_none rfl) rfl (by decide) (op_callV h1 h2 h3 rfl (HF51.ev rfl) (ar_cons (HF51.ev rfl) ar_nil)) (hf (l.getD i.toNat z24) (getD_mem l i.toNat (by omega)) A44 c45 _ HO17.below (Kd.C_below hC47 HO17.below) hl46 b0 hp0) ?_
      rintro e52 w53 ⟨rfl, hb54⟩
      refine ⟨_, rfl, fun a55 HF56 => ?_⟩
      have HO57 := HO17.after hb54
      clear HF51 HO17 hb54
      refine wpList_nil ?_
      refine gw_nx (hK31 _ _ ?_)
      refine gw_cond HF56 rfl (fun hb59 => ?_) (fun hb59 => ?_)
      · skip
        have HF60 := HF56.subst_ (d := 16) (b := true) rfl hb59
        clear HF56
        (try simp only [Bool.and_eq_true, Bool.or_eq_true, Bool.and_eq_false_iff, Bool.or_eq_false_iff, Bool.not_and, Bool.not_or, Bool.not_not, decide_eq_true_eq, decide_eq_false_iff_not, Bool.not_eq_true', Bool.not_eq_false', Bool.not_eq_true, Bool.not_eq_false, ne_eq, Decidable.not_not, Int.not_lt, Int.not_le, not_true_eq_false, not_false_eq_true, bne_iff_ne, beq_iff_eq, bne_eq_false_iff_eq, beq_eq_false_iff_ne] at hb59)
        refine gw_seq fun K61 hK61 => ?_
        refine wp_region_lit ?_
        refine gw_ev HF60 (want_none rfl) rfl (by decide) (op_move rfl (HF60.ev rfl)) ?_
        intro a62 HF63; clear HF60
        refine gw_ev HF63 (want_none rfl) rfl (by decide) (op_assign rfl (HF63.ev rfl)) ?_
        intro a64 HF65; clear HF63
        refine wpList_nil ?_
        refine gw_nx (hK61 _ _ ?_)
        refine wp_ret ?_
        refine gw_blr ?_
        refine gw_thr ?_
        refine gw_thr ?_
        refine gw_blr ?_
        refine gw_thr ?_
        refine gw_ret1 HF65 rfl rfl ?_
        exact ⟨_, rfl, .inl ⟨hb1 (by assumption), by omega⟩, HO57.below⟩
      · skip
        have HF66 := HF56.subst_ (d := 16) (b := false) rfl hb59
        clear HF56
        (try simp only [Bool.and_eq_true, Bool.or_eq_true, Bool.and_eq_false_iff, Bool.or_eq_false_iff, Bool.not_and, Bool.not_or, Bool.not_not, decide_eq_true_eq, decide_eq_false_iff_not, Bool.not_eq_true', Bool.not_eq_false', Bool.not_eq_true, Bool.not_eq_false, ne_eq, Decidable.not_not, Int.not_lt, Int.not_le, not_true_eq_false, not_false_eq_true, bne_iff_ne, beq_iff_eq, bne_eq_false_iff_eq, beq_eq_false_iff_ne] at hb59)
        refine wp_skip ?_
        refine gw_blk ?_
        refine gw_nx (hK25 _ _ ?_)
        refine wp_region_lit ?_
        refine gw_ev HF66 (want_none rfl) rfl (by decide) (op_add rfl (HF66.ev rfl) (ev_c _ _) (by omega)) ?_
        intro a67 HF68; clear HF66
        refine gw_ev HF68 (want_none rfl) rfl (by decide) (op_move rfl (HF68.ev rfl)) ?_
        intro a69 HF70; clear HF68
        refine wpList_nil ?_
        refine gw_nx ⟨_, ?_, i + 1, (HF70.pick (t := 8) rfl (HF70.pick (t := 0) rfl (HF70.pick (t := 1) rfl (HF70.pick (t := 7) rfl HF70.nil)))), HO57.sel [] (by decide), ?_, ?_, rfl⟩
        · rw [hm18]; omega
        · omega
        · rw [show (i + 1).toNat = i.toNat + 1 by omega]; exact hb0 (by assumption)
    · skip
      have HF71 := HF21.subst_ (d := 9) (b := false) rfl hb23
      clear HF21
      (try simp only [Bool.and_eq_true, Bool.or_eq_true, Bool.and_eq_false_iff, Bool.or_eq_false_iff, Bool.not_and, Bool.not_or, Bool.not_not, decide_eq_true_eq, decide_eq_false_iff_not, Bool.not_eq_true', Bool.not_eq_false', Bool.not_eq_true, Bool.not_eq_false, ne_eq, Decidable.not_not, Int.not_lt, Int.not_le, not_true_eq_false, not_false_eq_true, bne_iff_ne, beq_iff_eq, bne_eq_false_iff_eq, beq_eq_false_iff_ne] at hb23)
      refine wp_exit ?_
      refine gw_thx ?_
      refine gw_thx ?_
      refine gw_in ?_
      refine gw_nx (hK4 _ _ ?_)
      refine gw_seq fun K72 hK72 => ?_
      refine wp_region_lit ?_
      refine gw_ev HF71 (want_none rfl) rfl (by decide) (op_assign rfl (ev_c _ _)) ?_
      intro a73 HF74; clear HF71
      refine wpList_nil ?_
      refine gw_nx (hK72 _ _ ?_)
      refine wp_ret ?_
      refine gw_ret1 HF74 rfl rfl ?_
      exact ⟨_, rfl, .inr ⟨any_out (by omega) hany, rfl⟩, HO17.below⟩
set_option maxHeartbeats 4000000 in
set_option maxRecDepth 100000 in
theorem contains_calls (A0 : Option Addr) (c0 : Nat) (l : List S24) (w : World) (hr : Kd.C k24 w A0 l.length l) (hc : l.length ≤ c0) (hl : l.length ≤ 9223372036854775807) (fid : Nat) (fn0 : Func) (cap : List Value) (h1 : Try.prog.funcs[fid]? = some fn0) (h2 : (fn0.name == "runtime.NumGoroutine") = false) (h3 : fn0.body.isSome = true) (p : S24 → Option Bool) (r : Bool) (h : anyM p l = some r) (hf : ∀ x ∈ l, ∀ (A3 : Option Addr) (c3 : Nat) (w1 : World), Below w.heap.size w w1 → Kd.C k24 w1 A3 x.f3.length x.f3 → x.f3.length ≤ c3 → ∀ b, p x = some b → Calls Try.prog fid ([(.agg #[.int .i64 x.f0, .string x.f1, .string x.f2, .slice A3 x.f3.length c3] : Value)] ++ cap).toArray w1 fun e w2 => e = .returned (.bool b) ∧ Below w1.heap.size w1 w2) :
    Calls Try.prog 33 #[.slice A0 l.length c0, .func (.func fid) #[] cap.toArray] w fun e w' => e = .returned (.bool r) ∧ Below w.heap.size w w' := by
  refine gw_start (N := 9) (vs := [.slice A0 l.length c0, .func (.func fid) #[] cap.toArray]) Try.func33 rfl rfl (by simp) fun a HF HO => ?_
  replace HO : Own w w [] := HO
  refine gw_seq fun K1 hK1 => ?_
  refine wp_region_lit ?_
  refine gw_ev HF (want_none rfl) rfl (by decide) (op_assign rfl (ev_c _ _)) ?_
  intro a2 HF3; clear HF
  refine wpList_nil ?_
  refine gw_nx (hK1 _ _ ?_)
  refine gw_seq fun K4 hK4 => ?_
  refine wp_region_lit ?_
  refine gw_ev HF3 (want_none rfl) rfl (by decide) (op_move rfl (HF3.ev rfl)) ?_
  intro a5 HF6; clear HF3
  refine gw_ev HF6 (want_none rfl) rfl (by decide) (op_move rfl (HF6.ev rfl)) ?_
  intro a7 HF8; clear HF6
  refine gw_call HF8 (want_none rfl) rfl (by decide) (op_callL Try.func44 (by kernel_rfl) rfl rfl (ar_cons (HF8.ev rfl) (ar_cons (HF8.ev rfl) ar_nil))) (idxc_calls A0 c0 l _ (Kd.C_below hr HO.below) hc hl fid fn0 cap h1 h2 h3 p r h (fun x hx A3 c3 w1 hb => hf x hx A3 c3 w1 (below_then HO.below hb))) ?_
  rintro e10 w11 ⟨j9, rfl, hj_, hb12⟩
  refine ⟨_, rfl, fun a13 HF14 => ?_⟩
  have HO15 := HO.after hb12
  clear HF8 HO hb12
  refine gw_ev HF14 (want_none rfl) rfl (by decide) (op_geq rfl (HF14.ev rfl) (ev_c _ _)) ?_
  intro a17 HF18; clear HF14
  refine gw_ev HF18 (want_none rfl) rfl (by decide) (op_assign rfl (HF18.ev rfl)) ?_
  intro a19 HF20; clear HF18
  refine wpList_nil ?_
  refine gw_nx (hK4 _ _ ?_)
  refine wp_ret ?_
  refine gw_ret1 HF20 rfl rfl ?_
  exact ⟨by congr 2; rcases hj_ with ⟨rfl, h_⟩ | ⟨rfl, h_⟩ <;> simp [h_], HO15.below⟩
end GCond0_
export GCond0_ (has1_calls idxp_calls has_calls idxc_calls contains_calls)
end Go.Proofs.Ytjndcgochnaodaa.PA

/- Conditions: when one holds of a board, walked. Printed by a program of this session; Lean checks it. -/
namespace Go.Proofs.Ytjndcgochnaodaa.PA
open Go.RowKit Go.Proofs.YtjndcgochnaodaaW.PrintWords Go.Proofs.YtjndcgochnaodaaW.PrintLast Go.Proofs.YtjndcgochnaodaaW.PrintMore
set_option linter.unusedVariables false
set_option linter.unusedSimpArgs false
namespace GCond1_
theorem gwagg22 : ∀ w, (isAgg 22).run Try.prog w = .ok false w := fun _ => by kernel_rfl
theorem gwagg24 : ∀ w, (isAgg 24).run Try.prog w = .ok true w := fun _ => by kernel_rfl
theorem gwagg27 : ∀ w, (isAgg 27).run Try.prog w = .ok true w := fun _ => by kernel_rfl
theorem gwagg3 : ∀ w, (isAgg 3).run Try.prog w = .ok false w := fun _ => by kernel_rfl
theorem gwagg30 : ∀ w, (isAgg 30).run Try.prog w = .ok false w := fun _ => by kernel_rfl
theorem gwagg9 : ∀ w, (isAgg 9).run Try.prog w = .ok false w := fun _ => by kernel_rfl
theorem gwfld24_0 (g off : Nat) : ∀ w, (Instr.fieldAt 24 (.pointer (some ⟨g, off, none⟩)) 0).run Try.prog w = .ok (.pointer (some ⟨g, off + 0, none⟩)) w := fun _ => by kernel_rfl
theorem gwfld24_1 (g off : Nat) : ∀ w, (Instr.fieldAt 24 (.pointer (some ⟨g, off, none⟩)) 1).run Try.prog w = .ok (.pointer (some ⟨g, off + 1, none⟩)) w := fun _ => by kernel_rfl
theorem gwfld24_2 (g off : Nat) : ∀ w, (Instr.fieldAt 24 (.pointer (some ⟨g, off, none⟩)) 2).run Try.prog w = .ok (.pointer (some ⟨g, off + 2, none⟩)) w := fun _ => by kernel_rfl
theorem gwfld24_3 (g off : Nat) : ∀ w, (Instr.fieldAt 24 (.pointer (some ⟨g, off, none⟩)) 3).run Try.prog w = .ok (.pointer (some ⟨g, off + 3, none⟩)) w := fun _ => by kernel_rfl
theorem gwsiz24 : ∀ w, (sizeOf 24).run Try.prog w = .ok 4 w := fun _ => by kernel_rfl
theorem gwsiz27 : ∀ w, (sizeOf 27).run Try.prog w = .ok 2 w := fun _ => by kernel_rfl
theorem gwsiz30 : ∀ w, (sizeOf 30).run Try.prog w = .ok 1 w := fun _ => by kernel_rfl
theorem gwzer30 : ∀ w, (zeroValue 30).run Try.prog w = .ok (.nilFunc) w := fun _ => by kernel_rfl
/-- What holds comes to, k rounds deep. -/
def HoldsIH (k : Nat) : Prop := ∀ (kd : Int) (nm vl : ByteArray) (A3 : Option Addr) (c3 : Nat) (kids : List S24) (b : ByteArray) (Ap : Option Addr) (cp : Nat) (ps : List S36) (r : Bool) (w : World), Kd.C k24 w A3 kids.length kids → kids.length ≤ c3 → Kd.C k36 w Ap ps.length ps → ps.length ≤ cp → cond_holds.f k kd nm vl kids b ps = some r → Calls Try.prog 27 #[(.agg #[.int .i64 kd, .string nm, .string vl, .slice A3 kids.length c3] : Value), (.agg #[.string b, .slice Ap ps.length cp] : Value)] w fun e w' => e = .returned (.bool r) ∧ Below w.heap.size w w'

theorem len_C {α : Type} {d : Kd α} {w : World} {A : Option Addr} {n : Nat} {xs : List α} (h : Kd.C d w A n xs) : n ≤ 9223372036854775807 := by
  exact h.2.1

set_option maxHeartbeats 4000000 in
set_option maxRecDepth 100000 in
theorem holds1_calls (k : Nat) (IH : HoldsIH k) (kd : Int) (nm vl : ByteArray) (A3 : Option Addr) (c3 : Nat) (kids : List S24) (b : ByteArray) (Ap : Option Addr) (cp : Nat) (ps : List S36) (r : Bool) (w : World) (hr3 : Kd.C k24 w A3 kids.length kids) (hc3 : kids.length ≤ c3) (hrp : Kd.C k36 w Ap ps.length ps) (hcp : ps.length ≤ cp) (g : Nat) (hB : w.heap[g]? = some (.cells #[.string b, .slice Ap ps.length cp] 27 (0, 0))) (h : cond_holds.f k kd nm vl kids b ps = some r) :
    Calls Try.prog 38 #[.agg #[.int .i64 kd, .string nm, .string vl, .slice A3 kids.length c3], .pointer (some ⟨g, 0, none⟩)] w fun e w' => e = .returned (.bool r) ∧ Below w.heap.size w w' := by
  refine gw_start (N := 7) (vs := [.agg #[.int .i64 kd, .string nm, .string vl, .slice A3 kids.length c3], .pointer (some ⟨g, 0, none⟩)]) Try.func38 rfl rfl (by simp) fun a HF HO => ?_
  replace HO : Own w w [] := HO
  refine gw_seq fun K1 hK1 => ?_
  refine wp_region_lit ?_
  refine gw_new HF HO (want_none rfl) rfl (by decide) (op_box rfl (HF.ev rfl)) ?_
  intro g2 a3 w4 HF5 HO6; clear HF HO
  have HO7 : Own w w4 [Chunk.blk g2 (.cells #[.int .i64 kd, .string nm, .string vl, .slice A3 kids.length c3] 24 (0, 0))] := HO6
  clear HO6
  refine gw_ev HF5 (want_none rfl) rfl (by decide) (op_assign rfl (ev_c _ _)) ?_
  intro a8 HF9; clear HF5
  refine wpList_nil ?_
  refine gw_nx (hK1 _ _ ?_)
  refine gw_seq fun K10 hK10 => ?_
  refine wp_region_lit ?_
  refine gw_ev HF9 (want_none rfl) rfl (by decide) (op_loadn gwagg24 gwsiz24 rfl (HF9.ev rfl) (HO7.get 0 rfl) rfl rfl) ?_
  intro a11 HF12; clear HF9
  refine gw_ev HF12 (want_none rfl) rfl (by decide) (op_loadn gwagg27 gwsiz27 rfl (HF12.ev rfl) (argblk HO7 hB) rfl rfl) ?_
  intro a13 HF14; clear HF12
  refine gw_call HF14 (want_none rfl) rfl (by decide) (op_callL Try.func27 (by kernel_rfl) rfl rfl (ar_cons (HF14.ev rfl) (ar_cons (HF14.ev rfl) ar_nil))) (IH kd nm vl A3 c3 kids b Ap cp ps _ _ (Kd.C_below hr3 HO7.below) hc3 (Kd.C_below hrp HO7.below) hcp h) ?_
  rintro e15 w16 ⟨rfl, hb17⟩
  refine ⟨_, rfl, fun a18 HF19 => ?_⟩
  have HO20 := HO7.after hb17
  clear HF14 HO7 hb17
  refine gw_ev HF19 (want_none rfl) rfl (by decide) (op_assign rfl (HF19.ev rfl)) ?_
  intro a22 HF23; clear HF19
  refine wpList_nil ?_
  refine gw_nx (hK10 _ _ ?_)
  refine wp_ret ?_
  refine gw_ret1 HF23 rfl rfl ?_
  exact ⟨rfl, HO20.below⟩
set_option maxHeartbeats 4000000 in
set_option maxRecDepth 100000 in
theorem holds2_calls (k : Nat) (IH : HoldsIH k) (kd : Int) (nm vl : ByteArray) (A3 : Option Addr) (c3 : Nat) (kids : List S24) (b : ByteArray) (Ap : Option Addr) (cp : Nat) (ps : List S36) (r : Bool) (w : World) (hr3 : Kd.C k24 w A3 kids.length kids) (hc3 : kids.length ≤ c3) (hrp : Kd.C k36 w Ap ps.length ps) (hcp : ps.length ≤ cp) (g : Nat) (hB : w.heap[g]? = some (.cells #[.string b, .slice Ap ps.length cp] 27 (0, 0))) (q : Nat) (hQ : w.heap[q]? = some (.cells #[.func (.func 38) #[] #[.pointer (some ⟨g, 0, none⟩)]] 30 (0, 0))) (h : cond_holds.f k kd nm vl kids b ps = some r) :
    Calls Try.prog 40 #[.agg #[.int .i64 kd, .string nm, .string vl, .slice A3 kids.length c3], .pointer (some ⟨q, 0, none⟩)] w fun e w' => e = .returned (.bool (!r)) ∧ Below w.heap.size w w' := by
  refine gw_start (N := 8) (vs := [.agg #[.int .i64 kd, .string nm, .string vl, .slice A3 kids.length c3], .pointer (some ⟨q, 0, none⟩)]) Try.func40 rfl rfl (by simp) fun a HF HO => ?_
  replace HO : Own w w [] := HO
  refine gw_seq fun K1 hK1 => ?_
  refine wp_region_lit ?_
  refine gw_new HF HO (want_none rfl) rfl (by decide) (op_box rfl (HF.ev rfl)) ?_
  intro g2 a3 w4 HF5 HO6; clear HF HO
  have HO7 : Own w w4 [Chunk.blk g2 (.cells #[.int .i64 kd, .string nm, .string vl, .slice A3 kids.length c3] 24 (0, 0))] := HO6
  clear HO6
  refine gw_ev HF5 (want_none rfl) rfl (by decide) (op_assign rfl (ev_c _ _)) ?_
  intro a8 HF9; clear HF5
  refine wpList_nil ?_
  refine gw_nx (hK1 _ _ ?_)
  refine gw_seq fun K10 hK10 => ?_
  refine wp_region_lit ?_
  refine gw_ev HF9 (want_none rfl) rfl (by decide) (op_load1 gwagg30 rfl (HF9.ev rfl) (blk_at (argblk HO7 hQ) rfl)) ?_
  intro a11 HF12; clear HF9
  refine gw_ev HF12 (want_none rfl) rfl (by decide) (op_loadn gwagg24 gwsiz24 rfl (HF12.ev rfl) (HO7.get 0 rfl) rfl rfl) ?_
  intro a13 HF14; clear HF12
  refine gw_call HF14 (want_none rfl) rfl (by decide) (op_callV Try.func38 (by kernel_rfl) rfl rfl (HF14.ev rfl) (ar_cons (HF14.ev rfl) ar_nil)) (holds1_calls _ IH kd nm vl A3 c3 kids b Ap cp ps r _ (Kd.C_below hr3 HO7.below) hc3 (Kd.C_below hrp HO7.below) hcp g (blk_below HO7.below hB) h) ?_
  rintro e15 w16 ⟨rfl, hb17⟩
  refine ⟨_, rfl, fun a18 HF19 => ?_⟩
  have HO20 := HO7.after hb17
  clear HF14 HO7 hb17
  refine gw_ev HF19 (want_none rfl) rfl (by decide) (op_not rfl (HF19.ev rfl)) ?_
  intro a22 HF23; clear HF19
  refine gw_ev HF23 (want_none rfl) rfl (by decide) (op_assign rfl (HF23.ev rfl)) ?_
  intro a24 HF25; clear HF23
  refine wpList_nil ?_
  refine gw_nx (hK10 _ _ ?_)
  refine wp_ret ?_
  refine gw_ret1 HF25 rfl rfl ?_
  exact ⟨rfl, HO20.below⟩
set_option maxHeartbeats 4000000 in
set_option maxRecDepth 100000 in
theorem holds_step (k : Nat) (IH : HoldsIH k) (kd : Int) (nm vl : ByteArray) (A3 : Option Addr) (c3 : Nat) (kids : List S24) (b : ByteArray) (Ap : Option Addr) (cp : Nat) (ps : List S36) (r : Bool) (w : World) (hr3 : Kd.C k24 w A3 kids.length kids) (hc3 : kids.length ≤ c3) (hrp : Kd.C k36 w Ap ps.length ps) (hcp : ps.length ≤ cp) (h : cond_holds.f (k + 1) kd nm vl kids b ps = some r) :
    Calls Try.prog 27 #[.agg #[.int .i64 kd, .string nm, .string vl, .slice A3 kids.length c3], .agg #[.string b, .slice Ap ps.length cp]] w fun e w' => e = .returned (.bool r) ∧ Below w.heap.size w w' := by
  refine gw_start (N := 46) (vs := [.agg #[.int .i64 kd, .string nm, .string vl, .slice A3 kids.length c3], .agg #[.string b, .slice Ap ps.length cp]]) Try.func27 rfl rfl (by simp) fun a HF HO => ?_
  replace HO : Own w w [] := HO
  refine gw_seq fun K1 hK1 => ?_
  refine wp_region_lit ?_
  refine gw_new HF HO (want_none rfl) rfl (by decide) (op_box rfl (HF.ev rfl)) ?_
  intro g2 a3 w4 HF5 HO6; clear HF HO
  have HO7 : Own w w4 [Chunk.blk g2 (.cells #[.int .i64 kd, .string nm, .string vl, .slice A3 kids.length c3] 24 (0, 0))] := HO6
  clear HO6
  refine gw_new HF5 HO7 (want_none rfl) rfl (by decide) (op_box rfl (HF5.ev rfl)) ?_
  intro g8 a9 w10 HF11 HO12; clear HF5 HO7
  have HO13 : Own w w10 [Chunk.blk g8 (.cells #[.string b, .slice Ap ps.length cp] 27 (0, 0)), Chunk.blk g2 (.cells #[.int .i64 kd, .string nm, .string vl, .slice A3 kids.length c3] 24 (0, 0))] := HO12
  clear HO12
  refine gw_ev HF11 (want_none rfl) rfl (by decide) (op_assign rfl (ev_c _ _)) ?_
  intro a14 HF15; clear HF11
  refine wpList_nil ?_
  refine gw_nx (hK1 _ _ ?_)
  refine gw_seq fun K16 hK16 => ?_
  refine wp_region_lit ?_
  refine gw_ev HF15 (want_none rfl) rfl (by decide) (op_func rfl (ar_cons (HF15.ev rfl) ar_nil)) ?_
  intro a17 HF18; clear HF15
  refine gw_new HF18 HO13 (want_none rfl) rfl (by decide) (op_alloc gwzer30 rfl) ?_
  intro g19 a20 w21 HF22 HO23; clear HF18 HO13
  have HO24 : Own w w21 [Chunk.blk g19 (.cells #[.nilFunc] 30 (0, 0)), Chunk.blk g8 (.cells #[.string b, .slice Ap ps.length cp] 27 (0, 0)), Chunk.blk g2 (.cells #[.int .i64 kd, .string nm, .string vl, .slice A3 kids.length c3] 24 (0, 0))] := HO23
  clear HO23
  refine gw_set 0 HF22 HO24 rfl (want_none rfl) rfl (op_store1 gwsiz30 rfl (HF22.ev rfl) (HF22.ev rfl) rfl (blk_at (HO24.get 0 rfl) rfl) (blkf (HO24.get 0 rfl))) ?_
  intro a25 w27 HF26 HO28; clear HF22 HO24
  have HO29 : Own w w27 [Chunk.blk g19 (.cells #[.func (.func 38) #[] #[.pointer (some ⟨g8, 0, none⟩)]] 30 (0, 0)), Chunk.blk g8 (.cells #[.string b, .slice Ap ps.length cp] 27 (0, 0)), Chunk.blk g2 (.cells #[.int .i64 kd, .string nm, .string vl, .slice A3 kids.length c3] 24 (0, 0))] := HO28
  clear HO28
  refine wpList_nil ?_
  refine gw_nx (hK16 _ _ ?_)
  refine gw_seq fun K30 hK30 => ?_
  refine gw_seq fun K31 hK31 => ?_
  refine wp_region_lit ?_
  refine gw_ev HF26 (want_none rfl) rfl (by decide) (op_field (gwfld24_0 _ _) rfl (HF26.ev rfl)) ?_
  intro a32 HF33; clear HF26
  refine gw_ev HF33 (want_none rfl) rfl (by decide) (op_load1 gwagg3 rfl (HF33.ev rfl) (blk_at (HO29.get 2 rfl) rfl)) ?_
  intro a34 HF35; clear HF33
  refine wpList_nil ?_
  refine gw_nx (hK31 _ _ ?_)
  refine wp_block ?_
  refine gw_seq fun K36 hK36 => ?_
  refine wp_region_lit ?_
  refine gw_ev HF35 (want_none rfl) rfl (by decide) (op_eqi rfl (HF35.ev rfl) (ev_c _ _)) ?_
  intro a37 HF38; clear HF35
  refine gw_ev HF38 (want_none rfl) rfl (by decide) (op_assign rfl (HF38.ev rfl)) ?_
  intro a39 HF40; clear HF38
  refine wpList_nil ?_
  refine gw_nx (hK36 _ _ ?_)
  refine gw_cond HF40 rfl (fun hb41 => ?_) (fun hb41 => ?_)
  · skip
    have HF42 := HF40.subst_ (d := 9) (b := true) rfl hb41
    clear HF40
    (try simp only [Bool.and_eq_true, Bool.or_eq_true, Bool.and_eq_false_iff, Bool.or_eq_false_iff, Bool.not_and, Bool.not_or, Bool.not_not, decide_eq_true_eq, decide_eq_false_iff_not, Bool.not_eq_true', Bool.not_eq_false', Bool.not_eq_true, Bool.not_eq_false, ne_eq, Decidable.not_not, Int.not_lt, Int.not_le, not_true_eq_false, not_false_eq_true, bne_iff_ne, beq_iff_eq, bne_eq_false_iff_eq, beq_eq_false_iff_ne] at hb41)
    refine gw_seq fun K43 hK43 => ?_
    refine wp_region_lit ?_
    refine gw_ev HF42 (want_none rfl) rfl (by decide) (op_loadn gwagg27 gwsiz27 rfl (HF42.ev rfl) (HO29.get 1 rfl) rfl rfl) ?_
    intro a44 HF45; clear HF42
    refine gw_ev HF45 (want_none rfl) rfl (by decide) (op_field (gwfld24_1 _ _) rfl (HF45.ev rfl)) ?_
    intro a46 HF47; clear HF45
    refine gw_ev HF47 (want_none rfl) rfl (by decide) (op_load1 gwagg9 rfl (HF47.ev rfl) (blk_at (HO29.get 2 rfl) rfl)) ?_
    intro a48 HF49; clear HF47
    refine gw_ev HF49 (want_none rfl) rfl (by decide) (op_field (gwfld24_2 _ _) rfl (HF49.ev rfl)) ?_
    intro a50 HF51; clear HF49
    refine gw_ev HF51 (want_none rfl) rfl (by decide) (op_load1 gwagg9 rfl (HF51.ev rfl) (blk_at (HO29.get 2 rfl) rfl)) ?_
    intro a52 HF53; clear HF51
    refine gw_call HF53 (want_none rfl) rfl (by decide) (op_callL Try.func39 (by kernel_rfl) rfl rfl (ar_cons (HF53.ev rfl) (ar_cons (HF53.ev rfl) (ar_cons (HF53.ev rfl) ar_nil)))) (has_calls b Ap cp ps nm vl _ (Kd.C_below hrp HO29.below) hcp (len_C (Kd.C_below hrp HO29.below))) ?_
    rintro e54 w55 ⟨rfl, hb56⟩
    refine ⟨_, rfl, fun a57 HF58 => ?_⟩
    have HO59 := HO29.after hb56
    clear HF53 HO29 hb56
    refine gw_ev HF58 (want_none rfl) rfl (by decide) (op_assign rfl (HF58.ev rfl)) ?_
    intro a61 HF62; clear HF58
    refine wpList_nil ?_
    refine gw_nx (hK43 _ _ ?_)
    refine wp_ret ?_
    refine gw_blr ?_
    refine gw_thr ?_
    refine gw_ret1 HF62 rfl rfl ?_
    exact ⟨by congr 2 <;> first | rfl | exact ho_is h (by assumption) | exact ho_isnt h (by assumption) (by assumption) | exact hrr.symm, HO59.below⟩
  · skip
    have HF63 := HF40.subst_ (d := 9) (b := false) rfl hb41
    clear HF40
    (try simp only [Bool.and_eq_true, Bool.or_eq_true, Bool.and_eq_false_iff, Bool.or_eq_false_iff, Bool.not_and, Bool.not_or, Bool.not_not, decide_eq_true_eq, decide_eq_false_iff_not, Bool.not_eq_true', Bool.not_eq_false', Bool.not_eq_true, Bool.not_eq_false, ne_eq, Decidable.not_not, Int.not_lt, Int.not_le, not_true_eq_false, not_false_eq_true, bne_iff_ne, beq_iff_eq, bne_eq_false_iff_eq, beq_eq_false_iff_ne] at hb41)
    refine gw_seq fun K64 hK64 => ?_
    refine wp_region_lit ?_
    refine gw_ev HF63 (want_none rfl) rfl (by decide) (op_eqi rfl (HF63.ev rfl) (ev_c _ _)) ?_
    intro a65 HF66; clear HF63
    refine gw_ev HF66 (want_none rfl) rfl (by decide) (op_assign rfl (HF66.ev rfl)) ?_
    intro a67 HF68; clear HF66
    refine wpList_nil ?_
    refine gw_nx (hK64 _ _ ?_)
    refine gw_cond HF68 rfl (fun hb69 => ?_) (fun hb69 => ?_)
    · skip
      have HF70 := HF68.subst_ (d := 17) (b := true) rfl hb69
      clear HF68
      (try simp only [Bool.and_eq_true, Bool.or_eq_true, Bool.and_eq_false_iff, Bool.or_eq_false_iff, Bool.not_and, Bool.not_or, Bool.not_not, decide_eq_true_eq, decide_eq_false_iff_not, Bool.not_eq_true', Bool.not_eq_false', Bool.not_eq_true, Bool.not_eq_false, ne_eq, Decidable.not_not, Int.not_lt, Int.not_le, not_true_eq_false, not_false_eq_true, bne_iff_ne, beq_iff_eq, bne_eq_false_iff_eq, beq_eq_false_iff_ne] at hb69)
      refine gw_seq fun K71 hK71 => ?_
      refine wp_region_lit ?_
      refine gw_ev HF70 (want_none rfl) rfl (by decide) (op_loadn gwagg27 gwsiz27 rfl (HF70.ev rfl) (HO29.get 1 rfl) rfl rfl) ?_
      intro a72 HF73; clear HF70
      refine gw_ev HF73 (want_none rfl) rfl (by decide) (op_field (gwfld24_1 _ _) rfl (HF73.ev rfl)) ?_
      intro a74 HF75; clear HF73
      refine gw_ev HF75 (want_none rfl) rfl (by decide) (op_load1 gwagg9 rfl (HF75.ev rfl) (blk_at (HO29.get 2 rfl) rfl)) ?_
      intro a76 HF77; clear HF75
      refine gw_ev HF77 (want_none rfl) rfl (by decide) (op_field (gwfld24_2 _ _) rfl (HF77.ev rfl)) ?_
      intro a78 HF79; clear HF77
      refine gw_ev HF79 (want_none rfl) rfl (by decide) (op_load1 gwagg9 rfl (HF79.ev rfl) (blk_at (HO29.get 2 rfl) rfl)) ?_
      intro a80 HF81; clear HF79
      refine gw_call HF81 (want_none rfl) rfl (by decide) (op_callL Try.func39 (by kernel_rfl) rfl rfl (ar_cons (HF81.ev rfl) (ar_cons (HF81.ev rfl) (ar_cons (HF81.ev rfl) ar_nil)))) (has_calls b Ap cp ps nm vl _ (Kd.C_below hrp HO29.below) hcp (len_C (Kd.C_below hrp HO29.below))) ?_
      rintro e82 w83 ⟨rfl, hb84⟩
      refine ⟨_, rfl, fun a85 HF86 => ?_⟩
      have HO87 := HO29.after hb84
      clear HF81 HO29 hb84
      refine gw_ev HF86 (want_none rfl) rfl (by decide) (op_not rfl (HF86.ev rfl)) ?_
      intro a89 HF90; clear HF86
      refine gw_ev HF90 (want_none rfl) rfl (by decide) (op_assign rfl (HF90.ev rfl)) ?_
      intro a91 HF92; clear HF90
      refine wpList_nil ?_
      refine gw_nx (hK71 _ _ ?_)
      refine wp_ret ?_
      refine gw_blr ?_
      refine gw_thr ?_
      refine gw_ret1 HF92 rfl rfl ?_
      exact ⟨by congr 2 <;> first | rfl | exact ho_is h (by assumption) | exact ho_isnt h (by assumption) (by assumption) | exact hrr.symm, HO87.below⟩
    · skip
      have HF93 := HF68.subst_ (d := 17) (b := false) rfl hb69
      clear HF68
      (try simp only [Bool.and_eq_true, Bool.or_eq_true, Bool.and_eq_false_iff, Bool.or_eq_false_iff, Bool.not_and, Bool.not_or, Bool.not_not, decide_eq_true_eq, decide_eq_false_iff_not, Bool.not_eq_true', Bool.not_eq_false', Bool.not_eq_true, Bool.not_eq_false, ne_eq, Decidable.not_not, Int.not_lt, Int.not_le, not_true_eq_false, not_false_eq_true, bne_iff_ne, beq_iff_eq, bne_eq_false_iff_eq, beq_eq_false_iff_ne] at hb69)
      refine gw_seq fun K94 hK94 => ?_
      refine wp_region_lit ?_
      refine gw_ev HF93 (want_none rfl) rfl (by decide) (op_eqi rfl (HF93.ev rfl) (ev_c _ _)) ?_
      intro a95 HF96; clear HF93
      refine gw_ev HF96 (want_none rfl) rfl (by decide) (op_assign rfl (HF96.ev rfl)) ?_
      intro a97 HF98; clear HF96
      refine wpList_nil ?_
      refine gw_nx (hK94 _ _ ?_)
      refine gw_cond HF98 rfl (fun hb99 => ?_) (fun hb99 => ?_)
      · skip
        have HF100 := HF98.subst_ (d := 26) (b := true) rfl hb99
        clear HF98
        (try simp only [Bool.and_eq_true, Bool.or_eq_true, Bool.and_eq_false_iff, Bool.or_eq_false_iff, Bool.not_and, Bool.not_or, Bool.not_not, decide_eq_true_eq, decide_eq_false_iff_not, Bool.not_eq_true', Bool.not_eq_false', Bool.not_eq_true, Bool.not_eq_false, ne_eq, Decidable.not_not, Int.not_lt, Int.not_le, not_true_eq_false, not_false_eq_true, bne_iff_ne, beq_iff_eq, bne_eq_false_iff_eq, beq_eq_false_iff_ne] at hb99)
        obtain ⟨hlt, r0, hr0, hrr⟩ := ho_not h (by assumption) (by assumption) (by assumption)
        refine gw_seq fun K101 hK101 => ?_
        refine gx_draw (M := [Chunk.blk g19 (.cells #[.func (.func 38) #[] #[.pointer (some ⟨g8, 0, none⟩)]] 30 (0, 0)), Chunk.blk g8 (.cells #[.string b, .slice Ap ps.length cp] 27 (0, 0)), Chunk.blk g2 (.cells #[.int .i64 kd, .string nm, .string vl, .slice A3 kids.length c3] 24 (0, 0))]) (fun j_ => false) HO29 (by kernel_rfl) fun w102 HO103 => ?_
        clear HO29
        refine gx_take 0 rfl (by kernel_rfl) HF100 (by exact HO103.sel [0, 1, 2] (by decide)) (want_none rfl) rfl (by decide) (fun wq HO => (op_load1 gwagg30 rfl (HF100.ev rfl) (blk_at (HO.get 0 rfl) rfl))) ?_
        intro a104 HF105; clear HF100
        refine gx_take 1 rfl (by kernel_rfl) HF105 (by exact HO103.sel [0, 1, 2] (by decide)) (want_none rfl) rfl (by decide) (fun wq HO => (op_field (gwfld24_3 _ _) rfl (HF105.ev rfl))) ?_
        intro a106 HF107; clear HF105
        refine gx_take 2 rfl (by kernel_rfl) HF107 (by exact HO103.sel [0, 1, 2] (by decide)) (want_none rfl) rfl (by decide) (fun wq HO => (op_load1 gwagg22 rfl (HF107.ev rfl) (blk_at (HO.get 2 rfl) rfl))) ?_
        intro a108 HF109; clear HF107
        obtain ⟨ad110, cs113, hA111, hl114, hK115, hc112⟩ := Kd.C_get hr3 z24 0 (by omega) (by omega)
        obtain ⟨A116, c117, rfl, hl118, hC119⟩ := k24_open hK115
        clear hl114
        refine gx_take 3 rfl (by kernel_rfl) HF109 (by exact HO103.sel [0, 1, 2] (by decide)) (want_none rfl) rfl (by decide) (fun wq HO => (op_index Try.underlying22 gwsiz24 rfl (HF109.ev rfl) (ev_c _ _) hA111 (⟨by omega, by omega⟩))) ?_
        intro a120 HF121; clear HF109
        refine gx_take 4 rfl (by kernel_rfl) HF121 (by exact HO103.sel [0, 1, 2] (by decide)) (want_none rfl) rfl (by decide) (fun wq HO => (op_loadc gwagg24 gwsiz24 rfl (HF121.ev rfl) rfl (cells0 HO hc112))) ?_
        intro a122 HF123; clear HF121
        refine gx_step 5 rfl (by kernel_rfl) ?_
        refine gw_call HF123 (want_none rfl) rfl (by decide) (op_callV Try.func38 (by kernel_rfl) rfl rfl (HF123.ev rfl) (ar_cons (HF123.ev rfl) ar_nil)) (holds1_calls _ IH ((kids.getD (0 : Int).toNat z24).f0) ((kids.getD (0 : Int).toNat z24).f1) ((kids.getD (0 : Int).toNat z24).f2) A116 c117 ((kids.getD (0 : Int).toNat z24).f3) b Ap cp ps r0 _ (Kd.C_below hC119 HO103.below) hl118 (Kd.C_below hrp HO103.below) hcp g8 (HO103.get 1 rfl) hr0) ?_
        rintro e124 w125 ⟨rfl, hb126⟩
        refine ⟨_, rfl, fun a127 HF128 => ?_⟩
        have HO129 := HO103.after hb126
        clear HF123 HO103 hb126
        refine gx_on (i := 5) (B := (fun j_ => false)) (M := [Chunk.blk g19 (.cells #[.func (.func 38) #[] #[.pointer (some ⟨g8, 0, none⟩)]] 30 (0, 0)), Chunk.blk g8 (.cells #[.string b, .slice Ap ps.length cp] 27 (0, 0)), Chunk.blk g2 (.cells #[.int .i64 kd, .string nm, .string vl, .slice A3 kids.length c3] 24 (0, 0))]) (fun _ => (by exact HO129.sel [0, 1, 2] (by decide))) ?_
        refine gx_take 6 rfl (by kernel_rfl) HF128 (by exact HO129.sel [0, 1, 2] (by decide)) (want_none rfl) rfl (by decide) (fun wq HO => (op_not rfl (HF128.ev rfl))) ?_
        intro a131 HF132; clear HF128
        refine gx_take 7 rfl (by kernel_rfl) HF132 (by exact HO129.sel [0, 1, 2] (by decide)) (want_none rfl) rfl (by decide) (fun wq HO => (op_assign rfl (HF132.ev rfl))) ?_
        intro a133 HF134; clear HF132
        refine gx_done (by kernel_rfl) ?_
        refine gw_nx (hK101 _ _ ?_)
        refine wp_ret ?_
        refine gw_blr ?_
        refine gw_thr ?_
        refine gw_ret1 HF134 rfl rfl ?_
        exact ⟨by congr 2 <;> first | rfl | exact ho_is h (by assumption) | exact ho_isnt h (by assumption) (by assumption) | exact hrr.symm, HO129.below⟩
      · skip
        have HF135 := HF98.subst_ (d := 26) (b := false) rfl hb99
        clear HF98
        (try simp only [Bool.and_eq_true, Bool.or_eq_true, Bool.and_eq_false_iff, Bool.or_eq_false_iff, Bool.not_and, Bool.not_or, Bool.not_not, decide_eq_true_eq, decide_eq_false_iff_not, Bool.not_eq_true', Bool.not_eq_false', Bool.not_eq_true, Bool.not_eq_false, ne_eq, Decidable.not_not, Int.not_lt, Int.not_le, not_true_eq_false, not_false_eq_true, bne_iff_ne, beq_iff_eq, bne_eq_false_iff_eq, beq_eq_false_iff_ne] at hb99)
        refine gw_seq fun K136 hK136 => ?_
        refine wp_region_lit ?_
        refine gw_ev HF135 (want_none rfl) rfl (by decide) (op_eqi rfl (HF135.ev rfl) (ev_c _ _)) ?_
        intro a137 HF138; clear HF135
        refine gw_ev HF138 (want_none rfl) rfl (by decide) (op_assign rfl (HF138.ev rfl)) ?_
        intro a139 HF140; clear HF138
        refine wpList_nil ?_
        refine gw_nx (hK136 _ _ ?_)
        refine gw_cond HF140 rfl (fun hb141 => ?_) (fun hb141 => ?_)
        · skip
          have HF142 := HF140.subst_ (d := 35) (b := true) rfl hb141
          clear HF140
          (try simp only [Bool.and_eq_true, Bool.or_eq_true, Bool.and_eq_false_iff, Bool.or_eq_false_iff, Bool.not_and, Bool.not_or, Bool.not_not, decide_eq_true_eq, decide_eq_false_iff_not, Bool.not_eq_true', Bool.not_eq_false', Bool.not_eq_true, Bool.not_eq_false, ne_eq, Decidable.not_not, Int.not_lt, Int.not_le, not_true_eq_false, not_false_eq_true, bne_iff_ne, beq_iff_eq, bne_eq_false_iff_eq, beq_eq_false_iff_ne] at hb141)
          obtain ⟨r0, hr0, hrr⟩ := ho_and h (by assumption) (by assumption) (by assumption) (by assumption)
          refine gw_seq fun K143 hK143 => ?_
          refine wp_region_lit ?_
          refine gw_ev HF142 (want_none rfl) rfl (by decide) (op_field (gwfld24_3 _ _) rfl (HF142.ev rfl)) ?_
          intro a144 HF145; clear HF142
          refine gw_ev HF145 (want_none rfl) rfl (by decide) (op_load1 gwagg22 rfl (HF145.ev rfl) (blk_at (HO29.get 2 rfl) rfl)) ?_
          intro a146 HF147; clear HF145
          refine gw_ev HF147 (want_none rfl) rfl (by decide) (op_func rfl (ar_cons (HF147.ev rfl) ar_nil)) ?_
          intro a148 HF149; clear HF147
          refine gw_call HF149 (want_none rfl) rfl (by decide) (op_callL Try.func33 (by kernel_rfl) rfl rfl (ar_cons (HF149.ev rfl) (ar_cons (HF149.ev rfl) ar_nil))) (contains_calls A3 c3 kids _ (Kd.C_below hr3 HO29.below) hc3 (len_C (Kd.C_below hr3 HO29.below)) 40 _ [.pointer (some ⟨g19, 0, none⟩)] Try.func40 (by kernel_rfl) rfl (fun x => (cond_holds.f k x.f0 x.f1 x.f2 x.f3 b ps).map (!·)) r0 hr0 (fun x _ A3_ c3_ w1 hbb hC_ hc_ b_ hp_ => by obtain ⟨r1, hr1, rfl⟩ := map_not hp_; exact holds2_calls k IH x.f0 x.f1 x.f2 A3_ c3_ x.f3 b Ap cp ps r1 w1 hC_ hc_ (Kd.C_below (Kd.C_below hrp HO29.below) hbb) hcp g8 (blk_below hbb (HO29.get 1 rfl)) g19 (blk_below hbb (HO29.get 0 rfl)) hr1)) ?_
          rintro e150 w151 ⟨rfl, hb152⟩
          refine ⟨_, rfl, fun a153 HF154 => ?_⟩
          have HO155 := HO29.after hb152
          clear HF149 HO29 hb152
          refine gw_ev HF154 (want_none rfl) rfl (by decide) (op_not rfl (HF154.ev rfl)) ?_
          intro a157 HF158; clear HF154
          refine gw_ev HF158 (want_none rfl) rfl (by decide) (op_assign rfl (HF158.ev rfl)) ?_
          intro a159 HF160; clear HF158
          refine wpList_nil ?_
          refine gw_nx (hK143 _ _ ?_)
          refine wp_ret ?_
          refine gw_blr ?_
          refine gw_thr ?_
          refine gw_ret1 HF160 rfl rfl ?_
          exact ⟨by congr 2 <;> first | rfl | exact ho_is h (by assumption) | exact ho_isnt h (by assumption) (by assumption) | exact hrr.symm, HO155.below⟩
        · skip
          have HF161 := HF140.subst_ (d := 35) (b := false) rfl hb141
          clear HF140
          (try simp only [Bool.and_eq_true, Bool.or_eq_true, Bool.and_eq_false_iff, Bool.or_eq_false_iff, Bool.not_and, Bool.not_or, Bool.not_not, decide_eq_true_eq, decide_eq_false_iff_not, Bool.not_eq_true', Bool.not_eq_false', Bool.not_eq_true, Bool.not_eq_false, ne_eq, Decidable.not_not, Int.not_lt, Int.not_le, not_true_eq_false, not_false_eq_true, bne_iff_ne, beq_iff_eq, bne_eq_false_iff_eq, beq_eq_false_iff_ne] at hb141)
          refine wp_skip ?_
          refine gw_blk ?_
          refine gw_nx (hK30 _ _ ?_)
          refine gw_seq fun K162 hK162 => ?_
          refine wp_region_lit ?_
          refine gw_ev HF161 (want_none rfl) rfl (by decide) (op_field (gwfld24_3 _ _) rfl (HF161.ev rfl)) ?_
          intro a163 HF164; clear HF161
          refine gw_ev HF164 (want_none rfl) rfl (by decide) (op_load1 gwagg22 rfl (HF164.ev rfl) (blk_at (HO29.get 2 rfl) rfl)) ?_
          intro a165 HF166; clear HF164
          refine gw_ev HF166 (want_none rfl) rfl (by decide) (op_load1 gwagg30 rfl (HF166.ev rfl) (blk_at (HO29.get 0 rfl) rfl)) ?_
          intro a167 HF168; clear HF166
          refine gw_call HF168 (want_none rfl) rfl (by decide) (op_callL Try.func33 (by kernel_rfl) rfl rfl (ar_cons (HF168.ev rfl) (ar_cons (HF168.ev rfl) ar_nil))) (contains_calls A3 c3 kids _ (Kd.C_below hr3 HO29.below) hc3 (len_C (Kd.C_below hr3 HO29.below)) 38 _ [.pointer (some ⟨g8, 0, none⟩)] Try.func38 (by kernel_rfl) rfl (fun x => cond_holds.f k x.f0 x.f1 x.f2 x.f3 b ps) r (ho_or h (by assumption) (by assumption) (by assumption) (by assumption)) (fun x _ A3_ c3_ w1 hbb hC_ hc_ b_ hp_ => holds1_calls k IH x.f0 x.f1 x.f2 A3_ c3_ x.f3 b Ap cp ps b_ w1 hC_ hc_ (Kd.C_below (Kd.C_below hrp HO29.below) hbb) hcp g8 (blk_below hbb (HO29.get 1 rfl)) hp_)) ?_
          rintro e169 w170 ⟨rfl, hb171⟩
          refine ⟨_, rfl, fun a172 HF173 => ?_⟩
          have HO174 := HO29.after hb171
          clear HF168 HO29 hb171
          refine gw_ev HF173 (want_none rfl) rfl (by decide) (op_assign rfl (HF173.ev rfl)) ?_
          intro a176 HF177; clear HF173
          refine wpList_nil ?_
          refine gw_nx (hK162 _ _ ?_)
          refine wp_ret ?_
          refine gw_ret1 HF177 rfl rfl ?_
          exact ⟨by congr 2 <;> first | rfl | exact ho_is h (by assumption) | exact ho_isnt h (by assumption) (by assumption) | exact hrr.symm, HO174.below⟩
theorem cond_holds.calls (k : Nat) : ∀ (a0_0 : Int) (a0_1 a0_2 : ByteArray) (A0_3 : Option Addr) (c0_3 : Nat) (l0_3 : List S24) (a1_0 : ByteArray) (A1_1 : Option Addr) (c1_1 : Nat) (l1_1 : List S36) (r : Bool) (w : World) (hr0_3 : Kd.C k24 w A0_3 l0_3.length l0_3) (hc0_3 : l0_3.length ≤ c0_3) (hr1_1 : Kd.C k36 w A1_1 l1_1.length l1_1) (hc1_1 : l1_1.length ≤ c1_1) (h : cond_holds.f k a0_0 a0_1 a0_2 l0_3 a1_0 l1_1 = some r),
    Calls Try.prog 27 #[.agg #[.int .i64 a0_0, .string a0_1, .string a0_2, .slice A0_3 l0_3.length c0_3], .agg #[.string a1_0, .slice A1_1 l1_1.length c1_1]] w fun e w' => e = .returned (.bool r) ∧ Below w.heap.size w w' := by
  show HoldsIH k
  induction k with
  | zero => intro _ _ _ _ _ _ _ _ _ _ _ _ _ _ _ _ h; cases h
  | succ k ih => intro kd nm vl A3 c3 kids b Ap cp ps r w hr3 hc3 hrp hcp h; exact holds_step k ih kd nm vl A3 c3 kids b Ap cp ps r w hr3 hc3 hrp hcp h

def cond_Holds.f (k : Nat) (kd : Int) (nm vl : ByteArray) (kids : List S24) (b : ByteArray) (ps : List S36) : Option Bool := (cond_Right.f k kd nm vl kids).bind fun t => if t = true then cond_holds.f k kd nm vl kids b ps else some false
theorem cond_Holds.mono : ∀ a0 a1 a2 a3 a4 a5 k, LeO (cond_Holds.f k a0 a1 a2 a3 a4 a5) (cond_Holds.f (k + 1) a0 a1 a2 a3 a4 a5) := by
  intro a0 a1 a2 a3 a4 a5 k r h
  unfold cond_Holds.f at h ⊢
  obtain ⟨t, ht, h⟩ := Option.bind_eq_some_iff.mp h
  rw [cond_Right.mono _ _ _ _ _ _ ht, Option.bind_some]
  split
  · rename_i h1; rw [if_pos h1] at h; exact cond_holds.mono _ _ _ _ _ _ _ _ h
  · rename_i h1; rw [if_neg h1] at h; exact h
theorem hold_in {k : Nat} {kd : Int} {nm vl b : ByteArray} {kids : List S24} {ps : List S36} {r : Bool} (h : cond_Holds.f k kd nm vl kids b ps = some r) : ∃ t, cond_Right.f k kd nm vl kids = some t ∧ (t = true → cond_holds.f k kd nm vl kids b ps = some r) ∧ (t = false → r = false) := by
  unfold cond_Holds.f at h
  obtain ⟨t, ht, h⟩ := Option.bind_eq_some_iff.mp h
  refine ⟨t, ht, fun h1 => ?_, fun h1 => ?_⟩
  · rwa [if_pos h1] at h
  · rw [if_neg (by rw [h1]; decide)] at h; exact (Option.some.inj h).symm

set_option maxHeartbeats 4000000 in
set_option maxRecDepth 100000 in
theorem Holds_walk (k : Nat) (kd : Int) (nm vl : ByteArray) (A3 : Option Addr) (c3 : Nat) (kids : List S24) (b : ByteArray) (Ap : Option Addr) (cp : Nat) (ps : List S36) (r : Bool) (w : World) (hr3 : Kd.C k24 w A3 kids.length kids) (hc3 : kids.length ≤ c3) (hrp : Kd.C k36 w Ap ps.length ps) (hcp : ps.length ≤ cp) (h : cond_Holds.f k kd nm vl kids b ps = some r) :
    Calls Try.prog 12 #[.agg #[.int .i64 kd, .string nm, .string vl, .slice A3 kids.length c3], .agg #[.string b, .slice Ap ps.length cp]] w fun e w' => e = .returned (.bool r) ∧ Below w.heap.size w w' := by
  obtain ⟨t, ht, h2, h3⟩ := hold_in h
  refine gw_start (N := 12) (vs := [.agg #[.int .i64 kd, .string nm, .string vl, .slice A3 kids.length c3], .agg #[.string b, .slice Ap ps.length cp]]) Try.func12 rfl rfl (by simp) fun a HF HO => ?_
  replace HO : Own w w [] := HO
  refine gw_seq fun K1 hK1 => ?_
  refine wp_region_lit ?_
  refine gw_new HF HO (want_none rfl) rfl (by decide) (op_box rfl (HF.ev rfl)) ?_
  intro g2 a3 w4 HF5 HO6; clear HF HO
  have HO7 : Own w w4 [Chunk.blk g2 (.cells #[.int .i64 kd, .string nm, .string vl, .slice A3 kids.length c3] 24 (0, 0))] := HO6
  clear HO6
  refine gw_new HF5 HO7 (want_none rfl) rfl (by decide) (op_box rfl (HF5.ev rfl)) ?_
  intro g8 a9 w10 HF11 HO12; clear HF5 HO7
  have HO13 : Own w w10 [Chunk.blk g8 (.cells #[.string b, .slice Ap ps.length cp] 27 (0, 0)), Chunk.blk g2 (.cells #[.int .i64 kd, .string nm, .string vl, .slice A3 kids.length c3] 24 (0, 0))] := HO12
  clear HO12
  refine gw_ev HF11 (want_none rfl) rfl (by decide) (op_assign rfl (ev_c _ _)) ?_
  intro a14 HF15; clear HF11
  refine wpList_nil ?_
  refine gw_nx (hK1 _ _ ?_)
  refine gw_seq fun K16 hK16 => ?_
  refine wp_region_lit ?_
  refine gw_ev HF15 (want_none rfl) rfl (by decide) (op_loadn gwagg24 gwsiz24 rfl (HF15.ev rfl) (HO13.get 1 rfl) rfl rfl) ?_
  intro a17 HF18; clear HF15
  refine gw_call HF18 (want_none rfl) rfl (by decide) (op_callL Try.func11 (by kernel_rfl) rfl rfl (ar_cons (HF18.ev rfl) ar_nil)) (cond_Right.calls k kd nm vl A3 c3 kids t _ (Kd.C_below hr3 HO13.below) hc3 ht) ?_
  rintro e19 w20 ⟨rfl, hb21⟩
  refine ⟨_, rfl, fun a22 HF23 => ?_⟩
  have HO24 := HO13.after hb21
  clear HF18 HO13 hb21
  refine gw_ev HF23 (want_none rfl) rfl (by decide) (op_move rfl (HF23.ev rfl)) ?_
  intro a26 HF27; clear HF23
  refine gw_evG HF27 rfl rfl rfl rfl (on_t _) rfl (by decide) (fun h_ => (op_loadn gwagg24 gwsiz24 rfl (HF27.ev rfl) (HO24.get 1 rfl) rfl rfl)) ?_
  intro a28 HF29; clear HF27
  refine gw_evG HF29 rfl rfl rfl rfl (on_t _) rfl (by decide) (fun h_ => (op_loadn gwagg27 gwsiz27 rfl (HF29.ev rfl) (HO24.get 0 rfl) rfl rfl)) ?_
  intro a30 HF31; clear HF29
  refine gw_callG HF31 rfl rfl rfl rfl (on_t _) rfl (by decide) (fun h_ => (op_callL Try.func27 (by kernel_rfl) rfl rfl (ar_cons (ev_gv (HF31.ev rfl) h_) (ar_cons (ev_gv (HF31.ev rfl) h_) ar_nil)))) (fun h_ => cond_holds.calls k kd nm vl A3 c3 kids b Ap cp ps r _ (Kd.C_below hr3 HO24.below) hc3 (Kd.C_below hrp HO24.below) hcp (h2 h_)) ?_
  intro a32 w34 hb35 HF33
  have HO36 := HO24.after hb35; clear HF31 HO24 hb35
  refine gw_ev HF33 (want_none rfl) rfl (by decide) (op_pick_and rfl (HF33.ev rfl) (fun hp_ => (ev_gv (HF33.ev rfl) hp_)) (ev_c _ _)) ?_
  intro a37 HF38; clear HF33
  refine gw_ev HF38 (want_none rfl) rfl (by decide) (op_assign rfl (HF38.ev rfl)) ?_
  intro a39 HF40; clear HF38
  refine wpList_nil ?_
  refine gw_nx (hK16 _ _ ?_)
  refine wp_ret ?_
  refine gw_ret1 HF40 rfl rfl ?_
  exact ⟨by congr 2; cases t <;> simp_all, HO36.below⟩
theorem cond_Holds.calls (k : Nat) (a0_0 : Int) (a0_1 a0_2 : ByteArray) (A0_3 : Option Addr) (c0_3 : Nat) (l0_3 : List S24) (a1_0 : ByteArray) (A1_1 : Option Addr) (c1_1 : Nat) (l1_1 : List S36) (r : Bool) (w : World) (hr0_3 : Kd.C k24 w A0_3 l0_3.length l0_3) (hc0_3 : l0_3.length ≤ c0_3) (hr1_1 : Kd.C k36 w A1_1 l1_1.length l1_1) (hc1_1 : l1_1.length ≤ c1_1) (h : cond_Holds.f k a0_0 a0_1 a0_2 l0_3 a1_0 l1_1 = some r) : Calls Try.prog 12 #[.agg #[.int .i64 a0_0, .string a0_1, .string a0_2, .slice A0_3 l0_3.length c0_3], .agg #[.string a1_0, .slice A1_1 l1_1.length c1_1]] w fun e w' => e = .returned (.bool r) ∧ Below w.heap.size w w' := Holds_walk k a0_0 a0_1 a0_2 A0_3 c0_3 l0_3 a1_0 A1_1 c1_1 l1_1 r w hr0_3 hc0_3 hr1_1 hc1_1 h

end GCond1_
export GCond1_ (HoldsIH cond_holds.calls len_C cond_Holds.f cond_Holds.mono cond_Holds.calls)
end Go.Proofs.Ytjndcgochnaodaa.PA

