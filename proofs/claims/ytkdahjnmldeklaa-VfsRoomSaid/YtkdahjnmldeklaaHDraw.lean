/- Regions whose order is drawn, with calls and memory-making among their operations. -/
import Derived.Test.YtkdahjnmldeklaaHGw2
import Derived.OrdersHeld
import Derived.Deep.RegionHeld3
namespace Go.Proofs.Ytkdahjnmldeklaa.PA
open Go.RowKit Go.Proofs.YtkdahjnmldeklaaW.PrintWords Go.Proofs.YtkdahjnmldeklaaW.PrintLast Go.Proofs.YtkdahjnmldeklaaW.PrintMore
set_option linter.unusedVariables false
set_option linter.unusedSimpArgs false
section
variable {P : Program} {ops : Array Oper} {Q : Exit → Act → World → Prop} {md : Region.Mode} {S : World → Prop} {B : Nat → Bool}
/-- Whatever order is picked from here on; S holds behind every operation but those of B. -/
def wpX (P : Program) (md : Region.Mode) (ops : Array Oper) (Q : Exit → Act → World → Prop) (S : World → Prop) (B : Nat → Bool) : Nat → Array Bool → Act → World → Prop
  | 0, listed, a, w => Region.ready md ops listed = [] ∧ Q .normal a w
  | fuel + 1, listed, a, w =>
    (Region.ready md ops listed = [] → Q .normal a w) ∧
    ∀ i ∈ Region.ready md ops listed, wpOp P ops Q i (fun a' w' => (B i = false → S w') ∧ wpX P md ops Q S B fuel (listed.setIfInBounds i true) a' w') a w
theorem wpAny_of_X : ∀ (fuel : Nat) (listed : Array Bool) (a : Act) (w : World), wpX P md ops Q S B fuel listed a w → wpAny P md ops Q fuel listed a w
  | 0, _, _, _, h => h
  | fuel + 1, _, _, _, h => ⟨h.1, fun i hi => wpOp_mono (fun a' w' h' => wpAny_of_X fuel _ a' w' h'.2) (h.2 i hi)⟩
theorem wpX_first {i : Nat} {oi : Oper} {v : Value} (hi : ops[i]? = some oi) (hsel : ∀ (j : Nat) (o : Oper) cs b, ops[j]? = some o → o.op ≠ .select cs b)
    (hQ : ∀ c a w, Q (.panic c) (a.put oi.dst v) w → Q (.panic c) a w)
    (hB : ∀ j oj, ops[j]? = some oj → B j = true → j ≠ i → ∃ e ∈ oj.after, Region.binds md e = true ∧ e.on = i) :
    ∀ (fuel : Nat) (listed : Array Bool) (a : Act) (w : World),
      (∀ j oj, ops[j]? = some oj → j ≠ i → listed.getD j true = false → (∀ e ∈ oj.after, Region.binds md e = true → e.on ≠ i) → oi.apart ops oj = true) →
      i ∈ Region.ready md ops listed → YieldsIf P ops S oi v a → S w →
      wpX P md ops Q S B fuel (listed.setIfInBounds i true) (a.put oi.dst v) w → wpX P md ops Q S B (fuel + 1) listed a w := by
  intro fuel
  induction fuel with
  | zero =>
    intro listed a w _ hr hy hS H
    refine ⟨fun h => (by rw [h] at hr; cases hr), fun j hj => ?_⟩
    by_cases hji : j = i
    · subst hji; exact hy.wpOp hi hS ⟨fun _ => hS, H⟩
    · have := ready_mono hj hji
      rw [H.1] at this
      cases this
  | succ fuel ih =>
    intro listed a w hfree hr hy hS H
    refine ⟨fun h => (by rw [h] at hr; cases hr), fun j hj => ?_⟩
    by_cases hji : j = i
    · subst hji; exact hy.wpOp hi hS ⟨fun _ => hS, H⟩
    · have h1 := H.2 j (ready_mono hj hji)
      obtain ⟨hjun, oj, hoj, hall⟩ := mem_ready.1 hj
      have hnot : ∀ e ∈ oj.after, Region.binds md e = true → e.on ≠ i := fun e he hb heq => by
        have h1 := hall e he hb
        have h0 := (mem_ready.1 hr).1
        rw [heq] at h1
        rcases Nat.lt_or_ge i listed.size with h' | h'
        · simp [h'] at h0 h1; rw [h0] at h1; cases h1
        · simp [Array.getElem?_eq_none h'] at h1
      have hBj : B j = false := by
        cases hb : B j with
        | false => rfl
        | true =>
          obtain ⟨e, he, hb1, hb2⟩ := hB j oj hoj hb hji
          exact absurd hb2 (hnot e he hb1)
      have h2 := wpOp_putIf hoj (hfree j oj hoj hji hjun hnot) (fun cs b => hsel i oi cs b hi) (fun cs b => hsel j oj cs b hoj) hQ hy h1
      have hfree' : ∀ k ok, ops[k]? = some ok → k ≠ i → (listed.setIfInBounds j true).getD k true = false →
          (∀ e ∈ ok.after, Region.binds md e = true → e.on ≠ i) → oi.apart ops ok = true := fun k ok hk hki hun hno => by
        refine hfree k ok hk hki ?_ hno
        by_cases hjk : j = k
        · subst hjk; exact hjun
        · rw [getD_set_ne true hjk] at hun; exact hun
      refine wpOp_mono (fun a' w' h3 => ⟨h3.2.1, ih (listed.setIfInBounds j true) a' w' hfree' (ready_mono hr (Ne.symm hji)) h3.1 (h3.2.1 hBj) ?_⟩) h2
      rw [Array.setIfInBounds_comm _ _ hji]
      exact h3.2.2
/-- The operations of B wait for number i. -/
def waitedB (md : Region.Mode) (ops : Array Oper) (B : Nat → Bool) (i : Nat) : Bool :=
  (List.range ops.size).all fun j => !B j || j == i || match ops[j]? with
    | some oj => oj.after.any (fun e => Region.binds md e && e.on == i)
    | none => true
theorem waitedB_spec {i : Nat} (h : waitedB md ops B i = true) : ∀ j oj, ops[j]? = some oj → B j = true → j ≠ i → ∃ e ∈ oj.after, Region.binds md e = true ∧ e.on = i := by
  intro j oj hj hb hji
  have hlt : j < ops.size := (Array.getElem?_eq_some_iff.1 hj).1
  have := List.all_eq_true.1 h j (List.mem_range.2 hlt)
  rw [hj, hb] at this
  have hne : (j == i) = false := by simpa using hji
  rw [hne] at this
  simp only [Bool.not_true, Bool.false_or] at this
  obtain ⟨e, he, h2⟩ := Array.any_eq_true'.1 this
  simp only [Bool.and_eq_true, beq_iff_eq] at h2
  exact ⟨e, he, h2.1, h2.2⟩
end
section
variable {D : List Deferred} {P : Program} {ops : Array Oper} {Q : Exit → Act → World → Prop} {B : Nat → Bool} {N d : Nat} {a : Act} {F : List (Nat × Value)} {w0 w : World} {L M : List Chunk} {v : Value} {o : Oper}
/-- The kept part of what is owned. -/
def Held (w0 : World) (M : List Chunk) : World → Prop := fun w => Own w0 w M
theorem gx_draw {id : Nat} {l : List Oper} {M : List Chunk} (B : Nat → Bool) (HO : Own w0 w L) (hm : P.follows .mixedOrders = true)
    (h : ∀ w', Own w0 w' L → wpX P .any l.toArray (NoPanic Q) (Held w0 M) B l.length (Array.replicate l.length false) a w') : (Code.region id l.toArray true).wp P Q a w :=
  wp_region_noPanic (wp_region_any hm (wpAny_of_X _ _ _ _ (by simpa using h _ HO.drew)))
theorem hQ_no {oi : Oper} : ∀ c a w, NoPanic Q (.panic c) (a.put oi.dst v) w → NoPanic Q (.panic c) a w := fun _ _ _ h => h.elim
/-- A still operation is taken. -/
theorem gx_take {fuel : Nat} {listed : Array Bool} (i : Nat) (hi : ops[i]? = some o) (hs : (Region.noSelect ops && ((Region.ready .any ops listed).contains i && (Region.free .any ops listed i && waitedB .any ops B i))) = true) (HF : FrD D N a F) (HO : Own w0 w M)
    (hw : Region.wanted o (yielded ops a.tmps) = true) (hd : o.dst = some d) (hN : d < N) (hrun : ∀ w, Own w0 w M → Runs P o a w v w)
    (k : ∀ a', FrD D N a' ((d, v) :: F) → wpX P .any ops (NoPanic Q) (Held w0 M) B fuel (listed.setIfInBounds i true) a' w) : wpX P .any ops (NoPanic Q) (Held w0 M) B (fuel + 1) listed a w := by
  simp only [Bool.and_eq_true] at hs
  refine wpX_first (v := v) hi (Region.noSelect_spec hs.1) hQ_no (waitedB_spec hs.2.2.2) fuel listed a w (Region.free_spec hi hs.2.2.1) (by simpa using hs.2.1) (.inl ⟨hw, fun w h => hrun w h⟩) HO ?_
  rw [hd]
  exact k _ (HF.put hN v)
theorem gx_take_off {fuel : Nat} {listed : Array Bool} (i : Nat) (hi : ops[i]? = some o) (hs : (Region.noSelect ops && ((Region.ready .any ops listed).contains i && (Region.free .any ops listed i && waitedB .any ops B i))) = true) (HF : FrD D N a F) (HO : Own w0 w M)
    (hw : Region.wanted o (yielded ops a.tmps) = false) (hd : o.dst = some d) (hN : d < N)
    (k : ∀ a', FrD D N a' ((d, undef) :: F) → wpX P .any ops (NoPanic Q) (Held w0 M) B fuel (listed.setIfInBounds i true) a' w) : wpX P .any ops (NoPanic Q) (Held w0 M) B (fuel + 1) listed a w := by
  simp only [Bool.and_eq_true] at hs
  refine wpX_first (v := undef) hi (Region.noSelect_spec hs.1) hQ_no (waitedB_spec hs.2.2.2) fuel listed a w (Region.free_spec hi hs.2.2.1) (by simpa using hs.2.1) (.inr ⟨hw, rfl⟩) HO ?_
  rw [hd]
  exact k _ (HF.put hN undef)
/-- What follows a step, as a region's post. -/
def Patch (K : Act → World → Prop) (Q : Exit → Act → World → Prop) : Exit → Act → World → Prop
  | .normal, a, w => K a w
  | e, a, w => Q e a w
theorem wpOp_of_list {i : Nat} {K : Act → World → Prop} (hi : ops[i]? = some o) (h : wpList P ops (Patch K Q) [o] a w) : wpOp P ops Q i K a w := by
  unfold wpOp
  simp only [hi]
  unfold wpList at h
  have hK : ∀ a w, wpList P ops (Patch K Q) [] a w → K a w := fun a w h => h
  split
  · rename_i hw
    rw [if_pos hw] at h
    rcases h with h | h
    · refine .inl ?_
      unfold Oper.wp at *
      generalize (execOp a.eval o).run P w = r at *
      cases r with
      | ok n w' =>
        cases n <;> simp only [Oper.upon] at h ⊢ <;>
          first
            | exact h
            | exact Calls.mono h (fun e w'' he => by cases e <;> exact he)
            | exact Rows.mono h (fun _ _ he => he)
      | halt x w' => cases x <;> simp only [Oper.upon] at h ⊢ <;> exact h
    · exact .inr h
  · rename_i hw
    rw [if_neg hw] at h
    exact h
/-- The one operation that may come up comes up. -/
theorem gx_step {fuel : Nat} {listed : Array Bool} (i : Nat) (hi : ops[i]? = some o) (hr : Region.ready .any ops listed = [i])
    (h : wpList P ops (Patch (fun a' w' => (B i = false → Held w0 M w') ∧ wpX P .any ops (NoPanic Q) (Held w0 M) B fuel (listed.setIfInBounds i true) a' w') (NoPanic Q)) [o] a w) : wpX P .any ops (NoPanic Q) (Held w0 M) B (fuel + 1) listed a w :=
  ⟨fun h0 => (by rw [hr] at h0; cases h0), fun j hj => by
    rw [hr] at hj
    obtain rfl : j = i := by simpa using hj
    exact wpOp_of_list hi h⟩
theorem gx_on {fuel i : Nat} {listed : Array Bool} (h1 : B i = false → Own w0 w M) (h2 : wpX P .any ops (NoPanic Q) (Held w0 M) B fuel (listed.setIfInBounds i true) a w) :
    wpList P ops (Patch (fun a' w' => (B i = false → Held w0 M w') ∧ wpX P .any ops (NoPanic Q) (Held w0 M) B fuel (listed.setIfInBounds i true) a' w') (NoPanic Q)) [] a w := wpList_nil ⟨h1, h2⟩
theorem gx_done {fuel : Nat} {listed : Array Bool} (hr : Region.ready .any ops listed = []) (h : Q .normal a w) : wpX P .any ops (NoPanic Q) (Held w0 M) B fuel listed a w := by
  cases fuel with
  | zero => exact ⟨hr, h⟩
  | succ _ => exact ⟨fun _ => h, by rw [hr]; simp⟩
end
end Go.Proofs.Ytkdahjnmldeklaa.PA
