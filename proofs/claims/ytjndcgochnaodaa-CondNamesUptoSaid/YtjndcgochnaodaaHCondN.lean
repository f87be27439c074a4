/- Conditions: the names that one asks for, in plain words. -/
import Derived.Test.YtjndcgochnaodaaHCondU
import Derived.Test.YtjndcgochnaodaaGMix3
import Derived.Test.YtjndcgochnaodaaPAx52
import Derived.Test.YtjndcgochnaodaaPAx53
namespace Go.Proofs.Ytjndcgochnaodaa.PA
open Go.RowKit Go.Proofs.YtjndcgochnaodaaW.PrintWords Go.Proofs.YtjndcgochnaodaaW.PrintLast Go.Proofs.YtjndcgochnaodaaW.PrintMore
set_option linter.unusedVariables false
/-- The names at the ends of a condition. -/
def leafN : Nat → S24 → List ByteArray
  | 0, _ => []
  | d + 1, x => if x.f3.length = 0 then [x.f1] else x.f3.flatMap (leafN d)
theorem leaf_le : ∀ (d : Nat) (x : S24), (leafN d x).length ≤ wtN d x
  | 0, x => by show 0 ≤ _; omega
  | d + 1, x => by
    unfold leafN
    have hk := wt_kids (d := d) (x := x)
    split
    · show 1 ≤ _
      exact wt_pos _ _
    · refine Nat.le_trans ?_ hk
      have h : ∀ l : List S24, (l.flatMap (leafN d)).length ≤ (l.map (wtN d)).sum := by
        intro l
        induction l with
        | nil => simp
        | cons y ys ih =>
          have := leaf_le d y
          rw [List.flatMap_cons, List.length_append, List.map_cons, List.sum_cons]
          omega
      exact h x.f3
theorem namesM_ev {f : Nat → S24 → List ByteArray → Option (List ByteArray)} {g : S24 → List ByteArray} {wt : S24 → Nat} : ∀ (l : List S24) (ns : List ByteArray), (∀ y ∈ l, (g y).length ≤ wt y ∧ ∀ ns : List ByteArray, ns.length + wt y ≤ 4194304 → Ev (fun k => f k y ns) (ns ++ g y)) → ns.length + (l.map wt).sum ≤ 4194304 → Ev (fun k => namesM (f k) l ns) (ns ++ l.flatMap g)
  | [], ns, _, _ => Ev.is fun k => by simp [namesM]
  | x :: xs, ns, h, hs => by
    obtain ⟨h1, h2⟩ := h x (List.mem_cons_self ..)
    rw [List.map_cons, List.sum_cons] at hs
    rw [List.flatMap_cons, ← List.append_assoc]
    exact Ev.congr (f := fun k => (f k x ns).bind fun a => namesM (f k) xs a) (fun k => rfl) (Ev.bind (h2 ns (by omega)) (namesM_ev xs (ns ++ g x) (fun y hy => h y (List.mem_cons_of_mem _ hy)) (by rw [List.length_append]; omega)))
theorem names_ev : ∀ (d : Nat) (x : S24), rightB d x = true → smallN d x → ∀ ns : List ByteArray, ns.length + wtN d x ≤ 4194304 → Ev (fun k => cond_names.f k x.f1 x.f3 ns) (ns ++ leafN d x) := by
  intro d
  induction d with
  | zero => intro x h; cases h
  | succ d ih =>
    intro x h hs ns hw
    obtain ⟨hk, hsh⟩ := rightB_kids h
    obtain ⟨hs1, hs2, hs3⟩ := hs
    have hkd := wt_kids (d := d) (x := x)
    have hp := wt_pos (d + 1) x
    unfold leafN
    by_cases h0 : x.f3.length = 0
    · rw [if_pos h0]
      have hn : x.f3 = [] := List.length_eq_zero_iff.1 h0
      refine Ev.step (f := fun _ => some (ns ++ [x.f1])) (fun k => ?_) (Ev.now _)
      rw [cond_names.f, if_pos (by omega), addN, if_pos ⟨by omega, by omega⟩, Option.bind_some, hn]
      rfl
    · rw [if_neg h0]
      refine Ev.step (f := fun k => namesM (fun y a => cond_names.f k y.f1 y.f3 a) x.f3 ns) (fun k => by rw [cond_names.f, if_neg (by omega), Option.bind_some]) ?_
      exact namesM_ev (f := fun k y a => cond_names.f k y.f1 y.f3 a) (g := leafN d) (wt := wtN d) x.f3 ns (fun y hy => ⟨leaf_le d y, fun ns h => ih y (hk y hy) (hs3 y hy) ns h⟩) (by omega)
/-! the reference's -/
theorem ra_one {vl nm : ByteArray} {kd : Int} {kids : List S24} {pk : List ByteArray} {i : Nat} {R : List ByteArray} (hi : i ≤ 4194304) (hpk : pk.length ≤ 4194304) :
    ∀ (m j : Nat) (acc : List ByteArray), j ≤ pk.length → m = pk.length - j → acc.length + m ≤ 4194304 → Ev (fun k => colloquyref12_All.l0 k (acc ++ pk.drop j) ((i + 1 : Nat) : Int) kd nm vl kids) R →
      Ev (fun k => colloquyref12_All.l1 k acc i pk j kd nm vl kids) R := by
  have e : wrap64 ((i : Int) + 1) = ((i + 1 : Nat) : Int) := by unfold wrap64; omega
  intro m
  induction m with
  | zero =>
    intro j acc hj hm hs hR
    rw [List.drop_of_length_le (by omega), List.append_nil] at hR
    exact Ev.step (fun k => by simp only [colloquyref12_All.l1]; rw [if_neg (by omega), e]) hR
  | succ m ih =>
    intro j acc hj hm hs hR
    have e2 : wrap64 ((j : Int) + 1) = ((j + 1 : Nat) : Int) := by unfold wrap64; omega
    have hy : rdOf ByteArray.empty pk (j : Int) = pk[j]'(by omega) := by
      unfold rdOf
      rw [Int.toNat_natCast, List.getD_eq_getElem?_getD, List.getElem?_eq_getElem (show j < pk.length by omega)]
      rfl
    refine Ev.step (f := fun k => colloquyref12_All.l1 k (acc ++ [pk[j]'(by omega)]) i pk ((j + 1 : Nat) : Int) kd nm vl kids) (fun k => by simp only [colloquyref12_All.l1]; rw [if_pos (by omega), if_pos (by omega), if_pos (by omega), e2, hy]) (ih (j + 1) (acc ++ [pk[j]'(by omega)]) (by omega) (by omega) (by rw [List.length_append, List.length_singleton]; omega) ?_)
    rwa [List.append_assoc, List.singleton_append, ← List.drop_eq_getElem_cons]
theorem ra_loop {vl nm : ByteArray} {kd : Int} {kids : List S24} {g : S24 → List ByteArray} {wt : S24 → Nat} (hk : kids.length ≤ 4194304)
    (IH : ∀ y ∈ kids, Ev (fun k => colloquyref12_All.f k y.f0 y.f1 y.f2 y.f3) (g y) ∧ (g y).length ≤ wt y) :
    ∀ (m i : Nat) (acc : List ByteArray), i ≤ kids.length → m = kids.length - i → acc.length + ((kids.drop i).map wt).sum ≤ 4194304 → Ev (fun k => colloquyref12_All.l0 k acc i kd nm vl kids) (acc ++ (kids.drop i).flatMap g) := by
  intro m
  induction m with
  | zero =>
    intro i acc hi hm hs
    rw [List.drop_of_length_le (by omega)]
    exact Ev.step (f := fun _ => some acc) (fun k => by simp only [colloquyref12_All.l0]; rw [if_neg (by omega)]) (Ev.is fun k => by simp)
  | succ m ih =>
    intro i acc hi hm hs
    have hlt : i < kids.length := by omega
    have hy : rd_T24 kids i = kids[i] := by unfold rd_T24; rw [Int.toNat_natCast, List.getD_eq_getElem?_getD, List.getElem?_eq_getElem hlt]; rfl
    obtain ⟨e1, hw⟩ := IH kids[i] (List.getElem_mem _)
    rw [List.drop_eq_getElem_cons hlt, List.map_cons, List.sum_cons] at hs
    rw [List.drop_eq_getElem_cons hlt, List.flatMap_cons, ← List.append_assoc]
    have hn := ih (i + 1) (acc ++ g kids[i]) (by omega) (by omega) (by rw [List.length_append]; omega)
    refine Ev.step (f := fun k => (colloquyref12_All.f k kids[i].f0 kids[i].f1 kids[i].f2 kids[i].f3).bind fun t => colloquyref12_All.l1 k acc i t ((0 : Nat) : Int) kd nm vl kids) (fun k => by simp only [colloquyref12_All.l0]; rw [if_pos (by omega), if_pos (by omega), hy]; rfl) (Ev.bind e1 ?_)
    refine ra_one (by omega) (by omega) (g kids[i]).length 0 acc (by omega) (by omega) (by omega) ?_
    rw [List.drop_zero]
    exact hn
theorem all_ev : ∀ (d : Nat) (x : S24), rightB d x = true → wtN d x ≤ 4194304 → Ev (fun k => colloquyref12_All.f k x.f0 x.f1 x.f2 x.f3) (leafN d x) := by
  intro d
  induction d with
  | zero => intro x h; cases h
  | succ d ih =>
    intro x h hw
    obtain ⟨hk, hsh⟩ := rightB_kids h
    have hkd := wt_kids (d := d) (x := x)
    have hkl := sum_len (wt_pos d) x.f3
    unfold leafN
    by_cases h0 : x.f3.length = 0
    · rw [if_pos h0]
      exact Ev.step (f := fun _ => some [x.f1]) (fun k => by rw [colloquyref12_All.f, if_pos (by omega)]) (Ev.now _)
    · rw [if_neg h0]
      refine Ev.step (f := fun k => colloquyref12_All.l0 k [] ((0 : Nat) : Int) x.f0 x.f1 x.f2 x.f3) (fun k => by rw [colloquyref12_All.f, if_neg (by omega)]; rfl) ?_
      have := ra_loop (nm := x.f1) (vl := x.f2) (kd := x.f0) (kids := x.f3) (g := leafN d) (wt := wtN d) (by omega) (fun y hy => ⟨ih y (hk y hy) (by
        have := le_sum_mem (List.mem_map.2 ⟨y, hy, rfl⟩ : wtN d y ∈ x.f3.map (wtN d))
        omega), leaf_le d y⟩) x.f3.length 0 [] (by omega) (by omega) (by rw [List.drop_zero, List.length_nil]; omega)
      rw [List.drop_zero, List.nil_append] at this
      exact this
def sameN (nm : ByteArray) (y : ByteArray) : Bool := y.toList == nm.toList
theorem ask_loop {nm vl q : ByteArray} {kd : Int} {kids : List S24} {g : S24 → Bool} (hk : kids.length ≤ 4194304) (IH : ∀ y ∈ kids, Ev (fun k => colloquyref12_Asks.f k y.f0 y.f1 y.f2 y.f3 q) (g y)) :
    ∀ (m i : Nat), i ≤ kids.length → m = kids.length - i → Ev (fun k => colloquyref12_Asks.l0 k q i kd nm vl kids) ((kids.drop i).any g) := by
  intro m
  induction m with
  | zero =>
    intro i hi hm
    rw [List.drop_of_length_le (by omega)]
    exact Ev.step (f := fun _ => some false) (fun k => by simp only [colloquyref12_Asks.l0]; rw [if_neg (by omega)]) (Ev.now _)
  | succ m ih =>
    intro i hi hm
    have e : wrap64 ((i : Int) + 1) = ((i + 1 : Nat) : Int) := by unfold wrap64; omega
    have hlt : i < kids.length := by omega
    have hy : rd_T24 kids i = kids[i] := by unfold rd_T24; rw [Int.toNat_natCast, List.getD_eq_getElem?_getD, List.getElem?_eq_getElem hlt]; rfl
    rw [List.drop_eq_getElem_cons hlt, List.any_cons]
    refine Ev.step (f := fun k => (colloquyref12_Asks.f k kids[i].f0 kids[i].f1 kids[i].f2 kids[i].f3 q).bind fun t => if t = true then some true else colloquyref12_Asks.l0 k q ((i + 1 : Nat) : Int) kd nm vl kids) (fun k => by simp only [colloquyref12_Asks.l0]; rw [if_pos (by omega), if_pos (by omega), hy, e]) (Ev.bind (IH _ (List.getElem_mem _)) ?_)
    cases hq : g kids[i]
    · refine Ev.congr (fun k => if_neg Bool.false_ne_true) ?_
      rw [Bool.false_or]
      exact ih (i + 1) (by omega) (by omega)
    · refine Ev.congr (fun k => if_pos rfl) ?_
      rw [Bool.true_or]
      exact Ev.now _
theorem asks_ev (q : ByteArray) : ∀ (d : Nat) (x : S24), rightB d x = true → wtN d x ≤ 4194304 → Ev (fun k => colloquyref12_Asks.f k x.f0 x.f1 x.f2 x.f3 q) ((leafN d x).any (sameN q)) := by
  intro d
  induction d with
  | zero => intro x h; cases h
  | succ d ih =>
    intro x h hw
    obtain ⟨hk, hsh⟩ := rightB_kids h
    have hkd := wt_kids (d := d) (x := x)
    have hkl := sum_len (wt_pos d) x.f3
    unfold leafN
    by_cases h0 : x.f3.length = 0
    · rw [if_pos h0]
      exact Ev.step (f := fun _ => some (x.f1.toList == q.toList)) (fun k => by rw [colloquyref12_Asks.f, if_pos (by omega)]) (Ev.is fun k => by simp [sameN])
    · rw [if_neg h0, List.any_flatMap]
      refine Ev.step (f := fun k => colloquyref12_Asks.l0 k q ((0 : Nat) : Int) x.f0 x.f1 x.f2 x.f3) (fun k => by rw [colloquyref12_Asks.f, if_neg (by omega)]; rfl) ?_
      have := ask_loop (nm := x.f1) (vl := x.f2) (q := q) (kd := x.f0) (kids := x.f3) (g := fun y => (leafN d y).any (sameN q)) (by omega) (fun y hy => ih y (hk y hy) (by
        have := le_sum_mem (List.mem_map.2 ⟨y, hy, rfl⟩ : wtN d y ∈ x.f3.map (wtN d))
        omega)) x.f3.length 0 (by omega) (by omega)
      rw [List.drop_zero] at this
      exact this
/-! a board of fewer properties -/
theorem has_filter (nm vl : ByteArray) (q : S36 → Bool) : ∀ ps : List S36, (∀ p ∈ ps, p.f0.toList = nm.toList → q p = true) → hasB (ps.filter q) nm vl = hasB ps nm vl
  | [], _ => rfl
  | p :: ps, h => by
    have ih := has_filter nm vl q ps (fun y hy => h y (List.mem_cons_of_mem _ hy))
    by_cases hn : p.f0.toList = nm.toList
    · rw [List.filter_cons_of_pos (h p (List.mem_cons_self ..) hn), has_cons, has_cons, if_pos hn, if_pos hn]
    · by_cases hq : q p = true
      · rw [List.filter_cons_of_pos hq, has_cons, has_cons, if_neg hn, if_neg hn, ih]
      · rw [List.filter_cons_of_neg hq, has_cons, if_neg hn, ih]
theorem hold_filter (q : S36 → Bool) (ps : List S36) : ∀ (d : Nat) (x : S24), rightB d x = true → (∀ nm ∈ leafN d x, ∀ p ∈ ps, p.f0.toList = nm.toList → q p = true) → holdB (ps.filter q) d x = holdB ps d x
  | 0, _, h, _ => by cases h
  | d + 1, x, h, hl => by
    obtain ⟨hk, hsh⟩ := rightB_kids h
    rcases kind_of h with ⟨h12, hw, hn⟩ | ⟨h3, h1⟩ | ⟨h45, hb, h2⟩
    · have hh : hasB (ps.filter q) x.f1 x.f2 = hasB ps x.f1 x.f2 := has_filter x.f1 x.f2 q ps (fun p hp => hl x.f1 (by unfold leafN; rw [if_pos (by rw [hn]; rfl)]; exact List.mem_singleton.2 rfl) p hp)
      unfold holdB
      rw [hh]
      rcases h12 with e | e
      · rw [if_pos e, if_pos e]
      · rw [if_neg (by omega), if_pos e, if_neg (by omega), if_pos e]
    all_goals
      have hk2 : ∀ y ∈ x.f3, holdB (ps.filter q) d y = holdB ps d y := fun y hy => hold_filter q ps d y (hk y hy) (fun nm hm => hl nm (by
        unfold leafN
        rw [if_neg (by omega)]
        exact List.mem_flatMap.2 ⟨y, hy, hm⟩))
      have e1 : ¬ x.f0 = 1 := by omega
      have e2 : ¬ x.f0 = 2 := by omega
      unfold holdB
      simp only [if_neg e1, if_neg e2]
    · rw [if_pos h3, if_pos h3, hk2 _ (getD0_mem h1)]
    · have e3 : ¬ x.f0 = 3 := by omega
      simp only [if_neg e3]
      rw [all_congr hk2, any_congr hk2]
end Go.Proofs.Ytjndcgochnaodaa.PA
