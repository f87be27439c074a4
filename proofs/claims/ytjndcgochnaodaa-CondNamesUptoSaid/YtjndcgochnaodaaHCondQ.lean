/- Conditions: what the calls of the law of names come to. -/
import Derived.Test.YtjndcgochnaodaaHCondN
import Derived.Test.YtjndcgochnaodaaHCondO
namespace Go.Proofs.Ytjndcgochnaodaa.PA
open Go.RowKit Go.Proofs.YtjndcgochnaodaaW.PrintWords Go.Proofs.YtjndcgochnaodaaW.PrintLast Go.Proofs.YtjndcgochnaodaaW.PrintMore
set_option linter.unusedVariables false
theorem tolist_data (s : ByteArray) : s.toList = s.data.toList := ByteArray.toList_eq ..
structure NamesOk (x : S24) (b : ByteArray) (ps : List S36) (n : Nat) (LV r : List ByteArray) : Prop where
  all : colloquyref12_All.f n x.f0 x.f1 x.f2 x.f3 = some LV
  asks : ∀ q, ∃ m, colloquyref12_Asks.f m x.f0 x.f1 x.f2 x.f3 q = some (LV.any (sameN q))
  lt : ∀ i : Nat, 0 < i → i < r.length → Op.bytesLess (r.getD (i - 1) ⟨#[]⟩).toList (r.getD i ⟨#[]⟩).toList = true
  sub : ∀ m ∈ r, LV.any (sameN m) = true
  sup : ∀ q ∈ LV, r.any (fun m => m.toList == q.toList) = true
  holds : ∃ k hv, cond_Holds.f k x.f0 x.f1 x.f2 x.f3 b ps = some hv ∧ cond_Holds.f k x.f0 x.f1 x.f2 x.f3 E_ (ps.filter (fun p => LV.any (sameN p.f0))) = some hv
theorem facts_names (x : S24) (b : ByteArray) (ps : List S36) (hs : smallN 20 x) (hw : wtN 21 x ≤ 1048576) :
    ∃ (n : Nat) (t : Bool) (LV r : List ByteArray), cond_Names.f n x.f0 x.f1 x.f2 x.f3 = some r ∧ colloquyref12_Right.f n x.f0 x.f1 x.f2 x.f3 20 = some t ∧ (t = false → r = []) ∧ (t = true → NamesOk x b ps n LV r) := by
  have hw20 : wtN 20 x ≤ 1048576 := Nat.le_trans (wt_up 20 x) hw
  obtain ⟨k1, h1⟩ := rright_ev 20 x (by omega) hs
  obtain ⟨k2, h2⟩ := Right_ev x hs
  have hll := leaf_le 20 x
  cases hR : rightB 20 x with
  | false =>
    obtain ⟨n, hN⟩ : ∃ n, n = k1 + k2 := ⟨_, rfl⟩
    refine ⟨n, _, [], [], ?_, h1 n (by omega), fun _ => rfl, fun h => absurd (hR.symm.trans h) (by decide)⟩
    have e : cond_Right.f n x.f0 x.f1 x.f2 x.f3 = some false := (h2 n (by omega)).trans (congrArg some hR)
    unfold cond_Names.f
    rw [e, Option.bind_some, if_neg Bool.false_ne_true, Option.bind_some, if_pos (by simp), sorted_nil]
  | true =>
    obtain ⟨k3, h3⟩ := names_ev 20 x hR hs [] (by simp only [List.length_nil]; omega)
    obtain ⟨k4, h4⟩ := all_ev 20 x hR (by omega)
    obtain ⟨k5, h5⟩ := Holds_ev b ps x hs
    obtain ⟨k6, h6⟩ := Holds_ev E_ (ps.filter (fun p => (leafN 20 x).any (sameN p.f0))) x hs
    obtain ⟨n, hN⟩ : ∃ n, n = k1 + k2 + k3 + k4 + k5 + k6 := ⟨_, rfl⟩
    refine ⟨n, _, leafN 20 x, sortedN (leafN 20 x), ?_, h1 n (by omega), fun h => absurd (hR.symm.trans h) (by decide), fun _ => ⟨h4 n (by omega), fun q => (asks_ev q 20 x hR (by omega)).rounds, fun i h0 hi => ?_, fun m hm => ?_, fun q hq => ?_, ?_⟩⟩
    · have e : cond_Right.f n x.f0 x.f1 x.f2 x.f3 = some true := (h2 n (by omega)).trans (congrArg some hR)
      have e2 : cond_names.f n x.f1 x.f3 [] = some (leafN 20 x) := h3 n (by omega)
      unfold cond_Names.f
      rw [e, Option.bind_some, if_pos rfl, e2, Option.bind_some, if_pos (by omega)]
    · have hp := List.pairwise_iff_getElem.1 (sorted_lt (leafN 20 x)) (i - 1) i (by omega) hi (by omega)
      rw [Go.Proofs.bytesLess_eq, List.getD_eq_getElem?_getD, List.getD_eq_getElem?_getD, List.getElem?_eq_getElem hi, List.getElem?_eq_getElem (show i - 1 < _ by omega), tolist_data, tolist_data]
      exact decide_eq_true hp
    · obtain ⟨y, hy, e⟩ := (sorted_mem _ m).1 hm
      exact List.any_eq_true.2 ⟨y, hy, by unfold sameN; rw [tolist_data, tolist_data, e]; simp⟩
    · exact List.any_eq_true.2 ⟨q, (sorted_mem _ q).2 ⟨q, hq, rfl⟩, by simp⟩
    · refine ⟨n, _, h5 n (by omega), (h6 n (by omega)).trans (congrArg some ?_)⟩
      rw [hold_filter _ ps 20 x hR (fun nm hm p hp e => List.any_eq_true.2 ⟨nm, hm, by unfold sameN; rw [e]; simp⟩)]
theorem any_take {α : Type} {q : α → Bool} {l : List α} {i : Nat} (z : α) (h : i < l.length) : (l.take (i + 1)).any q = ((l.take i).any q || q (l.getD i z)) := by
  rw [List.take_add_one, List.any_append, List.getD_eq_getElem?_getD, List.getElem?_eq_getElem h]
  simp
theorem filter_take {α : Type} {q : α → Bool} {l : List α} {i : Nat} (z : α) (h : i < l.length) : (l.take (i + 1)).filter q = (l.take i).filter q ++ (if q (l.getD i z) = true then [l.getD i z] else []) := by
  rw [List.take_add_one, List.filter_append, List.getD_eq_getElem?_getD, List.getElem?_eq_getElem h]
  simp only [Option.getD_some, Option.toList_some]
  by_cases hq : q l[i] = true
  · rw [if_pos hq, List.filter_cons_of_pos hq, List.filter_nil]
  · rw [if_neg hq, List.filter_cons_of_neg hq, List.filter_nil]
end Go.Proofs.Ytjndcgochnaodaa.PA
