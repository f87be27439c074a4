/- The names of a set of texts, each once and rising. -/
import Derived.Test.YtjndcgochnaodaaGMix3
import Derived.WideShapes
import Derived.Sort.Walk0
namespace Go.Proofs.Ytjndcgochnaodaa.PA
open Go.RowKit Go.Maps Go.Sort Go.Proofs.YtjndcgochnaodaaW.PrintWords Go.Proofs.YtjndcgochnaodaaW.PrintLast Go.Proofs.YtjndcgochnaodaaW.PrintMore
set_option linter.unusedVariables false
theorem strs_fold (u : DataW Unit) : ∀ (acc : List Lit) (es : List (Lit × DataW Unit)), (∀ p ∈ es, ∃ x, p.1 = .string x) → (∀ k ∈ acc, ∃ x, k = .string x) → ∃ es' : List (Lit × DataW Unit), acc.foldl (fun (m : DataW Unit) x => m.put x u) (.map es) = .map es' ∧ ∀ p ∈ es', ∃ x, p.1 = .string x
  | [], es, h, _ => ⟨es, rfl, h⟩
  | k :: r, es, h, hk => by
    refine strs_fold u r (DataW.insert (k, u) (es.filter fun p => !p.1.sameKey k)) (fun p hp => ?_) (fun y hy => hk y (List.mem_cons_of_mem _ hy))
    rcases List.mem_cons.1 ((Go.WideShapes.insert_perm (k, u) _).mem_iff.1 hp) with rfl | hp
    · exact hk k (List.mem_cons_self ..)
    · exact h p (List.mem_filter.1 hp).1
theorem lits_str (ns : List ByteArray) : ∀ k ∈ ns.map litS, ∃ x, k = .string x := fun k hk => by
  obtain ⟨n, _, rfl⟩ := List.mem_map.1 hk
  exact ⟨_, rfl⟩
theorem lits_key (ns : List ByteArray) : ∀ k ∈ ns.map litS, WideAt.IsKeyLit k := fun k hk => by
  obtain ⟨n, _, rfl⟩ := List.mem_map.1 hk
  trivial
theorem setN_is (ns : List ByteArray) : ∃ es, setN ns = .map es ∧ es.Pairwise (fun p q => p.1 ≠ q.1) ∧ ∀ p ∈ es, ∃ x, p.1 = .string x := by
  obtain ⟨es, h1, h2⟩ := tidy_setOf (.lit (.bool true) : DataW Unit) (ns.map litS) (lits_key ns)
  obtain ⟨es', h3, h4⟩ := strs_fold (.lit (.bool true)) (ns.map litS) [] (fun p hp => by cases hp) (lits_str ns)
  have e : es = es' := by
    have h5 : (DataW.map es : DataW Unit) = .map es' := h1.symm.trans h3
    injection h5
  exact ⟨es, h1, h2, e ▸ h4⟩
theorem keys_mem (ns : List ByteArray) (x : List UInt8) : x ∈ strKeys (setN ns) ↔ ∃ n ∈ ns, n.data.toList = x := by
  obtain ⟨es, h1, h2, h3⟩ := setN_is ns
  have hh : has (setN ns) (.string x) = (ns.map litS).any (fun y => y.sameKey (.string x)) := has_setOf _ _ _ (lits_key ns)
  have h4 : x ∈ strKeys (setN ns) ↔ has (setN ns) (.string x) = true := by
    rw [h1, has_eq, List.any_eq_true]
    show x ∈ es.map (fun p => strOf p.1) ↔ _
    rw [List.mem_map]
    constructor
    · rintro ⟨p, hp, rfl⟩
      obtain ⟨y, hy⟩ := h3 p hp
      exact ⟨p, hp, by rw [hy]; exact WideAt.sameKey_self (a := .string y) trivial⟩
    · rintro ⟨p, hp, hs⟩
      exact ⟨p, hp, by rw [WideAt.sameKey_eq hs]; rfl⟩
  rw [h4, hh, List.any_eq_true]
  constructor
  · rintro ⟨k, hk, hs⟩
    obtain ⟨n, hn, rfl⟩ := List.mem_map.1 hk
    have := WideAt.sameKey_eq hs
    unfold litS at this
    injection this with this
    exact ⟨n, hn, this⟩
  · rintro ⟨n, hn, rfl⟩
    exact ⟨litS n, List.mem_map.2 ⟨n, hn, rfl⟩, WideAt.sameKey_self (a := litS n) trivial⟩
theorem keys_nodup (ns : List ByteArray) : (strKeys (setN ns)).Nodup := by
  obtain ⟨es, h1, h2, h3⟩ := setN_is ns
  rw [h1]
  show (es.map fun p => strOf p.1).Nodup
  refine List.pairwise_map.2 (h2.imp_of_mem fun {p q} hp hq hne e => hne ?_)
  obtain ⟨a, ha⟩ := h3 p hp
  obtain ⟨b, hb⟩ := h3 q hq
  rw [ha, hb] at e ⊢
  exact congrArg _ e
theorem sorted_mem (ns : List ByteArray) (m : ByteArray) : m ∈ sortedN ns ↔ ∃ n ∈ ns, n.data.toList = m.data.toList := by
  unfold sortedN
  rw [List.mem_map]
  constructor
  · rintro ⟨l, hl, rfl⟩
    rw [List.mem_mergeSort] at hl
    obtain ⟨n, hn, e⟩ := (keys_mem ns l).1 hl
    exact ⟨n, hn, by rw [e]⟩
  · rintro ⟨n, hn, e⟩
    exact ⟨m.data.toList, by rw [List.mem_mergeSort]; exact (keys_mem ns _).2 ⟨n, hn, e⟩, rfl⟩
theorem sorted_lt (ns : List ByteArray) : (sortedN ns).Pairwise (fun a b => a.data.toList < b.data.toList) := by
  unfold sortedN
  have tr : ∀ a b c : List UInt8, decide (a ≤ b) = true → decide (b ≤ c) = true → decide (a ≤ c) = true := fun a b c h1 h2 => by simp only [decide_eq_true_eq] at *; exact List.le_trans h1 h2
  have tot : ∀ a b : List UInt8, (decide (a ≤ b) || decide (b ≤ a)) = true := fun a b => by simp only [Bool.or_eq_true, decide_eq_true_eq]; exact List.le_total a b
  have hs := List.pairwise_mergeSort tr tot (strKeys (setN ns))
  have hn : ((strKeys (setN ns)).mergeSort (fun x y => decide (x ≤ y))).Nodup := (List.mergeSort_perm _ _).nodup_iff.2 (keys_nodup ns)
  refine List.pairwise_map.2 ((hs.and hn).imp fun {a b} h => ?_)
  have h1 : a ≤ b := of_decide_eq_true h.1
  show a < b
  rcases Classical.em (a < b) with h2 | h2
  · exact h2
  · exact absurd (List.le_antisymm h1 h2) h.2
theorem sorted_len (ns : List ByteArray) : (sortedN ns).length = (strKeys (setN ns)).length := by
  unfold sortedN
  rw [List.length_map, List.length_mergeSort]
section
variable {P : Program} {o : Oper} {a : Act} {w : World} {t yt : TypeId} {x y : Operand} {s u : ByteArray}
theorem op_ges (ho : o.op = .binOp .geq t x y yt) (hx : a.eval x = .string s) (hy : a.eval y = .string u) : Runs P o a w (.bool (!Op.bytesLess s.toList u.toList)) w := by
  unfold Runs execOp
  simp only [ho, hx, hy]
  simp [go_sem]
end
theorem str_openF {w : World} {ok : Nat → Prop} {m : ByteArray} {cs : List Value} (h : Kd.FK Kd.string w ok m cs) : cs = [.string m] := Kd.FK_now h
theorem sorted_nil : sortedN [] = [] := by kernel_rfl
end Go.Proofs.Ytjndcgochnaodaa.PA
