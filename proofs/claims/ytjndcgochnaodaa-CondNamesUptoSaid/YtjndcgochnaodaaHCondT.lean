/- Conditions: what the calls of the law of parts come to. -/
import Derived.Test.YtjndcgochnaodaaHCondS
namespace Go.Proofs.Ytjndcgochnaodaa.PA
open Go.RowKit Go.Proofs.YtjndcgochnaodaaW.PrintWords Go.Proofs.YtjndcgochnaodaaW.PrintLast Go.Proofs.YtjndcgochnaodaaW.PrintMore
set_option linter.unusedVariables false
def E_ : ByteArray := ⟨#[]⟩
theorem rightB_up : ∀ (d : Nat) (x : S24), rightB d x = true → rightB (d + 1) x = true
  | 0, _, h => by cases h
  | d + 1, x, h => by
    obtain ⟨hk, hs⟩ := rightB_kids h
    show (x.f3.all (rightB (d + 1)) && shapeB x.f0 x.f1 x.f2 x.f3) = true
    rw [Bool.and_eq_true, List.all_eq_true]
    exact ⟨fun y hy => rightB_up d y (hk y hy), hs⟩
theorem all_congr {α : Type} {p q : α → Bool} : ∀ {l : List α}, (∀ y ∈ l, p y = q y) → l.all p = l.all q
  | [], _ => rfl
  | x :: xs, h => by rw [List.all_cons, List.all_cons, h x (List.mem_cons_self ..), all_congr fun y hy => h y (List.mem_cons_of_mem _ hy)]
theorem any_congr {α : Type} {p q : α → Bool} : ∀ {l : List α}, (∀ y ∈ l, p y = q y) → l.any p = l.any q
  | [], _ => rfl
  | x :: xs, h => by rw [List.any_cons, List.any_cons, h x (List.mem_cons_self ..), any_congr fun y hy => h y (List.mem_cons_of_mem _ hy)]
theorem holdB_up (ps : List S36) : ∀ (d : Nat) (x : S24), rightB d x = true → holdB ps (d + 1) x = holdB ps d x
  | 0, _, h => by cases h
  | d + 1, x, h => by
    obtain ⟨hk, hs⟩ := rightB_kids h
    have ih : ∀ y ∈ x.f3, holdB ps (d + 1) y = holdB ps d y := fun y hy => holdB_up ps d y (hk y hy)
    rw [holdB]
    conv => rhs; rw [holdB]
    by_cases h1 : x.f0 = 1
    · rw [if_pos h1, if_pos h1]
    rw [if_neg h1, if_neg h1]
    by_cases h2 : x.f0 = 2
    · rw [if_pos h2, if_pos h2]
    rw [if_neg h2, if_neg h2]
    by_cases h3 : x.f0 = 3
    · rw [if_pos h3, if_pos h3, ih _ (getD0_mem (shape_one hs h3))]
    rw [if_neg h3, if_neg h3, all_congr ih, any_congr ih]
theorem wt_up : ∀ (n : Nat) (x : S24), wtN n x ≤ wtN (n + 1) x
  | 0, x => wt_pos 1 x
  | n + 1, x => by
    have h : ∀ l : List S24, (l.map (wtN n)).sum ≤ (l.map (wtN (n + 1))).sum := by
      intro l
      induction l with
      | nil => simp
      | cons y ys ih =>
        have := wt_up n y
        rw [List.map_cons, List.map_cons, List.sum_cons, List.sum_cons]
        omega
    have := h x.f3
    unfold wtN
    omega
theorem shape_e (kd : Int) (kids : List S24) (h : (kd = 3 ∧ kids.length = 1) ∨ ((kd = 4 ∨ kd = 5) ∧ 2 ≤ kids.length)) : shapeB kd E_ E_ kids = true := by
  have e : bareB E_ E_ = true := by kernel_rfl
  unfold shapeB
  rcases h with ⟨rfl, h⟩ | ⟨h1, h2⟩
  · rw [if_neg (by decide), if_pos rfl, e, h]; rfl
  · rw [if_neg (by omega), if_neg (by omega), if_pos h1, e, decide_eq_true h2]; rfl
/-- What is asked of the two conditions of the law of parts. -/
structure PartsOk (x : S24) : Prop where
  small : smallN 19 x
  right : rightB 18 x = true
theorem PartsOk.kid {x : S24} (h : PartsOk x) (ps : List S36) : rightB 19 x = true ∧ rightB 20 x = true ∧ smallN 18 x ∧ holdB ps 19 x = holdB ps 18 x ∧ holdB ps 20 x = holdB ps 18 x := by
  have h1 := rightB_up 18 x h.right
  exact ⟨h1, rightB_up 19 x h1, smallN_le 18 x h.small, holdB_up ps 18 x h.right, (holdB_up ps 19 x h1).trans (holdB_up ps 18 x h.right)⟩
theorem holds_at (b : ByteArray) (ps : List S36) (x : S24) (hs : smallN 20 x) (hr : rightB 20 x = true) {v : Bool} (hv : holdB ps 20 x = v) : ∃ K, ∀ k, K ≤ k → cond_Holds.f k x.f0 x.f1 x.f2 x.f3 b ps = some v := by
  obtain ⟨K, hK⟩ := Holds_ev b ps x hs
  exact ⟨K, fun k hk => by
    have := hK k hk
    rw [hr, hv, Bool.true_and] at this
    exact this⟩
theorem facts_parts (a c : S24) (b : ByteArray) (ps : List S36) (ha : PartsOk a) (hc : PartsOk c) (ha20 : smallN 20 a) (hc20 : smallN 20 c) (hw : wtN 21 a ≤ 1048576) :
    ∃ (n : Nat) (x y : Bool) (r : CondR), cond_Holds.f n a.f0 a.f1 a.f2 a.f3 b ps = some x ∧ cond_Holds.f n c.f0 c.f1 c.f2 c.f3 b ps = some y ∧ cond_Holds.f n 3 E_ E_ [a] b ps = some (!x) ∧ cond_Holds.f n 3 E_ E_ [(⟨3, E_, E_, [a]⟩ : S24)] b ps = some x ∧ cond_Holds.f n 4 E_ E_ [a, c] b ps = some (x && y) ∧ cond_Holds.f n 5 E_ E_ [a, c] b ps = some (x || y) ∧
      cond_Simple.f n 3 E_ E_ [(⟨3, E_, E_, [a]⟩ : S24)] = some r ∧ cond_Simple.f n a.f0 a.f1 a.f2 a.f3 = some r ∧ colloquyref12_Same.f n r.1 r.2.1 r.2.2.1 r.2.2.2 r.1 r.2.1 r.2.2.1 r.2.2.2 = some true := by
  obtain ⟨ra19, ra20, sa18, va19, va20⟩ := ha.kid ps
  obtain ⟨rc19, rc20, sc18, vc19, vc20⟩ := hc.kid ps
  have sz0 : E_.size ≤ 281474976710656 := by show 0 ≤ _; omega
  have r1 : ∀ d, rightB d a = true → rightB (d + 1) ⟨3, E_, E_, [a]⟩ = true := fun d h => by
    show (([a] : List S24).all (rightB d) && shapeB 3 E_ E_ [a]) = true
    rw [shape_e 3 [a] (.inl ⟨rfl, rfl⟩)]
    simp [h]
  have r2 : rightB 20 ⟨3, E_, E_, [(⟨3, E_, E_, [a]⟩ : S24)]⟩ = true := by
    show (([(⟨3, E_, E_, [a]⟩ : S24)] : List S24).all (rightB 19) && shapeB 3 E_ E_ [(⟨3, E_, E_, [a]⟩ : S24)]) = true
    rw [shape_e 3 _ (.inl ⟨rfl, rfl⟩)]
    simp [r1 18 ha.right]
  have r4 : ∀ kd : Int, kd = 4 ∨ kd = 5 → rightB 20 ⟨kd, E_, E_, [a, c]⟩ = true := fun kd h => by
    show (([a, c] : List S24).all (rightB 19) && shapeB kd E_ E_ [a, c]) = true
    rw [shape_e kd [a, c] (.inr ⟨h, Nat.le_refl _⟩)]
    simp [ra19, rc19]
  have s1 : smallN 20 ⟨3, E_, E_, [a]⟩ := ⟨sz0, by show 1 ≤ _; omega, fun y hy => by rw [List.mem_singleton.1 hy]; exact ha.small⟩
  have s2 : smallN 20 ⟨3, E_, E_, [(⟨3, E_, E_, [a]⟩ : S24)]⟩ := ⟨sz0, by show 1 ≤ _; omega, fun y hy => by rw [List.mem_singleton.1 hy]; exact ⟨sz0, by show 1 ≤ _; omega, fun y hy => by rw [List.mem_singleton.1 hy]; exact sa18⟩⟩
  have s4 : ∀ kd : Int, smallN 20 ⟨kd, E_, E_, [a, c]⟩ := fun kd => ⟨sz0, by show 2 ≤ _; omega, fun y hy => by
    rcases List.mem_cons.1 hy with rfl | hy
    · exact ha.small
    · rw [List.mem_singleton.1 hy]; exact hc.small⟩
  obtain ⟨k1, h1⟩ := holds_at b ps a ha20 ra20 va20
  obtain ⟨k2, h2⟩ := holds_at b ps c hc20 rc20 vc20
  obtain ⟨k3, h3⟩ := holds_at b ps ⟨3, E_, E_, [a]⟩ s1 (r1 19 ra19) (v := !holdB ps 18 a) (by rw [← va19]; rfl)
  obtain ⟨k4, h4⟩ := holds_at b ps ⟨3, E_, E_, [(⟨3, E_, E_, [a]⟩ : S24)]⟩ s2 r2 (v := holdB ps 18 a) (by show (!!holdB ps 18 a) = _; rw [Bool.not_not])
  obtain ⟨k5, h5⟩ := holds_at b ps ⟨4, E_, E_, [a, c]⟩ (s4 4) (r4 4 (.inl rfl)) (v := holdB ps 18 a && holdB ps 18 c) (by rw [← va19, ← vc19]; show (holdB ps 19 a && (holdB ps 19 c && true)) = _; rw [Bool.and_true])
  obtain ⟨k6, h6⟩ := holds_at b ps ⟨5, E_, E_, [a, c]⟩ (s4 5) (r4 5 (.inr rfl)) (v := holdB ps 18 a || holdB ps 18 c) (by rw [← va19, ← vc19]; show (holdB ps 19 a || (holdB ps 19 c || false)) = _; rw [Bool.or_false])
  obtain ⟨r, ⟨k7, h7⟩, _, hn⟩ := simp_ex 18 a false ha.right (Nat.le_trans (wt_up 18 a) (Nat.le_trans (wt_up 19 a) (Nat.le_trans (wt_up 20 a) (Nat.le_trans hw (by decide)))))
  obtain ⟨k8, h8⟩ := same_ev _ (ofR r) (Nat.lt_succ_self _) hn
  obtain ⟨k9, h9⟩ := Right_ev a ha20
  obtain ⟨k10, h10⟩ := Right_ev ⟨3, E_, E_, [(⟨3, E_, E_, [a]⟩ : S24)]⟩ s2
  obtain ⟨n, hN⟩ : ∃ n, n = k1 + k2 + k3 + k4 + k5 + k6 + k7 + k8 + k9 + k10 + 2 := ⟨_, rfl⟩
  have e9 : cond_Right.f n a.f0 a.f1 a.f2 a.f3 = some true := (h9 n (by omega)).trans (congrArg some ra20)
  have e10 : cond_Right.f n 3 E_ E_ [(⟨3, E_, E_, [a]⟩ : S24)] = some true := (h10 n (by omega)).trans (congrArg some r2)
  refine ⟨n, _, _, r, h1 _ (by omega), h2 _ (by omega), h3 _ (by omega), h4 _ (by omega), h5 _ (by omega), h6 _ (by omega), ?_, ?_, h8 _ (by omega)⟩
  · unfold cond_Simple.f
    rw [e10, Option.bind_some, if_pos rfl]
    obtain ⟨m, rfl⟩ : ∃ m, n = m + 1 + 1 := ⟨k1 + k2 + k3 + k4 + k5 + k6 + k7 + k8 + k9 + k10, by omega⟩
    rw [cond_simple.f, if_pos rfl, if_pos (by show (0 : Int) < 1; decide)]
    show cond_simple.f (m + 1) 3 E_ E_ [a] (!false) = some r
    rw [cond_simple.f, if_pos rfl, if_pos (by show (0 : Int) < 1; decide)]
    exact h7 m (by omega)
  · unfold cond_Simple.f
    rw [e9, Option.bind_some, if_pos rfl]
    exact h7 n (by omega)
end Go.Proofs.Ytjndcgochnaodaa.PA
