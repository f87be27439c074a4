/- Conditions: the simple form in plain words: it is right, holds as the condition does, and is its own. -/
import Derived.Test.YtjndcgochnaodaaHCondT
namespace Go.Proofs.Ytjndcgochnaodaa.PA
open Go.RowKit Go.Proofs.YtjndcgochnaodaaW.PrintWords Go.Proofs.YtjndcgochnaodaaW.PrintLast Go.Proofs.YtjndcgochnaodaaW.PrintMore
set_option linter.unusedVariables false
theorem wt_kids {d : Nat} {x : S24} : (x.f3.map (wtN d)).sum ≤ wtN (d + 1) x := by
  conv => rhs; unfold wtN
  omega
def expB (kk : Int) (p : S24) : List S24 := if p.f0 = kk ∧ 0 < (p.f3.length : Int) then p.f3 else [p]
def flipK (fl : Bool) (kd : Int) : Int := if fl = true then rd [0, 2, 1, 0, 5, 4] kd else kd
def simpB : Nat → Bool → S24 → S24
  | 0, _, x => x
  | d + 1, fl, x => if x.f0 = 3 then simpB d (!fl) (x.f3.getD 0 z24) else ⟨flipK fl x.f0, x.f1, x.f2, (x.f3.map (simpB d fl)).flatMap (expB (flipK fl x.f0))⟩
def nfB : Nat → S24 → Bool
  | 0, _ => false
  | d + 1, s => s.f3.all (fun y => nfB d y && decide (y.f0 ≠ s.f0)) && decide (s.f0 ≠ 3)
theorem nfB_up : ∀ (d : Nat) (s : S24), nfB d s = true → nfB (d + 1) s = true
  | 0, _, h => by cases h
  | d + 1, s, h => by
    unfold nfB at h ⊢
    rw [Bool.and_eq_true, List.all_eq_true] at h ⊢
    exact ⟨fun y hy => by
      have := h.1 y hy
      rw [Bool.and_eq_true] at this ⊢
      exact ⟨nfB_up d y this.1, this.2⟩, h.2⟩
theorem kind_of {d : Nat} {x : S24} (h : rightB (d + 1) x = true) : ((x.f0 = 1 ∨ x.f0 = 2) ∧ wordB x.f1 = true ∧ x.f3 = []) ∨ (x.f0 = 3 ∧ x.f3.length = 1) ∨ ((x.f0 = 4 ∨ x.f0 = 5) ∧ bareB x.f1 x.f2 = true ∧ 2 ≤ x.f3.length) := by
  have hs := (rightB_kids h).2
  unfold shapeB at hs
  split at hs
  · rename_i h1
    rw [Bool.and_eq_true] at hs
    exact .inl ⟨h1, hs.1, List.length_eq_zero_iff.1 (by simpa using hs.2)⟩
  · split at hs
    · rename_i h3
      rw [Bool.and_eq_true] at hs
      exact .inr (.inl ⟨h3, by simpa using hs.2⟩)
    · split at hs
      · rename_i h4
        rw [Bool.and_eq_true] at hs
        exact .inr (.inr ⟨h4, hs.1, by simpa using hs.2⟩)
      · cases hs
structure Simp (d : Nat) (fl : Bool) (x s : S24) : Prop where
  kind : s.f0 = 1 ∨ s.f0 = 2 ∨ s.f0 = 4 ∨ s.f0 = 5
  right : rightB d s = true
  nf : nfB d s = true
  hold : ∀ ps, holdB ps d s = (holdB ps d x != fl)
theorem Simp.two {d : Nat} {fl : Bool} {x s : S24} (h : Simp d fl x s) (h4 : s.f0 = 4 ∨ s.f0 = 5) : 2 ≤ s.f3.length := by
  cases d with
  | zero => have := h.right; cases this
  | succ d => rcases kind_of h.right with ⟨h1, _⟩ | ⟨h1, _⟩ | ⟨_, _, h2⟩ <;> first | omega | exact h2
theorem Simp.up {d : Nat} {fl : Bool} {x s : S24} (hx : rightB d x = true) (h : Simp d fl x s) : Simp (d + 1) fl x s :=
  ⟨h.kind, rightB_up d s h.right, nfB_up d s h.nf, fun ps => by rw [holdB_up ps d s h.right, holdB_up ps d x hx, h.hold ps]⟩
theorem flip_45 {fl : Bool} {kd : Int} (h : kd = 4 ∨ kd = 5) : (flipK fl kd = 4 ∧ ((kd = 4 ∧ fl = false) ∨ (kd = 5 ∧ fl = true))) ∨ (flipK fl kd = 5 ∧ ((kd = 5 ∧ fl = false) ∨ (kd = 4 ∧ fl = true))) := by
  rcases h with rfl | rfl <;> cases fl <;> simp [flipK, rd]
theorem flip_12 {fl : Bool} {kd : Int} (h : kd = 1 ∨ kd = 2) : (flipK fl kd = 1 ∧ ((kd = 1 ∧ fl = false) ∨ (kd = 2 ∧ fl = true))) ∨ (flipK fl kd = 2 ∧ ((kd = 2 ∧ fl = false) ∨ (kd = 1 ∧ fl = true))) := by
  rcases h with rfl | rfl <;> cases fl <;> simp [flipK, rd]
theorem exp_len {kk : Int} {p : S24} : 1 ≤ (expB kk p).length := by
  unfold expB
  split
  · omega
  · simp
theorem flat_len {kk : Int} : ∀ P : List S24, P.length ≤ (P.flatMap (expB kk)).length
  | [] => by simp
  | p :: P => by
    have := flat_len (kk := kk) P
    have := exp_len (kk := kk) (p := p)
    rw [List.flatMap_cons, List.length_append, List.length_cons]
    omega
theorem simp_is : ∀ (d : Nat) (fl : Bool) (x : S24), rightB d x = true → Simp d fl x (simpB d fl x) := by
  intro d
  induction d with
  | zero => intro fl x h; cases h
  | succ d ih =>
    intro fl x h
    obtain ⟨hk, hsh⟩ := rightB_kids h
    unfold simpB
    rcases kind_of h with ⟨h12, hw, hn⟩ | ⟨h3, hl⟩ | ⟨h45, hb, h2⟩
    · rw [if_neg (by omega)]
      have hf := flip_12 (fl := fl) h12
      have hz : (x.f3.map (simpB d fl)).flatMap (expB (flipK fl x.f0)) = [] := by rw [hn]; rfl
      rw [hz]
      refine ⟨by show flipK fl x.f0 = 1 ∨ flipK fl x.f0 = 2 ∨ flipK fl x.f0 = 4 ∨ flipK fl x.f0 = 5; omega, ?_, ?_, fun ps => ?_⟩
      · show (([] : List S24).all (rightB d) && shapeB (flipK fl x.f0) x.f1 x.f2 []) = true
        unfold shapeB
        rw [if_pos (by omega), hw]
        rfl
      · show (([] : List S24).all _ && decide (flipK fl x.f0 ≠ 3)) = true
        rw [List.all_nil, decide_eq_true (by omega)]
        rfl
      · unfold holdB
        generalize flipK fl x.f0 = kk at hf ⊢
        rcases hf with ⟨rfl, ⟨e1, rfl⟩ | ⟨e1, rfl⟩⟩ | ⟨rfl, ⟨e1, rfl⟩ | ⟨e1, rfl⟩⟩ <;> simp [e1]
    · rw [if_pos h3]
      have hm := getD0_mem hl
      have := Simp.up (hk _ hm) (ih (!fl) _ (hk _ hm))
      refine ⟨this.kind, this.right, this.nf, fun ps => ?_⟩
      rw [this.hold ps, holdB_up ps d _ (hk _ hm)]
      conv => rhs; unfold holdB
      rw [if_neg (by omega), if_neg (by omega), if_pos h3]
      cases holdB ps d (x.f3.getD 0 z24) <;> cases fl <;> rfl
    · rw [if_neg (by omega)]
      have hf := flip_45 (fl := fl) h45
      generalize hkk : flipK fl x.f0 = kk at hf
      have hkk45 : kk = 4 ∨ kk = 5 := by omega
      have hin : ∀ q ∈ (x.f3.map (simpB d fl)).flatMap (expB kk), rightB d q = true ∧ nfB d q = true ∧ q.f0 ≠ kk := by
        intro q hq
        obtain ⟨p, hp, hq⟩ := List.mem_flatMap.1 hq
        obtain ⟨y, hy, rfl⟩ := List.mem_map.1 hp
        have hS := ih fl y (hk y hy)
        unfold expB at hq
        split at hq
        · rename_i hc
          cases d with
          | zero => have := hk y hy; cases this
          | succ e =>
            have hr := (rightB_kids hS.right).1 q hq
            have hnf := hS.nf
            unfold nfB at hnf
            rw [Bool.and_eq_true, List.all_eq_true] at hnf
            have := hnf.1 q hq
            rw [Bool.and_eq_true] at this
            exact ⟨rightB_up e q hr, nfB_up e q this.1, by have h5 := of_decide_eq_true this.2; rw [hc.1] at h5; exact h5⟩
        · rename_i hc
          rw [List.mem_singleton] at hq
          subst hq
          refine ⟨hS.right, hS.nf, fun e => hc ⟨e, ?_⟩⟩
          have := hS.two (by omega)
          omega
      have hlen : 2 ≤ ((x.f3.map (simpB d fl)).flatMap (expB kk)).length := by
        have := flat_len (kk := kk) (x.f3.map (simpB d fl))
        rw [List.length_map] at this
        omega
      have hall : ∀ ps, ((x.f3.map (simpB d fl)).flatMap (expB 4)).all (holdB ps d) = x.f3.all (fun y => holdB ps d y != fl) := by
        intro ps
        rw [List.all_flatMap, List.all_map]
        refine all_congr fun y hy => ?_
        have hS := ih fl y (hk y hy)
        show (expB 4 (simpB d fl y)).all (holdB ps d) = _
        rw [← hS.hold ps]
        unfold expB
        split
        · rename_i hc
          rw [← holdB_up ps d _ hS.right]
          conv => rhs; unfold holdB
          rw [if_neg (by omega), if_neg (by omega), if_neg (by omega), if_pos hc.1]
        · simp
      have hany : ∀ ps, ((x.f3.map (simpB d fl)).flatMap (expB 5)).any (holdB ps d) = x.f3.any (fun y => holdB ps d y != fl) := by
        intro ps
        rw [List.any_flatMap, List.any_map]
        refine any_congr fun y hy => ?_
        have hS := ih fl y (hk y hy)
        show (expB 5 (simpB d fl y)).any (holdB ps d) = _
        rw [← hS.hold ps]
        unfold expB
        split
        · rename_i hc
          rw [← holdB_up ps d _ hS.right]
          conv => rhs; unfold holdB
          rw [if_neg (by omega), if_neg (by omega), if_neg (by omega), if_neg (by omega)]
        · simp
      refine ⟨by show kk = 1 ∨ kk = 2 ∨ kk = 4 ∨ kk = 5; omega, ?_, ?_, fun ps => ?_⟩
      · show (List.all _ (rightB d) && shapeB kk x.f1 x.f2 _) = true
        rw [Bool.and_eq_true, List.all_eq_true]
        refine ⟨fun q hq => (hin q hq).1, ?_⟩
        unfold shapeB
        rw [if_neg (by omega), if_neg (by omega), if_pos hkk45, hb, decide_eq_true hlen]
        rfl
      · show (List.all _ (fun y => nfB d y && decide (y.f0 ≠ kk)) && decide (kk ≠ 3)) = true
        rw [Bool.and_eq_true, List.all_eq_true]
        exact ⟨fun q hq => by
          obtain ⟨_, h2, h3⟩ := hin q hq
          rw [h2, decide_eq_true h3]
          rfl, decide_eq_true (by omega)⟩
      · unfold holdB
        show (if kk = 1 then _ else if kk = 2 then _ else if kk = 3 then _ else if kk = 4 then List.all _ (holdB ps d) else List.any _ (holdB ps d)) = _
        rw [if_neg (show ¬ kk = 1 by omega), if_neg (show ¬ kk = 2 by omega), if_neg (show ¬ kk = 3 by omega), if_neg (show ¬ x.f0 = 1 by omega), if_neg (show ¬ x.f0 = 2 by omega), if_neg (show ¬ x.f0 = 3 by omega)]
        rcases hf with ⟨rfl, ⟨e1, rfl⟩ | ⟨e1, rfl⟩⟩ | ⟨rfl, ⟨e1, rfl⟩ | ⟨e1, rfl⟩⟩
        · rw [if_pos rfl, if_pos e1, hall]; simp
        · rw [if_pos rfl, if_neg (by omega), hall]; simp [List.not_any_eq_all_not]
        · rw [if_neg (by decide), if_neg (by omega), hany]; simp
        · rw [if_neg (by decide), if_pos e1, hany]; simp [List.not_all_eq_any_not]
theorem map_id_of {f : S24 → S24} : ∀ {l : List S24}, (∀ y ∈ l, f y = y) → l.map f = l
  | [], _ => rfl
  | x :: xs, h => by rw [List.map_cons, h x (List.mem_cons_self ..), map_id_of fun y hy => h y (List.mem_cons_of_mem _ hy)]
theorem flat_id {kk : Int} : ∀ {l : List S24}, (∀ y ∈ l, y.f0 ≠ kk) → l.flatMap (expB kk) = l
  | [], _ => rfl
  | x :: xs, h => by
    rw [List.flatMap_cons, flat_id fun y hy => h y (List.mem_cons_of_mem _ hy)]
    unfold expB
    rw [if_neg (fun hc => h x (List.mem_cons_self ..) hc.1)]
    rfl
theorem nf_simp : ∀ (d : Nat) (s : S24), nfB d s = true → simpB d false s = s
  | 0, _, h => by cases h
  | d + 1, s, h => by
    unfold nfB at h
    rw [Bool.and_eq_true, List.all_eq_true] at h
    have hk : ∀ y ∈ s.f3, nfB d y = true ∧ y.f0 ≠ s.f0 := fun y hy => by
      have := h.1 y hy
      rw [Bool.and_eq_true] at this
      exact ⟨this.1, of_decide_eq_true this.2⟩
    have h3 : s.f0 ≠ 3 := of_decide_eq_true h.2
    unfold simpB
    rw [if_neg h3, map_id_of fun y hy => nf_simp d y (hk y hy).1]
    show (⟨flipK false s.f0, s.f1, s.f2, s.f3.flatMap (expB (flipK false s.f0))⟩ : S24) = s
    rw [show flipK false s.f0 = s.f0 from rfl, flat_id fun y hy => (hk y hy).2]
    cases s
    rfl
end Go.Proofs.Ytjndcgochnaodaa.PA
