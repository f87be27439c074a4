/- Conditions: what the calls of the law of the simple form come to. -/
import Derived.Test.YtjndcgochnaodaaHCondV
namespace Go.Proofs.Ytjndcgochnaodaa.PA
open Go.RowKit Go.Proofs.YtjndcgochnaodaaW.PrintWords Go.Proofs.YtjndcgochnaodaaW.PrintLast Go.Proofs.YtjndcgochnaodaaW.PrintMore
set_option linter.unusedVariables false
theorem sum_congr {α : Type} {f g : α → Nat} : ∀ {l : List α}, (∀ y ∈ l, f y = g y) → (l.map f).sum = (l.map g).sum
  | [], _ => rfl
  | x :: xs, h => by rw [List.map_cons, List.map_cons, List.sum_cons, List.sum_cons, h x (List.mem_cons_self ..), sum_congr fun y hy => h y (List.mem_cons_of_mem _ hy)]
theorem wt_stab : ∀ (d : Nat) (x : S24), rightB d x = true → wtN (d + 1) x = wtN d x
  | 0, _, h => by cases h
  | d + 1, x, h => by
    have hk := (rightB_kids h).1
    have e : (x.f3.map (wtN (d + 1))).sum = (x.f3.map (wtN d)).sum := sum_congr fun y hy => wt_stab d y (hk y hy)
    rw [wtN, e]
    conv => rhs; rw [wtN]
theorem wt_kids {d : Nat} {x : S24} : (x.f3.map (wtN d)).sum ≤ wtN (d + 1) x := by
  conv => rhs; unfold wtN
  omega
theorem wt_flat {d : Nat} {kk : Int} {g : S24 → S24} : ∀ l : List S24, (∀ y ∈ l, ((expB kk (g y)).map (wtN d)).sum ≤ wtN d y) → ((((l.map g).flatMap (expB kk))).map (wtN d)).sum ≤ (l.map (wtN d)).sum
  | [], _ => by simp
  | x :: xs, h => by
    have h1 := wt_flat (kk := kk) (g := g) xs (fun y hy => h y (List.mem_cons_of_mem _ hy))
    have h2 := h x (List.mem_cons_self ..)
    rw [List.map_cons, List.flatMap_cons, List.map_append, List.sum_append, List.map_cons, List.sum_cons]
    omega
theorem wt_simp : ∀ (d : Nat) (fl : Bool) (x : S24), rightB d x = true → wtN d (simpB d fl x) ≤ wtN d x := by
  intro d
  induction d with
  | zero => intro fl x h; cases h
  | succ d ih =>
    intro fl x h
    obtain ⟨hk, hsh⟩ := rightB_kids h
    unfold simpB
    by_cases h3 : x.f0 = 3
    · rw [if_pos h3]
      have hm := getD0_mem (shape_one hsh h3)
      rw [wt_stab d _ (simp_is d (!fl) _ (hk _ hm)).right]
      have h1 := ih (!fl) _ (hk _ hm)
      have h2 := le_sum_mem (List.mem_map.2 ⟨_, hm, rfl⟩ : wtN d (x.f3.getD 0 z24) ∈ x.f3.map (wtN d))
      have h4 := wt_kids (d := d) (x := x)
      omega
    · rw [if_neg h3]
      have hf := wt_flat (d := d) (kk := flipK fl x.f0) (g := simpB d fl) x.f3 (fun y hy => by
        have hS := simp_is d fl y (hk y hy)
        have h1 := ih fl y (hk y hy)
        unfold expB
        split
        · cases d with
          | zero => have := hk y hy; cases this
          | succ e =>
            have hkk := (rightB_kids hS.right).1
            have e1 : ((simpB (e + 1) fl y).f3.map (wtN (e + 1))).sum = ((simpB (e + 1) fl y).f3.map (wtN e)).sum := sum_congr fun q hq => wt_stab e q (hkk q hq)
            have h2 := wt_kids (d := e) (x := simpB (e + 1) fl y)
            omega
        · simpa using h1)
      conv => lhs; unfold wtN
      conv => rhs; unfold wtN
      show (1 + ((x.f1.size + 1) + ((x.f2.size + 1) + ((((x.f3.map (simpB d fl)).flatMap (expB (flipK fl x.f0))).map (wtN d)).sum + 1)))) + 1 ≤ _
      omega
theorem bare_size {nm vl : ByteArray} (h : bareB nm vl = true) : nm.size = 0 := by
  unfold bareB at h
  rw [Bool.and_eq_true] at h
  have h1 : nm.toList = [] := by simpa using h.1
  rw [ByteArray.toList_eq] at h1
  have := congrArg List.length h1
  simpa using this
theorem small_right : ∀ (d : Nat) (s : S24), rightB d s = true → lenN d s → smallN d s
  | 0, _, h, _ => by cases h
  | d + 1, s, h, hl => by
    refine ⟨?_, hl.1, fun y hy => small_right d y ((rightB_kids h).1 y hy) (hl.2 y hy)⟩
    have hsh := (rightB_kids h).2
    unfold shapeB at hsh
    split at hsh
    · rw [Bool.and_eq_true] at hsh
      have h1 := hsh.1
      unfold wordB at h1
      rw [Bool.and_eq_true, Bool.and_eq_true] at h1
      have := of_decide_eq_true h1.1.1
      omega
    · split at hsh
      · rw [Bool.and_eq_true] at hsh
        have := bare_size hsh.1
        omega
      · split at hsh
        · rw [Bool.and_eq_true] at hsh
          have := bare_size hsh.1
          omega
        · cases hsh
theorem len_simp (x : S24) (hR : rightB 20 x = true) (hw : wtN 20 x ≤ 4194304) : ∀ n, lenN n (simpB 20 false x) := by
  obtain ⟨r, ⟨k1, h1⟩, _, hn⟩ := simp_ex 20 x false hR hw
  obtain ⟨k2, h2⟩ := (simp_ev 20 x false hR hw).1
  have e : r = toR (simpB 20 false x) := Option.some.inj ((h1 (k1 + k2) (by omega)).symm.trans (h2 (k1 + k2) (by omega)))
  rw [e] at hn
  intro n
  have := hn n
  rwa [show ofR (toR (simpB 20 false x)) = simpB 20 false x from eta24 _] at this
theorem Simple_ev (x : S24) (hs : smallN 20 x) (hR : rightB 20 x = true) (hw : wtN 20 x ≤ 4194304) : Ev (fun k => cond_Simple.f k x.f0 x.f1 x.f2 x.f3) (toR (simpB 20 false x)) := by
  refine Ev.congr (fun k => by unfold cond_Simple.f; rfl) (Ev.bind (Right_ev x hs) ?_)
  rw [hR]
  exact Ev.congr (fun k => if_pos rfl) (simp_ev 20 x false hR hw).1
theorem facts_simple (x : S24) (b : ByteArray) (ps : List S36) (hs : smallN 20 x) (hw : wtN 21 x ≤ 1048576) :
    ∃ (n : Nat) (t : Bool) (r : CondR), cond_Simple.f n x.f0 x.f1 x.f2 x.f3 = some r ∧ colloquyref12_Right.f n x.f0 x.f1 x.f2 x.f3 20 = some t ∧ (t = false → colloquyref12_Same.f n r.1 r.2.1 r.2.2.1 r.2.2.2 0 E_ E_ [] = some true) ∧
      (t = true → ∃ h : Bool, colloquyref12_Simple.f n x.f0 x.f1 x.f2 x.f3 false = some r ∧ colloquyref12_Same.f n r.1 r.2.1 r.2.2.1 r.2.2.2 r.1 r.2.1 r.2.2.1 r.2.2.2 = some true ∧ cond_Right.f n r.1 r.2.1 r.2.2.1 r.2.2.2 = some true ∧ cond_Holds.f n r.1 r.2.1 r.2.2.1 r.2.2.2 b ps = some h ∧ cond_Holds.f n x.f0 x.f1 x.f2 x.f3 b ps = some h ∧ cond_Simple.f n r.1 r.2.1 r.2.2.1 r.2.2.2 = some r) := by
  have hw20 : wtN 20 x ≤ 4194304 := Nat.le_trans (wt_up 20 x) (Nat.le_trans hw (by decide))
  obtain ⟨k1, h1⟩ := rright_ev 20 x (by omega) hs
  by_cases hR : rightB 20 x = true
  · have hS := simp_is 20 false x hR
    have hn := len_simp x hR hw20
    have hss := small_right 20 _ hS.right (hn 20)
    have hws : wtN 20 (simpB 20 false x) ≤ 4194304 := Nat.le_trans (wt_simp 20 false x hR) hw20
    obtain ⟨k2, h2⟩ := Simple_ev x hs hR hw20
    obtain ⟨k3, h3⟩ := rsimp_ev 20 x false hR hw20
    obtain ⟨k4, h4⟩ := same_ev _ (simpB 20 false x) (Nat.lt_succ_self _) hn
    obtain ⟨k5, h5⟩ := Right_ev _ hss
    obtain ⟨k6, h6⟩ := Holds_ev b ps _ hss
    obtain ⟨k7, h7⟩ := Holds_ev b ps x hs
    obtain ⟨k8, h8⟩ := Simple_ev _ hss hS.right hws
    obtain ⟨n, hN⟩ : ∃ n, n = k1 + k2 + k3 + k4 + k5 + k6 + k7 + k8 := ⟨_, rfl⟩
    refine ⟨n, _, _, h2 n (by omega), h1 n (by omega), fun ht => absurd (hR.symm.trans ht) (by decide), fun _ => ⟨holdB ps 20 x, h3 n (by omega), h4 n (by omega), (h5 n (by omega)).trans (congrArg some hS.right), ?_, ?_, ?_⟩⟩
    · refine (h6 n (by omega)).trans (congrArg some ?_)
      rw [hS.right, hS.hold ps]
      simp
    · refine (h7 n (by omega)).trans (congrArg some ?_)
      rw [hR, Bool.true_and]
    · refine (h8 n (by omega)).trans (congrArg (fun q => some (toR q)) ?_)
      exact nf_simp 20 _ hS.nf
  · have hRf : rightB 20 x = false := Bool.eq_false_iff.2 hR
    obtain ⟨k2, h2⟩ := Right_ev x hs
    obtain ⟨k4, h4⟩ := same_ev _ (⟨0, E_, E_, []⟩ : S24) (Nat.lt_succ_self _) (fun n => by
      cases n with
      | zero => trivial
      | succ n => exact ⟨Nat.zero_le _, fun y hy => by cases hy⟩)
    obtain ⟨n, hN⟩ : ∃ n, n = k1 + k2 + k4 := ⟨_, rfl⟩
    refine ⟨n, _, (0, E_, E_, []), ?_, h1 n (by omega), fun _ => h4 n (by omega), fun ht => absurd ht hR⟩
    unfold cond_Simple.f
    have e := h2 n (by omega)
    rw [hRf] at e
    have e : cond_Right.f n x.f0 x.f1 x.f2 x.f3 = some false := e
    rw [e, Option.bind_some, if_neg Bool.false_ne_true]
    rfl
end Go.Proofs.Ytjndcgochnaodaa.PA
