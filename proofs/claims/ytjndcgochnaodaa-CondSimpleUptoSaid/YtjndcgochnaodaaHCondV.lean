/- Conditions: both texts' simple forms are the plain one. -/
import Derived.Test.YtjndcgochnaodaaHCondU
import Derived.Test.YtjndcgochnaodaaPAx56
namespace Go.Proofs.Ytjndcgochnaodaa.PA
open Go.RowKit Go.Proofs.YtjndcgochnaodaaW.PrintWords Go.Proofs.YtjndcgochnaodaaW.PrintLast Go.Proofs.YtjndcgochnaodaaW.PrintMore
set_option linter.unusedVariables false
theorem eta24 (s : S24) : (⟨s.f0, s.f1, s.f2, s.f3⟩ : S24) = s := by cases s; rfl
def toR (s : S24) : CondR := (s.f0, s.f1, s.f2, s.f3)
theorem exp_le {kk : Int} {s : S24} {n : Nat} (h : s.f3.length ≤ n) (h1 : 1 ≤ n) : (expB kk s).length ≤ n := by
  unfold expB
  split
  · exact h
  · simpa using h1
theorem join_exp {kk : Int} {acc : List S24} {s : S24} {n : Nat} (h : s.f3.length ≤ n) (h1 : 1 ≤ n) (hs : acc.length + n ≤ 4194304) : joinP kk acc (toR s) = some (acc ++ expB kk s) := by
  unfold joinP expB toR
  by_cases hc : s.f0 = kk ∧ 0 < (s.f3.length : Int)
  · rw [if_pos hc, if_pos hc, if_pos (by show acc.length + s.f3.length ≤ _; omega)]
  · rw [if_neg hc, if_neg hc, if_pos (by omega)]
    cases s
    rfl
theorem flat_le {kk : Int} {g : S24 → S24} {wt : S24 → Nat} : ∀ l : List S24, (∀ y ∈ l, (g y).f3.length ≤ wt y ∧ 1 ≤ wt y) → ((l.map g).flatMap (expB kk)).length ≤ (l.map wt).sum
  | [], _ => by simp
  | x :: xs, h => by
    have h1 := flat_le (kk := kk) xs (fun y hy => h y (List.mem_cons_of_mem _ hy))
    obtain ⟨h2, h3⟩ := h x (List.mem_cons_self ..)
    have h4 := exp_le (kk := kk) h2 h3
    rw [List.map_cons, List.flatMap_cons, List.length_append, List.map_cons, List.sum_cons]
    omega
theorem parts_ev2 {f : Nat → S24 → Option CondR} {g : S24 → S24} (kk : Int) (wt : S24 → Nat) (h1 : ∀ x, 1 ≤ wt x) : ∀ (l acc : List S24), (∀ y ∈ l, Ev (fun k => f k y) (toR (g y)) ∧ (g y).f3.length ≤ wt y) → acc.length + (l.map wt).sum ≤ 4194304 →
    Ev (fun k => partsM (f k) kk acc l) (acc ++ (l.map g).flatMap (expB kk))
  | [], acc, _, _ => Ev.is fun k => by simp [partsM]
  | x :: xs, acc, hf, hs => by
    obtain ⟨e1, hw⟩ := hf x (List.mem_cons_self ..)
    have hx := h1 x
    rw [List.map_cons, List.sum_cons] at hs
    have hl := exp_le (kk := kk) hw hx
    have hr := parts_ev2 kk wt h1 xs (acc ++ expB kk (g x)) (fun y hy => hf y (List.mem_cons_of_mem _ hy)) (by rw [List.length_append]; omega)
    rw [List.map_cons, List.flatMap_cons, ← List.append_assoc]
    refine Ev.congr (f := fun k => (f k x).bind fun p => (joinP kk acc p).bind fun acc' => partsM (f k) kk acc' xs) (fun k => by rw [partsM]) (Ev.bind e1 ?_)
    exact Ev.congr (fun k => by rw [join_exp hw hx (by omega), Option.bind_some]) hr
theorem simp_ev : ∀ (d : Nat) (x : S24) (fl : Bool), rightB d x = true → wtN d x ≤ 4194304 → Ev (fun k => cond_simple.f k x.f0 x.f1 x.f2 x.f3 fl) (toR (simpB d fl x)) ∧ (simpB d fl x).f3.length ≤ wtN d x := by
  intro d
  induction d with
  | zero => intro x fl h; cases h
  | succ d ih =>
    intro x fl h hw
    obtain ⟨hk, hsh⟩ := rightB_kids h
    have hwk : ∀ y ∈ x.f3, wtN d y ≤ 4194304 := by
      intro y hy
      have := le_sum_mem (List.mem_map.2 ⟨y, hy, rfl⟩ : wtN d y ∈ x.f3.map (wtN d))
      unfold wtN at hw
      omega
    have hws : (x.f3.map (wtN d)).sum + 1 ≤ wtN (d + 1) x := by
      conv => rhs; unfold wtN
      omega
    unfold simpB
    by_cases h3 : x.f0 = 3
    · rw [if_pos h3]
      have hl := shape_one hsh h3
      have hm := getD0_mem hl
      obtain ⟨hr, hlen⟩ := ih _ (!fl) (hk _ hm) (hwk _ hm)
      refine ⟨Ev.step (fun k => by rw [cond_simple.f, if_pos h3, if_pos (by omega)]) hr, ?_⟩
      have := le_sum_mem (List.mem_map.2 ⟨_, hm, rfl⟩ : wtN d (x.f3.getD 0 z24) ∈ x.f3.map (wtN d))
      omega
    · rw [if_neg h3]
      have hkd : 0 ≤ x.f0 ∧ x.f0 < 6 := by rcases kind_of h with ⟨h, _⟩ | ⟨h, _⟩ | ⟨h, _⟩ <;> omega
      have hp := fun kk : Int => parts_ev2 (f := fun k y => cond_simple.f k y.f0 y.f1 y.f2 y.f3 fl) (g := simpB d fl) kk (wtN d) (wt_pos d) x.f3 [] (fun y hy => ih y fl (hk y hy) (hwk y hy)) (by simp only [List.length_nil]; omega)
      have hlen := fun kk : Int => flat_le (kk := kk) (g := simpB d fl) (wt := wtN d) x.f3 (fun y hy => ⟨(ih y fl (hk y hy) (hwk y hy)).2, wt_pos d y⟩)
      refine ⟨?_, Nat.le_trans (hlen (flipK fl x.f0)) (by omega)⟩
      cases fl with
      | true => exact Ev.step (f := fun k => (partsM (fun y => cond_simple.f k y.f0 y.f1 y.f2 y.f3 true) (rd [0, 2, 1, 0, 5, 4] x.f0) [] x.f3).map fun ps => (rd [0, 2, 1, 0, 5, 4] x.f0, x.f1, x.f2, ps)) (fun k => by rw [cond_simple.f, if_neg h3, if_pos rfl, if_pos hkd]) (Ev.map _ (hp (rd [0, 2, 1, 0, 5, 4] x.f0)))
      | false => exact Ev.step (f := fun k => (partsM (fun y => cond_simple.f k y.f0 y.f1 y.f2 y.f3 false) x.f0 [] x.f3).map fun ps => (x.f0, x.f1, x.f2, ps)) (fun k => by rw [cond_simple.f, if_neg h3, if_neg Bool.false_ne_true]) (Ev.map _ (hp x.f0))
/-! the reference -/
theorem rs_one {fl : Bool} {kk kd ok p0 : Int} {nm vl onm ovl p1 p2 : ByteArray} {kids pk : List S24} {i : Nat} {R : CondR} (hi : i ≤ 4194304) (hpk : pk.length ≤ 4194304) :
    ∀ (m j : Nat) (acc : List S24), j ≤ pk.length → m = pk.length - j → acc.length + m ≤ 4194304 → Ev (fun k => colloquyref12_Simple.l0 k fl kk ((i + 1 : Nat) : Int) kd nm vl kids ok onm ovl (acc ++ pk.drop j)) R →
      Ev (fun k => colloquyref12_Simple.l1 k fl kk i j kd nm vl kids ok onm ovl acc p0 p1 p2 pk) R := by
  have e : wrap64 ((i : Int) + 1) = ((i + 1 : Nat) : Int) := by unfold wrap64; omega
  intro m
  induction m with
  | zero =>
    intro j acc hj hm hs hR
    rw [List.drop_of_length_le (by omega), List.append_nil] at hR
    exact Ev.step (fun k => by simp only [colloquyref12_Simple.l1]; rw [if_neg (by omega), e]) hR
  | succ m ih =>
    intro j acc hj hm hs hR
    have e2 : wrap64 ((j : Int) + 1) = ((j + 1 : Nat) : Int) := by unfold wrap64; omega
    have hy : (⟨(rd_T24 pk j).f0, (rd_T24 pk j).f1, (rd_T24 pk j).f2, (rd_T24 pk j).f3⟩ : S24) = pk[j]'(by omega) := by
      refine (eta24 _).trans ?_
      unfold rd_T24
      rw [Int.toNat_natCast, List.getD_eq_getElem?_getD, List.getElem?_eq_getElem (show j < pk.length by omega)]
      rfl
    refine Ev.step (f := fun k => colloquyref12_Simple.l1 k fl kk i ((j + 1 : Nat) : Int) kd nm vl kids ok onm ovl (acc ++ [pk[j]'(by omega)]) p0 p1 p2 pk) (fun k => by simp only [colloquyref12_Simple.l1]; rw [if_pos (by omega), if_pos (by omega), if_pos (by omega), e2, hy]) (ih (j + 1) (acc ++ [pk[j]'(by omega)]) (by omega) (by omega) (by rw [List.length_append, List.length_singleton]; omega) ?_)
    rwa [List.append_assoc, List.singleton_append, ← List.drop_eq_getElem_cons]
theorem rs_loop {fl : Bool} {kk kd ok : Int} {nm vl onm ovl : ByteArray} {kids : List S24} {g : S24 → S24} (wt : S24 → Nat) (h1 : ∀ x, 1 ≤ wt x) (hk : kids.length ≤ 4194304)
    (IH : ∀ y ∈ kids, Ev (fun k => colloquyref12_Simple.f k y.f0 y.f1 y.f2 y.f3 fl) (toR (g y)) ∧ (g y).f3.length ≤ wt y ∧ ((g y).f0 = kk → 0 < (g y).f3.length)) :
    ∀ (m i : Nat) (acc : List S24), i ≤ kids.length → m = kids.length - i → acc.length + ((kids.drop i).map wt).sum ≤ 4194304 → Ev (fun k => colloquyref12_Simple.l0 k fl kk i kd nm vl kids ok onm ovl acc) (ok, onm, ovl, acc ++ ((kids.drop i).map g).flatMap (expB kk)) := by
  intro m
  induction m with
  | zero =>
    intro i acc hi hm hs
    rw [List.drop_of_length_le (by omega)]
    exact Ev.step (f := fun _ => some (ok, onm, ovl, acc)) (fun k => by simp only [colloquyref12_Simple.l0]; rw [if_neg (by omega)]) (Ev.is fun k => by simp)
  | succ m ih =>
    intro i acc hi hm hs
    have e : wrap64 ((i : Int) + 1) = ((i + 1 : Nat) : Int) := by unfold wrap64; omega
    have hlt : i < kids.length := by omega
    have hy : rd_T24 kids i = kids[i] := by unfold rd_T24; rw [Int.toNat_natCast, List.getD_eq_getElem?_getD, List.getElem?_eq_getElem hlt]; rfl
    obtain ⟨e1, hw, hp⟩ := IH kids[i] (List.getElem_mem _)
    have hx := h1 kids[i]
    rw [List.drop_eq_getElem_cons hlt, List.map_cons, List.sum_cons] at hs
    rw [List.drop_eq_getElem_cons hlt, List.map_cons, List.flatMap_cons, ← List.append_assoc]
    have hl := exp_le (kk := kk) hw hx
    have hn := ih (i + 1) (acc ++ expB kk (g kids[i])) (by omega) (by omega) (by rw [List.length_append]; omega)
    refine Ev.step (f := fun k => (colloquyref12_Simple.f k kids[i].f0 kids[i].f1 kids[i].f2 kids[i].f3 fl).bind fun bt => if bt.1 = kk then colloquyref12_Simple.l1 k fl kk i ((0 : Nat) : Int) kd nm vl kids ok onm ovl acc bt.1 bt.2.1 bt.2.2.1 bt.2.2.2 else if acc.length < 2199023255552 then colloquyref12_Simple.l0 k fl kk ((i + 1 : Nat) : Int) kd nm vl kids ok onm ovl (acc ++ [(⟨bt.1, bt.2.1, bt.2.2.1, bt.2.2.2⟩ : S24)]) else none) (fun k => by simp only [colloquyref12_Simple.l0]; rw [if_pos (by omega), if_pos (by omega), e, hy]; rfl) (Ev.bind e1 ?_)
    by_cases hc : (g kids[i]).f0 = kk
    · refine Ev.congr (fun k => if_pos hc) ?_
      refine rs_one (by omega) (by show (g kids[i]).f3.length ≤ _; omega) (g kids[i]).f3.length 0 acc (by omega) (by show _ = (g kids[i]).f3.length - 0; omega) (by omega) ?_
      have : expB kk (g kids[i]) = (g kids[i]).f3 := by unfold expB; rw [if_pos ⟨hc, by have := hp hc; omega⟩]
      rw [List.drop_zero]
      rw [this] at hn ⊢
      exact hn
    · refine Ev.congr (fun k => if_neg hc) (Ev.congr (fun k => if_pos (by omega)) ?_)
      have : expB kk (g kids[i]) = [g kids[i]] := by unfold expB; rw [if_neg (fun h => hc h.1)]
      rw [this] at hn ⊢
      exact Ev.congr (fun k => by rw [show (⟨(toR (g kids[i])).1, (toR (g kids[i])).2.1, (toR (g kids[i])).2.2.1, (toR (g kids[i])).2.2.2⟩ : S24) = g kids[i] from eta24 _]) hn
theorem rsimp_ev : ∀ (d : Nat) (x : S24) (fl : Bool), rightB d x = true → wtN d x ≤ 4194304 → Ev (fun k => colloquyref12_Simple.f k x.f0 x.f1 x.f2 x.f3 fl) (toR (simpB d fl x)) := by
  intro d
  induction d with
  | zero => intro x fl h; cases h
  | succ d ih =>
    intro x fl h hw
    obtain ⟨hk, hsh⟩ := rightB_kids h
    have hwk : ∀ y ∈ x.f3, wtN d y ≤ 4194304 := by
      intro y hy
      have := le_sum_mem (List.mem_map.2 ⟨y, hy, rfl⟩ : wtN d y ∈ x.f3.map (wtN d))
      unfold wtN at hw
      omega
    have hws : (x.f3.map (wtN d)).sum + 1 ≤ wtN (d + 1) x := by
      conv => rhs; unfold wtN
      omega
    have hkl := sum_len (wt_pos d) x.f3
    unfold simpB
    by_cases h3 : x.f0 = 3
    · rw [if_pos h3]
      have hl := shape_one hsh h3
      have hm := getD0_mem hl
      exact Ev.step (f := fun k => (colloquyref12_Simple.f k (rd_T24 x.f3 0).f0 (rd_T24 x.f3 0).f1 (rd_T24 x.f3 0).f2 (rd_T24 x.f3 0).f3 (!fl)).bind fun bt => some (bt.1, bt.2.1, bt.2.2.1, bt.2.2.2)) (fun k => by rw [colloquyref12_Simple.f, if_pos h3, if_pos (by omega)]) (Ev.bind (ih _ (!fl) (hk _ hm) (hwk _ hm)) (Ev.now _))
    · rw [if_neg h3]
      have hj : Ev (fun k => colloquyref12_Simple.j0 k fl (flipK fl x.f0) x.f0 x.f1 x.f2 x.f3) (toR ⟨flipK fl x.f0, x.f1, x.f2, (x.f3.map (simpB d fl)).flatMap (expB (flipK fl x.f0))⟩) := by
        refine Ev.step (f := fun k => colloquyref12_Simple.l0 k fl (flipK fl x.f0) ((0 : Nat) : Int) x.f0 x.f1 x.f2 x.f3 (flipK fl x.f0) x.f1 x.f2 []) (fun k => by simp only [colloquyref12_Simple.j0]; rfl) ?_
        have := rs_loop (fl := fl) (kk := flipK fl x.f0) (kd := x.f0) (ok := flipK fl x.f0) (nm := x.f1) (vl := x.f2) (onm := x.f1) (ovl := x.f2) (kids := x.f3) (g := simpB d fl) (wtN d) (wt_pos d) (by omega) (fun y hy => ⟨ih y fl (hk y hy) (hwk y hy), (simp_ev d y fl (hk y hy) (hwk y hy)).2, fun he => by
          have hS := simp_is d fl y (hk y hy)
          rcases kind_of h with ⟨_, _, hn⟩ | ⟨h, _⟩ | ⟨h45, _⟩
          · rw [hn] at hy; cases hy
          · exact absurd h h3
          · have := flip_45 (fl := fl) h45
            have := hS.two (by omega)
            omega⟩) x.f3.length 0 [] (by omega) (by omega) (by rw [List.drop_zero, List.length_nil]; omega)
        rw [List.drop_zero, List.nil_append] at this
        exact this
      refine Ev.step (fun k => ?_) hj
      have hkd : x.f0 = 1 ∨ x.f0 = 2 ∨ x.f0 = 4 ∨ x.f0 = 5 := by rcases kind_of h with ⟨h, _⟩ | ⟨h, _⟩ | ⟨h, _⟩ <;> omega
      rw [colloquyref12_Simple.f, if_neg h3]
      cases fl with
      | false => rw [if_neg Bool.false_ne_true]; rfl
      | true =>
        rw [if_pos rfl]
        rcases hkd with e | e | e | e <;> rw [e] <;> rfl
end Go.Proofs.Ytjndcgochnaodaa.PA
