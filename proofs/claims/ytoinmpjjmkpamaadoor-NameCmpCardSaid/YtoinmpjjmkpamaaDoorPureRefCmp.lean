/- The reference's Cmp comes to cmpL. -/
import Derived.Test.YtoinmpjjmkpamaaDoorPureNumLib
namespace Go.Proofs.YtoinmpjjmkpamaaDoor.Pure
open Go.RowKit Go.Proofs.YtoinmpjjmkpamaaDoor.PA Go.Proofs.YtoinmpjjmkpamaaDoorW.PrintWords Go.Proofs.YtoinmpjjmkpamaaDoorW.PrintLast Go.Proofs.YtoinmpjjmkpamaaDoorW.PrintMore

theorem rdigit_eq (c : UInt8) : colloquyref02_Digit.f (c.toNat : Int) = some (dgB c) := digit_eq c
/-- How long the first part is. -/
def partN (l : List UInt8) : Nat := if runL l = 0 then 1 else runL l
theorem part_l (s : ByteArray) (hm : s.size ≤ 140737488351300) (h0 : 0 < s.size) : ∀ (d n : Nat), n ≤ s.size → d = s.size - n → n + runL ((bl s).drop n) = runL (bl s) →
    Ev (fun k => colloquyref02_part.l0 k s n) (s.extract 0 (partN (bl s))) := by
  intro d
  induction d with
  | zero =>
    intro n hn hd hr
    obtain rfl : n = s.size := by omega
    have hz : runL ((bl s).drop s.size) = 0 := by
      rw [List.drop_of_length_le (by rw [bl_len]; omega)]
      rfl
    have hp : partN (bl s) = s.size := by unfold partN; rw [if_neg (by omega)]; omega
    rw [hp]
    refine Ev.step (f := fun _ => some (s.extract 0 s.size)) (fun k => ?_) (Ev.now _)
    simp only [colloquyref02_part.l0]
    rw [if_neg (by omega), if_neg (by omega), if_pos (by omega), if_pos (by omega), Int.toNat_natCast]
  | succ d ih =>
    intro n hn hd hr
    obtain ⟨c, h1, h2⟩ := drop_bt s n (by omega)
    have H2 := Aside0.mk h2
    clear h2
    have e : wrap64 ((n : Int) + 1) = ((n + 1 : Nat) : Int) := by unfold wrap64; omega
    by_cases hc : dgB c = true
    · have hr2 : runL ((bl s).drop n) = 1 + runL ((bl s).drop (n + 1)) := by
        rw [h1]
        unfold runL
        rw [List.takeWhile_cons_of_pos hc, List.length_cons, Nat.add_comm]
      clear h1
      refine Ev.step (fun k => ?_) (ih (n + 1) (by omega) (by omega) (by omega))
      simp only [colloquyref02_part.l0]
      rw [if_pos (by omega), if_pos (by omega), H2.out, rdigit_eq]
      simp only [Option.bind_some]
      rw [if_pos hc, e]
    · have hr2 : runL ((bl s).drop n) = 0 := by
        rw [h1]
        unfold runL
        rw [List.takeWhile_cons_of_neg hc]
        rfl
      clear h1
      refine Ev.step (f := fun _ => some (s.extract 0 (partN (bl s)))) (fun k => ?_) (Ev.now _)
      simp only [colloquyref02_part.l0]
      rw [if_pos (by omega), if_pos (by omega), H2.out, rdigit_eq]
      simp only [Option.bind_some]
      rw [if_neg hc]
      unfold partN
      by_cases hn0 : n = 0
      · subst hn0
        rw [if_pos (by omega), if_pos (by omega), if_pos (by omega), if_pos (by omega)]
      · rw [if_neg (by omega), if_pos (by omega), if_neg (by omega), Int.toNat_natCast]
        congr 2
        omega
theorem part_ev (s : ByteArray) (hm : s.size ≤ 140737488351300) (h0 : 0 < s.size) : Ev (fun k => colloquyref02_part.f k s) (s.extract 0 (partN (bl s))) :=
  part_l s hm h0 s.size 0 (by omega) (by omega) (by rw [List.drop_zero, Nat.zero_add])
theorem run_head (l : List UInt8) (h : l ≠ []) : dgB (l.headD 0) = decide (0 < runL l) := by
  cases l with
  | nil => exact absurd rfl h
  | cons c r =>
    show dgB c = _
    unfold runL
    by_cases hc : dgB c = true
    · rw [List.takeWhile_cons_of_pos hc, hc]
      simp
    · rw [List.takeWhile_cons_of_neg hc, Bool.eq_false_iff.2 hc]
      simp
theorem run_digits (l : List UInt8) : ∀ c ∈ l.take (runL l), 48 ≤ c.toNat := by
  have h : l.take (runL l) = l.takeWhile dgB := by
    unfold runL
    exact (List.prefix_iff_eq_take.1 (List.takeWhile_prefix _)).symm
  rw [h]
  intro c hc
  have := List.all_eq_true.1 (List.all_takeWhile (l := l) (p := dgB)) c hc
  exact (of_decide_eq_true this).1
theorem part_facts (s : ByteArray) (h : 0 < s.size) : (s.extract 0 (partN (bl s))).size = partN (bl s) ∧ 1 ≤ partN (bl s) ∧ bt (s.extract 0 (partN (bl s))) 0 = (((bl s).headD 0).toNat : Int) := by
  have h1 : 1 ≤ partN (bl s) := by
    unfold partN
    split <;> omega
  have h2 : partN (bl s) ≤ s.size := by
    have := runL_le (bl s)
    rw [bl_len] at this
    unfold partN
    split <;> omega
  have h3 : (s.extract 0 (partN (bl s))).size = partN (bl s) := by
    rw [← bl_len, bl_take, List.length_take, bl_len]
    omega
  refine ⟨h3, h1, ?_⟩
  rw [bt_head _ (by omega), bl_take]
  cases hb : bl s with
  | nil => rw [bl_nil] at hb; omega
  | cons c r =>
    obtain ⟨m, hm⟩ : ∃ m, partN (c :: r) = m + 1 := ⟨partN (c :: r) - 1, by rw [hb] at h1; omega⟩
    rw [hm]
    rfl
theorem rcmp_ev : ∀ (f : Nat) (s t : ByteArray), s.size < f → s.size ≤ 140737488351300 → t.size ≤ 140737488351300 → Ev (fun k => colloquyref02_Cmp.f k s t) (cmpL f (bl s) (bl t)) := by
  intro f
  induction f with
  | zero => intro s t h; omega
  | succ f ih =>
    intro s t hf hs ht
    have hls : ((bl s).length : Int) = s.size := by rw [bl_len]
    have hlt : ((bl t).length : Int) = t.size := by rw [bl_len]
    refine Ev.step (f := fun k => colloquyref02_Cmp.j0 k s t (decide (s.size = 0 ∨ t.size = 0))) (fun k => ?_) ?_
    · simp only [colloquyref02_Cmp.f]
      by_cases h : s.size = 0
      · rw [if_pos (by omega)]
        congr 1
        exact (decide_eq_true (Or.inl h)).symm
      · rw [if_neg (by omega)]
        congr 1
        rw [Bool.eq_iff_iff, beq_iff_eq, decide_eq_true_eq]
        omega
    unfold cmpL
    by_cases h0 : s.size = 0 ∨ t.size = 0
    · rw [if_pos (by rw [bl_nil, bl_nil]; exact h0), hls, hlt]
      refine Ev.step (f := fun _ => some (cmpI (s.size : Int) (t.size : Int))) (fun k => ?_) (Ev.now _)
      simp only [colloquyref02_Cmp.j0]
      rw [if_pos (decide_eq_true h0)]
      unfold cmpI
      repeat' split
      all_goals first | rfl | (exfalso; omega)
    · have hs0 : 0 < s.size := by omega
      have ht0 : 0 < t.size := by omega
      rw [if_neg (by rw [bl_nil, bl_nil]; exact h0)]
      obtain ⟨p1, p2, p3⟩ := part_facts s hs0
      obtain ⟨q1, q2, q3⟩ := part_facts t ht0
      have P3 := Aside0.mk p3
      have Q3 := Aside0.mk q3
      clear p3 q3
      refine Ev.step (f := fun k => (colloquyref02_part.f k s).bind fun t122 => ((colloquyref02_part.f k t).bind fun t123 => (if 0 < (t122.size : Int) then ((colloquyref02_Digit.f (bt t122 0)).bind fun t124 => (if t124 = true then (if 0 < (t123.size : Int) then ((colloquyref02_Digit.f (bt t123 0)).bind fun t125 => (colloquyref02_Cmp.j1 k s t t122 t123 t125)) else (none)) else (colloquyref02_Cmp.j1 k s t t122 t123 false))) else (none)))) (fun k => ?_) ?_
      · simp only [colloquyref02_Cmp.j0]
        rw [if_neg (by rw [decide_eq_false h0]; simp)]
      refine Ev.bind (part_ev s hs hs0) (Ev.bind (part_ev t ht ht0) ?_)
      refine Ev.congr (f := fun k => colloquyref02_Cmp.j1 k s t (s.extract 0 (partN (bl s))) (t.extract 0 (partN (bl t))) (decide (0 < runL (bl s) ∧ 0 < runL (bl t)))) (fun k => ?_) ?_
      · rw [if_pos (by omega), P3.out, rdigit_eq, run_head _ (by rw [Ne, bl_nil]; omega)]
        simp only [Option.bind_some]
        by_cases hr : 0 < runL (bl s)
        · rw [if_pos (decide_eq_true hr), if_pos (by omega), Q3.out, rdigit_eq, run_head _ (by rw [Ne, bl_nil]; omega)]
          simp only [Option.bind_some]
          congr 1
          exact decide_eq_decide.2 (by omega)
        · rw [if_neg (by simpa using hr)]
          congr 1
          exact (decide_eq_false (by omega)).symm
      have r1 := runL_le (bl s)
      have r2 := runL_le (bl t)
      by_cases hr : 0 < runL (bl s) ∧ 0 < runL (bl t)
      · rw [if_pos hr]
        have e1 : partN (bl s) = runL (bl s) := if_neg (by omega)
        have e2 : partN (bl t) = runL (bl t) := if_neg (by omega)
        rw [e1] at p1 p2 ⊢
        rw [e2] at q1 q2 ⊢
        have hn := num_less ((bl s).take (runL (bl s))) ((bl t).take (runL (bl t))) (run_digits _) (run_digits _)
        have l1 := less_ev (s.extract 0 (runL (bl s))) (t.extract 0 (runL (bl t))) (by omega) (by omega)
        have l2 := less_ev (t.extract 0 (runL (bl t))) (s.extract 0 (runL (bl s))) (by omega) (by omega)
        rw [bl_take, bl_take] at l1 l2
        have HN := Aside0.mk hn
        clear hn
        refine Ev.step (f := fun k => (colloquyref02_less.f k (s.extract 0 (runL (bl s))) (t.extract 0 (runL (bl t)))).bind fun t126 => (if t126 = true then (some (-1)) else ((colloquyref02_less.f k (t.extract 0 (runL (bl t))) (s.extract 0 (runL (bl s)))).bind fun t127 => (if t127 = true then (some 1) else (colloquyref02_Cmp.f k (s.extract (runL (bl s)) s.size) (t.extract (runL (bl t)) t.size)))))) (fun k => ?_) ?_
        · simp only [colloquyref02_Cmp.j1]
          rw [if_pos (decide_eq_true hr), if_pos (c := 0 ≤ ((s.extract 0 (runL (bl s))).size : Int)) (by omega), if_pos (c := ((s.extract 0 (runL (bl s))).size : Int) ≤ (s.size : Int)) (by omega), if_pos (c := 0 ≤ ((t.extract 0 (runL (bl t))).size : Int)) (by omega), if_pos (c := ((t.extract 0 (runL (bl t))).size : Int) ≤ (t.size : Int)) (by omega), Int.toNat_natCast, Int.toNat_natCast, p1, q1]
          simp only [Option.bind_fun_some]
        · refine Ev.bind l1 ?_
          by_cases hl1 : lessL ((bl s).take (runL (bl s))) ((bl t).take (runL (bl t))) = true
          · have hn := HN.out
            rw [if_pos hl1] at hn
            rw [hn, if_neg (by decide)]
            exact Ev.congr (fun k => if_pos hl1) (Ev.now _)
          · refine Ev.congr (fun k => if_neg hl1) (Ev.bind l2 ?_)
            by_cases hl2 : lessL ((bl t).take (runL (bl t))) ((bl s).take (runL (bl s))) = true
            · have hn := HN.out
              rw [if_neg hl1, if_pos hl2] at hn
              rw [hn, if_neg (by decide)]
              exact Ev.congr (fun k => if_pos hl2) (Ev.now _)
            · have hn := HN.out
              rw [if_neg hl1, if_neg hl2] at hn
              rw [hn, if_pos rfl]
              refine Ev.congr (fun k => if_neg hl2) ?_
              rw [← bl_drop, ← bl_drop]
              exact ih _ _ (by rw [size_drop]; omega) (by rw [size_drop]; omega) (by rw [size_drop]; omega)
      · rw [if_neg hr, ← bt_head s hs0, ← bt_head t ht0]
        refine Ev.step (f := fun k => if cmpI (bt s 0) (bt t 0) = 0 then colloquyref02_Cmp.f k (s.extract 1 s.size) (t.extract 1 t.size) else some (cmpI (bt s 0) (bt t 0))) (fun k => ?_) ?_
        · simp only [colloquyref02_Cmp.j1]
          rw [if_neg (by rw [decide_eq_false hr]; simp), if_pos (by omega), if_pos (by omega), if_pos (c := 1 ≤ (s.size : Int)) (by omega), if_pos (c := 1 ≤ (t.size : Int)) (by omega)]
          unfold cmpI
          generalize bt s 0 = x
          generalize bt t 0 = y
          by_cases c1 : x < y
          · simp [c1]
          · by_cases c2 : y < x
            · simp [c1, c2]
            · simp [c1, c2]
        · by_cases hz : cmpI (bt s 0) (bt t 0) = 0
          · rw [if_pos hz]
            refine Ev.congr (fun k => if_pos hz) ?_
            rw [← bl_drop, ← bl_drop]
            exact ih _ _ (by rw [size_drop]; omega) (by rw [size_drop]; omega) (by rw [size_drop]; omega)
          · rw [if_neg hz]
            exact Ev.congr (fun k => if_neg hz) (Ev.now _)
end Go.Proofs.YtoinmpjjmkpamaaDoor.Pure
