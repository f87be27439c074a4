/- The reference's order of names comes to the same function on lists. -/
import Derived.Test.YtoinmpjjmkpamaaDoorPureCmpLib
import Derived.Sort.Walk0
namespace Go.Proofs.YtoinmpjjmkpamaaDoor.Pure
open Go.RowKit Go.Proofs.YtoinmpjjmkpamaaDoor.PA Go.Proofs.YtoinmpjjmkpamaaDoorW.PrintWords Go.Proofs.YtoinmpjjmkpamaaDoorW.PrintLast Go.Proofs.YtoinmpjjmkpamaaDoorW.PrintMore

/-- A list made as long as said, by zeros ahead. -/
def padB (n : Nat) (a : List UInt8) : List UInt8 := List.replicate (n - a.length) 48 ++ a
/-- Two lists of one length: is the first ahead? (What is said of equal ones.) -/
def ltF (d : Bool) : List UInt8 → List UInt8 → Bool
  | x :: xs, y :: ys => if x = y then ltF d xs ys else decide (x.toNat < y.toNat)
  | _, _ => d
def lessL (a b : List UInt8) : Bool := ltF (decide (a.length < b.length)) (padB (max a.length b.length) a) (padB (max a.length b.length) b)
theorem padB_len (n : Nat) (a : List UInt8) (h : a.length ≤ n) : (padB n a).length = n := by
  unfold padB
  rw [List.length_append, List.length_replicate]
  omega
/-- The byte at a place of a padded text. -/
theorem pad_at (n : Nat) (s : ByteArray) (i : Nat) (hn : s.size ≤ n) (hi : i < n) :
    ∃ c : UInt8, (padB n (bl s)).drop i = c :: (padB n (bl s)).drop (i + 1) ∧ (c.toNat : Int) = if n - s.size ≤ i then bt s ((i - (n - s.size) : Nat) : Int) else 48 := by
  have hl : i < (padB n (bl s)).length := by rw [padB_len _ _ (by rw [bl_len]; exact hn)]; exact hi
  refine ⟨(padB n (bl s))[i], List.drop_eq_getElem_cons hl, ?_⟩
  have hb := bl_len s
  unfold padB at hl ⊢
  by_cases h : n - s.size ≤ i
  · rw [if_pos h]
    have hlt : i - (n - s.size) < s.size := by omega
    rw [List.getElem_append_right (by rw [List.length_replicate, hb]; exact h)]
    obtain ⟨c, h1, h2⟩ := drop_bt s (i - (n - s.size)) hlt
    rw [h2]
    have : (bl s)[i - (n - s.size)]'(by rw [hb]; exact hlt) = c := by
      have := List.drop_eq_getElem_cons (l := bl s) (i := i - (n - s.size)) (by rw [hb]; exact hlt)
      rw [h1] at this
      exact (List.cons.inj this).1.symm
    rw [← this]
    simp only [List.length_replicate, hb]
  · rw [if_neg h, List.getElem_append_left (by rw [List.length_replicate, hb]; omega), List.getElem_replicate]
    rfl
theorem u8_int (x y : UInt8) : (x = y) ↔ ((x.toNat : Int) = (y.toNat : Int)) := ⟨fun h => by rw [h], fun h => UInt8.toNat_inj.1 (Int.ofNat.inj h)⟩
theorem u8_lt (x y : UInt8) : decide ((x.toNat : Int) < (y.toNat : Int)) = decide (x.toNat < y.toNat) := decide_eq_decide.2 Int.ofNat_lt
theorem less_l (s t : ByteArray) (n : Nat) (hs : s.size ≤ n) (ht : t.size ≤ n) (hm : n ≤ 140737488351300) : ∀ (d i : Nat), i ≤ n → d = n - i →
    Ev (fun k => colloquyref02_less.l0 k s t (n : Int) (i : Int)) (ltF (decide (s.size < t.size)) ((padB n (bl s)).drop i) ((padB n (bl t)).drop i)) := by
  intro d
  induction d with
  | zero =>
    intro i hi hd
    refine Ev.step (f := fun _ => some (decide (s.size < t.size))) (fun k => ?_) ?_
    · simp only [colloquyref02_less.l0]
      rw [if_neg (by omega)]
      exact congrArg some (decide_eq_decide.2 (by omega))
    · rw [List.drop_of_length_le (by rw [padB_len _ _ (by rw [bl_len]; exact hs)]; omega)]
      exact Ev.now _
  | succ d ih =>
    intro i hi hd
    obtain ⟨x, x1, x2⟩ := pad_at n s i hs (by omega)
    obtain ⟨y, y1, y2⟩ := pad_at n t i ht (by omega)
    have X2 := Aside0.mk x2
    have Y2 := Aside0.mk y2
    clear x2 y2
    rw [x1, y1]
    clear x1 y1
    have hi2 := ih (i + 1) (by omega) (by omega)
    have e1 : wrap64 ((i : Int) + 1) = ((i + 1 : Nat) : Int) := by unfold wrap64; omega
    have e2 : wrap64 ((n : Int) - (s.size : Int)) = ((n - s.size : Nat) : Int) := by unfold wrap64; omega
    have e3 : wrap64 ((n : Int) - (t.size : Int)) = ((n - t.size : Nat) : Int) := by unfold wrap64; omega
    refine Ev.step (f := fun k => colloquyref02_less.j2 k s t n i (x.toNat : Int) 48) (fun k => ?_) ?_
    · simp only [colloquyref02_less.l0]
      rw [if_pos (by omega), e2]
      by_cases h : n - s.size ≤ i
      · have x2 := X2.out
        rw [if_pos h] at x2
        have X3 := Aside0.mk x2
        clear x2
        have e4 : wrap64 ((i : Int) - ((n - s.size : Nat) : Int)) = ((i - (n - s.size) : Nat) : Int) := by unfold wrap64; omega
        rw [if_pos (by omega), e4, if_pos (by omega), if_pos (by omega), X3.out]
      · rw [if_neg (by omega), X2.out, if_neg h]
    · refine Ev.step (f := fun k => if x = y then colloquyref02_less.l0 k s t (n : Int) ((i + 1 : Nat) : Int) else some (decide (x.toNat < y.toNat))) (fun k => ?_) ?_
      · simp only [colloquyref02_less.j2]
        rw [e3, e1]
        by_cases h : n - t.size ≤ i
        · have y2 := Y2.out
          rw [if_pos h] at y2
          have Y3 := Aside0.mk y2
          clear y2
          have e4 : wrap64 ((i : Int) - ((n - t.size : Nat) : Int)) = ((i - (n - t.size) : Nat) : Int) := by unfold wrap64; omega
          rw [if_pos (by omega), e4, if_pos (by omega), if_pos (by omega), ← Y3.out]
          by_cases hc : x = y
          · rw [if_pos hc, if_pos ((u8_int x y).1 hc)]
          · rw [if_neg hc, if_neg (fun h => hc ((u8_int x y).2 h))]
            exact congrArg some (u8_lt x y)
        · have y2 := Y2.out
          rw [if_neg h] at y2
          have Y3 := Aside0.mk y2
          clear y2
          rw [if_neg (by omega), ← Y3.out]
          by_cases hc : x = y
          · rw [if_pos hc, if_pos ((u8_int x y).1 hc)]
          · rw [if_neg hc, if_neg (fun h => hc ((u8_int x y).2 h))]
            exact congrArg some (u8_lt x y)
      · by_cases hc : x = y
        · refine Ev.congr (fun k => if_pos hc) ?_
          rw [ltF, if_pos hc]
          exact hi2
        · refine Ev.congr (fun k => if_neg hc) ?_
          rw [ltF, if_neg hc]
          exact Ev.now _
theorem less_ev (s t : ByteArray) (hs : s.size ≤ 140737488351300) (ht : t.size ≤ 140737488351300) : Ev (fun k => colloquyref02_less.f k s t) (lessL (bl s) (bl t)) := by
  unfold lessL
  rw [bl_len, bl_len]
  unfold colloquyref02_less.f
  have h := less_l s t (max s.size t.size) (by omega) (by omega) (by omega) (max s.size t.size) 0 (by omega) (by omega)
  rw [List.drop_zero, List.drop_zero] at h
  by_cases hc : (t.size : Int) > (s.size : Int)
  · refine Ev.congr (fun k => if_pos hc) ?_
    rw [show max s.size t.size = t.size by omega] at h ⊢
    refine Ev.step (fun k => ?_) h
    simp only [colloquyref02_less.j0]
    rfl
  · refine Ev.congr (fun k => if_neg hc) ?_
    rw [show max s.size t.size = s.size by omega] at h ⊢
    refine Ev.step (fun k => ?_) h
    simp only [colloquyref02_less.j0]
    rfl
end Go.Proofs.YtoinmpjjmkpamaaDoor.Pure
