/- A session with a board: what its calls come to, in plain words. -/
import Derived.Test.YtbnoedefkbnpjaaHObj
import Derived.Test.YtbnoedefkbnpjaaHClone
import Derived.Test.YtbnoedefkbnpjaaHKinds
namespace Go.Proofs.Ytbnoedefkbnpjaa.PA
open Go.RowKit Go.Proofs.YtbnoedefkbnpjaaW.PrintWords Go.Proofs.YtbnoedefkbnpjaaW.PrintLast Go.Proofs.YtbnoedefkbnpjaaW.PrintMore
set_option linter.unusedVariables false
set_option linter.unusedSimpArgs false
theorem clone0 (A0 : Option Addr) (c0 : Nat) (l : List Int) (w : World) (hr : Kd.C (Kd.int .u8) w A0 l.length l) (hc : l.length ≤ c0) (hl : l.length < 140737488355328) :
    Calls Try.prog 36 #[.slice A0 l.length c0] w fun e w' => ∃ A c S, e = .returned (.slice A l.length c) ∧ Out w w' (fun _ => False) [Chunk.row (Kd.int .u8) 5 w.heap.size S (.slice A l.length c) l] := by
  refine (clone_bytes A0 c0 l w hr hc hl).mono ?_
  rintro e w' ⟨A, c, rfl, h, hb⟩
  exact ⟨A, c, _, rfl, Out.row h hb⟩
theorem tk_b (n : Int) : 0 ≤ mn (mx n 0) 1000000 ∧ mn (mx n 0) 1000000 ≤ 1000000 := by
  unfold mn mx
  (repeat' split) <;> omega
def dueL (chs : List S52) (en wt at_ last : Int) : Int × Int :=
  if at_ < chs.length then (last + mn (mx (chs.getD at_.toNat z52).f0 0) 1000000, 1) else if en = 1 then (last + mn (mx wt 0) 1000000, 2) else if en = 2 then (last + mn (mx wt 0) 1000000, 3) else (0, 4)
structure NX where
  k : Int
  at_ : Int
  now : Int
  last : Int
  b : List Int
  deriving DecidableEq
def nextL (chs : List S52) (en wt at_ now last limit : Int) : NX :=
  if (dueL chs en wt at_ last).2 = 4 then ⟨4, at_, mx now limit, last, []⟩
  else if mx limit now < (dueL chs en wt at_ last).1 then ⟨4, at_, mx now limit, last, []⟩
  else if (dueL chs en wt at_ last).2 ≠ 1 then ⟨(dueL chs en wt at_ last).2, at_, mx now (dueL chs en wt at_ last).1, last, []⟩
  else ⟨1, at_ + 1, mx now (dueL chs en wt at_ last).1, (dueL chs en wt at_ last).1, (chs.getD at_.toNat z52).f1⟩
theorem due_one {chs : List S52} {en wt at_ last : Int} (h : (dueL chs en wt at_ last).2 = 1) : at_ < chs.length := by
  unfold dueL at h
  split at h
  · assumption
  · split at h
    · cases h
    · split at h <;> cases h
theorem due_b (chs : List S52) (en wt at_ last : Int) (h : 0 ≤ last) : 0 ≤ (dueL chs en wt at_ last).1 ∧ (dueL chs en wt at_ last).1 ≤ last + 1000000 := by
  unfold dueL
  have h1 := tk_b (chs.getD at_.toNat z52).f0
  have h2 := tk_b wt
  (repeat' split) <;> constructor <;> dsimp only <;> omega
/-- A line's state after a step is one. -/
theorem next_st (chs : List S52) (en wt at_ now last limit : Int) (ha : 0 ≤ at_ ∧ at_ ≤ chs.length) (hl : 0 ≤ last ∧ last ≤ 1000000 * at_) :
    (0 ≤ (nextL chs en wt at_ now last limit).at_ ∧ (nextL chs en wt at_ now last limit).at_ ≤ chs.length) ∧ (0 ≤ (nextL chs en wt at_ now last limit).last ∧ (nextL chs en wt at_ now last limit).last ≤ 1000000 * (nextL chs en wt at_ now last limit).at_) := by
  have hb := due_b chs en wt at_ last hl.1
  unfold nextL
  split
  · exact ⟨ha, hl⟩
  split
  · exact ⟨ha, hl⟩
  split
  · exact ⟨ha, hl⟩
  rename_i h1 h2 h3
  have := due_one (Decidable.not_not.1 h3)
  dsimp only
  omega
theorem next_all (chs : List S52) (en wt i wh : Int) (h0 : 0 ≤ i) (h1 : i < chs.length) (h2 : 0 ≤ wh ∧ wh ≤ 1000000000) :
    nextL chs en wt i wh wh 1125899906842624 = ⟨1, i + 1, wh + mn (mx (chs.getD i.toNat z52).f0 0) 1000000, wh + mn (mx (chs.getD i.toNat z52).f0 0) 1000000, (chs.getD i.toNat z52).f1⟩ := by
  have hd : dueL chs en wt i wh = (wh + mn (mx (chs.getD i.toNat z52).f0 0) 1000000, 1) := by unfold dueL; rw [if_pos h1]
  have ht := tk_b (chs.getD i.toNat z52).f0
  have hm : mx wh (wh + mn (mx (chs.getD i.toNat z52).f0 0) 1000000) = wh + mn (mx (chs.getD i.toNat z52).f0 0) 1000000 := by generalize mn (mx (chs.getD i.toNat z52).f0 0) 1000000 = t at ht; unfold mx; split <;> omega
  have hl : ¬ mx 1125899906842624 wh < wh + mn (mx (chs.getD i.toNat z52).f0 0) 1000000 := by generalize mn (mx (chs.getD i.toNat z52).f0 0) 1000000 = t at ht; unfold mx; split <;> omega
  unfold nextL
  rw [hd]
  simp only [hm]
  rw [if_neg (by decide), if_neg hl, if_neg (by decide)]
theorem next_end (chs : List S52) (en wt i now wh lim q : Int) (he : (en = 1 ∧ q = 2) ∨ (en = 2 ∧ q = 3)) (h1 : i = chs.length) (hn : wh ≤ now) (hl : wh + mn (mx wt 0) 1000000 ≤ lim ∨ wh + mn (mx wt 0) 1000000 ≤ now) :
    nextL chs en wt i now wh lim = ⟨q, i, mx now (wh + mn (mx wt 0) 1000000), wh, []⟩ := by
  have hd : dueL chs en wt i wh = (wh + mn (mx wt 0) 1000000, q) := by
    unfold dueL
    rw [if_neg (by omega)]
    rcases he with ⟨rfl, rfl⟩ | ⟨rfl, rfl⟩
    · rw [if_pos rfl]
    · rw [if_neg (by decide), if_pos rfl]
  have hl2 : ¬ mx lim now < wh + mn (mx wt 0) 1000000 := by generalize mn (mx wt 0) 1000000 = t at hl; unfold mx; split <;> omega
  unfold nextL
  rw [hd]
  dsimp only
  rw [if_neg (by omega), if_neg hl2, if_pos (by omega)]
theorem next_late (chs : List S52) (en wt i now wh lim : Int) (h1 : i = chs.length) (h2 : en ≠ 1) (h3 : en ≠ 2) : nextL chs en wt i now wh lim = ⟨4, i, mx now lim, wh, []⟩ := by
  have hd : dueL chs en wt i wh = (0, 4) := by
    unfold dueL
    rw [if_neg (by omega), if_neg h2, if_neg h3]
  unfold nextL
  rw [hd, if_pos rfl]
theorem mx_same (a b : Int) : mx (mx a b) b = mx a b := by
  unfold mx
  (repeat' split) <;> omega
theorem mx_big {a b : Int} (h : b ≤ a) : mx a b = a := by
  unfold mx
  split <;> omega
theorem mx_big' {a b : Int} (h : a ≤ b) : mx a b = b := by
  unfold mx
  split <;> omega
theorem next_bl (chs : List S52) (en wt at_ now last limit : Int) (ha : 0 ≤ at_) (hz : ∀ x ∈ chs, x.f1.length ≤ 140737488351232) : (nextL chs en wt at_ now last limit).b.length ≤ 140737488351232 := by
  unfold nextL
  split
  · simp
  split
  · simp
  split
  · simp
  rename_i h1 h2 h3
  have h := due_one (Decidable.not_not.1 h3)
  dsimp only
  rw [List.getD_eq_getElem?_getD, List.getElem?_eq_getElem (by omega)]
  exact hz _ (List.getElem_mem _)
theorem take_snoc52 (xs : List S52) (i : Int) (h0 : 0 ≤ i) (h1 : i < xs.length) : xs.take i.toNat ++ [(⟨(xs.getD i.toNat z52).f0, (xs.getD i.toNat z52).f1⟩ : S52)] = xs.take (i + 1).toNat := by
  have e : (i + 1).toNat = i.toNat + 1 := by omega
  have hlt : i.toNat < xs.length := by omega
  rw [e, List.take_add_one, List.getD_eq_getElem?_getD, List.getElem?_eq_getElem hlt]
  rfl
section
variable {α : Type} {d : Kd α} {w w0 : World} {L : List Chunk}
theorem Own.row_nil (h : Own w0 w L) (d : Kd α) (e base : Nat) : Own w0 w (Chunk.row d e base (fun _ => False) (.slice none 0 0) [] :: L) :=
  h.fresh (cs := [_]) (Out.one (Out.refl w _) (c := Chunk.row d e base (fun _ => False) (.slice none 0 0) []) (Kd.R_nil _ _ _ _ _) (fun _ hk => hk.elim))
theorem reps_none {R : α → List Value → Prop} {sz : Nat} : Reps R sz [] [] := ⟨by simp, fun j p h => by simp at h⟩
theorem reps_more {R : α → List Value → Prop} {sz : Nat} {x : α} {xs : List α} {c cs : List Value} (h : R x c) (hl : c.length = sz) (hs : Reps R sz xs cs) : Reps R sz (x :: xs) (c ++ cs) := by
  refine ⟨?_, fun j p hj => ?_⟩
  · rw [List.length_append, hl, hs.1, List.length_cons, Nat.add_mul, Nat.one_mul, Nat.add_comm]
  · cases j with
    | zero =>
      obtain rfl : x = p := by simpa using hj
      rw [Nat.zero_mul, List.drop_zero, List.take_append_of_le_length (by omega), List.take_of_length_le (by omega)]
      exact h
    | succ j =>
      have := hs.2 j p (by simpa using hj)
      have e : (j + 1) * sz = sz + j * sz := by rw [Nat.add_mul, Nat.one_mul, Nat.add_comm]
      rw [e, List.drop_append, List.drop_of_length_le (by omega), List.nil_append, show sz + j * sz - c.length = j * sz by omega]
      exact this
theorem C_lit {g e : Nat} {xs : List α} {cs : List Value} (hb : w.heap[g]? = some (.cells cs.toArray e (0, 0))) (hr : Reps (d.K w) d.sz xs cs) (hm : xs.length ≤ maxLen) : d.C w (some ⟨g, 0, none⟩) xs.length xs := by
  refine ⟨rfl, hm, fun _ => ⟨_, rfl, fun j p hj => ⟨_, ?_, hr.2 j p hj, fun i u hi => ?_⟩⟩⟩
  · exact d.K_len (hr.2 j p hj)
  · rw [add_plain]
    refine blk_at hb ?_
    rw [List.getElem?_take] at hi
    split at hi
    · rw [List.getElem?_drop] at hi
      simpa using hi
    · cases hi
end
end Go.Proofs.Ytbnoedefkbnpjaa.PA
