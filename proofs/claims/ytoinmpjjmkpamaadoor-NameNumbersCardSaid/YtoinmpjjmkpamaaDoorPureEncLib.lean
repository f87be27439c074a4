/- The order of names is the plain order of lists of numbers; texts that end in numbers stand as these. -/
import Derived.Test.YtoinmpjjmkpamaaDoorPureCmpLib
namespace Go.Proofs.YtoinmpjjmkpamaaDoor.Pure
open Go.RowKit Go.Proofs.YtoinmpjjmkpamaaDoor.PA Go.Proofs.YtoinmpjjmkpamaaDoorW.PrintWords Go.Proofs.YtoinmpjjmkpamaaDoorW.PrintLast Go.Proofs.YtoinmpjjmkpamaaDoorW.PrintMore

/-- Two lists of numbers, first difference first. -/
def lexN : List Nat → List Nat → Int
  | [], [] => 0
  | [], _ :: _ => -1
  | _ :: _, [] => 1
  | x :: xs, y :: ys => if x < y then -1 else if y < x then 1 else lexN xs ys
theorem lexN_self : ∀ x, lexN x x = 0
  | [] => rfl
  | a :: x => by rw [lexN, if_neg (Nat.lt_irrefl _), if_neg (Nat.lt_irrefl _), lexN_self x]
theorem lexN_anti : ∀ x y, lexN x y = -lexN y x
  | [], [] => rfl
  | [], _ :: _ => rfl
  | _ :: _, [] => rfl
  | a :: x, b :: y => by
    rw [lexN, lexN, lexN_anti x y]
    repeat' split
    all_goals first | rfl | omega
theorem lexN_le : ∀ x y z, lexN x y ≤ 0 → lexN y z ≤ 0 → lexN x z ≤ 0
  | [], y, [], _, _ => by simp [lexN]
  | [], y, _ :: _, _, _ => by simp [lexN]
  | _ :: _, [], _, h, _ => by simp [lexN] at h
  | a :: x, b :: y, [], _, h => by simp [lexN] at h
  | a :: x, b :: y, c :: z, h1, h2 => by
    have ih := lexN_le x y z
    rw [lexN] at h1 h2 ⊢
    by_cases e1 : a < b
    · by_cases e2 : b < c
      · rw [if_pos (by omega)]; omega
      · rw [if_neg e2] at h2
        by_cases e3 : c < b
        · rw [if_pos e3] at h2; omega
        · rw [if_pos (by omega)]; omega
    · rw [if_neg e1] at h1
      by_cases e3 : b < a
      · rw [if_pos e3] at h1; omega
      · rw [if_neg e3] at h1
        have : a = b := by omega
        subst this
        by_cases e2 : a < c
        · rw [if_pos e2]; omega
        · rw [if_neg e2] at h2 ⊢
          by_cases e4 : c < a
          · rw [if_pos e4] at h2; omega
          · rw [if_neg e4] at h2 ⊢
            exact ih h1 h2
theorem lexN_same (p x y : List Nat) : lexN (p ++ x) (p ++ y) = lexN x y := by
  induction p with
  | nil => rfl
  | cons a p ih => rw [List.cons_append, List.cons_append, lexN, if_neg (Nat.lt_irrefl _), if_neg (Nat.lt_irrefl _), ih]
/-- A run of digits as numbers that tell how long they are. -/
def encR (p : List UInt8) : List Nat := 48 :: (Lib.trimLeftB p 48).length :: ((Lib.trimLeftB p 48).map UInt8.toNat ++ [p.length])
theorem lexN_bytes (x y : List Nat) : ∀ u v : List UInt8, u.length = v.length →
    lexN (u.map UInt8.toNat ++ x) (v.map UInt8.toNat ++ y) = if lexI u v = 0 then lexN x y else lexI u v := by
  intro u
  induction u with
  | nil =>
    intro v h
    obtain rfl : v = [] := List.eq_nil_of_length_eq_zero h.symm
    rfl
  | cons a u ih =>
    intro v h
    cases v with
    | nil => simp at h
    | cons b v =>
      have h' : u.length = v.length := by simpa using h
      have e := ih v h'
      rw [List.map_cons, List.map_cons, List.cons_append, List.cons_append, lexN]
      by_cases h1 : a.toNat < b.toNat
      · have hl : Op.bytesLess (a :: u) (b :: v) = true := by simp [Op.bytesLess, UInt8.lt_iff_toNat_lt, h1]
        rw [if_pos h1]
        unfold lexI
        rw [if_pos hl, if_neg (by decide)]
      · rw [if_neg h1]
        by_cases h2 : b.toNat < a.toNat
        · have hne : a ≠ b := by rintro rfl; omega
          have hl : Op.bytesLess (a :: u) (b :: v) = false := by simp [Op.bytesLess, UInt8.lt_iff_toNat_lt, hne]; omega
          rw [if_pos h2]
          have e1 : lexI (a :: u) (b :: v) = 1 := by
            unfold lexI
            rw [hl, if_neg (by simp), if_neg (fun h => hne (List.cons.inj h).1)]
          rw [e1]
          rfl
        · have : a = b := UInt8.toNat_inj.1 (by omega)
          subst this
          rw [if_neg h2, e]
          have hl : lexI (a :: u) (a :: v) = lexI u v := by unfold lexI; simp [Op.bytesLess]
          rw [hl]
theorem lexN_run (p q : List UInt8) (x y : List Nat) : lexN (encR p ++ x) (encR q ++ y) = if numL p q = 0 then lexN x y else numL p q := by
  unfold encR numL orI
  generalize Lib.trimLeftB p 48 = u
  generalize Lib.trimLeftB q 48 = v
  rw [List.cons_append, List.cons_append, List.cons_append, List.cons_append, lexN, if_neg (Nat.lt_irrefl _), if_neg (Nat.lt_irrefl _), lexN, List.append_assoc, List.append_assoc]
  by_cases h1 : u.length < v.length
  · have : cmpI (u.length : Int) v.length = -1 := by unfold cmpI; rw [if_pos (by omega)]
    simp [h1, this]
  by_cases h2 : v.length < u.length
  · have : cmpI (u.length : Int) v.length = 1 := by unfold cmpI; rw [if_neg (by omega), if_pos (by omega)]
    simp [h1, h2, this]
  have : cmpI (u.length : Int) v.length = 0 := by unfold cmpI; rw [if_neg (by omega), if_neg (by omega)]
  rw [if_neg h1, if_neg h2, this, lexN_bytes _ _ u v (by omega), if_neg (c := (0 : Int) ≠ 0) (fun h => h rfl)]
  by_cases h3 : lexI u v = 0
  · rw [if_pos h3]
    rw [if_neg (c := lexI u v ≠ 0) (fun h => h h3)]
    show lexN (p.length :: x) (q.length :: y) = _
    rw [lexN]
    unfold cmpI
    repeat' split
    all_goals first | rfl | omega
  · rw [if_neg h3]
    rw [if_pos (c := lexI u v ≠ 0) h3, if_neg h3]
/-- A text as a list of numbers: runs as above, other bytes as they are. -/
def enc : Nat → List UInt8 → List Nat
  | 0, _ => []
  | f + 1, l => if l = [] then [] else if 0 < runL l then encR (l.take (runL l)) ++ enc f (l.drop (runL l)) else (l.headD 0).toNat :: enc f (l.drop 1)
theorem runL_head (l : List UInt8) (h : l ≠ []) : 0 < runL l ↔ dgB (l.headD 0) = true := by
  cases l with
  | nil => exact absurd rfl h
  | cons a l =>
    unfold runL
    by_cases e : dgB a = true
    · rw [List.takeWhile_cons_of_pos e]; simp [e]
    · rw [List.takeWhile_cons_of_neg e]; simp [e]
theorem dgB_iff (c : UInt8) : dgB c = true ↔ 48 ≤ c.toNat ∧ c.toNat ≤ 57 := by unfold dgB; simp
theorem cmpL_enc : ∀ f a b, a.length < f → b.length < f → cmpL f a b = lexN (enc f a) (enc f b) := by
  intro f
  induction f with
  | zero => intro a b h; omega
  | succ f ih =>
    intro a b ha hb
    rw [cmpL]
    by_cases h0 : a = [] ∨ b = []
    · rw [if_pos h0]
      have hn : ∀ l : List UInt8, l ≠ [] → ∃ x xs, enc (f + 1) l = x :: xs := by
        intro l hl
        rw [enc, if_neg hl]
        split
        · exact ⟨_, _, rfl⟩
        · exact ⟨_, _, rfl⟩
      have he : enc (f + 1) [] = [] := by rw [enc, if_pos rfl]
      by_cases h1 : a = []
      · subst h1
        rw [he]
        by_cases h2 : b = []
        · subst h2; rw [he]; rfl
        · obtain ⟨x, xs, e⟩ := hn b h2
          have : 0 < b.length := List.length_pos_iff.2 h2
          rw [e]
          unfold cmpI
          rw [if_pos (by simp; omega)]
          rfl
      · have h2 : b = [] := h0.resolve_left h1
        subst h2
        obtain ⟨x, xs, e⟩ := hn a h1
        have : 0 < a.length := List.length_pos_iff.2 h1
        rw [e, he]
        unfold cmpI
        rw [if_neg (by simp), if_pos (by simp; omega)]
        rfl
    · rw [if_neg h0]
      have ha0 : a ≠ [] := fun h => h0 (.inl h)
      have hb0 : b ≠ [] := fun h => h0 (.inr h)
      have hr : ∀ l : List UInt8, (l.drop (runL l)).length = l.length - runL l := fun l => by rw [List.length_drop]
      have hla : 0 < a.length := List.length_pos_iff.2 ha0
      have hlb : 0 < b.length := List.length_pos_iff.2 hb0
      rw [enc, if_neg ha0, enc, if_neg hb0]
      have e1 := runL_head a ha0
      have e2 := runL_head b hb0
      rw [dgB_iff] at e1 e2
      by_cases h1 : 0 < runL a
      · by_cases h2 : 0 < runL b
        · rw [if_pos ⟨h1, h2⟩, if_pos h1, if_pos h2, lexN_run, ih _ _ (by rw [hr]; omega) (by rw [hr]; omega)]
        · rw [if_neg (fun h => h2 h.2), if_pos h1, if_neg h2]
          unfold encR
          rw [List.cons_append, lexN]
          have := e1.1 h1
          have n2 : ¬ (48 ≤ (b.headD 0).toNat ∧ (b.headD 0).toNat ≤ 57) := fun h => h2 (e2.2 h)
          generalize (a.headD 0).toNat = x at *
          generalize (b.headD 0).toNat = y at *
          by_cases h3 : 48 < y
          · rw [if_pos h3]
            have : cmpI (x : Int) y = -1 := by unfold cmpI; rw [if_pos (by omega)]
            rw [this]; rfl
          · rw [if_neg h3, if_pos (c := y < 48) (by omega)]
            have : cmpI (x : Int) y = 1 := by unfold cmpI; rw [if_neg (by omega), if_pos (by omega)]
            rw [this]; rfl
      · by_cases h2 : 0 < runL b
        · rw [if_neg (fun h => h1 h.1), if_neg h1, if_pos h2]
          unfold encR
          rw [List.cons_append, lexN]
          have := e2.1 h2
          have n1 : ¬ (48 ≤ (a.headD 0).toNat ∧ (a.headD 0).toNat ≤ 57) := fun h => h1 (e1.2 h)
          generalize (a.headD 0).toNat = x at *
          generalize (b.headD 0).toNat = y at *
          by_cases h3 : x < 48
          · rw [if_pos h3]
            have : cmpI (x : Int) y = -1 := by unfold cmpI; rw [if_pos (by omega)]
            rw [this]; rfl
          · rw [if_neg h3, if_pos (c := 48 < x) (by omega)]
            have : cmpI (x : Int) y = 1 := by unfold cmpI; rw [if_neg (by omega), if_pos (by omega)]
            rw [this]; rfl
        · rw [if_neg (fun h => h1 h.1), if_neg h1, if_neg h2, lexN, ih _ _ (by rw [List.length_drop]; omega) (by rw [List.length_drop]; omega)]
          generalize (a.headD 0).toNat = x
          generalize (b.headD 0).toNat = y
          unfold cmpI
          repeat' split
          all_goals first | rfl | omega

theorem cmpI_zero (a b : Int) (h : cmpI a b = 0) : a = b := by
  unfold cmpI at h
  by_cases h1 : a < b
  · rw [if_pos h1] at h; simp at h
  · rw [if_neg h1] at h
    by_cases h2 : b < a
    · rw [if_pos h2] at h; simp at h
    · omega
theorem lexI_zero (a b : List UInt8) (h : lexI a b = 0) : a = b := by
  unfold lexI at h
  by_cases h1 : Op.bytesLess a b = true
  · rw [if_pos h1] at h; simp at h
  · rw [if_neg h1] at h
    by_cases h2 : a = b
    · exact h2
    · rw [if_neg h2] at h; simp at h
theorem strip_rep (l : List UInt8) : l = List.replicate (l.length - (Lib.trimLeftB l 48).length) 48 ++ Lib.trimLeftB l 48 := by
  unfold Lib.trimLeftB
  induction l with
  | nil => rfl
  | cons a l ih =>
    by_cases h : a = 48
    · subst h
      have hl : (l.dropWhile (· == 48)).length ≤ l.length := List.Sublist.length_le (List.dropWhile_sublist _)
      rw [List.dropWhile_cons_of_pos (by simp), List.length_cons, show l.length + 1 - (l.dropWhile (· == 48)).length = (l.length - (l.dropWhile (· == 48)).length) + 1 by omega,
        List.replicate_succ, List.cons_append, ← ih]
    · rw [List.dropWhile_cons_of_neg (by simpa using h), Nat.sub_self]
      rfl
theorem numL_zero (p q : List UInt8) (h : numL p q = 0) : p = q := by
  unfold numL orI at h
  by_cases h1 : cmpI ((Lib.trimLeftB p 48).length : Int) (Lib.trimLeftB q 48).length = 0
  · rw [if_neg (c := cmpI ((Lib.trimLeftB p 48).length : Int) (Lib.trimLeftB q 48).length ≠ 0) (fun e => e h1)] at h
    by_cases h2 : lexI (Lib.trimLeftB p 48) (Lib.trimLeftB q 48) = 0
    · rw [if_neg (fun e => e h2)] at h
      have e1 := lexI_zero _ _ h2
      have e2 := cmpI_zero _ _ h
      have e3 : p.length = q.length := by omega
      rw [strip_rep p, strip_rep q, e1, e3]
    · rw [if_pos h2] at h
      exact absurd h h2
  · rw [if_pos h1] at h
    exact absurd h h1
theorem cmpL_zero : ∀ f a b, a.length < f → b.length < f → cmpL f a b = 0 → a = b := by
  intro f
  induction f with
  | zero => intro a b h; omega
  | succ f ih =>
    intro a b ha hb h
    rw [cmpL] at h
    by_cases h0 : a = [] ∨ b = []
    · rw [if_pos h0] at h
      have := cmpI_zero _ _ h
      rcases h0 with rfl | rfl
      · exact (List.eq_nil_of_length_eq_zero (by simpa using this.symm)).symm
      · exact List.eq_nil_of_length_eq_zero (by simpa using this)
    · rw [if_neg h0] at h
      have ha0 : a ≠ [] := fun h => h0 (.inl h)
      have hb0 : b ≠ [] := fun h => h0 (.inr h)
      have hla : 0 < a.length := List.length_pos_iff.2 ha0
      have hlb : 0 < b.length := List.length_pos_iff.2 hb0
      by_cases h1 : 0 < runL a ∧ 0 < runL b
      · rw [if_pos h1] at h
        by_cases h2 : numL (a.take (runL a)) (b.take (runL b)) = 0
        · rw [if_pos h2] at h
          have e1 := numL_zero _ _ h2
          have e2 := ih _ _ (by rw [List.length_drop]; omega) (by rw [List.length_drop]; omega) h
          rw [← List.take_append_drop (runL a) a, ← List.take_append_drop (runL b) b, e1, e2]
        · rw [if_neg h2] at h
          exact absurd h h2
      · rw [if_neg h1] at h
        by_cases h2 : cmpI ((a.headD 0).toNat) ((b.headD 0).toNat) = 0
        · rw [if_pos h2] at h
          have e1 := cmpI_zero _ _ h2
          have e2 := ih _ _ (by rw [List.length_drop]; omega) (by rw [List.length_drop]; omega) h
          cases a with
          | nil => exact absurd rfl ha0
          | cons x a =>
            cases b with
            | nil => exact absurd rfl hb0
            | cons y b =>
              have e3 : x = y := UInt8.toNat_inj.1 (Int.ofNat.inj e1)
              have e4 : a = b := e2
              rw [e3, e4]
        · rw [if_neg h2] at h
          exact absurd h h2
/-- What the order keeps. -/
theorem cmpL_anti (f : Nat) (a b : List UInt8) (ha : a.length < f) (hb : b.length < f) : cmpL f a b = -cmpL f b a := by
  rw [cmpL_enc f a b ha hb, cmpL_enc f b a hb ha]
  exact lexN_anti _ _
theorem cmpL_self (f : Nat) (a : List UInt8) (ha : a.length < f) : cmpL f a a = 0 := by
  rw [cmpL_enc f a a ha ha]
  exact lexN_self _
theorem cmpL_le (f : Nat) (a b c : List UInt8) (ha : a.length < f) (hb : b.length < f) (hc : c.length < f) (h1 : cmpL f a b ≤ 0) (h2 : cmpL f b c ≤ 0) : cmpL f a c ≤ 0 := by
  rw [cmpL_enc f a b ha hb] at h1
  rw [cmpL_enc f b c hb hc] at h2
  rw [cmpL_enc f a c ha hc]
  exact lexN_le _ _ _ h1 h2
theorem runL_split (u v : List UInt8) : runL (u ++ 46 :: v) = runL u := by
  unfold runL
  induction u with
  | nil => rfl
  | cons a u ih =>
    rw [List.cons_append]
    by_cases e : dgB a = true
    · rw [List.takeWhile_cons_of_pos e, List.takeWhile_cons_of_pos e, List.length_cons, List.length_cons, ih]
    · rw [List.takeWhile_cons_of_neg e, List.takeWhile_cons_of_neg e]
theorem enc_fuel : ∀ f g l, l.length < f → l.length < g → enc f l = enc g l := by
  intro f
  induction f with
  | zero => intro g l h; omega
  | succ f ih =>
    intro g l h1 h2
    obtain ⟨g, rfl⟩ : ∃ m, g = m + 1 := ⟨g - 1, by omega⟩
    rw [enc, enc]
    by_cases h : l = []
    · rw [if_pos h, if_pos h]
    · have : 0 < l.length := List.length_pos_iff.2 h
      rw [if_neg h, if_neg h]
      by_cases hr : 0 < runL l
      · rw [if_pos hr, if_pos hr, ih g (l.drop (runL l)) (by rw [List.length_drop]; omega) (by rw [List.length_drop]; omega)]
      · rw [if_neg hr, if_neg hr, ih g (l.drop 1) (by rw [List.length_drop]; omega) (by rw [List.length_drop]; omega)]
theorem enc_split : ∀ f u v, (u ++ 46 :: v).length < f → enc f (u ++ 46 :: v) = enc f u ++ 46 :: enc f v := by
  intro f
  induction f with
  | zero => intro u v h; omega
  | succ f ih =>
    intro u v h
    rw [List.length_append, List.length_cons] at h
    have hv : enc (f + 1) v = enc f v := enc_fuel _ _ _ (by omega) (by omega)
    rw [hv, enc, if_neg (by simp), enc.eq_def (f + 1) u]
    simp only []
    rw [runL_split]
    by_cases hu : u = []
    · subst hu
      rfl
    · have hl : 0 < u.length := List.length_pos_iff.2 hu
      rw [if_neg hu]
      have hle := runL_le u
      by_cases hr : 0 < runL u
      · rw [if_pos hr, if_pos hr, List.take_append_of_le_length hle, List.drop_append_of_le_length hle, ih (u.drop (runL u)) v (by rw [List.length_append, List.length_drop, List.length_cons]; omega), List.append_assoc]
      · rw [if_neg hr, if_neg hr]
        cases u with
        | nil => exact absurd rfl hu
        | cons a u =>
          rw [List.cons_append]
          show _ :: enc f (u ++ 46 :: v) = _ :: enc f u ++ _
          rw [ih u v (by rw [List.length_append, List.length_cons]; simp at h; omega)]
          rfl
/-- Texts that end in runs stand as these runs do. -/
theorem cmpL_runs (f : Nat) (s a b : List UInt8) (ha : (s ++ 46 :: a).length < f) (hb : (s ++ 46 :: b).length < f) (da : ∀ c ∈ a, dgB c = true) (db : ∀ c ∈ b, dgB c = true) (na : a ≠ []) (nb : b ≠ []) :
    cmpL f (s ++ 46 :: a) (s ++ 46 :: b) = numL a b := by
  rw [cmpL_enc f _ _ ha hb, enc_split f s a ha, enc_split f s b hb, lexN_same]
  rw [lexN, if_neg (Nat.lt_irrefl _), if_neg (Nat.lt_irrefl _)]
  rw [List.length_append, List.length_cons] at ha hb
  have run_all : ∀ l : List UInt8, (∀ c ∈ l, dgB c = true) → runL l = l.length := by
    intro l
    induction l with
    | nil => intro _; rfl
    | cons c l ih =>
      intro h
      unfold runL
      rw [List.takeWhile_cons_of_pos (h c (List.mem_cons_self ..)), List.length_cons, List.length_cons]
      exact congrArg (· + 1) (ih fun d hd => h d (List.mem_cons_of_mem _ hd))
  have one : ∀ l : List UInt8, (∀ c ∈ l, dgB c = true) → l ≠ [] → l.length < f → enc f l = encR l ++ [] := by
    intro l h hn hf
    obtain ⟨g, rfl⟩ : ∃ m, f = m + 1 := ⟨f - 1, by omega⟩
    have hl : 0 < l.length := List.length_pos_iff.2 hn
    rw [enc, if_neg hn, run_all l h, if_pos hl, List.take_length, List.drop_length]
    cases g with
    | zero => rfl
    | succ g => rw [enc, if_pos rfl]
  rw [one a da na (by omega), one b db nb (by omega), lexN_run]
  by_cases h : numL a b = 0
  · rw [if_pos h, h]; rfl
  · rw [if_neg h]
/-- The digits of a number, none of zero. -/
def stN : Nat → Nat → List UInt8
  | 0, _ => []
  | f + 1, n => if n = 0 then [] else stN f (n / 10) ++ [UInt8.ofNat (48 + n % 10)]
theorem stN_fuel : ∀ f g n, n < f → n < g → stN f n = stN g n := by
  intro f
  induction f with
  | zero => intro g n h; omega
  | succ f ih =>
    intro g n h1 h2
    obtain ⟨g, rfl⟩ : ∃ m, g = m + 1 := ⟨g - 1, by omega⟩
    rw [stN, stN]
    by_cases h : n = 0
    · rw [if_pos h, if_pos h]
    · rw [if_neg h, if_neg h, ih g (n / 10) (by omega) (by omega)]
theorem dig_toNat (n : Nat) : (UInt8.ofNat (48 + n % 10)).toNat = 48 + n % 10 := by
  rw [UInt8.toNat_ofNat']
  omega
theorem stN_dg : ∀ f n, ∀ c ∈ stN f n, dgB c = true := by
  intro f
  induction f with
  | zero => intro n c h; simp [stN] at h
  | succ f ih =>
    intro n c h
    rw [stN] at h
    by_cases hn : n = 0
    · rw [if_pos hn] at h; simp at h
    · rw [if_neg hn] at h
      rcases List.mem_append.1 h with h | h
      · exact ih _ _ h
      · have : c = UInt8.ofNat (48 + n % 10) := by simpa using h
        subst this
        rw [dgB_iff, dig_toNat]
        omega
theorem stN_head : ∀ f n, n < f → n ≠ 0 → ∃ c r, stN f n = c :: r ∧ c ≠ 48 := by
  intro f
  induction f with
  | zero => intro n h; omega
  | succ f ih =>
    intro n h hn
    rw [stN, if_neg hn]
    by_cases h1 : n / 10 = 0
    · have e : stN f (n / 10) = [] := by
        rw [h1]
        cases f with
        | zero => rfl
        | succ f => rw [stN, if_pos rfl]
      rw [e]
      refine ⟨_, _, rfl, ?_⟩
      intro e2
      have := congrArg UInt8.toNat e2
      rw [dig_toNat] at this
      have h48 : (48 : UInt8).toNat = 48 := rfl
      omega
    · obtain ⟨c, r, e, h2⟩ := ih (n / 10) (by omega) h1
      rw [e]
      exact ⟨c, r ++ _, rfl, h2⟩
theorem less_snoc_of_less : ∀ (x y u v : List UInt8), x.length = y.length → Op.bytesLess x y = true → Op.bytesLess (x ++ u) (y ++ v) = true := by
  intro x
  induction x with
  | nil =>
    intro y u v h h1
    obtain rfl : y = [] := List.eq_nil_of_length_eq_zero h.symm
    simp [Op.bytesLess] at h1
  | cons a x ih =>
    intro y u v h h1
    cases y with
    | nil => simp at h
    | cons b y =>
      have h' : x.length = y.length := by simpa using h
      rw [Op.bytesLess, Bool.or_eq_true, Bool.and_eq_true] at h1
      rw [List.cons_append, List.cons_append, Op.bytesLess, Bool.or_eq_true, Bool.and_eq_true]
      rcases h1 with h1 | ⟨h1, h2⟩
      · exact .inl h1
      · exact .inr ⟨h1, ih y u v h' h2⟩
theorem less_same : ∀ (x u v : List UInt8), Op.bytesLess u v = true → Op.bytesLess (x ++ u) (x ++ v) = true := by
  intro x u v h
  induction x with
  | nil => exact h
  | cons a x ih => rw [List.cons_append, List.cons_append, Op.bytesLess, Bool.or_eq_true, Bool.and_eq_true]; exact .inr ⟨by simp, ih⟩
theorem stN_lt : ∀ f n m, n < m → m < f → (stN f n).length < (stN f m).length ∨ ((stN f n).length = (stN f m).length ∧ Op.bytesLess (stN f n) (stN f m) = true) := by
  intro f
  induction f with
  | zero => intro n m _ h; omega
  | succ f ih =>
    intro n m h1 h2
    rw [stN, stN, if_neg (c := m = 0) (by omega)]
    by_cases hn : n = 0
    · rw [if_pos hn]
      left
      simp
    · rw [if_neg hn, List.length_append, List.length_append, List.length_singleton, List.length_singleton]
      by_cases hd : n / 10 = m / 10
      · right
        rw [hd]
        refine ⟨rfl, less_same _ _ _ ?_⟩
        rw [Op.bytesLess, Bool.or_eq_true]
        left
        rw [decide_eq_true_eq, UInt8.lt_iff_toNat_lt, dig_toNat, dig_toNat]
        omega
      · rcases ih (n / 10) (m / 10) (by omega) (by omega) with h | ⟨h, h3⟩
        · left; omega
        · right
          exact ⟨by omega, less_snoc_of_less _ _ _ _ h h3⟩
/-- The digits of a number, one of zero. -/
def dcN (n : Nat) : List UInt8 := if n = 0 then [48] else stN (n + 1) n
theorem strip_dc (n : Nat) : Lib.trimLeftB (dcN n) 48 = stN (n + 1) n := by
  unfold dcN
  by_cases h : n = 0
  · subst h; rfl
  · rw [if_neg h]
    obtain ⟨c, r, e, hc⟩ := stN_head (n + 1) n (by omega) h
    rw [e]
    unfold Lib.trimLeftB
    rw [List.dropWhile_cons_of_neg (by simpa using hc)]
theorem dcN_dg (n : Nat) : ∀ c ∈ dcN n, dgB c = true := by
  intro c hc
  unfold dcN at hc
  by_cases h : n = 0
  · rw [if_pos h] at hc
    have : c = 48 := by simpa using hc
    subst this
    rfl
  · rw [if_neg h] at hc
    exact stN_dg _ _ c hc
theorem dcN_ne (n : Nat) : dcN n ≠ [] := by
  unfold dcN
  by_cases h : n = 0
  · rw [if_pos h]; simp
  · rw [if_neg h]
    obtain ⟨c, r, e, hc⟩ := stN_head (n + 1) n (by omega) h
    rw [e]; simp
theorem less_asym : ∀ x y : List UInt8, Op.bytesLess x y = true → Op.bytesLess y x = false ∧ x ≠ y := by
  intro x
  induction x with
  | nil =>
    intro y h
    cases y with
    | nil => simp [Op.bytesLess] at h
    | cons b y => exact ⟨rfl, by simp⟩
  | cons a x ih =>
    intro y h
    cases y with
    | nil => simp [Op.bytesLess] at h
    | cons b y =>
      rw [Op.bytesLess, Bool.or_eq_true, Bool.and_eq_true, decide_eq_true_eq, UInt8.lt_iff_toNat_lt, beq_iff_eq] at h
      rw [Op.bytesLess, Bool.or_eq_false_iff, Bool.and_eq_false_iff, decide_eq_false_iff_not, UInt8.lt_iff_toNat_lt]
      rcases h with h | ⟨rfl, h⟩
      · refine ⟨⟨by omega, .inl ?_⟩, ?_⟩
        · simp only [beq_eq_false_iff_ne]; rintro rfl; omega
        · intro e
          have := (List.cons.inj e).1
          subst this
          omega
      · have := ih y h
        refine ⟨⟨by omega, .inr this.1⟩, fun e => this.2 (List.cons.inj e).2⟩
theorem num_lt (n m : Nat) (h : n < m) : numL (dcN n) (dcN m) = -1 := by
  unfold numL
  rw [strip_dc, strip_dc, stN_fuel (n + 1) (m + 1) n (by omega) (by omega)]
  unfold orI
  rcases stN_lt (m + 1) n m h (by omega) with h1 | ⟨h1, h2⟩
  · have e : cmpI ((stN (m + 1) n).length : Int) (stN (m + 1) m).length = -1 := by unfold cmpI; rw [if_pos (by omega)]
    rw [e]; rfl
  · have e : cmpI ((stN (m + 1) n).length : Int) (stN (m + 1) m).length = 0 := by unfold cmpI; rw [if_neg (by omega), if_neg (by omega)]
    have e2 : lexI (stN (m + 1) n) (stN (m + 1) m) = -1 := by unfold lexI; rw [if_pos h2]
    rw [e, e2]; rfl
theorem num_gt (n m : Nat) (h : m < n) : numL (dcN n) (dcN m) = 1 := by
  unfold numL
  rw [strip_dc, strip_dc, stN_fuel (m + 1) (n + 1) m (by omega) (by omega)]
  unfold orI
  rcases stN_lt (n + 1) m n h (by omega) with h1 | ⟨h1, h2⟩
  · have e : cmpI ((stN (n + 1) n).length : Int) (stN (n + 1) m).length = 1 := by unfold cmpI; rw [if_neg (by omega), if_pos (by omega)]
    rw [e]; rfl
  · have e : cmpI ((stN (n + 1) n).length : Int) (stN (n + 1) m).length = 0 := by unfold cmpI; rw [if_neg (by omega), if_neg (by omega)]
    have h3 := less_asym _ _ h2
    have e2 : lexI (stN (n + 1) n) (stN (n + 1) m) = 1 := by unfold lexI; rw [if_neg (by rw [h3.1]; simp), if_neg (fun e => h3.2 e.symm)]
    rw [e, e2]; rfl
theorem num_zero (a : List UInt8) : numL a (48 :: a) = -1 := by
  have e : Lib.trimLeftB (48 :: a) 48 = Lib.trimLeftB a 48 := by
    unfold Lib.trimLeftB
    rw [List.dropWhile_cons_of_pos (by simp)]
  unfold numL orI
  rw [e]
  have h1 : cmpI ((Lib.trimLeftB a 48).length : Int) (Lib.trimLeftB a 48).length = 0 := by unfold cmpI; rw [if_neg (by omega), if_neg (by omega)]
  have h2 : ∀ x : List UInt8, lexI x x = 0 := by
    intro x
    by_cases h : Op.bytesLess x x = true
    · exact absurd rfl (less_asym x x h).2
    · unfold lexI; rw [if_neg h, if_pos rfl]
  rw [h1, h2]
  show cmpI (a.length : Int) ((48 :: a).length : Int) = -1
  unfold cmpI
  rw [if_pos (by rw [List.length_cons]; omega)]
theorem num_self (a : List UInt8) : numL a a = 0 := by
  unfold numL orI
  have h1 : ∀ i : Int, cmpI i i = 0 := fun i => by unfold cmpI; rw [if_neg (by omega), if_neg (by omega)]
  have h2 : ∀ x : List UInt8, lexI x x = 0 := by
    intro x
    by_cases h : Op.bytesLess x x = true
    · exact absurd rfl (less_asym x x h).2
    · unfold lexI; rw [if_neg h, if_pos rfl]
  rw [h1, h2, h1]
  rfl
end Go.Proofs.YtoinmpjjmkpamaaDoor.Pure
