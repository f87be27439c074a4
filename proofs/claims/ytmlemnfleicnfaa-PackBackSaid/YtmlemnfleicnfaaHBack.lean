/- What is written is read back: numbers and texts, and the same less their last byte. -/
import Derived.Test.YtmlemnfleicnfaaHReads
import Derived.Test.YtmlemnfleicnfaaHPut
namespace Go.Proofs.Ytmlemnfleicnfaa.PA
open Go.RowKit Go.Proofs.YtmlemnfleicnfaaW.PrintWords Go.Proofs.YtmlemnfleicnfaaW.PrintLast Go.Proofs.YtmlemnfleicnfaaW.PrintMore
set_option linter.unusedVariables false
set_option linter.unusedSimpArgs false
theorem valN_app (pre l : List Int) : ∀ k, k ≤ pre.length → valN (pre ++ l) k = valN pre k
  | 0, _ => rfl
  | k + 1, h => by
    unfold valN
    rw [valN_app pre l k (by omega)]
    have : (pre ++ l).getD k 0 = pre.getD k 0 := by
      simp [List.getD_eq_getElem?_getD, List.getElem?_append_left (show k < pre.length by omega)]
    rw [this]
theorem getD_pre (pre l : List Int) (x : Int) : (pre ++ x :: l).getD pre.length 0 = x := by
  simp [List.getD_eq_getElem?_getD]
theorem gnumFrom_put (rest : List Int) : ∀ (f u : Nat) (pre : List Int) (G : Nat), u < 128 ^ f → (0 < f ∨ 0 < u) → (0 < u ∨ pre.length = 0) → pre.length + f ≤ 9 → f ≤ G → valN pre pre.length + (u : Int) * 128 ^ pre.length ≤ 4611686018427387904 →
    gnumFrom (pre ++ (putN f u ++ rest)) G pre.length = some (valN pre pre.length + (u : Int) * 128 ^ pre.length, pre.length + (putN f u).length)
  | 0, u, pre, G, hu, hf, h0, hl, hG, hv => by
    exfalso
    rw [Nat.pow_zero] at hu
    omega
  | f + 1, u, pre, G, hu, hf, h0, hl, hG, hv => by
    obtain ⟨G', rfl⟩ : ∃ G', G = G' + 1 := ⟨G - 1, by omega⟩
    unfold putN
    split
    · rename_i h127
      have hx : (pre ++ (((u % 128 + 128 : Nat) : Int) :: putN f (u / 128) ++ rest)).getD pre.length 0 = ((u % 128 + 128 : Nat) : Int) := getD_pre _ _ _
      unfold gnumFrom
      rw [hx, if_pos (by simp; omega), if_neg (by omega)]
      have e : pre ++ (((u % 128 + 128 : Nat) : Int) :: putN f (u / 128) ++ rest) = (pre ++ [((u % 128 + 128 : Nat) : Int)]) ++ (putN f (u / 128) ++ rest) := by simp
      have hl1 : (pre ++ [((u % 128 + 128 : Nat) : Int)]).length = pre.length + 1 := by simp
      have hval : valN (pre ++ [((u % 128 + 128 : Nat) : Int)]) (pre.length + 1) + ((u / 128 : Nat) : Int) * 128 ^ (pre.length + 1) = valN pre pre.length + (u : Int) * 128 ^ pre.length := by
        have h1 : valN (pre ++ [((u % 128 + 128 : Nat) : Int)]) (pre.length + 1) = valN pre pre.length + ((u % 128 : Nat) : Int) * 128 ^ pre.length := by
          show valN (pre ++ [((u % 128 + 128 : Nat) : Int)]) pre.length + _ = _
          rw [valN_app _ _ _ (Nat.le_refl _), getD_pre]
          have : (((u % 128 + 128 : Nat) : Int)) % 128 = ((u % 128 : Nat) : Int) := by omega
          rw [this]
        rw [h1, Int.pow_succ]
        have h2 : (u : Int) = ((u % 128 : Nat) : Int) + ((u / 128 : Nat) : Int) * 128 := by omega
        conv => rhs; rw [h2]
        rw [Int.add_mul, Int.add_assoc, Int.mul_assoc, Int.mul_comm 128 (128 ^ pre.length)]
      have ih := gnumFrom_put rest f (u / 128) (pre ++ [((u % 128 + 128 : Nat) : Int)]) G' (by rw [Nat.pow_succ] at hu; omega) (.inr (by omega)) (.inl (by omega)) (by omega) (by omega) (by rw [hl1, hval]; exact hv)
      rw [hl1] at ih
      rw [e, ih, hval]
      simp
      omega
    · rename_i h127
      have hx : (pre ++ ([(u : Int)] ++ rest)).getD pre.length 0 = (u : Int) := getD_pre _ _ _
      have hval : valN (pre ++ ([(u : Int)] ++ rest)) (pre.length + 1) = valN pre pre.length + (u : Int) * 128 ^ pre.length := by
        show valN (pre ++ ([(u : Int)] ++ rest)) pre.length + _ = _
        rw [valN_app _ _ _ (Nat.le_refl _), hx]
        have : (u : Int) % 128 = u := by omega
        rw [this]
      unfold gnumFrom
      rw [hx, if_pos (by simp; omega), if_pos (by omega), hval, if_pos ⟨hv, by omega⟩]
      rfl
def encN (n : Int) : List Int := putN 9 (numOf n)
def encT (s : ByteArray) : List Int := encN s.size ++ bytesOf s
theorem numOf_top (n : Int) : numOf n ≤ 4611686018427387904 := by
  unfold numOf mn mx
  split <;> split <;> omega
theorem gnum_enc (n : Int) (rest : List Int) : gnum (encN n ++ rest) = some ((numOf n : Int), (encN n).length) := by
  have h := numOf_top n
  have h9 : numOf n < 128 ^ 9 := Nat.lt_of_le_of_lt h (by decide)
  have := gnumFrom_put rest 9 (numOf n) [] 10 h9 (.inl (by decide)) (.inr rfl) (Nat.le_refl 9) (by decide) (by show (0 : Int) + (numOf n : Int) * 1 ≤ _; omega)
  have e : valN [] 0 + (numOf n : Int) * 128 ^ 0 = numOf n := by show (0 : Int) + (numOf n : Int) * 1 = _; omega
  rw [show ([] : List Int).length = 0 from rfl, e, Nat.zero_add] at this
  exact this
theorem numOf_small (s : ByteArray) (h : s.size ≤ 500) : numOf (s.size : Int) = s.size := by
  unfold numOf mn mx
  split <;> split <;> omega
theorem gtext_enc (s : ByteArray) (rest : List Int) (h : s.size ≤ 500) : gtext (encT s ++ rest) 500 = some (bytesOf s, (encT s).length) := by
  unfold encT
  rw [List.append_assoc]
  have hg := gnum_enc (s.size : Int) (bytesOf s ++ rest)
  rw [numOf_small s h] at hg
  have := gtext_is hg (most := 500) (by omega) (by rw [List.length_append, List.length_append, bytesOf_length]; omega)
  rw [this, List.drop_left, Int.toNat_natCast]
  congr 2
  · rw [List.take_left' (bytesOf_length s)]
  · rw [List.length_append, bytesOf_length]
/-- Groups that all go on are no number. -/
theorem gnumFrom_on {xs : List Int} (h : ∀ x ∈ xs, 128 ≤ x) : ∀ f j, gnumFrom xs f j = none
  | 0, _ => rfl
  | f + 1, j => by
    unfold gnumFrom
    split
    · rename_i hj
      have := h _ (getD_mem (z := 0) xs j hj.1)
      rw [if_neg (by omega)]
      exact gnumFrom_on h f (j + 1)
    · rfl
theorem putN_on : ∀ f u, ∀ x ∈ (putN f u).dropLast, 128 ≤ x
  | 0, _, x, hx => by simp [putN] at hx
  | f + 1, u, x, hx => by
    unfold putN at hx
    split at hx
    · by_cases hn : putN f (u / 128) = []
      · rw [hn] at hx
        simp at hx
      · rw [List.dropLast_cons_of_ne_nil hn] at hx
        rcases List.mem_cons.1 hx with rfl | hx
        · omega
        · exact putN_on f (u / 128) x hx
    · simp at hx
theorem gnum_cut (n : Int) : gnum (encN n).dropLast = none := gnumFrom_on (putN_on 9 (numOf n)) 10 0
theorem encN_ne (n : Int) : encN n ≠ [] := by
  unfold encN putN
  split <;> simp
theorem gtext_cut (s : ByteArray) (h : s.size ≤ 500) : gtext (encT s).dropLast 500 = none := by
  unfold encT
  by_cases hb : bytesOf s = []
  · rw [hb, List.append_nil]
    exact gtext_no1 (fun n k hh => by rw [gnum_cut] at hh; cases hh)
  · rw [List.dropLast_append_of_ne_nil hb]
    have hg := gnum_enc (s.size : Int) (bytesOf s).dropLast
    rw [numOf_small s h] at hg
    refine gtext_no2 hg ?_
    have hl := bytesOf_length s
    have : 0 < (bytesOf s).length := List.length_pos_iff.2 hb
    rw [List.length_append, List.length_dropLast]
    omega
/-- What is written, and how it is read, from a place on. -/
def encNi (ns : List Int) : Nat → Nat → List Int
  | 0, _ => []
  | f + 1, i => if i < ns.length ∧ i < 50 then encN (ns.getD i 0) ++ encNi ns f (i + 1) else []
def encTi (ts : List ByteArray) : Nat → Nat → List Int
  | 0, _ => []
  | f + 1, i => if i < ts.length ∧ i < 50 ∧ (ts.getD i ⟨#[]⟩).size ≤ 500 then encT (ts.getD i ⟨#[]⟩) ++ encTi ts f (i + 1) else []
/-- none: a value is another; some none: the reading ends; else what is left. -/
def finTi (ts : List ByteArray) : Nat → Nat → List Int → Option (Option (List Int))
  | 0, _, xs => some (some xs)
  | f + 1, i, xs => if i < ts.length ∧ i < 50 ∧ (ts.getD i ⟨#[]⟩).size ≤ 500 then (match gtext xs 500 with | some (bs, k) => if strOfNums bs = ts.getD i ⟨#[]⟩ then finTi ts f (i + 1) (xs.drop k) else none | none => some none) else some (some xs)
def finNi (ns : List Int) (ts : List ByteArray) : Nat → Nat → List Int → Option (Option (List Int))
  | 0, _, xs => finTi ts 51 0 xs
  | f + 1, i, xs => if i < ns.length ∧ i < 50 then (match gnum xs with | some (v, k) => if v = (numOf (ns.getD i 0) : Int) then finNi ns ts f (i + 1) (xs.drop k) else none | none => some none) else finTi ts 51 0 xs
theorem str_back (s : ByteArray) : strOfNums (bytesOf s) = s := by
  apply ByteArray.ext
  apply Array.ext'
  simp [strOfNums, bytesOf, List.map_map, Function.comp_def]
theorem finTi_enc (ts : List ByteArray) (tail : List Int) : ∀ f i, finTi ts f i (encTi ts f i ++ tail) = some (some tail)
  | 0, i => rfl
  | f + 1, i => by
    unfold finTi encTi
    split
    · rename_i h
      rw [List.append_assoc, gtext_enc _ _ h.2.2]
      simp only
      rw [if_pos (str_back _), List.drop_left]
      exact finTi_enc ts tail f (i + 1)
    · rfl
theorem finNi_enc (ns : List Int) (ts : List ByteArray) (tail : List Int) : ∀ f i, finNi ns ts f i (encNi ns f i ++ (encTi ts 51 0 ++ tail)) = some (some tail)
  | 0, i => finTi_enc ts tail 51 0
  | f + 1, i => by
    unfold finNi encNi
    split
    · rw [List.append_assoc, gnum_enc]
      simp only
      rw [if_pos trivial, List.drop_left]
      exact finNi_enc ns ts tail f (i + 1)
    · exact finTi_enc ts tail 51 0
theorem drop_last_app {l m : List Int} (h : m ≠ []) : (l ++ m).dropLast = l ++ m.dropLast := List.dropLast_append_of_ne_nil h
theorem finTi_cut (ts : List ByteArray) : ∀ f i, encTi ts f i ≠ [] → finTi ts f i (encTi ts f i).dropLast = some none
  | 0, i, h => absurd rfl h
  | f + 1, i, h => by
    unfold encTi at h ⊢
    unfold finTi
    split
    · rename_i hc
      by_cases hn : encTi ts f (i + 1) = []
      · rw [hn, List.append_nil, gtext_cut _ hc.2.2]
      · rw [drop_last_app hn, gtext_enc _ _ hc.2.2]
        simp only
        rw [if_pos (str_back _), List.drop_left]
        exact finTi_cut ts f (i + 1) hn
    · rename_i hc
      rw [if_neg hc] at h
      exact absurd rfl h
theorem finNi_cut (ns : List Int) (ts : List ByteArray) : ∀ f i, encNi ns f i ++ encTi ts 51 0 ≠ [] → finNi ns ts f i (encNi ns f i ++ encTi ts 51 0).dropLast = some none
  | 0, i, h => finTi_cut ts 51 0 h
  | f + 1, i, h => by
    unfold encNi at h ⊢
    unfold finNi
    split
    · rename_i hc
      rw [List.append_assoc]
      by_cases hn : encNi ns f (i + 1) ++ encTi ts 51 0 = []
      · rw [hn, List.append_nil, gnum_cut]
      · rw [drop_last_app hn, gnum_enc]
        simp only
        rw [if_pos trivial, List.drop_left]
        exact finNi_cut ns ts f (i + 1) hn
    · rename_i hc
      rw [if_neg hc, List.nil_append] at h
      exact finTi_cut ts 51 0 h
end Go.Proofs.Ytmlemnfleicnfaa.PA
