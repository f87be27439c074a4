/- Numbers and texts that are read from bytes: what a reading comes to. -/
import Derived.Test.YtmlemnfleicnfaaHPan
namespace Go.Proofs.Ytmlemnfleicnfaa.PA
open Go.RowKit Go.Proofs.YtmlemnfleicnfaaW.PrintWords Go.Proofs.YtmlemnfleicnfaaW.PrintLast Go.Proofs.YtmlemnfleicnfaaW.PrintMore
set_option linter.unusedVariables false
set_option linter.unusedSimpArgs false
def ByteL (xs : List Int) : Prop := ∀ x ∈ xs, 0 ≤ x ∧ x < 256
/-- The number of the first groups of seven bits. -/
def valN (xs : List Int) : Nat → Int
  | 0 => 0
  | k + 1 => valN xs k + xs.getD k 0 % 128 * 128 ^ k
def gnumFrom (xs : List Int) : Nat → Nat → Option (Int × Nat)
  | 0, _ => none
  | f + 1, j => if j < xs.length ∧ j < 9 then (if xs.getD j 0 < 128 then (if valN xs (j + 1) ≤ 4611686018427387904 ∧ (0 < xs.getD j 0 ∨ j = 0) then some (valN xs (j + 1), j + 1) else none) else gnumFrom xs f (j + 1)) else none
/-- The number with which bytes begin, and how many bytes it has. -/
def gnum (xs : List Int) : Option (Int × Nat) := gnumFrom xs 10 0
theorem valN_bound (xs : List Int) : ∀ k, 0 ≤ valN xs k ∧ valN xs k < 128 ^ k
  | 0 => by simp [valN]
  | k + 1 => by
    have ih := valN_bound xs k
    unfold valN
    have h1 : 0 ≤ xs.getD k 0 % 128 := Int.emod_nonneg _ (by decide)
    have h2 : xs.getD k 0 % 128 < 128 := Int.emod_lt_of_pos _ (by decide)
    have hp : (0 : Int) < 128 ^ k := Int.pow_pos (by decide)
    have h3 : 0 ≤ xs.getD k 0 % 128 * 128 ^ k := Int.mul_nonneg h1 (Int.le_of_lt hp)
    have h4 : xs.getD k 0 % 128 * 128 ^ k ≤ 127 * 128 ^ k := Int.mul_le_mul_of_nonneg_right (by omega) (Int.le_of_lt hp)
    rw [Int.pow_succ]
    omega
theorem gnumFrom_some {xs : List Int} {n : Int} {k : Nat} : ∀ (f j : Nat), gnumFrom xs f j = some (n, k) → 1 ≤ k ∧ k ≤ xs.length ∧ 0 ≤ n ∧ n ≤ 4611686018427387904
  | 0, j, h => by simp [gnumFrom] at h
  | f + 1, j, h => by
    unfold gnumFrom at h
    split at h
    · rename_i hj
      split at h
      · split at h
        · rename_i h2
          simp only [Option.some.injEq, Prod.mk.injEq] at h
          obtain ⟨rfl, rfl⟩ := h
          exact ⟨by omega, by omega, (valN_bound xs (j + 1)).1, h2.1⟩
        · cases h
      · exact gnumFrom_some f (j + 1) h
    · cases h
theorem gnum_some {xs : List Int} {n : Int} {k : Nat} (h : gnum xs = some (n, k)) : 1 ≤ k ∧ k ≤ xs.length ∧ 0 ≤ n ∧ n ≤ 4611686018427387904 := gnumFrom_some _ _ h
/-- One more round. -/
theorem gn_in {xs : List Int} {j : Int} (h0 : 0 ≤ j) (hg : gnum xs = gnumFrom xs (10 - j.toNat) j.toNat) (h1 : j < xs.length) (h2 : j < 9) : gnum xs = if xs.getD j.toNat 0 < 128 then (if valN xs (j.toNat + 1) ≤ 4611686018427387904 ∧ (0 < xs.getD j.toNat 0 ∨ j.toNat = 0) then some (valN xs (j.toNat + 1), j.toNat + 1) else none) else gnumFrom xs (10 - (j + 1).toNat) (j + 1).toNat := by
  rw [hg, show 10 - j.toNat = (9 - j.toNat) + 1 by omega]
  conv => lhs; unfold gnumFrom
  rw [if_pos (by omega), show (j + 1).toNat = j.toNat + 1 by omega, show 10 - (j.toNat + 1) = 9 - j.toNat by omega]
theorem gn_out {xs : List Int} {j : Int} (h0 : 0 ≤ j) (hj : j ≤ 9) (hg : gnum xs = gnumFrom xs (10 - j.toNat) j.toNat) (h1 : ¬ (j < xs.length ∧ j < 9)) : gnum xs = none := by
  rw [hg, show 10 - j.toNat = (9 - j.toNat) + 1 by omega]
  unfold gnumFrom
  rw [if_neg (by omega)]
theorem and127_all : ∀ x : Fin 256, Go.bits .and .u8 ((x.val : Nat) : Int) 127 = ((x.val % 128 : Nat) : Int) := by decide +kernel
theorem and127 {c : Int} (h : 0 ≤ c ∧ c < 256) : Go.bits .and .u8 c 127 = c % 128 := by
  have := and127_all ⟨c.toNat, by omega⟩
  simp only at this
  rw [show ((c.toNat : Nat) : Int) = c by omega] at this
  rw [this]
  omega
theorem u64_in (n : Int) (h₀ : 0 ≤ n) (h₁ : n < 2 ^ 64) : IntKind.u64.wrap n = n := by rw [IntKind.wrap_u64]; omega
theorem shl7 {x j : Int} (hx : 0 ≤ x ∧ x < 128) (hj : 0 ≤ j ∧ j ≤ 8) : IntKind.u64.wrap (x * 2 ^ (min (7 * j : Int).toNat (IntKind.bits .u64))) = x * 128 ^ j.toNat := by
  have e : (2 : Int) ^ (min (7 * j : Int).toNat (IntKind.bits .u64)) = 128 ^ j.toNat := by
    have : min (7 * j : Int).toNat (IntKind.bits .u64) = 7 * j.toNat := by
      show min (7 * j : Int).toNat 64 = _
      omega
    rw [this, Int.pow_mul]
    rfl
  rw [e]
  have hp : (0 : Int) < 128 ^ j.toNat := Int.pow_pos (by decide)
  have h8 : (128 : Int) ^ j.toNat ≤ 128 ^ 8 := by
    have : ∀ m : Nat, m ≤ 8 → (128 : Int) ^ m ≤ 128 ^ 8 := by decide
    exact this _ (by omega)
  refine u64_in _ (Int.mul_nonneg hx.1 (Int.le_of_lt hp)) ?_
  have h4 : x * 128 ^ j.toNat ≤ 127 * 128 ^ 8 := Int.le_trans (Int.mul_le_mul_of_nonneg_right (by omega) (Int.le_of_lt hp)) (Int.mul_le_mul_of_nonneg_left h8 (by decide))
  have : (127 : Int) * 128 ^ 8 < 2 ^ 64 := by decide
  omega
theorem or7 {xs : List Int} {j : Int} (hj : 0 ≤ j ∧ j ≤ 8) : Go.bits .or .u64 (valN xs j.toNat) (xs.getD j.toNat 0 % 128 * 128 ^ j.toNat) = valN xs (j.toNat + 1) := by
  have hb := valN_bound xs j.toNat
  have hb2 := valN_bound xs (j.toNat + 1)
  have h1 : 0 ≤ xs.getD j.toNat 0 % 128 := Int.emod_nonneg _ (by decide)
  have h2 : xs.getD j.toNat 0 % 128 < 128 := Int.emod_lt_of_pos _ (by decide)
  have hp : (0 : Int) < 128 ^ j.toNat := Int.pow_pos (by decide)
  have e7 : (128 : Int) ^ j.toNat = 2 ^ (7 * j.toNat) := by rw [Int.pow_mul]; rfl
  have h9 : ∀ m : Nat, m ≤ 9 → (128 : Int) ^ m ≤ 128 ^ 9 := by decide
  have h91 := h9 (j.toNat + 1) (by omega)
  have hlt : (128 : Int) ^ 9 < 2 ^ 64 := by decide
  have hy0 : 0 ≤ xs.getD j.toNat 0 % 128 * 128 ^ j.toNat := Int.mul_nonneg h1 (Int.le_of_lt hp)
  have hsum : valN xs (j.toNat + 1) = valN xs j.toNat + xs.getD j.toNat 0 % 128 * 128 ^ j.toNat := rfl
  have hc : Go.bits .or .u64 (valN xs j.toNat) (xs.getD j.toNat 0 % 128 * 128 ^ j.toNat) = Go.bits .or .u64 (xs.getD j.toNat 0 % 128 * 128 ^ j.toNat) (valN xs j.toNat) := by
    unfold Go.bits
    simp only [BitVec.or_comm]
  rw [hc, bits_join .u64 64 (by decide) u64_in (7 * j.toNat) _ _ hy0 (by rw [← e7]; exact Int.mul_emod_left _ _) (by omega) hb.1 (by rw [← e7]; exact hb.2) (by omega), hsum]
  omega
theorem getD_drop (xs : List Int) (j : Int) (h0 : 0 ≤ j) : (xs.drop j.toNat).getD (0 : Int).toNat 0 = xs.getD j.toNat 0 := by
  simp [List.getD_eq_getElem?_getD, List.getElem?_drop]
theorem byte_getD {xs : List Int} (h : ByteL xs) (j : Nat) (hj : j < xs.length) : 0 ≤ xs.getD j 0 ∧ xs.getD j 0 < 256 := h _ (getD_mem xs j hj)
theorem ByteL.drop {xs : List Int} (h : ByteL xs) (k : Nat) : ByteL (xs.drop k) := fun x hx => h x (List.mem_of_mem_drop hx)
/-- The text of at most so many bytes with which bytes begin, and how many bytes it has with its number. -/
def gtext (xs : List Int) (most : Int) : Option (List Int × Nat) :=
  match gnum xs with
  | some (n, k) => if n ≤ most ∧ n ≤ (xs.length : Int) - k then some ((xs.drop k).take n.toNat, k + n.toNat) else none
  | none => none
theorem gtext_some {xs bs : List Int} {most : Int} {k : Nat} (h : gtext xs most = some (bs, k)) : 1 ≤ k ∧ k ≤ xs.length ∧ (bs.length : Int) ≤ most := by
  unfold gtext at h
  split at h
  · rename_i n j hg
    have hs := gnum_some hg
    split at h
    · simp only [Option.some.injEq, Prod.mk.injEq] at h
      obtain ⟨rfl, rfl⟩ := h
      rw [List.length_take, List.length_drop]
      omega
    · cases h
  · cases h
theorem gtext_is {xs : List Int} {most n : Int} {k : Nat} (hg : gnum xs = some (n, k)) (h1 : n ≤ most) (h2 : n ≤ (xs.length : Int) - k) : gtext xs most = some ((xs.drop k).take n.toNat, k + n.toNat) := by
  unfold gtext
  rw [hg]
  exact if_pos ⟨h1, h2⟩
theorem gtext_no1 {xs : List Int} {most : Int} (h : ∀ n k, gnum xs = some (n, k) → most < n) : gtext xs most = none := by
  unfold gtext
  split
  · rename_i n k hg
    have := h n k hg
    rw [if_neg (by omega)]
  · rfl
theorem gtext_no2 {xs : List Int} {most n : Int} {k : Nat} (hg : gnum xs = some (n, k)) (h2 : (xs.length : Int) - k < n) : gtext xs most = none := by
  unfold gtext
  rw [hg]
  exact if_neg (by omega)
/-- .. as the document has it: 0, 0 where there is none. -/
def gnumV (xs : List Int) : Int × Int := match gnum xs with | some (n, k) => (n, (k : Int)) | none => (0, 0)
theorem gnumV_none {xs : List Int} (h : gnum xs = none) : gnumV xs = (0, 0) := by unfold gnumV; rw [h]
theorem gnumV_some {xs : List Int} {n : Int} {k : Nat} (h : gnum xs = some (n, k)) : gnumV xs = (n, (k : Int)) := by unfold gnumV; rw [h]
def gtextV (xs : List Int) (most : Int) : ByteArray × Int := match gtext xs most with | some (bs, k) => (strOfNums bs, (k : Int)) | none => (⟨#[]⟩, 0)
theorem gtextV_none {xs : List Int} {m : Int} (h : gtext xs m = none) : gtextV xs m = (⟨#[]⟩, 0) := by unfold gtextV; rw [h]
theorem gtextV_some {xs bs : List Int} {m : Int} {k : Nat} (h : gtext xs m = some (bs, k)) : gtextV xs m = (strOfNums bs, (k : Int)) := by unfold gtextV; rw [h]
theorem gnumV_is (xs : List Int) : (gnum xs = none ∧ (gnumV xs).2 = 0 ∧ (gnumV xs).1 = 0) ∨ (∃ k : Nat, gnum xs = some ((gnumV xs).1, k) ∧ (gnumV xs).2 = (k : Int) ∧ 1 ≤ k ∧ k ≤ xs.length ∧ 0 ≤ (gnumV xs).1 ∧ (gnumV xs).1 ≤ 4611686018427387904) := by
  cases h : gnum xs with
  | none => rw [gnumV_none h]; exact .inl ⟨rfl, rfl, rfl⟩
  | some p =>
    obtain ⟨n, k⟩ := p
    rw [gnumV_some h]
    exact .inr ⟨k, rfl, rfl, gnum_some h⟩
theorem gt_none {xs : List Int} {most : Int} (h : ((gnumV xs).2 = 0 ∨ most < (gnumV xs).1) ∨ (xs.length : Int) - (gnumV xs).2 < (gnumV xs).1) : gtext xs most = none := by
  rcases gnumV_is xs with ⟨hn, _⟩ | ⟨k, hs, h2, h3⟩
  · exact gtext_no1 (fun n k hh => by rw [hn] at hh; cases hh)
  · unfold gtext
    rw [hs]
    simp only
    rw [if_neg (by omega)]
theorem gnumV_b (xs : List Int) : ((gnumV xs).2 = 0 ∧ (gnumV xs).1 = 0) ∨ (1 ≤ (gnumV xs).2 ∧ (gnumV xs).2 ≤ xs.length ∧ 0 ≤ (gnumV xs).1 ∧ (gnumV xs).1 ≤ 4611686018427387904) := by
  rcases gnumV_is xs with ⟨_, h⟩ | ⟨k, _, h⟩
  · exact .inl h
  · exact .inr (by omega)
theorem gt_some {xs : List Int} {most : Int} (h1 : ¬ (gnumV xs).2 = 0) (h2 : (gnumV xs).1 ≤ most) (h3 : (gnumV xs).1 ≤ (xs.length : Int) - (gnumV xs).2) :
    gtext xs most = some ((xs.drop (gnumV xs).2.toNat).take ((gnumV xs).2 + (gnumV xs).1 - (gnumV xs).2).toNat, (gnumV xs).2.toNat + (gnumV xs).1.toNat) ∧ strOfNums ((xs.drop (gnumV xs).2.toNat).take ((gnumV xs).2 + (gnumV xs).1 - (gnumV xs).2).toNat) = strOfNums ((xs.drop (gnumV xs).2.toNat).take ((gnumV xs).2 + (gnumV xs).1 - (gnumV xs).2).toNat) ∧ (((gnumV xs).2.toNat + (gnumV xs).1.toNat : Nat) : Int) = (gnumV xs).2 + (gnumV xs).1 := by
  rcases gnumV_is xs with ⟨hn, h0, _⟩ | ⟨k, hs, e2, h4⟩
  · exact absurd h0 h1
  · have hg := gtext_is hs h2 (by omega)
    rw [e2] at *
    refine ⟨?_, rfl, by omega⟩
    rw [hg, show ((k : Int) + (gnumV xs).1 - k).toNat = (gnumV xs).1.toNat by omega, Int.toNat_natCast]
section
variable {xs : List Int} {i : Int}
theorem p128 : ∀ m : Nat, m ≤ 9 → (0 : Int) < 128 ^ m ∧ (128 : Int) ^ m ≤ 128 ^ 9 := by decide
theorem min8 (h : 0 ≤ i ∧ i ≤ 8) : min i.toNat 8 = i.toNat := by omega
theorem rn_mul (h : 0 ≤ i ∧ i ≤ 8) (hn : i ≠ 8 ∨ xs.getD i.toNat 0 % 128 ≤ 64) : 0 ≤ xs.getD i.toNat 0 % 128 * 128 ^ (min i.toNat 8) ∧ xs.getD i.toNat 0 % 128 * 128 ^ (min i.toNat 8) ≤ 4611686018427387904 := by
  rw [min8 h]
  have h1 : 0 ≤ xs.getD i.toNat 0 % 128 := Int.emod_nonneg _ (by decide)
  have h2 : xs.getD i.toNat 0 % 128 < 128 := Int.emod_lt_of_pos _ (by decide)
  have hp := (p128 i.toNat (by omega)).1
  refine ⟨Int.mul_nonneg h1 (Int.le_of_lt hp), ?_⟩
  by_cases h8 : i = 8
  · subst h8
    have : xs.getD (8 : Int).toNat 0 % 128 ≤ 64 := hn.resolve_left (fun h => h rfl)
    exact Int.le_trans (Int.mul_le_mul_of_nonneg_right this (Int.le_of_lt hp)) (by decide)
  · have h7 : ∀ m : Nat, m ≤ 7 → (128 : Int) ^ m ≤ 128 ^ 7 := by decide
    exact Int.le_trans (Int.mul_le_mul_of_nonneg_right (show _ ≤ (127 : Int) by omega) (Int.le_of_lt hp)) (Int.le_trans (Int.mul_le_mul_of_nonneg_left (h7 i.toNat (by omega)) (by decide)) (by decide))
theorem rn_add (h : 0 ≤ i ∧ i ≤ 8) : valN xs i.toNat + xs.getD i.toNat 0 % 128 * 128 ^ (min i.toNat 8) = valN xs (i.toNat + 1) := by
  rw [min8 h]
  rfl
theorem rn_lt (h : 0 ≤ i ∧ i ≤ 8) : 0 ≤ valN xs i.toNat ∧ valN xs i.toNat < 72057594037927937 := by
  have hb := valN_bound xs i.toNat
  have h8 : ∀ m : Nat, m ≤ 8 → (128 : Int) ^ m ≤ 72057594037927936 := by decide
  have := h8 i.toNat (by omega)
  omega
theorem rn_unit (h : 0 ≤ i ∧ i < 8) : (128 : Int) ^ (min i.toNat 8) * 128 = 128 ^ (min (i + 1).toNat 8) := by
  rw [show min (i + 1).toNat 8 = min i.toNat 8 + 1 by omega, Int.pow_succ]
theorem rn_unit8 (h : 0 ≤ i ∧ i ≤ 8) (h8 : 8 ≤ i) : (128 : Int) ^ (min i.toNat 8) = 128 ^ (min (i + 1).toNat 8) := by
  rw [show min (i + 1).toNat 8 = min i.toNat 8 by omega]
theorem rn_u (h : 0 ≤ i ∧ i ≤ 7) : (0 : Int) < 128 ^ (min i.toNat 8) ∧ (128 : Int) ^ (min i.toNat 8) ≤ 562949953421312 := by
  have h8 : ∀ m : Nat, m ≤ 7 → (0 : Int) < 128 ^ m ∧ (128 : Int) ^ m ≤ 562949953421312 := by decide
  exact h8 _ (by omega)
theorem rn_big (hg : gnum xs = gnumFrom xs (10 - i.toNat) i.toNat) (h1 : i < xs.length) (h8 : i = 8) (hl : 64 < xs.getD i.toNat 0 % 128) (hb : 0 ≤ xs.getD i.toNat 0) : gnum xs = none := by
  subst h8
  rw [gn_in (by decide) hg h1 (by decide)]
  have h9 : gnumFrom xs (10 - ((8 : Int) + 1).toNat) ((8 : Int) + 1).toNat = none := by
    show gnumFrom xs 1 9 = none
    unfold gnumFrom
    rw [if_neg (by omega)]
  split
  · have hv := (rn_lt (xs := xs) (i := 8) (by decide)).1
    have : valN xs ((8 : Int).toNat + 1) = valN xs (8 : Int).toNat + xs.getD (8 : Int).toNat 0 % 128 * 128 ^ 8 := rfl
    have e8 : (128 : Int) ^ 8 = 72057594037927936 := by decide
    rw [e8] at this
    rw [if_neg (by omega)]
  · exact h9
end
end Go.Proofs.Ytmlemnfleicnfaa.PA
