/- All bytes have the sum that is said: the shifted register of the program and the bit by bit one of the reference agree on every list of bytes. -/
import Derived.Test.YtmlemnfleicnfaaPAx4
namespace Go.Proofs.Ytmlemnfleicnfaa.Pure
open Go.RowKit Go.Proofs.Ytmlemnfleicnfaa.PA Go.Proofs.YtmlemnfleicnfaaW.PrintWords Go.Proofs.YtmlemnfleicnfaaW.PrintLast Go.Proofs.YtmlemnfleicnfaaW.PrintMore

theorem xor32 (a b : Nat) (ha : a < 4294967296) (hb : b < 4294967296) : Go.bits .xor .u32 a b = ((a ^^^ b : Nat) : Int) := by
  have ha' : a % 2 ^ 32 = a := Nat.mod_eq_of_lt ha
  have hb' : b % 2 ^ 32 = b := Nat.mod_eq_of_lt hb
  have hx : a ^^^ b < 2 ^ 32 := Nat.xor_lt_two_pow ha hb
  show IntKind.u32.wrap (((BitVec.ofInt 32 (a : Int)) ^^^ (BitVec.ofInt 32 (b : Int))).toNat : Int) = _
  rw [BitVec.ofInt_natCast, BitVec.ofInt_natCast, BitVec.toNat_xor, BitVec.toNat_ofNat, BitVec.toNat_ofNat, ha', hb', IntKind.wrap_u32]
  omega
theorem and32 (a b : Nat) (ha : a < 4294967296) (hb : b < 4294967296) : Go.bits .and .u32 a b = ((a &&& b : Nat) : Int) := by
  have ha' : a % 2 ^ 32 = a := Nat.mod_eq_of_lt ha
  have hb' : b % 2 ^ 32 = b := Nat.mod_eq_of_lt hb
  have hx : a &&& b < 2 ^ 32 := Nat.and_lt_two_pow _ hb
  show IntKind.u32.wrap (((BitVec.ofInt 32 (a : Int)) &&& (BitVec.ofInt 32 (b : Int))).toNat : Int) = _
  rw [BitVec.ofInt_natCast, BitVec.ofInt_natCast, BitVec.toNat_and, BitVec.toNat_ofNat, BitVec.toNat_ofNat, ha', hb', IntKind.wrap_u32]
  omega
theorem and8 (a b : Nat) (ha : a < 256) (hb : b < 256) : Go.bits .and .u8 a b = ((a &&& b : Nat) : Int) := by
  have ha' : a % 2 ^ 8 = a := Nat.mod_eq_of_lt ha
  have hb' : b % 2 ^ 8 = b := Nat.mod_eq_of_lt hb
  have hx : a &&& b < 2 ^ 8 := Nat.and_lt_two_pow _ hb
  show IntKind.u8.wrap (((BitVec.ofInt 8 (a : Int)) &&& (BitVec.ofInt 8 (b : Int))).toNat : Int) = _
  rw [BitVec.ofInt_natCast, BitVec.ofInt_natCast, BitVec.toNat_and, BitVec.toNat_ofNat, BitVec.toNat_ofNat, ha', hb', IntKind.wrap_u8]
  omega

/-- One bit of the register. -/
def step (s : Nat) : Nat := (s / 2) ^^^ (if s % 2 = 1 then 3988292384 else 0)
theorem step_lt (s : Nat) (h : s < 4294967296) : step s < 4294967296 := by
  unfold step
  refine Nat.xor_lt_two_pow (n := 32) (by omega) ?_
  split <;> omega
/-- A byte: so many bits are left. -/
def steps : Nat → Nat → Nat
  | 0, s => s
  | n + 1, s => steps n (step s)
theorem steps_lt (n s : Nat) (h : s < 4294967296) : steps n s < 4294967296 := by
  induction n generalizing s with
  | zero => exact h
  | succ n ih => exact ih _ (step_lt s h)
/-- The register behind bytes. -/
def sumN (xs : List Int) (s : Nat) : Nat := xs.foldl (fun s x => steps 8 (s ^^^ x.toNat)) s
def Byte (x : Int) : Prop := 0 ≤ x ∧ x ≤ 255
theorem sumN_lt (xs : List Int) (hx : ∀ x ∈ xs, Byte x) : ∀ s, s < 4294967296 → sumN xs s < 4294967296 := by
  induction xs with
  | nil => intro s h; exact h
  | cons x xs ih =>
    intro s h
    have := hx x (by simp)
    unfold Byte at this
    exact ih (fun y hy => hx y (by simp [hy])) _ (steps_lt _ _ (Nat.xor_lt_two_pow (n := 32) h (by omega)))

theorem neg_bit (s : Nat) : ((-((s % 2 : Nat) : Int)) % 4294967296) = ((if s % 2 = 1 then 4294967295 else 0 : Nat) : Int) := by
  split <;> omega
theorem poly_and (c : Prop) [Decidable c] : (3988292384 &&& (if c then 4294967295 else 0) : Nat) = if c then 3988292384 else 0 := by
  split <;> decide
theorem turn_eq (s : Nat) (h : s < 4294967296) :
    Go.bits .xor .u32 ((s : Int) / 2) (Go.bits .and .u32 3988292384 ((-(Go.bits .and .u32 (s : Int) 1)) % 4294967296)) = (step s : Int) := by
  rw [show (1 : Int) = ((1 : Nat) : Int) from rfl, and32 s 1 h (by decide), Nat.and_one_is_mod, neg_bit,
    show (3988292384 : Int) = ((3988292384 : Nat) : Int) from rfl, and32 _ _ (by decide) (by split <;> decide), poly_and,
    show ((s : Int) / 2) = ((s / 2 : Nat) : Int) from by omega, xor32 _ _ (by omega) (by split <;> decide)]
  rfl

theorem wrap_in {i : Int} (h0 : -9223372036854775808 ≤ i) (h : i ≤ 9223372036854775807) : wrap64 i = i := by
  unfold wrap64
  omega
theorem rd_mem (xs : List Int) (n : Nat) (h : n < xs.length) : rd xs n ∈ xs := by
  unfold rd
  rw [Int.toNat_natCast, List.getD_eq_getElem?_getD, List.getElem?_eq_getElem h]
  exact List.getElem_mem h
theorem drop_rd (xs : List Int) (n : Nat) (h : n < xs.length) : xs.drop n = rd xs n :: xs.drop (n + 1) := by
  rw [List.drop_eq_getElem_cons h]
  unfold rd
  rw [Int.toNat_natCast, List.getD_eq_getElem?_getD, List.getElem?_eq_getElem h]
  rfl

/-- The program's loops. -/
theorem sum_l (xs : List Int) (hx : ∀ x ∈ xs, Byte x) (hl : xs.length ≤ 140737488351232) :
    ∀ (d : Nat), ∀ (n : Nat), n ≤ xs.length → d = xs.length - n → ∀ (s k : Nat), s < 4294967296 → 20 * d + 20 ≤ k →
      pack_Sum.l0 k s xs xs.length n = some (((sumN (xs.drop n) s) ^^^ 4294967295 : Nat) : Int) := by
  intro d
  induction d with
  | zero =>
    intro n hn hd s k hs hk
    obtain ⟨k, rfl⟩ : ∃ m, k = m + 1 := ⟨k - 1, by omega⟩
    have : n = xs.length := by omega
    subst this
    simp only [pack_Sum.l0]
    rw [if_neg (by omega), List.drop_length]
    show some (Go.bits .xor .u32 ((4294967295 : Nat) : Int) (s : Int)) = _
    rw [xor32 _ _ (by decide) hs, Nat.xor_comm]
    rfl
  | succ d ih =>
    intro n hn hd s k hs hk
    obtain ⟨k, rfl⟩ : ∃ m, k = m + 1 := ⟨k - 1, by omega⟩
    have hlt : n < xs.length := by omega
    have hb := hx _ (rd_mem xs n hlt)
    have hinner : ∀ (m : Nat), m ≤ 8 → ∀ (s k : Nat), s < 4294967296 → 20 * d + 20 + m + 1 ≤ k →
        pack_Sum.l1 k s xs xs.length n ((8 - m : Nat) : Int) = some (((sumN (xs.drop (n + 1)) (steps m s)) ^^^ 4294967295 : Nat) : Int) := by
      intro m
      induction m with
      | zero =>
        intro _ s k hs hk
        obtain ⟨k, rfl⟩ : ∃ m, k = m + 1 := ⟨k - 1, by omega⟩
        simp only [pack_Sum.l1]
        rw [if_neg (by omega), wrap_in (by omega) (by omega)]
        exact ih (n + 1) (by omega) (by omega) s k hs (by omega)
      | succ m ihm =>
        intro hm s k hs hk
        obtain ⟨k, rfl⟩ : ∃ m, k = m + 1 := ⟨k - 1, by omega⟩
        simp only [pack_Sum.l1]
        rw [if_pos (by omega), turn_eq s hs, wrap_in (by omega) (by omega), show (((8 - (m + 1) : Nat) : Int) + 1) = ((8 - m : Nat) : Int) from by omega]
        exact ihm (by omega) _ k (step_lt s hs) (by omega)
    simp only [pack_Sum.l0]
    rw [if_pos (by omega), if_pos (by omega), if_pos (by omega)]
    obtain ⟨c, hc⟩ : ∃ c : Nat, rd xs n = c := ⟨(rd xs n).toNat, by unfold Byte at hb; omega⟩
    have hc8 : c ≤ 255 := by unfold Byte at hb; omega
    rw [hc, show ((c : Int) % 4294967296) = (c : Int) from by omega, xor32 _ _ hs (by omega)]
    have := hinner 8 (by omega) (s ^^^ c) k (Nat.xor_lt_two_pow (n := 32) hs (by omega)) (by omega)
    rw [show ((8 - 8 : Nat) : Int) = 0 from rfl] at this
    rw [this, drop_rd xs n hlt, hc]
    rfl
theorem sum_f (xs : List Int) (hx : ∀ x ∈ xs, Byte x) (hl : xs.length ≤ 140737488351232) (k : Nat) (hk : 20 * xs.length + 20 ≤ k) :
    pack_Sum.f k xs = some (((sumN xs 4294967295) ^^^ 4294967295 : Nat) : Int) := by
  unfold pack_Sum.f
  have := sum_l xs hx hl xs.length 0 (by omega) (by omega) 4294967295 k (by decide) hk
  simpa using this

/-- One bit of the reference's register. -/
def rstep (out : Bool) (s : Nat) : Nat := if (s % 2 == 1) != out then (s / 2) ^^^ 3988292384 else s / 2
theorem xlc (a b c : Nat) : a ^^^ (b ^^^ c) = b ^^^ (a ^^^ c) := by rw [← Nat.xor_assoc, Nat.xor_comm a b, Nat.xor_assoc]
theorem step_xor (s c : Nat) : step (s ^^^ c) = (rstep (c % 2 == 1) s) ^^^ (c / 2) := by
  have h2 : (s ^^^ c) / 2 = (s / 2) ^^^ (c / 2) := by
    have := Nat.shiftRight_xor_distrib (a := s) (b := c) (i := 1)
    simpa [Nat.shiftRight_eq_div_pow] using this
  have h1 : (s ^^^ c) % 2 = (s % 2) ^^^ (c % 2) := by
    have := Nat.xor_mod_two_pow (a := s) (b := c) (n := 1)
    simpa using this
  unfold step rstep
  rw [h2, h1]
  rcases Nat.mod_two_eq_zero_or_one s with a | a <;> rcases Nat.mod_two_eq_zero_or_one c with b | b <;> rw [a, b]
  · simp
  · simp [Nat.xor_assoc, Nat.xor_comm]
    rw [xlc]
  · simp [Nat.xor_assoc, Nat.xor_comm]
    rw [xlc]
  · simp
def rsteps (c : Nat) : Nat → Nat → Nat → Nat
  | 0, _, s => s
  | n + 1, j, s => rsteps c n (j + 1) (rstep (c / 2 ^ j % 2 == 1) s)
theorem rstep_lt (out : Bool) (s : Nat) (h : s < 4294967296) : rstep out s < 4294967296 := by
  unfold rstep
  split
  · exact Nat.xor_lt_two_pow (n := 32) (by omega) (by omega)
  · omega
theorem steps_rsteps (c : Nat) (n : Nat) : ∀ (j s : Nat), steps n (s ^^^ (c / 2 ^ j)) = (rsteps c n j s) ^^^ (c / 2 ^ (j + n)) := by
  induction n with
  | zero => intro j s; rfl
  | succ n ih =>
    intro j s
    show steps n (step (s ^^^ (c / 2 ^ j))) = _
    rw [step_xor, Nat.div_div_eq_div_mul, ← Nat.pow_succ, ih, show j.succ + n = j + (n + 1) from by omega]
    rfl
theorem steps_byte (c s : Nat) (hc : c ≤ 255) : steps 8 (s ^^^ c) = rsteps c 8 0 s := by
  have := steps_rsteps c 8 0 s
  rw [Nat.pow_zero, Nat.div_one, show c / 2 ^ (0 + 8) = 0 from by omega, Nat.xor_zero] at this
  exact this

theorem bit_of (c j : Nat) (hc : c ≤ 255) (hj : j ≤ 8) : Go.bits .and .u8 (shr .u8 (c : Int) (j : Int)) 1 = ((c / 2 ^ j % 2 : Nat) : Int) := by
  have h1 : shr .u8 (c : Int) (j : Int) = ((c / 2 ^ j : Nat) : Int) := by
    unfold shr
    rw [Int.toNat_natCast, show min j IntKind.u8.bits = j from Nat.min_eq_left hj]
    simp
  have h2 : c / 2 ^ j < 256 := Nat.lt_of_le_of_lt (Nat.div_le_self _ _) (by omega)
  rw [h1, show (1 : Int) = ((1 : Nat) : Int) from rfl, and8 _ 1 h2 (by decide), Nat.and_one_is_mod]
theorem wrap_u64_in (j : Nat) (hj : j ≤ 8) : IntKind.u64.wrap (j : Int) = j := by
  simp [IntKind.wrap, IntKind.bits, IntKind.signed]
  omega

theorem ref_l (xs : List Int) (hx : ∀ x ∈ xs, Byte x) (hl : xs.length ≤ 140737488351232) :
    ∀ (d : Nat), ∀ (n : Nat), n ≤ xs.length → d = xs.length - n → ∀ (s k : Nat), s < 4294967296 → 20 * d + 20 ≤ k →
      colloquyref08_Sum.l0 k xs s n = some (((sumN (xs.drop n) s) ^^^ 4294967295 : Nat) : Int) := by
  intro d
  induction d with
  | zero =>
    intro n hn hd s k hs hk
    obtain ⟨k, rfl⟩ : ∃ m, k = m + 1 := ⟨k - 1, by omega⟩
    have : n = xs.length := by omega
    subst this
    simp only [colloquyref08_Sum.l0]
    rw [if_neg (by omega), List.drop_length]
    show some (Go.bits .xor .u32 (s : Int) ((4294967295 : Nat) : Int)) = _
    rw [xor32 _ _ hs (by decide)]
    rfl
  | succ d ih =>
    intro n hn hd s k hs hk
    obtain ⟨k, rfl⟩ : ∃ m, k = m + 1 := ⟨k - 1, by omega⟩
    have hlt : n < xs.length := by omega
    have hb := hx _ (rd_mem xs n hlt)
    obtain ⟨c, hc⟩ : ∃ c : Nat, rd xs n = c := ⟨(rd xs n).toNat, by unfold Byte at hb; omega⟩
    have hc8 : c ≤ 255 := by unfold Byte at hb; omega
    have hinner : ∀ (m : Nat), m ≤ 8 → ∀ (s k : Nat), s < 4294967296 → 20 * d + 20 + m + 1 ≤ k →
        colloquyref08_Sum.l1 k xs s n ((8 - m : Nat) : Int) = some (((sumN (xs.drop (n + 1)) (rsteps c m (8 - m) s)) ^^^ 4294967295 : Nat) : Int) := by
      intro m
      induction m with
      | zero =>
        intro _ s k hs hk
        obtain ⟨k, rfl⟩ : ∃ m, k = m + 1 := ⟨k - 1, by omega⟩
        simp only [colloquyref08_Sum.l1]
        rw [if_neg (by omega), wrap_in (by omega) (by omega)]
        exact ih (n + 1) (by omega) (by omega) s k hs (by omega)
      | succ m ihm =>
        intro hm s k hs hk
        obtain ⟨k, rfl⟩ : ∃ m, k = m + 1 := ⟨k - 1, by omega⟩
        have hwr : (wrap64 (((8 - (m + 1) : Nat) : Int) + 1)) = ((8 - m : Nat) : Int) := by rw [wrap_in (by omega) (by omega)]; omega
        simp only [colloquyref08_Sum.l1]
        rw [if_pos (by omega), if_pos (by omega), if_pos (by omega), wrap_u64_in _ (by omega), if_pos (by omega), hc, bit_of c _ hc8 (by omega), hwr]
        have h1 : Go.bits .and .u32 (s : Int) 1 = ((s % 2 : Nat) : Int) := by
          rw [show (1 : Int) = ((1 : Nat) : Int) from rfl, and32 s 1 hs (by decide), Nat.and_one_is_mod]
        rw [h1]
        have e1 : ((((s % 2 : Nat) : Int) == 1) != (((c / 2 ^ (8 - (m + 1)) % 2 : Nat) : Int) == 1)) = ((s % 2 == 1) != (c / 2 ^ (8 - (m + 1)) % 2 == 1)) := by
          have z : ∀ n : Nat, (((n : Nat) : Int) == 1) = (n == 1) := fun n => by
            rw [Bool.eq_iff_iff, beq_iff_eq, beq_iff_eq]; omega
          rw [z, z]
        rw [e1, show ((s : Int) / 2) = ((s / 2 : Nat) : Int) from by omega, show (3988292384 : Int) = ((3988292384 : Nat) : Int) from rfl, xor32 _ _ (by omega) (by decide)]
        have hr : rsteps c (m + 1) (8 - (m + 1)) s = rsteps c m (8 - m) (rstep (c / 2 ^ (8 - (m + 1)) % 2 == 1) s) := by
          show rsteps c m (8 - (m + 1) + 1) _ = _
          rw [show 8 - (m + 1) + 1 = 8 - m from by omega]
        rw [hr]
        by_cases hcc : ((s % 2 == 1) != (c / 2 ^ (8 - (m + 1)) % 2 == 1)) = true
        · rw [if_pos hcc, ihm (by omega) _ k (Nat.xor_lt_two_pow (n := 32) (by omega) (by omega)) (by omega)]
          unfold rstep
          rw [if_pos hcc]
        · rw [if_neg hcc, ihm (by omega) _ k (by omega) (by omega)]
          unfold rstep
          rw [if_neg hcc]
    simp only [colloquyref08_Sum.l0]
    rw [if_pos (by omega)]
    have := hinner 8 (by omega) s k hs (by omega)
    rw [show ((8 - 8 : Nat) : Int) = 0 from rfl] at this
    rw [this, drop_rd xs n hlt, hc]
    show _ = some (((sumN (xs.drop (n + 1)) (steps 8 (s ^^^ (c : Int).toNat))) ^^^ 4294967295 : Nat) : Int)
    rw [Int.toNat_natCast, steps_byte c s hc8]
theorem ref_f (xs : List Int) (hx : ∀ x ∈ xs, Byte x) (hl : xs.length ≤ 140737488351232) (k : Nat) (hk : 20 * xs.length + 20 ≤ k) :
    colloquyref08_Sum.f k xs = some (((sumN xs 4294967295) ^^^ 4294967295 : Nat) : Int) := by
  unfold colloquyref08_Sum.f
  have := ref_l xs hx hl xs.length 0 (by omega) (by omega) 4294967295 k (by decide) hk
  simpa using this

theorem wf_byte {x : Int} (h : (Lit.int .u8 x).wf = true) : Byte x := by
  simp [Lit.wf, IntKind.signed, IntKind.min, IntKind.max, IntKind.bits] at h
  unfold Byte
  omega
theorem summing_true (k : Nat) (hk : 200 ≤ k) : colloquylaw08_summing.f k = some true := by
  unfold colloquylaw08_summing.f
  rw [sum_f _ (by intro x hx; unfold Byte; simp at hx; omega) (by decide) k (by simp; omega), Option.bind_some]
  decide +kernel

theorem PackSums : colloquylaw08_PackSums.Pure := by
  intro xs _ hl hw
  rw [Nat.mul_one] at hl
  have hx : ∀ x ∈ xs, Byte x := fun x h => wf_byte (hw x h)
  refine ⟨20 * xs.length + 200, ?_⟩
  unfold colloquylaw08_PackSums.f
  rw [summing_true _ (by omega), Option.bind_some, if_pos rfl, sum_f xs hx hl _ (by omega), Option.bind_some, ref_f xs hx hl _ (by omega), Option.bind_some]
  simp
end Go.Proofs.Ytmlemnfleicnfaa.Pure
