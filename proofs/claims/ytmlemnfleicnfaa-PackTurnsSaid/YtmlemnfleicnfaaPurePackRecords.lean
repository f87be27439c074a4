/- Every payload has the record that is said, and all bytes begin with the record, or none, that is said: the program's records and the reference's agree on every two lists of bytes. -/
import Derived.Test.YtmlemnfleicnfaaPurePackLib
import Derived.Test.YtmlemnfleicnfaaPAx32
namespace Go.Proofs.Ytmlemnfleicnfaa.Pure
open Go.RowKit Go.Proofs.Ytmlemnfleicnfaa.PA Go.Proofs.YtmlemnfleicnfaaW.PrintWords Go.Proofs.YtmlemnfleicnfaaW.PrintLast Go.Proofs.YtmlemnfleicnfaaW.PrintMore

/-- A sum, as a number. -/
def crc (xs : List Int) : Nat := sumN xs 4294967295 ^^^ 4294967295
theorem crc_lt (xs : List Int) (hx : ∀ x ∈ xs, Byte x) : crc xs < 4294967296 := Nat.xor_lt_two_pow (n := 32) (sumN_lt xs hx _ (by decide)) (by decide)
theorem sum_ev (xs : List Int) (hx : ∀ x ∈ xs, Byte x) (hl : xs.length ≤ 140737488351232) : Ev (fun k => pack_Sum.f k xs) (crc xs : Int) := ⟨20 * xs.length + 20, fun k hk => sum_f xs hx hl k hk⟩
theorem rsum_ev (xs : List Int) (hx : ∀ x ∈ xs, Byte x) (hl : xs.length ≤ 140737488351232) : Ev (fun k => colloquyref08_Sum.f k xs) (crc xs : Int) := ⟨20 * xs.length + 20, fun k hk => ref_f xs hx hl k hk⟩
theorem summing_ev : Ev (fun k => colloquylaw08_summing.f k) true := ⟨200, fun k hk => summing_true k hk⟩

/-- Four bytes of a number. -/
def le4 (n : Nat) : List Int := [((n % 256 : Nat) : Int), ((n / 256 % 256 : Nat) : Int), ((n / 65536 % 256 : Nat) : Int), ((n / 16777216 % 256 : Nat) : Int)]
theorem four_eq (xs : List Int) (n : Nat) (h : xs.length < 140737488355324) : pack_four.f xs (n : Int) = some (xs ++ le4 n) := by
  unfold pack_four.f
  rw [Option.bind_some, if_pos (by simp; omega)]
  unfold le4
  simp only [Int.natCast_emod, Int.natCast_ediv]
  rfl
theorem rfour_eq (n : Nat) (h : n ≤ 9223372036854775807) : colloquyref08_four.f (n : Int) = some (le4 n) := by
  unfold colloquyref08_four.f le4
  have e : ∀ m : Nat, m ≤ 9223372036854775807 → (Int.tmod (m : Int) 256) % 256 = ((m % 256 : Nat) : Int) := fun m hm => by
    rw [Int.tmod_eq_emod_of_nonneg (by omega)]
    omega
  have d : ∀ q : Nat, 0 < q → wrap64 (Int.tdiv (n : Int) (q : Int)) = ((n / q : Nat) : Int) := fun q hq => by
    have hle : n / q ≤ n := Nat.div_le_self _ _
    rw [Int.tdiv_eq_ediv_of_nonneg (by omega), ← Int.natCast_ediv]
    generalize n / q = z at hle
    exact wrap_in (by omega) (by omega)
  have d1 := d 256 (by decide)
  have d2 := d 65536 (by decide)
  have d3 := d 16777216 (by decide)
  simp only [Int.cast_ofNat_Int] at d1 d2 d3
  rw [d1, d2, d3, e n h, e (n / 256) (by omega), e (n / 65536) (by omega), e (n / 16777216) (by omega)]
theorem le4_length (n : Nat) : (le4 n).length = 4 := rfl
/-- A record. -/
def recOf (p : List Int) : List Int := le4 p.length ++ le4 (crc p) ++ p
theorem recOf_length (p : List Int) : (recOf p).length = p.length + 8 := by simp [recOf, le4]
theorem record_ev (p : List Int) (hp : ∀ x ∈ p, Byte x) (hl : p.length ≤ 1000000) : Ev (fun k => pack_Record.f k p) (recOf p) := by
  unfold pack_Record.f
  have e1 : ((p.length : Int) % 4294967296) = (p.length : Int) := by omega
  refine Ev.congr (f := fun k => (some (le4 p.length)).bind fun t => (pack_Sum.f k p).bind fun s => (pack_four.f t s).bind fun u => if u.length + p.length < 140737488355328 then some (u ++ p) else none) (fun k => by rw [e1, four_eq [] _ (by simp), List.nil_append]) ?_
  simp only [Option.bind_some]
  refine Ev.bind (sum_ev p hp (by omega)) ?_
  refine Ev.congr (f := fun _ => some (recOf p)) (fun k => ?_) (Ev.now _)
  rw [four_eq _ _ (by simp [le4]), Option.bind_some, if_pos (by simp [le4]; omega)]
  rfl
theorem rrecord_ev (p : List Int) (hp : ∀ x ∈ p, Byte x) (hl : p.length ≤ 1000000) : Ev (fun k => colloquyref08_Record.f k p) (recOf p) := by
  unfold colloquyref08_Record.f
  have hc := crc_lt p hp
  refine Ev.congr (f := fun k => (some (le4 p.length)).bind fun t => (colloquyref08_Sum.f k p).bind fun s => (colloquyref08_four.f (wrap64 s)).bind fun u => (colloquyref08_Join.f k t u).bind fun j => (colloquyref08_Join.f k j p).bind fun r => some r) (fun k => by rw [rfour_eq _ (by omega)]) ?_
  simp only [Option.bind_some]
  refine Ev.bind (rsum_ev p hp (by omega)) ?_
  rw [wrap_in (by omega) (by omega), rfour_eq _ (by omega)]
  simp only [Option.bind_some]
  refine Ev.bind (join_ev _ _ (by simp [le4])) (Ev.bind (join_ev _ _ (by simp [le4]; omega)) (Ev.now _))

/-- The number of four bytes. -/
def num4 (b : List Int) : Nat := (rd b 0).toNat + 256 * (rd b 1).toNat + 65536 * (rd b 2).toNat + 16777216 * (rd b 3).toNat
theorem wraps_u32 (n : Int) (h₀ : 0 ≤ n) (h₁ : n < 2 ^ 32) : IntKind.u32.wrap n = n := by rw [IntKind.wrap_u32]; omega
theorem byte_at (b : List Int) (hb : ∀ x ∈ b, Byte x) (n : Nat) (h : n < b.length) : ∃ c : Nat, c ≤ 255 ∧ rd b (n : Int) = (c : Int) := by
  have := hb _ (rd_mem b n h)
  unfold Byte at this
  exact ⟨(rd b n).toNat, by omega, by omega⟩
theorem get_eq (b : List Int) (hb : ∀ x ∈ b, Byte x) (h : 4 ≤ b.length) : pack_get.f b = some (num4 b : Int) := by
  unfold pack_get.f
  rw [if_pos (by omega), if_pos (by omega), if_pos (by omega), if_pos (by omega)]
  obtain ⟨c0, h0, e0⟩ := byte_at b hb 0 (by omega)
  obtain ⟨c1, h1, e1⟩ := byte_at b hb 1 (by omega)
  obtain ⟨c2, h2, e2⟩ := byte_at b hb 2 (by omega)
  obtain ⟨c3, h3, e3⟩ := byte_at b hb 3 (by omega)
  simp only [Int.cast_ofNat_Int] at e0 e1 e2 e3
  unfold num4
  rw [e0, e1, e2, e3]
  have g : ∀ x y : Int, ∀ i : Nat, 0 ≤ x → x < 2 ^ i → 0 ≤ y → y % 2 ^ i = 0 → x < 2 ^ 32 → y < 2 ^ 32 → Go.bits .or .u32 x y = x + y := by
    intro x y i hx hx1 hy hy1 hx2 hy2
    have hc : Go.bits .or .u32 x y = Go.bits .or .u32 y x := by
      unfold Go.bits
      simp only [BitVec.or_comm]
    rw [hc, bits_join .u32 32 (by decide) wraps_u32 i y x hy hy1 hy2 hx hx1 hx2]
    omega
  rw [show (((c0 : Nat) : Int) % 4294967296) = c0 from by omega, show ((((c1 : Nat) : Int) % 4294967296) * 256) % 4294967296 = 256 * c1 from by omega, show ((((c2 : Nat) : Int) % 4294967296) * 65536) % 4294967296 = 65536 * c2 from by omega, show ((((c3 : Nat) : Int) % 4294967296) * 16777216) % 4294967296 = 16777216 * c3 from by omega]
  rw [g c0 (256 * c1) 8 (by omega) (by omega) (by omega) (by omega) (by omega) (by omega), g (c0 + 256 * c1) (65536 * c2) 16 (by omega) (by omega) (by omega) (by omega) (by omega) (by omega), g (c0 + 256 * c1 + 65536 * c2) (16777216 * c3) 24 (by omega) (by omega) (by omega) (by omega) (by omega) (by omega)]
  congr 1
theorem num4_lt (b : List Int) (hb : ∀ x ∈ b, Byte x) (h : 4 ≤ b.length) : num4 b < 4294967296 := by
  obtain ⟨c0, h0, e0⟩ := byte_at b hb 0 (by omega)
  obtain ⟨c1, h1, e1⟩ := byte_at b hb 1 (by omega)
  obtain ⟨c2, h2, e2⟩ := byte_at b hb 2 (by omega)
  obtain ⟨c3, h3, e3⟩ := byte_at b hb 3 (by omega)
  simp only [Int.cast_ofNat_Int] at e0 e1 e2 e3
  unfold num4
  rw [e0, e1, e2, e3]
  omega
theorem bytes_drop {b : List Int} (hb : ∀ x ∈ b, Byte x) (n : Nat) : ∀ x ∈ b.drop n, Byte x := fun x hx => hb x (List.mem_of_mem_drop hx)
theorem bytes_take {b : List Int} (hb : ∀ x ∈ b, Byte x) (n : Nat) : ∀ x ∈ b.take n, Byte x := fun x hx => hb x (List.mem_of_mem_take hx)

/-- What bytes begin with. -/
def splitOf (b : List Int) : List Int × Int × Bool :=
  if b.length < 8 ∨ 1073741824 < num4 b ∨ b.length < num4 b + 8 then ([], 0, false)
  else if crc ((b.drop 8).take (num4 b)) = num4 (b.drop 4) then ((b.drop 8).take (num4 b), ((num4 b + 8 : Nat) : Int), true) else ([], 0, false)
theorem splitOf_room (b : List Int) (h1 : ¬ b.length < 8) (h2 : ¬ 1073741824 < num4 b) (h3 : ¬ b.length < num4 b + 8) :
    splitOf b = if crc ((b.drop 8).take (num4 b)) = num4 (b.drop 4) then ((b.drop 8).take (num4 b), ((num4 b + 8 : Nat) : Int), true) else ([], 0, false) := by
  unfold splitOf
  rw [if_neg (by omega)]
theorem take_drop8 (b : List Int) (n : Nat) : (b.take (n + 8)).drop 8 = (b.drop 8).take n := by
  rw [List.drop_take]
  simp
theorem split_ev (b : List Int) (hb : ∀ x ∈ b, Byte x) (hl : b.length ≤ 10000000) : Ev (fun k => pack_Split.f k b) (splitOf b) := by
  unfold pack_Split.f
  by_cases h8 : b.length < 8
  · refine Ev.congr (f := fun _ => some ([], 0, false)) (fun k => if_pos (by omega)) ?_
    unfold splitOf
    rw [if_pos (Or.inl h8)]
    exact Ev.now _
  have hn := num4_lt b hb (by omega)
  refine Ev.congr (fun k => if_neg (by omega)) ?_
  refine Ev.bind (a := (num4 b : Int)) (Ev.congr (f := fun _ => some (num4 b : Int)) (fun k => get_eq b hb (by omega)) (Ev.now _)) ?_
  rw [wrap_in (by omega) (by omega)]
  have hfalse : ∀ f : Nat → Option (List Int × Int × Bool), (∀ k, f (k + 1) = some ([], 0, false)) → splitOf b = ([], 0, false) → Ev f (splitOf b) := by
    intro f hf he
    rw [he]
    exact Ev.step (f := fun _ => some ([], 0, false)) hf (Ev.now _)
  by_cases hbig : 1073741824 < num4 b
  · refine Ev.congr (fun k => if_pos (by omega)) ?_
    refine hfalse _ (fun k => by simp [pack_Split.j0]) ?_
    unfold splitOf
    rw [if_pos (Or.inr (Or.inl hbig))]
  refine Ev.congr (fun k => if_neg (by omega)) ?_
  rw [wrap_in (i := (b.length : Int) - 8) (by omega) (by omega)]
  by_cases hroom : b.length < num4 b + 8
  · have e : decide ((num4 b : Int) > (b.length : Int) - 8) = true := decide_eq_true (by omega)
    rw [e]
    refine hfalse _ (fun k => by simp [pack_Split.j0]) ?_
    unfold splitOf
    rw [if_pos (Or.inr (Or.inr hroom))]
  have e : decide ((num4 b : Int) > (b.length : Int) - 8) = false := decide_eq_false (by omega)
  rw [e]
  have ew : wrap64 (8 + (num4 b : Int)) = ((num4 b + 8 : Nat) : Int) := by rw [wrap_in (by omega) (by omega)]; omega
  refine Ev.step (f := fun k => (pack_Sum.f k ((b.drop 8).take (num4 b))).bind fun t => (pack_get.f (b.drop 4)).bind fun u => if t = u then (slices_Clone_byte_byte.f ((b.drop 8).take (num4 b))).bind fun c => some (c, ((num4 b + 8 : Nat) : Int), true) else some ([], 0, false)) (fun k => ?_) ?_
  · simp only [pack_Split.j0]
    rw [if_neg (by simp), ew, if_pos (by omega), if_pos (by omega), Int.toNat_natCast, take_drop8, Option.bind_some]
    refine congrArg _ ?_
    funext t
    rw [if_pos (by omega)]
  · refine Ev.bind (sum_ev _ (bytes_take (bytes_drop hb 8) _) (by rw [List.length_take, List.length_drop]; omega)) ?_
    refine Ev.bind (a := (num4 (b.drop 4) : Int)) (Ev.congr (f := fun _ => some (num4 (b.drop 4) : Int)) (fun k => get_eq _ (bytes_drop hb 4) (by rw [List.length_drop]; omega)) (Ev.now _)) ?_
    rw [splitOf_room b h8 hbig hroom]
    by_cases hc : crc ((b.drop 8).take (num4 b)) = num4 (b.drop 4)
    · rw [if_pos hc]
      refine Ev.congr (f := fun _ => some ((b.drop 8).take (num4 b), ((num4 b + 8 : Nat) : Int), true)) (fun k => ?_) (Ev.now _)
      rw [if_pos (by rw [hc]), clone_eq _ (by rw [List.length_take, List.length_drop]; omega)]
      rfl
    · rw [if_neg hc]
      exact Ev.congr (fun k => if_neg (by omega)) (Ev.now _)

theorem le4_num4 (b : List Int) (hb : ∀ x ∈ b, Byte x) (h : 4 ≤ b.length) (n : Nat) (hn : n < 4294967296) : (n = num4 b) ↔ (∀ i : Nat, i < 4 → rd (le4 n) i = rd b i) := by
  obtain ⟨c0, h0, e0⟩ := byte_at b hb 0 (by omega)
  obtain ⟨c1, h1, e1⟩ := byte_at b hb 1 (by omega)
  obtain ⟨c2, h2, e2⟩ := byte_at b hb 2 (by omega)
  obtain ⟨c3, h3, e3⟩ := byte_at b hb 3 (by omega)
  have hnum : num4 b = c0 + 256 * c1 + 65536 * c2 + 16777216 * c3 := by
    simp only [Int.cast_ofNat_Int] at e0 e1 e2 e3
    unfold num4
    rw [e0, e1, e2, e3]
    omega
  rw [hnum]
  have f0 : rd (le4 n) ((0 : Nat) : Int) = ((n % 256 : Nat) : Int) := rfl
  have f1 : rd (le4 n) ((1 : Nat) : Int) = ((n / 256 % 256 : Nat) : Int) := rfl
  have f2 : rd (le4 n) ((2 : Nat) : Int) = ((n / 65536 % 256 : Nat) : Int) := rfl
  have f3 : rd (le4 n) ((3 : Nat) : Int) = ((n / 16777216 % 256 : Nat) : Int) := rfl
  constructor
  · intro hh i hi
    have : i = 0 ∨ i = 1 ∨ i = 2 ∨ i = 3 := by omega
    rcases this with rfl | rfl | rfl | rfl
    · rw [f0, e0]; omega
    · rw [f1, e1]; omega
    · rw [f2, e2]; omega
    · rw [f3, e3]; omega
  · intro hh
    have g0 := hh 0 (by omega)
    have g1 := hh 1 (by omega)
    have g2 := hh 2 (by omega)
    have g3 := hh 3 (by omega)
    rw [f0, e0] at g0
    rw [f1, e1] at g1
    rw [f2, e2] at g2
    rw [f3, e3] at g3
    omega
theorem rd_drop (b : List Int) (n i : Nat) : rd (b.drop n) i = rd b ((n + i : Nat) : Int) := by
  unfold rd
  rw [Int.toNat_natCast, Int.toNat_natCast, List.getD_eq_getElem?_getD, List.getD_eq_getElem?_getD, List.getElem?_drop]
theorem rsplit_l (b p : List Int) (hl : b.length ≤ 10000000) (h8 : 8 ≤ b.length) (m n : Nat) (hm : m ≤ 10000000) : ∀ (d i : Nat), i ≤ 4 → d = 4 - i →
    ((∀ j : Nat, i ≤ j → j < 4 → rd (le4 n) j = rd (b.drop 4) j) → Ev (fun k => colloquyref08_Split.l0 k b m p (le4 n) i) (p, ((m + 8 : Nat) : Int), true)) ∧
    ((¬ ∀ j : Nat, i ≤ j → j < 4 → rd (le4 n) j = rd (b.drop 4) j) → Ev (fun k => colloquyref08_Split.l0 k b m p (le4 n) i) ([], 0, false)) := by
  intro d
  induction d with
  | zero =>
    intro i hi hd
    refine ⟨fun _ => ?_, fun h => absurd (fun j h1 h2 => by omega) h⟩
    refine Ev.step (f := fun _ => some (p, ((m + 8 : Nat) : Int), true)) (fun k => ?_) (Ev.now _)
    simp only [colloquyref08_Split.l0]
    rw [if_neg (by omega), wrap_in (by omega) (by omega), show (8 + (m : Int)) = ((m + 8 : Nat) : Int) from by omega]
  | succ d ih =>
    intro i hi hd
    have ew : wrap64 (4 + (i : Int)) = ((4 + i : Nat) : Int) := by rw [wrap_in (by omega) (by omega)]; omega
    by_cases he : rd (le4 n) i = rd (b.drop 4) i
    · have hiff : (∀ j : Nat, i ≤ j → j < 4 → rd (le4 n) j = rd (b.drop 4) j) ↔ (∀ j : Nat, i + 1 ≤ j → j < 4 → rd (le4 n) j = rd (b.drop 4) j) :=
        ⟨fun h j h1 h2 => h j (by omega) h2, fun h j h1 h2 => by
          by_cases e : j = i
          · subst e; exact he
          · exact h j (by omega) h2⟩
      obtain ⟨g1, g2⟩ := ih (i + 1) (by omega) (by omega)
      have st : ∀ r, Ev (fun k => colloquyref08_Split.l0 k b m p (le4 n) ((i + 1 : Nat) : Int)) r → Ev (fun k => colloquyref08_Split.l0 k b m p (le4 n) i) r := by
        intro r hr
        refine Ev.step (fun k => ?_) hr
        simp only [colloquyref08_Split.l0]
        rw [if_pos (by omega), if_pos (by omega), if_pos (by rw [le4_length]; omega), ew, if_pos (by omega), if_pos (by omega), if_pos (by rw [← rd_drop]; exact he), wrap_in (by omega) (by omega)]
        rfl
      exact ⟨fun h => st _ (g1 (hiff.1 h)), fun h => st _ (g2 (fun h' => h (hiff.2 h')))⟩
    · refine ⟨fun h => absurd (h i (Nat.le_refl _) (by omega)) he, fun _ => ?_⟩
      refine Ev.step (f := fun _ => some ([], 0, false)) (fun k => ?_) (Ev.now _)
      simp only [colloquyref08_Split.l0]
      rw [if_pos (by omega), if_pos (by omega), if_pos (by rw [le4_length]; omega), ew, if_pos (by omega), if_pos (by omega), if_neg (by rw [← rd_drop]; exact he)]
theorem rsplit_ev (b : List Int) (hb : ∀ x ∈ b, Byte x) (hl : b.length ≤ 10000000) : Ev (fun k => colloquyref08_Split.f k b) (splitOf b) := by
  unfold colloquyref08_Split.f
  by_cases h8 : b.length < 8
  · refine Ev.congr (f := fun _ => some ([], 0, false)) (fun k => if_pos (by omega)) ?_
    unfold splitOf
    rw [if_pos (Or.inl h8)]
    exact Ev.now _
  have hn := num4_lt b hb (by omega)
  have hexp : wrap64 ((wrap64 ((wrap64 ((wrap64 (rd b 0)) + (wrap64 (256 * (wrap64 (rd b 1)))))) + (wrap64 (65536 * (wrap64 (rd b 2)))))) + (wrap64 (16777216 * (wrap64 (rd b 3))))) = (num4 b : Int) := by
    obtain ⟨c0, h0, e0⟩ := byte_at b hb 0 (by omega)
    obtain ⟨c1, h1, e1⟩ := byte_at b hb 1 (by omega)
    obtain ⟨c2, h2, e2⟩ := byte_at b hb 2 (by omega)
    obtain ⟨c3, h3, e3⟩ := byte_at b hb 3 (by omega)
    simp only [Int.cast_ofNat_Int] at e0 e1 e2 e3
    unfold num4
    rw [e0, e1, e2, e3]
    simp only [Int.toNat_natCast]
    rw [wrap_in (i := (c0 : Int)) (by omega) (by omega), wrap_in (i := (c1 : Int)) (by omega) (by omega), wrap_in (i := (c2 : Int)) (by omega) (by omega), wrap_in (i := (c3 : Int)) (by omega) (by omega),
      wrap_in (i := 256 * (c1 : Int)) (by omega) (by omega), wrap_in (i := 65536 * (c2 : Int)) (by omega) (by omega), wrap_in (i := 16777216 * (c3 : Int)) (by omega) (by omega),
      wrap_in (i := (c0 : Int) + 256 * c1) (by omega) (by omega), wrap_in (i := (c0 : Int) + 256 * c1 + 65536 * c2) (by omega) (by omega), wrap_in (by omega) (by omega)]
    omega
  rw [hexp]
  refine Ev.congr (f := fun k => if (num4 b : Int) > 1073741824 then colloquyref08_Split.j0 k b (num4 b) true else colloquyref08_Split.j0 k b (num4 b) (decide ((num4 b : Int) > wrap64 ((b.length : Int) - 8)))) (fun k => by rw [if_neg (by omega), if_pos (by omega), if_pos (by omega), if_pos (by omega), if_pos (by omega)]) ?_
  have hfalse : ∀ f : Nat → Option (List Int × Int × Bool), (∀ k, f (k + 1) = some ([], 0, false)) → splitOf b = ([], 0, false) → Ev f (splitOf b) := by
    intro f hf he
    rw [he]
    exact Ev.step (f := fun _ => some ([], 0, false)) hf (Ev.now _)
  by_cases hbig : 1073741824 < num4 b
  · refine Ev.congr (fun k => if_pos (by omega)) ?_
    refine hfalse _ (fun k => by simp [colloquyref08_Split.j0]) ?_
    unfold splitOf
    rw [if_pos (Or.inr (Or.inl hbig))]
  refine Ev.congr (fun k => if_neg (by omega)) ?_
  rw [wrap_in (i := (b.length : Int) - 8) (by omega) (by omega)]
  by_cases hroom : b.length < num4 b + 8
  · have e : decide ((num4 b : Int) > (b.length : Int) - 8) = true := decide_eq_true (by omega)
    rw [e]
    refine hfalse _ (fun k => by simp [colloquyref08_Split.j0]) ?_
    unfold splitOf
    rw [if_pos (Or.inr (Or.inr hroom))]
  have e : decide ((num4 b : Int) > (b.length : Int) - 8) = false := decide_eq_false (by omega)
  rw [e]
  have ew : wrap64 (8 + (num4 b : Int)) = ((num4 b + 8 : Nat) : Int) := by rw [wrap_in (by omega) (by omega)]; omega
  have hpb := bytes_take (bytes_drop hb 8) (num4 b)
  have hc32 := crc_lt _ hpb
  refine Ev.step (f := fun k => (colloquyref08_Sum.f k ((b.drop 8).take (num4 b))).bind fun t => (colloquyref08_four.f (wrap64 t)).bind fun u => colloquyref08_Split.l0 k b (num4 b) ((b.drop 8).take (num4 b)) u 0) (fun k => ?_) ?_
  · simp only [colloquyref08_Split.j0]
    rw [if_neg (by simp), ew, if_pos (by omega), if_pos (by omega), Int.toNat_natCast, take_drop8, Option.bind_some]
  · refine Ev.bind (rsum_ev _ hpb (by rw [List.length_take, List.length_drop]; omega)) ?_
    rw [wrap_in (by omega) (by omega), rfour_eq _ (by omega)]
    simp only [Option.bind_some]
    obtain ⟨g1, g2⟩ := rsplit_l b ((b.drop 8).take (num4 b)) hl (by omega) (num4 b) (crc ((b.drop 8).take (num4 b))) (by omega) 4 0 (by omega) (by omega)
    have hiff := le4_num4 (b.drop 4) (bytes_drop hb 4) (by rw [List.length_drop]; omega) (crc ((b.drop 8).take (num4 b))) hc32
    rw [splitOf_room b h8 hbig hroom]
    by_cases hc : crc ((b.drop 8).take (num4 b)) = num4 (b.drop 4)
    · rw [if_pos hc]
      exact g1 (fun j _ h2 => hiff.1 hc j h2)
    · rw [if_neg hc]
      exact g2 (fun h => hc (hiff.2 (fun j h2 => h j (Nat.zero_le _) h2)))

theorem rd_app_left (a b : List Int) (n : Nat) (h : n < a.length) : rd (a ++ b) n = rd a n := by
  unfold rd
  rw [Int.toNat_natCast, List.getD_eq_getElem?_getD, List.getD_eq_getElem?_getD, List.getElem?_append_left h]
theorem num4_le4 (n : Nat) (h : n < 4294967296) (t : List Int) : num4 (le4 n ++ t) = n := by
  unfold num4
  have f0 : rd (le4 n ++ t) 0 = ((n % 256 : Nat) : Int) := rfl
  have f1 : rd (le4 n ++ t) 1 = ((n / 256 % 256 : Nat) : Int) := rfl
  have f2 : rd (le4 n ++ t) 2 = ((n / 65536 % 256 : Nat) : Int) := rfl
  have f3 : rd (le4 n ++ t) 3 = ((n / 16777216 % 256 : Nat) : Int) := rfl
  rw [f0, f1, f2, f3]
  omega
theorem le4_bytes (n : Nat) : ∀ x ∈ le4 n, Byte x := by
  intro x hx
  unfold le4 at hx
  unfold Byte
  simp only [List.mem_cons, List.not_mem_nil, or_false] at hx
  omega
theorem recOf_bytes (p : List Int) (hp : ∀ x ∈ p, Byte x) : ∀ x ∈ recOf p, Byte x := by
  intro x hx
  unfold recOf at hx
  rcases List.mem_append.1 hx with h | h
  · rcases List.mem_append.1 h with h | h
    · exact le4_bytes _ x h
    · exact le4_bytes _ x h
  · exact hp x h
/-- A record is split off from what stands behind it. -/
theorem split_rec (p b : List Int) (hp : ∀ x ∈ p, Byte x) (hl : p.length ≤ 1000000) : splitOf (recOf p ++ b) = (p, ((p.length + 8 : Nat) : Int), true) := by
  have e1 : num4 (recOf p ++ b) = p.length := by
    unfold recOf
    rw [List.append_assoc, List.append_assoc]
    exact num4_le4 _ (by omega) _
  have e2 : (recOf p ++ b).drop 4 = le4 (crc p) ++ (p ++ b) := by
    unfold recOf
    rw [List.append_assoc, List.append_assoc]
    rfl
  have e3 : (recOf p ++ b).drop 8 = p ++ b := by
    unfold recOf
    rw [List.append_assoc, List.append_assoc]
    rfl
  have e4 : num4 ((recOf p ++ b).drop 4) = crc p := by
    rw [e2]
    exact num4_le4 _ (crc_lt p hp) _
  have e5 : ((recOf p ++ b).drop 8).take p.length = p := by rw [e3]; simp
  unfold splitOf
  rw [e1, if_neg (by rw [List.length_append, recOf_length]; omega), e5, e4, if_pos rfl]

theorem PackRecords : colloquylaw08_PackRecords.Pure := by
  intro p b _ hlp hwp _ hlb hwb
  rw [Nat.mul_one] at hlp hlb
  have hp : ∀ x ∈ p, Byte x := fun x h => wf_byte (hwp x h)
  have hb : ∀ x ∈ b, Byte x := fun x h => wf_byte (hwb x h)
  refine Ev.rounds ?_
  unfold colloquylaw08_PackRecords.f
  refine Ev.bind summing_ev (Ev.congr (fun k => if_pos rfl) ?_)
  by_cases h1 : (p.length : Int) > 100000
  · refine Ev.congr (fun k => if_pos h1) ?_
    exact Ev.step (f := fun _ => some true) (fun k => by simp [colloquylaw08_PackRecords.j0]) (Ev.now _)
  refine Ev.congr (fun k => if_neg h1) ?_
  by_cases h2 : (b.length : Int) > 100000
  · rw [decide_eq_true h2]
    exact Ev.step (f := fun _ => some true) (fun k => by simp [colloquylaw08_PackRecords.j0]) (Ev.now _)
  rw [decide_eq_false h2]
  refine Ev.step (fun k => by simp only [colloquylaw08_PackRecords.j0]; exact if_neg (by simp)) ?_
  refine Ev.bind (record_ev p hp (by omega)) ?_
  refine Ev.bind (split_ev b hb (by omega)) ?_
  refine Ev.bind (rsplit_ev b hb (by omega)) ?_
  refine Ev.bind (rrecord_ev p hp (by omega)) ?_
  refine Ev.bind (same_ev _ _ (by rw [recOf_length]; omega)) ?_
  refine Ev.congr (fun k => if_pos (by simp)) (Ev.congr (fun k => if_neg (by simp)) (Ev.congr (fun k => if_pos rfl) ?_))
  have hlen : (splitOf b).1.length ≤ 281474976710656 := by
    unfold splitOf
    split
    · simp
    · split
      · simp [List.length_take, List.length_drop]; omega
      · simp
  refine Ev.bind (same_ev _ _ hlen) ?_
  rw [decide_eq_true rfl]
  refine Ev.step (fun k => by simp only [colloquylaw08_PackRecords.j1]; exact (if_neg (by simp)).trans (if_pos (by rw [recOf_length]; omega))) ?_
  refine Ev.bind (split_ev (recOf p ++ b) (fun x hx => (List.mem_append.1 hx).elim (recOf_bytes p hp x) (hb x)) (by rw [List.length_append, recOf_length]; omega)) ?_
  rw [split_rec p b hp (by omega)]
  refine Ev.congr (fun k => (if_pos rfl).trans (if_pos (by rw [wrap_in (by omega) (by omega)]; simp))) ?_
  refine Ev.bind (same_ev _ _ (by simp only; omega)) ?_
  rw [decide_eq_true rfl]
  exact Ev.now _
end Go.Proofs.Ytmlemnfleicnfaa.Pure
