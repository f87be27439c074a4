/- A proper beginning of a record is none; a record with a byte turned is none, or one of another payload. -/
import Derived.Test.YtmlemnfleicnfaaPurePackRecords
import Derived.Test.YtmlemnfleicnfaaPAx33
namespace Go.Proofs.Ytmlemnfleicnfaa.Pure
open Go.RowKit Go.Proofs.Ytmlemnfleicnfaa.PA Go.Proofs.YtmlemnfleicnfaaW.PrintWords Go.Proofs.YtmlemnfleicnfaaW.PrintLast Go.Proofs.YtmlemnfleicnfaaW.PrintMore

theorem split_bool (b : List Int) : (splitOf b).2.2 = true → 8 ≤ b.length ∧ num4 b + 8 ≤ b.length ∧ crc ((b.drop 8).take (num4 b)) = num4 (b.drop 4) ∧ splitOf b = ((b.drop 8).take (num4 b), ((num4 b + 8 : Nat) : Int), true) := by
  intro h
  unfold splitOf at h ⊢
  split at h
  · cases h
  · rename_i h1
    split at h
    · rename_i h2
      rw [if_neg h1, if_pos h2]
      exact ⟨by omega, by omega, h2, rfl⟩
    · cases h
theorem num4_take (b : List Int) (n : Nat) (h : 4 ≤ n) : num4 (b.take n) = num4 b := by
  have e : ∀ i : Nat, i < 4 → rd (b.take n) i = rd b i := by
    intro i hi
    unfold rd
    rw [Int.toNat_natCast, List.getD_eq_getElem?_getD, List.getD_eq_getElem?_getD, List.getElem?_take, if_pos (by omega)]
  unfold num4
  have e0 := e 0 (by omega)
  have e1 := e 1 (by omega)
  have e2 := e 2 (by omega)
  have e3 := e 3 (by omega)
  simp only [Int.cast_ofNat_Int] at e0 e1 e2 e3
  rw [e0, e1, e2, e3]
theorem num4_rec (p t : List Int) (hl : p.length ≤ 1000000) : num4 (recOf p ++ t) = p.length := by
  unfold recOf
  rw [List.append_assoc, List.append_assoc]
  exact num4_le4 _ (by omega) _
/-- A proper beginning is none. -/
theorem begin_none (p : List Int) (hl : p.length ≤ 1000000) (i : Nat) (hi : i < p.length + 8) : (splitOf ((recOf p).take i)).2.2 = false := by
  cases h : (splitOf ((recOf p).take i)).2.2 with
  | false => rfl
  | true =>
    obtain ⟨h1, h2, _, _⟩ := split_bool _ h
    have hlen : ((recOf p).take i).length = i := by rw [List.length_take, recOf_length]; omega
    rw [hlen] at h1 h2
    have hn := num4_rec p [] hl
    rw [List.append_nil] at hn
    rw [num4_take _ _ (by omega), hn] at h2
    omega
theorem rd_set (b : List Int) (i j : Nat) (v : Int) (hi : i < b.length) : rd (b.set i v) j = if i = j then v else rd b j := by
  unfold rd
  rw [Int.toNat_natCast, List.getD_eq_getElem?_getD, List.getD_eq_getElem?_getD, List.getElem?_set]
  by_cases e : i = j
  · rw [if_pos e, if_pos e, if_pos hi]
    rfl
  · rw [if_neg e, if_neg e]
theorem num4_ext (a b : List Int) (ha : ∀ x ∈ a, Byte x) (hb : ∀ x ∈ b, Byte x) (h4 : 4 ≤ a.length) (h4' : 4 ≤ b.length) (h : num4 a = num4 b) : ∀ i : Nat, i < 4 → rd a i = rd b i := by
  obtain ⟨c0, h0, e0⟩ := byte_at a ha 0 (by omega)
  obtain ⟨c1, h1, e1⟩ := byte_at a ha 1 (by omega)
  obtain ⟨c2, h2, e2⟩ := byte_at a ha 2 (by omega)
  obtain ⟨c3, h3, e3⟩ := byte_at a ha 3 (by omega)
  obtain ⟨d0, k0, f0⟩ := byte_at b hb 0 (by omega)
  obtain ⟨d1, k1, f1⟩ := byte_at b hb 1 (by omega)
  obtain ⟨d2, k2, f2⟩ := byte_at b hb 2 (by omega)
  obtain ⟨d3, k3, f3⟩ := byte_at b hb 3 (by omega)
  intro i hi
  have g : c0 + 256 * c1 + 65536 * c2 + 16777216 * c3 = d0 + 256 * d1 + 65536 * d2 + 16777216 * d3 := by
    have h' := h
    unfold num4 at h'
    simp only [Int.cast_ofNat_Int] at e0 e1 e2 e3 f0 f1 f2 f3
    rw [e0, e1, e2, e3, f0, f1, f2, f3] at h'
    omega
  have : i = 0 ∨ i = 1 ∨ i = 2 ∨ i = 3 := by omega
  rcases this with rfl | rfl | rfl | rfl
  · rw [e0, f0]; omega
  · rw [e1, f1]; omega
  · rw [e2, f2]; omega
  · rw [e3, f3]; omega
theorem ext_rd (a b : List Int) (hl : a.length = b.length) (h : ∀ i : Nat, i < a.length → rd a i = rd b i) : a = b := by
  refine List.ext_getElem hl fun i h1 h2 => ?_
  have := h i h1
  unfold rd at this
  rw [Int.toNat_natCast, List.getD_eq_getElem?_getD, List.getD_eq_getElem?_getD, List.getElem?_eq_getElem h1, List.getElem?_eq_getElem h2] at this
  exact this
/-- With a byte turned: none, or of another payload. -/
theorem turned (p : List Int) (hp : ∀ x ∈ p, Byte x) (hl : p.length ≤ 1000000) (i : Nat) (hi : i < p.length + 8) (v : Int) (hv : Byte v) (hne : rd (recOf p) i ≠ v)
    (h : (splitOf ((recOf p).set i v)).2.2 = true) : (splitOf ((recOf p).set i v)).1 ≠ p := by
  obtain ⟨h1, h2, h3, h4⟩ := split_bool _ h
  rw [h4]
  intro he
  have hlen : ((recOf p).set i v).length = p.length + 8 := by rw [List.length_set, recOf_length]
  have hr : (recOf p).length = p.length + 8 := recOf_length p
  have hb := recOf_bytes p hp
  have hb' : ∀ x ∈ (recOf p).set i v, Byte x := fun x hx => by
    rcases List.mem_or_eq_of_mem_set hx with hx | hx
    · exact hb x hx
    · rw [hx]; exact hv
  have hn : num4 (recOf p) = p.length := by
    have := num4_rec p [] hl
    rwa [List.append_nil] at this
  have he' : (((recOf p).set i v).drop 8).take (num4 ((recOf p).set i v)) = p := he
  have hnum : num4 ((recOf p).set i v) = p.length := by
    have := congrArg List.length he'
    rw [List.length_take, List.length_drop, hlen] at this
    rw [hlen] at h2
    omega
  have hall : ∀ j : Nat, j < p.length + 8 → rd ((recOf p).set i v) j = rd (recOf p) j := by
    intro j hj
    by_cases j4 : j < 4
    · exact num4_ext _ _ hb' hb (by omega) (by omega) (hnum.trans hn.symm) j j4
    by_cases j8 : j < 8
    · have e2 : (recOf p).drop 4 = le4 (crc p) ++ p := by
        unfold recOf
        rw [List.append_assoc]
        rfl
      have e1 : num4 ((recOf p).drop 4) = crc p := by rw [e2]; exact num4_le4 _ (crc_lt p hp) _
      rw [he'] at h3
      have := num4_ext _ _ (bytes_drop hb' 4) (bytes_drop hb 4) (by rw [List.length_drop]; omega) (by rw [List.length_drop]; omega) (h3.symm.trans e1.symm) (j - 4) (by omega)
      rw [rd_drop, rd_drop, show 4 + (j - 4) = j from by omega] at this
      exact this
    · have e8 : (recOf p).drop 8 = p := by
        unfold recOf
        rw [List.append_assoc]
        rfl
      have e9 : ((recOf p).set i v).drop 8 = p := by
        rw [hnum, List.take_of_length_le (by rw [List.length_drop, hlen]; omega)] at he'
        exact he'
      have a1 := rd_drop ((recOf p).set i v) 8 (j - 8)
      have a2 := rd_drop (recOf p) 8 (j - 8)
      rw [e9] at a1
      rw [e8] at a2
      rw [show 8 + (j - 8) = j from by omega] at a1 a2
      rw [← a1, ← a2]
  have := hall i hi
  rw [rd_set _ _ _ _ (by omega), if_pos rfl] at this
  exact hne this.symm

theorem wf_range {a : Int} (h : (Lit.int .i64 a).wf = true) : -9223372036854775808 ≤ a ∧ a ≤ 9223372036854775807 := by
  simp [Lit.wf, IntKind.signed, IntKind.min, IntKind.max, IntKind.bits] at h
  omega
theorem and_mask (a : Int) : 0 ≤ Go.bits .and .i64 a 4095 ∧ Go.bits .and .i64 a 4095 ≤ 4095 := by
  have hle : ((BitVec.ofInt 64 a) &&& (BitVec.ofInt 64 4095)).toNat ≤ 4095 := by
    rw [BitVec.toNat_and]
    exact Nat.and_le_right
  show 0 ≤ IntKind.i64.wrap (((BitVec.ofInt 64 a) &&& (BitVec.ofInt 64 4095)).toNat : Int) ∧ IntKind.i64.wrap (((BitVec.ofInt 64 a) &&& (BitVec.ofInt 64 4095)).toNat : Int) ≤ 4095
  generalize ((BitVec.ofInt 64 a) &&& (BitVec.ofInt 64 4095)).toNat = z at hle
  rw [IntKind.wrap_i64]
  omega

theorem PackTurns : colloquylaw08_PackTurns.Pure := by
  intro p at_ tv _ hlp hwp _ hto
  rw [Nat.mul_one] at hlp
  have hp : ∀ x ∈ p, Byte x := fun x h => wf_byte (hwp x h)
  have hv : Byte tv := wf_byte hto
  refine Ev.rounds ?_
  unfold colloquylaw08_PackTurns.f
  refine Ev.bind summing_ev (Ev.congr (fun k => if_pos rfl) ?_)
  by_cases h1 : (p.length : Int) > 3000
  · exact Ev.congr (fun k => if_pos h1) (Ev.now _)
  refine Ev.congr (fun k => if_neg h1) ?_
  refine Ev.bind (record_ev p hp (by omega)) ?_
  have hr := recOf_length p
  obtain ⟨m0, m1⟩ := and_mask at_
  generalize Go.bits .and .i64 at_ 4095 = m at m0 m1
  have hmod : Int.tmod m ((recOf p).length : Int) = m % ((recOf p).length : Int) := Int.tmod_eq_emod_of_nonneg m0
  rw [hmod]
  have g0 : 0 ≤ m % ((recOf p).length : Int) := Int.emod_nonneg _ (by omega)
  have g1 : m % ((recOf p).length : Int) < ((recOf p).length : Int) := Int.emod_lt_of_pos _ (by omega)
  obtain ⟨i, hi⟩ : ∃ i : Nat, m % ((recOf p).length : Int) = (i : Int) := ⟨_, (Int.toNat_of_nonneg g0).symm⟩
  rw [hi] at g1 ⊢
  have hi8 : i < p.length + 8 := by omega
  refine Ev.congr (fun k => (if_neg (by omega)).trans ((if_pos (by omega)).trans (if_pos (by omega)))) ?_
  rw [Int.toNat_natCast]
  refine Ev.bind (split_ev _ (bytes_take (recOf_bytes p hp) _) (by rw [List.length_take]; omega)) ?_
  refine Ev.congr (fun k => (if_neg (by rw [begin_none p (by omega) i hi8]; simp)).trans (if_pos (by omega))) ?_
  by_cases hsame : rd (recOf p) i = tv
  · exact Ev.congr (fun k => if_pos hsame) (Ev.now _)
  refine Ev.congr (fun k => if_neg hsame) ?_
  have hb' : ∀ x ∈ (recOf p).set i tv, Byte x := fun x hx => by
    rcases List.mem_or_eq_of_mem_set hx with hx | hx
    · exact recOf_bytes p hp x hx
    · rw [hx]; exact hv
  refine Ev.bind (split_ev _ hb' (by rw [List.length_set]; omega)) ?_
  by_cases hok : (splitOf ((recOf p).set i tv)).2.2 = true
  · refine Ev.congr (fun k => if_pos hok) ?_
    have hne := turned p hp (by omega) i hi8 tv hv hsame hok
    have hlen : (splitOf ((recOf p).set i tv)).1.length ≤ 281474976710656 := by
      obtain ⟨_, _, _, h4⟩ := split_bool _ hok
      rw [h4, List.length_take, List.length_drop, List.length_set]
      omega
    refine Ev.bind (same_ev _ _ hlen) ?_
    rw [decide_eq_false hne]
    exact Ev.now _
  · exact Ev.congr (fun k => if_neg hok) (Ev.now _)
end Go.Proofs.Ytmlemnfleicnfaa.Pure
