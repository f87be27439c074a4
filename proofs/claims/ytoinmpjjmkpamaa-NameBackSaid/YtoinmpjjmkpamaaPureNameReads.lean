/- Every text is a written name, or none, as the document says. -/
import Derived.Test.YtoinmpjjmkpamaaPureNameWrites
import Derived.Test.YtoinmpjjmkpamaaPAx27
namespace Go.Proofs.Ytoinmpjjmkpamaa.Pure
open Go.RowKit Go.Proofs.Ytoinmpjjmkpamaa.PA Go.Proofs.YtoinmpjjmkpamaaW.PrintWords Go.Proofs.YtoinmpjjmkpamaaW.PrintLast Go.Proofs.YtoinmpjjmkpamaaW.PrintMore

/-- The number of a digit; -1 of none. -/
def ixd (c : Int) : Int := Lib.indexByte nmDig.data.toList c.toNat.toUInt8
theorem index_eq (c : Int) : strings_IndexByte.f (⟨#[48, 49, 50, 51, 52, 53, 54, 55, 56, 57, 97, 98, 99, 100, 101, 102]⟩ : ByteArray) c = some (ixd c) := rfl
theorem ixd_range_nat : ∀ n : Nat, n < 256 → -1 ≤ ixd (n : Int) ∧ ixd (n : Int) < 16 := by decide +kernel
theorem ixd_range (s : ByteArray) (i : Int) : -1 ≤ ixd (bt s i) ∧ ixd (bt s i) < 16 := by
  obtain ⟨h0, h1⟩ := bt_range s i
  obtain ⟨n, hn⟩ := Int.eq_ofNat_of_zero_le h0
  rw [hn]
  exact ixd_range_nat n (by omega)
theorem unhex_nat : ∀ n : Nat, n < 256 → colloquyref02_unhex.f 20 (n : Int) = some (ixd (n : Int)) := by decide +kernel
theorem unhex_ev (s : ByteArray) (i : Int) : Ev (fun k => colloquyref02_unhex.f k (bt s i)) (ixd (bt s i)) := by
  obtain ⟨h0, h1⟩ := bt_range s i
  obtain ⟨n, hn⟩ := Int.eq_ofNat_of_zero_le h0
  rw [hn]
  exact ⟨20, fun k hk => at_rounds (colloquyref02_unhex.mono _) hk (unhex_nat n (by omega))⟩
theorem or_nat : ∀ a : Nat, a < 16 → ∀ b : Nat, b < 16 → (Go.bits .or .i64 (wrap64 ((a : Int) * 16)) (b : Int)) % 256 = ((16 * a + b : Nat) : Int) := by decide +kernel
theorem or_eq (a b : Int) (a0 : 0 ≤ a) (a1 : a < 16) (b0 : 0 ≤ b) (b1 : b < 16) : (Go.bits .or .i64 (wrap64 (a * 16)) b) % 256 = 16 * a + b := by
  obtain ⟨m, rfl⟩ := Int.eq_ofNat_of_zero_le a0
  obtain ⟨n, rfl⟩ := Int.eq_ofNat_of_zero_le b0
  rw [or_nat m (by omega) n (by omega)]
  omega
theorem add_eq (a b : Int) (a0 : 0 ≤ a) (a1 : a < 16) (b0 : 0 ≤ b) (b1 : b < 16) : (wrap64 ((wrap64 (16 * a)) + b)) % 256 = 16 * a + b := by
  rw [wrap_id (i := 16 * a) (by omega) (by omega), wrap_id (by omega) (by omega)]
  omega
/-- The program and the document read on alike. -/
theorem same_read (t : ByteArray) (ht : t.size ≤ 140737488351232) : ∀ (d n : Nat) (out : List Int), n ≤ t.size → d = t.size - n → out.length + d ≤ t.size →
    ∃ v, Ev (fun k => name_Read.l0 k t out n) v ∧ Ev (fun k => colloquyref02_Read.l0 k t out n) v := by
  intro d
  induction d using Nat.strongRecOn with
  | ind d ih =>
    intro n out hn hd ho
    by_cases hlt : n < t.size
    · by_cases hc : bt t n = 92
      · by_cases hb : n + 2 < t.size
        · have e1 : wrap64 ((n : Int) + 1) = ((n + 1 : Nat) : Int) := by unfold wrap64; omega
          have e2 : wrap64 ((n : Int) + 2) = ((n + 2 : Nat) : Int) := by unfold wrap64; omega
          have e3 : wrap64 ((n : Int) + 3) = ((n + 3 : Nat) : Int) := by unfold wrap64; omega
          have e4 : wrap64 (((n + 2 : Nat) : Int) + 1) = ((n + 3 : Nat) : Int) := by unfold wrap64; omega
          have hi := ixd_range t ((n + 1 : Nat) : Int)
          have lo := ixd_range t ((n + 2 : Nat) : Int)
          by_cases h1 : ixd (bt t ((n + 1 : Nat) : Int)) < 0
          · refine ⟨(⟨#[]⟩, false), Ev.step (f := fun _ => some (⟨#[]⟩, false)) (fun k => ?_) (Ev.now _), ?_⟩
            · simp only [name_Read.l0]
              rw [if_pos (by omega), if_pos (by omega), if_pos hc, e2, e1, if_neg (by omega), if_pos (by omega), if_pos (by omega), index_eq, index_eq]
              simp only [Option.bind_some]
              rw [if_pos (by omega), if_pos (by omega), if_pos h1]
            · refine Ev.step (f := fun k => (colloquyref02_unhex.f k (bt t ((n + 1 : Nat) : Int))).bind fun t152 => (if t152 < 0 then (colloquyref02_Read.j1 k t out n true) else (if 0 ≤ (wrap64 ((n : Int) + 2)) then (if (wrap64 ((n : Int) + 2)) < (t.size : Int) then ((colloquyref02_unhex.f k (bt t (wrap64 ((n : Int) + 2)))).bind fun t153 => (colloquyref02_Read.j1 k t out n (decide (t153 < 0)))) else (none)) else (none)))) (fun k => ?_) ?_
              · simp only [colloquyref02_Read.l0]
                rw [if_pos (by omega), if_pos (by omega), if_pos hc, e3, e1, if_neg (by omega), if_pos (by omega), if_pos (by omega)]
              · refine Ev.bind (unhex_ev t _) (Ev.congr (fun k => if_pos h1) (Ev.step (f := fun _ => some (⟨#[]⟩, false)) (fun k => ?_) (Ev.now _)))
                simp only [colloquyref02_Read.j1]
                rw [if_pos (by trivial)]
          · by_cases h2 : ixd (bt t ((n + 2 : Nat) : Int)) < 0
            · refine ⟨(⟨#[]⟩, false), Ev.step (f := fun _ => some (⟨#[]⟩, false)) (fun k => ?_) (Ev.now _), ?_⟩
              · simp only [name_Read.l0]
                rw [if_pos (by omega), if_pos (by omega), if_pos hc, e2, e1, if_neg (by omega), if_pos (by omega), if_pos (by omega), index_eq, index_eq]
                simp only [Option.bind_some]
                rw [if_pos (by omega), if_pos (by omega), if_neg h1, if_pos h2]
              · refine Ev.step (f := fun k => (colloquyref02_unhex.f k (bt t ((n + 1 : Nat) : Int))).bind fun t152 => (if t152 < 0 then (colloquyref02_Read.j1 k t out n true) else ((colloquyref02_unhex.f k (bt t ((n + 2 : Nat) : Int))).bind fun t153 => (colloquyref02_Read.j1 k t out n (decide (t153 < 0)))))) (fun k => ?_) ?_
                · simp only [colloquyref02_Read.l0]
                  rw [if_pos (by omega), if_pos (by omega), if_pos hc, e3, e1, e2, if_neg (by omega), if_pos (by omega), if_pos (by omega)]
                  congr 1
                  funext t152
                  rw [if_pos (c := (0 : Int) ≤ ((n + 2 : Nat) : Int)) (by omega), if_pos (c := ((n + 2 : Nat) : Int) < (t.size : Int)) (by omega)]
                · refine Ev.bind (unhex_ev t _) (Ev.congr (fun k => if_neg h1) (Ev.bind (unhex_ev t _) (Ev.step (f := fun _ => some (⟨#[]⟩, false)) (fun k => ?_) (Ev.now _))))
                  simp only [colloquyref02_Read.j1]
                  rw [if_pos (decide_eq_true h2)]
            · obtain ⟨v, hv1, hv2⟩ := ih (d - 3) (by omega) (n + 3) (out ++ [16 * ixd (bt t ((n + 1 : Nat) : Int)) + ixd (bt t ((n + 2 : Nat) : Int))]) (by omega) (by omega) (by simp; omega)
              refine ⟨v, Ev.step (fun k => ?_) hv1, ?_⟩
              · simp only [name_Read.l0]
                rw [if_pos (by omega), if_pos (by omega), if_pos hc, e2, e1, if_neg (by omega), if_pos (by omega), if_pos (by omega), index_eq, index_eq]
                simp only [Option.bind_some]
                rw [if_pos (by omega), if_pos (by omega), if_neg h1, if_neg h2, if_pos (by omega), e4, or_eq _ _ (by omega) (by omega) (by omega) (by omega)]
              · refine Ev.step (f := fun k => (colloquyref02_unhex.f k (bt t ((n + 1 : Nat) : Int))).bind fun t152 => (if t152 < 0 then (colloquyref02_Read.j1 k t out n true) else ((colloquyref02_unhex.f k (bt t ((n + 2 : Nat) : Int))).bind fun t153 => (colloquyref02_Read.j1 k t out n (decide (t153 < 0)))))) (fun k => ?_) ?_
                · simp only [colloquyref02_Read.l0]
                  rw [if_pos (by omega), if_pos (by omega), if_pos hc, e3, e1, e2, if_neg (by omega), if_pos (by omega), if_pos (by omega)]
                  congr 1
                  funext t152
                  rw [if_pos (c := (0 : Int) ≤ ((n + 2 : Nat) : Int)) (by omega), if_pos (c := ((n + 2 : Nat) : Int) < (t.size : Int)) (by omega)]
                · refine Ev.bind (unhex_ev t _) (Ev.congr (fun k => if_neg h1) (Ev.bind (unhex_ev t _) ?_))
                  refine Ev.step (f := fun k => (colloquyref02_unhex.f k (bt t ((n + 1 : Nat) : Int))).bind fun t154 => (colloquyref02_unhex.f k (bt t ((n + 2 : Nat) : Int))).bind fun t155 => (colloquyref02_Read.l0 k t (out ++ [(wrap64 ((wrap64 (16 * t154)) + t155)) % 256]) ((n + 3 : Nat) : Int))) (fun k => ?_) ?_
                  · simp only [colloquyref02_Read.j1]
                    rw [if_neg (by rw [decide_eq_false h2]; simp), e3, e1, e2, if_pos (by omega), if_pos (by omega)]
                    congr 1
                    funext t154
                    rw [if_pos (c := (0 : Int) ≤ ((n + 2 : Nat) : Int)) (by omega), if_pos (c := ((n + 2 : Nat) : Int) < (t.size : Int)) (by omega)]
                    congr 1
                    funext t155
                    rw [if_pos (by omega)]
                  · refine Ev.bind (unhex_ev t _) (Ev.bind (unhex_ev t _) ?_)
                    rw [add_eq _ _ (by omega) (by omega) (by omega) (by omega)]
                    exact hv2
        · have e2 : wrap64 ((n : Int) + 2) = ((n + 2 : Nat) : Int) := by unfold wrap64; omega
          have e3 : wrap64 ((n : Int) + 3) = ((n + 3 : Nat) : Int) := by unfold wrap64; omega
          refine ⟨(⟨#[]⟩, false), Ev.step (f := fun _ => some (⟨#[]⟩, false)) (fun k => ?_) (Ev.now _), Ev.step (f := fun k => colloquyref02_Read.j1 k t out n true) (fun k => ?_) (Ev.step (f := fun _ => some (⟨#[]⟩, false)) (fun k => ?_) (Ev.now _))⟩
          · simp only [name_Read.l0]
            rw [if_pos (by omega), if_pos (by omega), if_pos hc, e2, if_pos (by omega)]
          · simp only [colloquyref02_Read.l0]
            rw [if_pos (by omega), if_pos (by omega), if_pos hc, e3, if_pos (by omega)]
          · simp only [colloquyref02_Read.j1]
            rw [if_pos (by trivial)]
      · have e : wrap64 ((n : Int) + 1) = ((n + 1 : Nat) : Int) := by unfold wrap64; omega
        obtain ⟨v, h1, h2⟩ := ih (d - 1) (by omega) (n + 1) (out ++ [bt t n]) (by omega) (by omega) (by simp; omega)
        refine ⟨v, Ev.step (fun k => ?_) h1, Ev.step (fun k => ?_) h2⟩
        · simp only [name_Read.l0]
          rw [if_pos (by omega), if_pos (by omega), if_neg hc, if_pos (by omega), e]
        · simp only [colloquyref02_Read.l0]
          rw [if_pos (by omega), if_pos (by omega), if_neg hc, if_pos (by omega), e]
    · by_cases hr : rightB (strOfNums out) = true
      · have hw := rwrite_ev (strOfNums out)
        refine ⟨if (wr (strOfNums out)).toList = t.toList then (strOfNums out, true) else (⟨#[]⟩, false), Ev.step (f := fun _ => some (if (wr (strOfNums out)).toList = t.toList then (strOfNums out, true) else (⟨#[]⟩, false))) (fun k => ?_) (Ev.now _), ?_⟩
        · simp only [name_Read.l0]
          rw [if_neg (by omega), right_eq, write_eq]
          simp only [Option.bind_some]
          rw [if_pos hr]
          split <;> rfl
        · refine Ev.step (f := fun k => (colloquyref02_Write.f k (strOfNums out)).bind fun t160 => (if t160.toList = t.toList then (some (strOfNums out, true)) else (some ((⟨#[]⟩ : ByteArray), false)))) (fun k => ?_) ?_
          · simp only [colloquyref02_Read.l0]
            rw [if_neg (by omega), rright_eq]
            simp only [Option.bind_some]
            rw [if_pos hr]
          · refine Ev.bind hw ?_
            split
            · exact Ev.now _
            · exact Ev.now _
      · refine ⟨(⟨#[]⟩, false), Ev.step (f := fun _ => some (⟨#[]⟩, false)) (fun k => ?_) (Ev.now _), Ev.step (f := fun _ => some (⟨#[]⟩, false)) (fun k => ?_) (Ev.now _)⟩
        · simp only [name_Read.l0]
          rw [if_neg (by omega), right_eq]
          simp only [Option.bind_some]
          rw [if_neg hr]
        · simp only [colloquyref02_Read.l0]
          rw [if_neg (by omega), rright_eq]
          simp only [Option.bind_some]
          rw [if_neg hr]
theorem reading_ev : Ev (fun k => colloquylaw02_reading.f k) true := by
  have h : colloquylaw02_reading.f 20 = some true := by decide +kernel
  exact ⟨20, fun k hk => at_rounds colloquylaw02_reading.mono hk h⟩
theorem NameReads : colloquylaw02_NameReads.Pure := by
  intro t ht
  refine Ev.rounds ?_
  unfold colloquylaw02_NameReads.f
  refine Ev.bind reading_ev (Ev.congr (fun k => if_pos rfl) ?_)
  obtain ⟨v, h1, h2⟩ := same_read t ht t.size 0 [] (by omega) (by omega) (by simp)
  refine Ev.bind (a := v) h1 (Ev.bind (a := v) h2 ?_)
  simp
  first | exact Ev.now _ | (split <;> exact Ev.now _)
end Go.Proofs.Ytoinmpjjmkpamaa.Pure
