/- Names that end in numbers stand in the order of these numbers. -/
import Derived.Test.YtoinmpjjmkpamaaDoorPureEncLib
import Derived.Test.YtoinmpjjmkpamaaDoorPAx35
namespace Go.Proofs.YtoinmpjjmkpamaaDoor.Pure
open Go.RowKit Go.Proofs.YtoinmpjjmkpamaaDoor.PA Go.Proofs.YtoinmpjjmkpamaaDoorW.PrintWords Go.Proofs.YtoinmpjjmkpamaaDoorW.PrintLast Go.Proofs.YtoinmpjjmkpamaaDoorW.PrintMore

theorem alive_ev : Ev (fun k => name_Cmp.f k (⟨#[116, 50]⟩ : ByteArray) (⟨#[116, 49, 48]⟩ : ByteArray)) (-1) := by
  have h := cmp_ev 3 (⟨#[116, 50]⟩ : ByteArray) (⟨#[116, 49, 48]⟩ : ByteArray) (show 2 < 3 by omega) (show 2 ≤ 140737488351300 by omega) (show 3 ≤ 140737488351300 by omega)
  rw [show cmpL 3 (bl (⟨#[116, 50]⟩ : ByteArray)) (bl (⟨#[116, 49, 48]⟩ : ByteArray)) = -1 by decide +kernel] at h
  exact h
def toB (l : List UInt8) : ByteArray := ⟨l.toArray⟩
theorem bl_toB (l : List UInt8) : bl (toB l) = l := by unfold bl toB; simp
theorem toB_bl (s : ByteArray) : toB (bl s) = s := by unfold bl toB; simp
theorem toB_app (s t : ByteArray) : s ++ t = toB (bl s ++ bl t) := by
  apply ByteArray.ext
  unfold bl toB
  rw [ByteArray.data_append]
  simp
theorem toB_size (l : List UInt8) : (toB l).size = l.length := by rw [← bl_len, bl_toB]
theorem low_range (x : Int) : 0 ≤ Go.bits .and .i64 x 1048575 ∧ Go.bits .and .i64 x 1048575 ≤ 1048575 := by
  have h : Go.bits .and .i64 x 1048575 = IntKind.i64.wrap ((BitVec.ofInt 64 x &&& BitVec.ofInt 64 1048575).toNat : Int) := rfl
  have h2 : (BitVec.ofInt 64 x &&& BitVec.ofInt 64 1048575).toNat ≤ 1048575 := by
    rw [BitVec.toNat_and]
    exact Nat.le_trans Nat.and_le_right (by decide)
  rw [h]
  generalize (BitVec.ofInt 64 x &&& BitVec.ofInt 64 1048575).toNat = n at h2 ⊢
  have : IntKind.i64.wrap (n : Int) = n := IntWalk.i64_in _ (by omega)
  rw [this]
  omega
theorem one_dig (n : Nat) : strOfNums [(wrap64 (48 + (Int.tmod (n : Int) 10))) % 256] = toB [UInt8.ofNat (48 + n % 10)] := by
  have h : Int.tmod (n : Int) 10 = ((n % 10 : Nat) : Int) := by rw [Int.tmod_eq_emod_of_nonneg (by omega)]; omega
  have h2 : wrap64 (48 + ((n % 10 : Nat) : Int)) % 256 = ((48 + n % 10 : Nat) : Int) := by
    rw [wrap_id (by omega) (by omega)]
    omega
  rw [h, h2]
  rfl
theorem digs_l : ∀ f n : Nat, n < f → ∀ x : ByteArray, bl x ≠ [] → x.size + n ≤ 9223372036854775000 → Ev (fun k => colloquylaw02_digits.l0 k n x) (toB (stN f n ++ bl x)) := by
  intro f
  induction f with
  | zero => intro n h; omega
  | succ f ih =>
    intro n hn x hx hs
    have hx' : ¬ x.toList = ([] : List UInt8) := by rw [ByteArray.toList_eq]; exact hx
    rw [stN]
    by_cases h0 : n = 0
    · rw [if_pos h0, List.nil_append, toB_bl]
      refine Ev.step (f := fun _ => some x) (fun k => ?_) (Ev.now _)
      simp only [colloquylaw02_digits.l0]
      rw [if_neg hx', if_neg (by omega)]
    · rw [if_neg h0]
      have hd : wrap64 (Int.tdiv (n : Int) 10) = ((n / 10 : Nat) : Int) := by
        rw [Int.tdiv_eq_ediv_of_nonneg (by omega), wrap_id (by omega) (by omega)]
        omega
      have e : toB [UInt8.ofNat (48 + n % 10)] ++ x = toB (UInt8.ofNat (48 + n % 10) :: bl x) := by rw [toB_app, bl_toB]; rfl
      have hi := ih (n / 10) (by omega) (toB (UInt8.ofNat (48 + n % 10) :: bl x)) (by rw [bl_toB]; simp) (by rw [toB_size, List.length_cons, bl_len]; omega)
      rw [bl_toB] at hi
      rw [List.append_assoc, List.singleton_append]
      refine Ev.step (fun k => ?_) hi
      simp only [colloquylaw02_digits.l0]
      rw [if_neg hx', if_pos (by omega)]
      simp only [Option.bind_some]
      rw [one_dig, if_pos (by rw [toB_size, List.length_singleton]; omega), hd, e]
theorem digs_ev (n : Nat) (hn : n ≤ 1048575) : Ev (fun k => colloquylaw02_digits.f k n) (toB (dcN n)) := by
  have hd : wrap64 (Int.tdiv (n : Int) 10) = ((n / 10 : Nat) : Int) := by
    rw [Int.tdiv_eq_ediv_of_nonneg (by omega), wrap_id (by omega) (by omega)]
    omega
  have e : toB [UInt8.ofNat (48 + n % 10)] ++ (⟨#[]⟩ : ByteArray) = toB [UInt8.ofNat (48 + n % 10)] := by rw [toB_app, bl_toB]; rfl
  have hi := digs_l (n / 10 + 1) (n / 10) (by omega) (toB [UInt8.ofNat (48 + n % 10)]) (by rw [bl_toB]; simp) (by rw [toB_size, List.length_singleton]; omega)
  rw [bl_toB] at hi
  have hv : stN (n / 10 + 1) (n / 10) ++ [UInt8.ofNat (48 + n % 10)] = dcN n := by
    unfold dcN
    by_cases h0 : n = 0
    · subst h0; rfl
    · rw [if_neg h0, stN.eq_def (n + 1) n]
      simp only []
      rw [if_neg h0, stN_fuel (n / 10 + 1) n (n / 10) (by omega) (by omega)]
  rw [hv] at hi
  unfold colloquylaw02_digits.f
  refine Ev.step (fun k => ?_) hi
  simp only [colloquylaw02_digits.l0]
  rw [if_pos (by rw [ByteArray.toList_eq])]
  simp only [Option.bind_some]
  rw [one_dig, if_pos (by rw [toB_size]; show 1 + 0 ≤ _; omega), hd, e]
theorem dc_len (n : Nat) (hn : n ≤ 1048575) : (dcN n).length ≤ 1048576 := by
  have : ∀ f n : Nat, n < f → (stN f n).length ≤ n := by
    intro f
    induction f with
    | zero => intro n h; omega
    | succ f ih =>
      intro n h
      rw [stN]
      by_cases h0 : n = 0
      · rw [if_pos h0]; simp
      · rw [if_neg h0, List.length_append, List.length_singleton]
        have := ih (n / 10) (by omega)
        omega
  unfold dcN
  by_cases h0 : n = 0
  · rw [if_pos h0]; simp
  · rw [if_neg h0]
    have := this (n + 1) n (by omega)
    omega
theorem NameNumbers : colloquylaw02_NameNumbers.Pure := by
  intro s x y hs hx hy
  refine Ev.rounds ?_
  unfold colloquylaw02_NameNumbers.f
  refine Ev.bind alive_ev (Ev.congr (fun k => if_pos rfl) ?_)
  have ls := bl_len s
  by_cases hlong : (s.size : Int) > 1000
  · rw [decide_eq_true hlong]
    refine Ev.step (f := fun _ => some true) (fun k => ?_) (Ev.now _)
    simp only [colloquylaw02_NameNumbers.j0]
    rw [if_pos (by trivial), decide_eq_true hlong]
  rw [decide_eq_false hlong]
  have rx := low_range x
  have ry := low_range y
  refine Ev.step (fun k => by simp only [colloquylaw02_NameNumbers.j0]; rw [if_neg (by simp), if_pos (by omega)]) ?_
  generalize Go.bits .and .i64 x 1048575 = n' at rx ⊢
  generalize Go.bits .and .i64 y 1048575 = m' at ry ⊢
  obtain ⟨n, rfl⟩ := Int.eq_ofNat_of_zero_le rx.1
  obtain ⟨m, rfl⟩ := Int.eq_ofNat_of_zero_le ry.1
  have hn : n ≤ 1048575 := by omega
  have hm : m ≤ 1048575 := by omega
  have dn := digs_ev n hn
  have dm := digs_ev m hm
  have ln := dc_len n hn
  have lm := dc_len m hm
  have ep : s ++ (⟨#[46]⟩ : ByteArray) = toB (bl s ++ [46]) := toB_app _ _
  have sz : ∀ l : List UInt8, (toB l).size = l.length := toB_size
  have lp : (bl s ++ [46]).length = s.size + 1 := by rw [List.length_append, ls]; rfl
  have en : ∀ l : List UInt8, toB (bl s ++ [46]) ++ toB l = toB (bl s ++ 46 :: l) := fun l => by rw [toB_app, bl_toB, bl_toB, List.append_assoc]; rfl
  have ll : ∀ l : List UInt8, (bl s ++ 46 :: l).length = s.size + 1 + l.length := fun l => by rw [List.length_append, List.length_cons, ls]; omega
  have ez : toB (bl s ++ [46]) ++ (⟨#[48]⟩ : ByteArray) = toB (bl s ++ [46, 48]) := by rw [toB_app, bl_toB, List.append_assoc]; rfl
  have en2 : ∀ l : List UInt8, toB (bl s ++ [46, 48]) ++ toB l = toB (bl s ++ 46 :: 48 :: l) := fun l => by rw [toB_app, bl_toB, bl_toB, List.append_assoc]; rfl
  obtain ⟨F, hF⟩ : ∃ F, F = 3000000 := ⟨_, rfl⟩
  have key : ∀ a b : List UInt8, a.length ≤ 1048577 → b.length ≤ 1048577 → (∀ c ∈ a, dgB c = true) → (∀ c ∈ b, dgB c = true) → a ≠ [] → b ≠ [] →
      Ev (fun k => name_Cmp.f k (toB (bl s ++ 46 :: a)) (toB (bl s ++ 46 :: b))) (numL a b) := by
    intro a b ha hb da db na nb
    have := cmp_ev F (toB (bl s ++ 46 :: a)) (toB (bl s ++ 46 :: b)) (by rw [sz, ll]; omega) (by rw [sz, ll]; omega) (by rw [sz, ll]; omega)
    rw [bl_toB, bl_toB, cmpL_runs F _ a b (by rw [ll]; omega) (by rw [ll]; omega) da db na nb] at this
    exact this
  have knm := key (dcN n) (dcN m) (by omega) (by omega) (dcN_dg n) (dcN_dg m) (dcN_ne n) (dcN_ne m)
  rw [ep]
  refine Ev.bind dn ?_
  refine Ev.congr (fun k => if_pos (by rw [sz, sz, lp]; omega)) ?_
  refine Ev.bind dm ?_
  refine Ev.congr (fun k => if_pos (by rw [sz, sz, lp]; omega)) ?_
  rw [en, en]
  by_cases h1 : n < m
  · refine Ev.congr (fun k => if_pos (by omega)) ?_
    refine Ev.bind knm ?_
    rw [num_lt n m h1]
    exact Ev.now _
  refine Ev.congr (fun k => if_neg (by omega)) ?_
  by_cases h2 : m < n
  · refine Ev.congr (fun k => if_pos (by omega)) ?_
    refine Ev.bind knm ?_
    rw [num_gt n m h2]
    exact Ev.now _
  refine Ev.congr (fun k => if_neg (by omega)) ?_
  have h3 : n = m := by omega
  subst h3
  refine Ev.bind knm ?_
  refine Ev.congr (fun k => if_pos (num_self _)) ?_
  refine Ev.congr (fun k => if_pos (by rw [sz, lp]; omega)) ?_
  refine Ev.bind dn ?_
  rw [ez]
  refine Ev.congr (fun k => if_pos (by rw [sz, sz, List.length_append, ls]; show s.size + 2 + _ ≤ _; omega)) ?_
  rw [en2]
  have k2 := key (dcN n) (48 :: dcN n) (by omega) (by rw [List.length_cons]; omega) (dcN_dg n) (fun c hc => by
    rcases List.mem_cons.1 hc with h | h
    · rw [h]; rfl
    · exact dcN_dg n c h) (dcN_ne n) (by simp)
  rw [num_zero] at k2
  refine Ev.bind k2 ?_
  exact Ev.now _
end Go.Proofs.YtoinmpjjmkpamaaDoor.Pure
