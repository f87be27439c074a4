/- A name that is written is read as it; it stands in plain bytes; two names are written alike just if they are the same. -/
import Derived.Test.YtoinmpjjmkpamaaPureNameReads
import Derived.Test.YtoinmpjjmkpamaaPureNameWords
import Derived.Test.YtoinmpjjmkpamaaPAx28
namespace Go.Proofs.Ytoinmpjjmkpamaa.Pure
open Go.RowKit Go.Proofs.Ytoinmpjjmkpamaa.PA Go.Proofs.YtoinmpjjmkpamaaW.PrintWords Go.Proofs.YtoinmpjjmkpamaaW.PrintLast Go.Proofs.YtoinmpjjmkpamaaW.PrintMore

theorem bytes_eq {a b : ByteArray} (h : a.toList = b.toList) : a = b := by
  rw [ByteArray.toList_eq, ByteArray.toList_eq] at h
  exact ByteArray.ext (Array.ext' h)
theorem ev_one {α : Type} {g : Nat → Option α} {a b : α} (ha : Ev g a) (hb : Ev g b) : a = b := by
  obtain ⟨K, hK⟩ := ha
  obtain ⟨L, hL⟩ := hb
  have := (hK (max K L) (by omega)).symm.trans (hL (max K L) (by omega))
  exact Option.some.inj this
def nums (s : ByteArray) (n : Nat) : List Int := (List.range n).map fun i => bt s (i : Nat)
theorem nums_succ (s : ByteArray) (n : Nat) : nums s (n + 1) = nums s n ++ [bt s (n : Nat)] := by
  unfold nums
  rw [List.range_succ]
  simp
theorem nums_self (s : ByteArray) : strOfNums (nums s s.size) = s := ByteArray.ext (Array.ext' (nums_str s))
theorem nums_len (s : ByteArray) (n : Nat) : (nums s n).length = n := by
  unfold nums
  rw [List.length_map, List.length_range]
theorem bt_mid {W xs ys : List Int} {x : Int} (hW : W = xs ++ x :: ys) (hr : ∀ x ∈ W, 0 ≤ x ∧ x ≤ 255) (i : Nat) (hi : i = xs.length) : bt (strOfNums W) (i : Nat) = x := by
  subst hi
  have hlt : xs.length < (strOfNums W).size := by
    rw [strOfNums_size, hW]
    simp
  rw [← bt_at (strOfNums W) (xs.length : Nat) (by simpa using hlt)]
  have hx := hr x (by rw [hW]; simp)
  have hg : (strOfNums W).data.toList[xs.length]? = some (UInt8.ofNat x.toNat) := by
    rw [strOfNums_data, hW]
    simp
  have hg2 : (strOfNums W)[xs.length]'hlt = UInt8.ofNat x.toNat := by
    have h3 : (strOfNums W).data.toList[xs.length]? = some ((strOfNums W)[xs.length]'hlt) := by
      rw [Array.getElem?_toList]
      exact Array.getElem?_eq_getElem hlt
    rw [h3] at hg
    exact Option.some.inj hg
  show (((strOfNums W)[xs.length]'hlt).toNat : Int) = x
  rw [hg2, UInt8.toNat_ofNat']
  omega
theorem nmPre_from (s : ByteArray) (n : Nat) : ∀ m, ∃ rest, nmPre s (n + m) = nmPre s n ++ rest := by
  intro m
  induction m with
  | zero => exact ⟨[], by simp⟩
  | succ m ih =>
    obtain ⟨rest, h⟩ := ih
    exact ⟨rest ++ nmStep s (n + m), by rw [← Nat.add_assoc, nmPre_succ, h, List.append_assoc]⟩
theorem nmPre_at (s : ByteArray) (n : Nat) (hn : n < s.size) : ∃ rest, nmPre s s.size = nmPre s n ++ (nmStep s n ++ rest) := by
  obtain ⟨rest, h⟩ := nmPre_from s (n + 1) (s.size - (n + 1))
  refine ⟨rest, ?_⟩
  rw [show n + 1 + (s.size - (n + 1)) = s.size by omega] at h
  rw [h, nmPre_succ, List.append_assoc]
theorem ixd_dig_nat : ∀ n : Nat, n < 16 → ixd (bt nmDig (n : Int)) = (n : Int) ∧ 33 ≤ bt nmDig (n : Int) ∧ bt nmDig (n : Int) ≤ 126 := by decide +kernel
theorem ixd_dig (x : Int) (h0 : 0 ≤ x) (h1 : x < 16) : ixd (bt nmDig x) = x ∧ 33 ≤ bt nmDig x ∧ bt nmDig x ≤ 126 := by
  obtain ⟨n, rfl⟩ := Int.eq_ofNat_of_zero_le h0
  exact ixd_dig_nat n (by omega)
theorem rd_plain (t : ByteArray) (ht : t.size ≤ 1000) (out : List Int) (ho : out.length ≤ 1000) (p : Nat) (c : Int) (hp : p < t.size) (hb : bt t p = c) (hc : c ≠ 92) {v : ByteArray × Bool}
    (h : Ev (fun k => name_Read.l0 k t (out ++ [c]) ((p + 1 : Nat) : Int)) v) : Ev (fun k => name_Read.l0 k t out p) v := by
  have e : wrap64 ((p : Int) + 1) = ((p + 1 : Nat) : Int) := by unfold wrap64; omega
  refine Ev.step (fun k => ?_) h
  simp only [name_Read.l0]
  rw [if_pos (by omega), if_pos (by omega), hb, if_neg hc, if_pos (by omega), e]
theorem rd_esc (t : ByteArray) (ht : t.size ≤ 1000) (out : List Int) (ho : out.length ≤ 1000) (p : Nat) (a b : Int) (hp : p + 2 < t.size) (hb : bt t p = 92)
    (h1 : ixd (bt t ((p + 1 : Nat) : Int)) = a) (h2 : ixd (bt t ((p + 2 : Nat) : Int)) = b) (a0 : 0 ≤ a) (a1 : a < 16) (b0 : 0 ≤ b) (b1 : b < 16) {v : ByteArray × Bool}
    (h : Ev (fun k => name_Read.l0 k t (out ++ [16 * a + b]) ((p + 3 : Nat) : Int)) v) : Ev (fun k => name_Read.l0 k t out p) v := by
  have H1 := Aside0.mk h1
  have H2 := Aside0.mk h2
  clear h1 h2
  have e1 : wrap64 ((p : Int) + 1) = ((p + 1 : Nat) : Int) := by unfold wrap64; omega
  have e2 : wrap64 ((p : Int) + 2) = ((p + 2 : Nat) : Int) := by unfold wrap64; omega
  have e4 : wrap64 (((p + 2 : Nat) : Int) + 1) = ((p + 3 : Nat) : Int) := by unfold wrap64; omega
  refine Ev.step (fun k => ?_) h
  simp only [name_Read.l0]
  rw [if_pos (by omega), if_pos (by omega), if_pos hb, e2, e1, if_neg (by omega), if_pos (by omega), if_pos (by omega), index_eq, index_eq]
  simp only [Option.bind_some]
  rw [if_pos (by omega), if_pos (by omega), H1.out, H2.out, if_neg (by omega), if_neg (by omega), if_pos (by omega), e4, or_eq _ _ a0 a1 b0 b1]
theorem rd_end (t : ByteArray) (out : List Int) (p : Nat) (hp : t.size ≤ p) (s : ByteArray) (hs : strOfNums out = s) (hr : rightB s = true) (hw : wr s = t) : Ev (fun k => name_Read.l0 k t out p) (s, true) := by
  refine Ev.step (f := fun _ => some (s, true)) (fun k => ?_) (Ev.now _)
  simp only [name_Read.l0]
  rw [if_neg (by omega), hs, right_eq, write_eq]
  simp only [Option.bind_some]
  rw [if_pos hr, hw, if_pos rfl]
theorem read_back (s : ByteArray) (hs : s.size ≤ 80) (h1 : 1 ≤ s.size) (t : ByteArray) (ht : t = strOfNums (nmPre s s.size)) : ∀ (d n : Nat), n ≤ s.size → d = s.size - n →
    Ev (fun k => name_Read.l0 k t (nums s n) ((nmPre s n).length : Nat)) (s, true) := by
  have hr := nmPre_range s s.size
  have hsz : t.size = (nmPre s s.size).length := by rw [ht, strOfNums_size]
  have ht1 : t.size ≤ 1000 := by
    have := nmPre_len s s.size
    omega
  intro d
  induction d with
  | zero =>
    intro n hn hd
    obtain rfl : n = s.size := by omega
    exact rd_end t _ _ (by omega) s (nums_self s) (decide_eq_true ⟨h1, hs⟩) (by rw [ht]; exact if_pos ⟨h1, hs⟩)
  | succ d ih =>
    intro n hn hd
    have hlt : n < s.size := by omega
    obtain ⟨rest, hW⟩ := nmPre_at s n hlt
    have hi := ih (n + 1) (by omega) (by omega)
    have hst := nmStep_eq s n hlt (by omega)
    have hl : (nums s n).length ≤ 1000 := by rw [nums_len]; omega
    rw [nums_succ, nmPre_succ, List.length_append] at hi
    by_cases hp : plainV s n = true
    · rw [if_pos hp] at hst
      rw [hst] at hW hi
      have hb := bt_mid (W := nmPre s s.size) (xs := nmPre s n) (x := bt s n) (ys := rest) hW hr _ rfl
      have hc : bt s n ≠ 92 := by
        have hpv := of_decide_eq_true hp
        clear hb hi
        generalize bt s n = c at hpv ⊢
        omega
      have hlw : (nmPre s n).length < t.size := by
        rw [hsz, hW, List.length_append, List.length_append]
        exact Nat.lt_add_of_pos_right (Nat.lt_of_lt_of_le Nat.one_pos (Nat.le_add_right _ _))
      rw [← ht] at hb
      exact rd_plain t ht1 _ hl _ _ hlw hb hc hi
    · rw [if_neg hp] at hst
      rw [hst] at hW hi
      have hb := bt_mid (W := nmPre s s.size) (xs := nmPre s n) (x := 92) (ys := _) hW hr _ rfl
      have hb1 := bt_mid (W := nmPre s s.size) (xs := nmPre s n ++ [92]) (x := bt nmDig (bt s n / 16)) (ys := bt nmDig (bt s n % 16) :: rest) (by rw [hW]; simp) hr ((nmPre s n).length + 1) (by rw [List.length_append]; rfl)
      have hb2 := bt_mid (W := nmPre s s.size) (xs := nmPre s n ++ [92, bt nmDig (bt s n / 16)]) (x := bt nmDig (bt s n % 16)) (ys := rest) (by rw [hW]; simp) hr ((nmPre s n).length + 2) (by rw [List.length_append]; rfl)
      have hlw : (nmPre s n).length + 2 < t.size := by
        rw [hsz, hW, List.length_append, List.length_append]
        refine Nat.add_lt_add_left ?_ _
        exact Nat.lt_of_lt_of_le (show 2 < 3 by decide) (Nat.le_add_right 3 _)
      rw [← ht] at hb hb1 hb2
      obtain ⟨c0, c1⟩ := bt_range s n
      have r0 : 0 ≤ bt s n / 16 ∧ bt s n / 16 < 16 ∧ 0 ≤ bt s n % 16 ∧ bt s n % 16 < 16 ∧ 16 * (bt s n / 16) + bt s n % 16 = bt s n := by
        clear hb hb1 hb2 hi hW hst
        generalize bt s n = c at c0 c1 ⊢
        omega
      obtain ⟨q0, q1, q2, q3, q4⟩ := r0
      refine rd_esc t ht1 _ hl _ (bt s n / 16) (bt s n % 16) hlw hb (by rw [hb1]; exact (ixd_dig _ q0 q1).1) (by rw [hb2]; exact (ixd_dig _ q2 q3).1) q0 q1 q2 q3 ?_
      rw [q4]
      exact hi
theorem back_ev (s : ByteArray) (h : 1 ≤ s.size ∧ s.size ≤ 80) : Ev (fun k => name_Read.f k (wr s)) (s, true) := by
  have hw : wr s = strOfNums (nmPre s s.size) := if_pos h
  rw [hw]
  exact read_back s h.2 h.1 _ rfl s.size 0 (by omega) (by omega)
/-- What is written of a byte is plain. -/
theorem step_plain (s : ByteArray) (i : Nat) (hi : i < s.size) (hm : s.size ≤ 80) : ∀ x ∈ nmStep s i, 32 ≤ x ∧ x ≤ 126 := by
  intro x hx
  rw [nmStep_eq s i hi (by omega)] at hx
  obtain ⟨c0, c1⟩ := bt_range s i
  split at hx
  · rename_i hp
    have hpv := of_decide_eq_true hp
    simp only [List.mem_singleton] at hx
    subst hx
    omega
  · obtain ⟨_, x1, x2⟩ := ixd_dig (bt s i / 16) (by omega) (by omega)
    obtain ⟨_, y1, y2⟩ := ixd_dig (bt s i % 16) (by omega) (by omega)
    simp only [List.mem_cons, List.not_mem_nil, or_false] at hx
    rcases hx with rfl | rfl | rfl <;> omega
theorem pre_plain (s : ByteArray) (hm : s.size ≤ 80) (n : Nat) (hn : n ≤ s.size) : ∀ x ∈ nmPre s n, 32 ≤ x ∧ x ≤ 126 := by
  intro x hx
  obtain ⟨i, hi, h⟩ := List.mem_flatMap.1 hx
  exact step_plain s i (by have := List.mem_range.1 hi; omega) hm x h
theorem first_not (s : ByteArray) (h1 : 1 ≤ s.size) (hm : s.size ≤ 80) : bt (strOfNums (nmPre s s.size)) 0 ≠ 32 := by
  obtain ⟨rest, hW⟩ := nmPre_at s 0 (by omega)
  have hst := nmStep_eq s 0 (by omega) (by omega)
  by_cases hp : plainV s 0 = true
  · rw [if_pos hp] at hst
    have hpv := of_decide_eq_true hp
    rw [hst] at hW
    have := bt_mid (W := nmPre s s.size) (xs := []) (x := bt s (0 : Nat)) (ys := rest) (by rw [hW]; rfl) (nmPre_range s _) 0 rfl
    rw [show ((0 : Nat) : Int) = 0 from rfl] at this
    rw [this]
    simp only [Int.natCast_zero] at hpv
    omega
  · rw [if_neg hp] at hst
    rw [hst] at hW
    have := bt_mid (W := nmPre s s.size) (xs := []) (x := 92) (ys := _) (by rw [hW]; rfl) (nmPre_range s _) 0 rfl
    rw [show ((0 : Nat) : Int) = 0 from rfl] at this
    rw [this]
    omega
theorem last_not (s : ByteArray) (h1 : 1 ≤ s.size) (hm : s.size ≤ 80) (i : Nat) (hi : i + 1 = (nmPre s s.size).length) : bt (strOfNums (nmPre s s.size)) (i : Nat) ≠ 32 := by
  obtain ⟨m, hmm⟩ : ∃ m, s.size = m + 1 := ⟨s.size - 1, by omega⟩
  have hW : nmPre s s.size = nmPre s m ++ nmStep s m := by rw [hmm, nmPre_succ]
  have hst := nmStep_eq s m (by omega) (by omega)
  obtain ⟨c0, c1⟩ := bt_range s m
  by_cases hp : plainV s m = true
  · rw [if_pos hp] at hst
    have hpv := of_decide_eq_true hp
    rw [hst] at hW
    have hlw : (nmPre s s.size).length = (nmPre s m).length + 1 := by rw [hW]; simp
    rw [bt_mid (W := nmPre s s.size) (xs := nmPre s m) (x := bt s m) (ys := []) hW (nmPre_range s _) i (by omega)]
    omega
  · rw [if_neg hp] at hst
    rw [hst] at hW
    have hlw : (nmPre s s.size).length = (nmPre s m).length + 3 := by rw [hW]; simp
    obtain ⟨_, y1, y2⟩ := ixd_dig (bt s m % 16) (by omega) (by omega)
    rw [bt_mid (W := nmPre s s.size) (xs := nmPre s m ++ [92, bt nmDig (bt s m / 16)]) (x := bt nmDig (bt s m % 16)) (ys := []) (by rw [hW]; simp) (nmPre_range s _) i (by simp; omega)]
    omega
theorem bt_mem (W : List Int) (hr : ∀ x ∈ W, 0 ≤ x ∧ x ≤ 255) (i : Nat) (hi : i < W.length) : bt (strOfNums W) (i : Nat) ∈ W := by
  have hW : W = W.take i ++ W[i] :: W.drop (i + 1) := by
    rw [← List.drop_eq_getElem_cons hi, List.take_append_drop]
  rw [bt_mid hW hr i (by rw [List.length_take]; omega)]
  exact List.getElem_mem hi
theorem back_l (s t : ByteArray) (h1 : 1 ≤ s.size) (hm : s.size ≤ 80) : ∀ (d i : Nat), i ≤ (nmPre s s.size).length → d = (nmPre s s.size).length - i →
    Ev (fun k => colloquylaw02_NameBack.l0 k s t (strOfNums (nmPre s s.size)) i) true := by
  have hw : wr s = strOfNums (nmPre s s.size) := if_pos ⟨h1, hm⟩
  have hsz := strOfNums_size (nmPre s s.size)
  have hle := nmPre_len s s.size
  intro d
  induction d with
  | zero =>
    intro i hi hd
    refine Ev.step (f := fun k => (name_Read.f k (wr s)).bind fun bt170 => (if bt170.2 = true then (if bt170.1.toList = s.toList then ((name_Right.f t).bind fun t172 => (if t172 = true then ((name_Write.f t).bind fun t173 => (some ((t173.toList == (wr s).toList) == (s.toList == t.toList)))) else (some true))) else (some false)) else (some false))) (fun k => ?_) ?_
    · have e : wrap64 (3 * (s.size : Int)) = 3 * s.size := wrap_id (by omega) (by omega)
      simp only [colloquylaw02_NameBack.l0]
      rw [if_neg (by omega), e, hw, if_pos (c := (((strOfNums (nmPre s s.size)).size : Int) ≤ 3 * (s.size : Int))) (by omega)]
    · refine Ev.bind (back_ev s ⟨h1, hm⟩) (Ev.congr (fun k => if_pos rfl) (Ev.congr (fun k => if_pos rfl) ?_))
      rw [right_eq, write_eq]
      simp only [Option.bind_some]
      by_cases hr : rightB t = true
      · have hr' := of_decide_eq_true hr
        refine Ev.congr (fun k => if_pos hr) ?_
        have : ((wr t).toList == (wr s).toList) = (s.toList == t.toList) := by
          rw [Bool.eq_iff_iff, beq_iff_eq, beq_iff_eq]
          constructor
          · intro h
            have hwe := bytes_eq h
            have ht := back_ev t hr'
            rw [hwe] at ht
            have := ev_one ht (back_ev s ⟨h1, hm⟩)
            rw [Prod.mk.injEq] at this
            rw [this.1]
          · intro h
            rw [bytes_eq h]
        rw [this, beq_self_eq_true]
        exact Ev.now _
      · exact Ev.congr (fun k => if_neg hr) (Ev.now _)
  | succ d ih =>
    intro i hi hd
    have hlt : i < (nmPre s s.size).length := by omega
    have e : wrap64 ((i : Int) + 1) = ((i + 1 : Nat) : Int) := by unfold wrap64; omega
    have e1 : wrap64 (((strOfNums (nmPre s s.size)).size : Int) - 1) = ((strOfNums (nmPre s s.size)).size : Int) - 1 := wrap_id (by omega) (by omega)
    obtain ⟨b0, b1⟩ := pre_plain s hm s.size (by omega) _ (bt_mem _ (nmPre_range s _) i hlt)
    refine Ev.step (fun k => ?_) (ih (i + 1) (by omega) (by omega))
    simp only [colloquylaw02_NameBack.l0]
    rw [if_pos (by omega), if_pos (by omega), if_neg (by omega), if_neg (by omega), e, e1]
    by_cases hb : bt (strOfNums (nmPre s s.size)) (i : Nat) = 32
    · have hf := first_not s h1 hm
      have hla := last_not s h1 hm i
      have hi0 : ¬ ((i : Int) = 0) := by
        intro hi0
        rw [hi0] at hb
        exact hf hb
      rw [if_pos hb, if_neg hi0, if_neg]
      intro hx
      exact hla (by omega) hb
    · rw [if_neg hb]
theorem NameBack : colloquylaw02_NameBack.Pure := by
  intro s t hs ht
  refine Ev.rounds ?_
  unfold colloquylaw02_NameBack.f
  rw [writing_true]
  simp only [Option.bind_some]
  refine Ev.congr (fun k => if_pos (by trivial)) (Ev.bind reading_ev ?_)
  refine Ev.step (f := fun k => if rightB s = true then colloquylaw02_NameBack.l0 k s t (wr s) 0 else some ((wr s).toList == ([] : List UInt8))) (fun k => ?_) ?_
  · simp only [colloquylaw02_NameBack.j0]
    rw [if_neg (by simp), right_eq, write_eq]
    rfl
  · by_cases h : rightB s = true
    · have h' := of_decide_eq_true h
      refine Ev.congr (fun k => if_pos h) ?_
      have hw : wr s = strOfNums (nmPre s s.size) := if_pos h'
      rw [hw]
      exact back_l s t h'.1 h'.2 (nmPre s s.size).length 0 (by omega) (by omega)
    · refine Ev.congr (fun k => if_neg h) ?_
      have hw : wr s = ⟨#[]⟩ := if_neg (fun h' => h (decide_eq_true h'))
      rw [hw]
      rw [show ((⟨#[]⟩ : ByteArray).toList == ([] : List UInt8)) = true by decide +kernel]
      exact Ev.now _
end Go.Proofs.Ytoinmpjjmkpamaa.Pure
