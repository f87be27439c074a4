/- What the order of names comes to, on lists of bytes. -/
import Derived.Test.YtoinmpjjmkpamaaDoorPAx32
import Derived.Lib.PathFns
import Derived.Lib.IndexBytes
namespace Go.Proofs.YtoinmpjjmkpamaaDoor.Pure
open Go.RowKit Go.Proofs.YtoinmpjjmkpamaaDoor.PA Go.Proofs.YtoinmpjjmkpamaaDoorW.PrintWords Go.Proofs.YtoinmpjjmkpamaaDoorW.PrintLast Go.Proofs.YtoinmpjjmkpamaaDoorW.PrintMore

theorem wrap_id {i : Int} (h0 : -9223372036854775808 ≤ i) (h : i ≤ 9223372036854775807) : wrap64 i = i := by
  unfold wrap64
  omega
def bl (s : ByteArray) : List UInt8 := s.data.toList
theorem bl_len (s : ByteArray) : (bl s).length = s.size := by
  unfold bl
  rw [Array.length_toList]
  rfl
theorem drop_bt (s : ByteArray) (n : Nat) (h : n < s.size) : ∃ c : UInt8, (bl s).drop n = c :: (bl s).drop (n + 1) ∧ bt s n = (c.toNat : Int) := by
  have hl : n < (bl s).length := by rw [bl_len]; exact h
  refine ⟨(bl s)[n], List.drop_eq_getElem_cons hl, ?_⟩
  rw [← bt_at s n (by simpa using h)]
  rfl
def dgB (c : UInt8) : Bool := decide (48 ≤ c.toNat ∧ c.toNat ≤ 57)
theorem digit_eq (c : UInt8) : name_digit.f (c.toNat : Int) = some (dgB c) := by
  unfold name_digit.f dgB
  repeat' split
  all_goals first
    | exact congrArg some (decide_eq_false (by omega)).symm
    | exact congrArg some (decide_eq_decide.2 (by omega))
/-- How many digits a list begins with. -/
def runL (l : List UInt8) : Nat := (l.takeWhile dgB).length
theorem run_l (s : ByteArray) (hm : s.size ≤ 140737488351300) : ∀ (d n : Nat), n ≤ s.size → d = s.size - n → Ev (fun k => name_run.l0 k s n) ((n + runL ((bl s).drop n) : Nat) : Int) := by
  intro d
  induction d with
  | zero =>
    intro n hn hd
    refine Ev.step (f := fun _ => some ((n + runL ((bl s).drop n) : Nat) : Int)) (fun k => ?_) (Ev.now _)
    simp only [name_run.l0]
    rw [if_neg (by omega), List.drop_of_length_le (by rw [bl_len]; omega)]
    rfl
  | succ d ih =>
    intro n hn hd
    obtain ⟨c, h1, h2⟩ := drop_bt s n (by omega)
    have e : wrap64 ((n : Int) + 1) = ((n + 1 : Nat) : Int) := by unfold wrap64; omega
    by_cases hc : dgB c = true
    · have hi := ih (n + 1) (by omega) (by omega)
      have hr : n + runL ((bl s).drop n) = n + 1 + runL ((bl s).drop (n + 1)) := by
        rw [h1]
        unfold runL
        rw [List.takeWhile_cons_of_pos hc, List.length_cons]
        omega
      rw [hr]
      refine Ev.step (fun k => ?_) hi
      simp only [name_run.l0]
      rw [if_pos (by omega), if_pos (by omega), h2, digit_eq]
      simp only [Option.bind_some]
      rw [if_pos hc, e]
    · have hr : n + runL ((bl s).drop n) = n := by
        rw [h1]
        unfold runL
        rw [List.takeWhile_cons_of_neg hc]
        rfl
      rw [hr]
      refine Ev.step (f := fun _ => some (n : Int)) (fun k => ?_) (Ev.now _)
      simp only [name_run.l0]
      rw [if_pos (by omega), if_pos (by omega), h2, digit_eq]
      simp only [Option.bind_some]
      rw [if_neg hc]
theorem run_ev (s : ByteArray) (hm : s.size ≤ 140737488351300) : Ev (fun k => name_run.f k s) (runL (bl s) : Int) := by
  have := run_l s hm s.size 0 (by omega) (by omega)
  rw [Nat.zero_add, List.drop_zero] at this
  exact this
/-- Two numbers held against each other. -/
def cmpI (a b : Int) : Int := if a < b then -1 else if b < a then 1 else 0
theorem compare_eq (a b : Int) : cmp_Compare_int.f a b = some (cmpI a b) := by
  unfold cmp_Compare_int.f cmp_isNaN_int.f cmpI
  simp
  repeat' split
  all_goals rfl
theorem compareB_eq (a b : Int) : cmp_Compare_byte.f a b = some (cmpI a b) := by
  unfold cmp_Compare_byte.f cmp_isNaN_byte.f cmpI
  simp
  repeat' split
  all_goals rfl
/-- Two lists of bytes, first difference first. -/
def lexI (x y : List UInt8) : Int := if Op.bytesLess x y = true then -1 else if x = y then 0 else 1
theorem compareS_eq (a b : ByteArray) : cmp_Compare_string.f a b = some (lexI (bl a) (bl b)) := by
  unfold cmp_Compare_string.f lexI bl
  rw [ByteArray.toList_eq, ByteArray.toList_eq]
def orI (a b c : Int) : Int := if a ≠ 0 then a else if b ≠ 0 then b else c
theorem or_ev (a b c : Int) : Ev (fun k => cmp_Or_int.f k [a, b, c]) (orI a b c) := by
  refine ⟨10, fun k hk => ?_⟩
  refine at_rounds (cmp_Or_int.mono _) hk ?_
  have r0 : rd [a, b, c] 0 = a := rfl
  have r1 : rd [a, b, c] 1 = b := rfl
  have r2 : rd [a, b, c] 2 = c := rfl
  have w1 : wrap64 (0 + 1) = 1 := by unfold wrap64; omega
  have w2 : wrap64 (1 + 1) = 2 := by unfold wrap64; omega
  have w3 : wrap64 (2 + 1) = 3 := by unfold wrap64; omega
  have hl : (([a, b, c] : List Int).length : Int) = 3 := rfl
  unfold cmp_Or_int.f orI
  simp only [cmp_Or_int.l0, hl, r0, r1, r2, w1, w2, w3]
  by_cases ha : a = 0
  · by_cases hb : b = 0
    · by_cases hc : c = 0
      · simp [ha, hb, hc]
      · simp [ha, hb, hc]
    · simp [ha, hb]
  · simp [ha]
/-- Two runs of digits held against each other. -/
def numL (a b : List UInt8) : Int := orI (cmpI (Lib.trimLeftB a 48).length (Lib.trimLeftB b 48).length) (lexI (Lib.trimLeftB a 48) (Lib.trimLeftB b 48)) (cmpI a.length b.length)
theorem number_ev (a b : ByteArray) : Ev (fun k => name_number.f k a b) (numL (bl a) (bl b)) := by
  have ht : ∀ s : ByteArray, strings_TrimLeft.f s ⟨#[48]⟩ = some ⟨(Lib.trimLeftB (bl s) 48).toArray⟩ := fun s => rfl
  have hz : ∀ l : List UInt8, ((⟨l.toArray⟩ : ByteArray).size : Int) = l.length := fun l => by simp [ByteArray.size]
  unfold name_number.f
  rw [ht, ht]
  simp only [Option.bind_some]
  rw [compare_eq, compare_eq, compareS_eq]
  simp only [Option.bind_some]
  rw [hz, hz]
  refine Ev.bind (or_ev _ _ _) ?_
  have : ∀ s : ByteArray, (s.size : Int) = (bl s).length := fun s => by rw [bl_len]
  rw [this a, this b]
  exact Ev.now _
/-- The order of names, on lists of bytes. -/
def cmpL : Nat → List UInt8 → List UInt8 → Int
  | 0, _, _ => 0
  | f + 1, a, b => if a = [] ∨ b = [] then cmpI a.length b.length else
      if 0 < runL a ∧ 0 < runL b then
        (if numL (a.take (runL a)) (b.take (runL b)) = 0 then cmpL f (a.drop (runL a)) (b.drop (runL b)) else numL (a.take (runL a)) (b.take (runL b)))
      else (if cmpI ((a.headD 0).toNat) ((b.headD 0).toNat) = 0 then cmpL f (a.drop 1) (b.drop 1) else cmpI ((a.headD 0).toNat) ((b.headD 0).toNat))
theorem bl_take (s : ByteArray) (n : Nat) : bl (s.extract 0 n) = (bl s).take n := Lib.Pa.extract_upto_list s n
theorem bl_drop (s : ByteArray) (n : Nat) : bl (s.extract n s.size) = (bl s).drop n := Lib.extract_to_end s n
theorem bl_nil (s : ByteArray) : bl s = [] ↔ s.size = 0 := by rw [← bl_len, List.length_eq_zero_iff]
theorem bt_head (s : ByteArray) (h : 0 < s.size) : bt s 0 = (((bl s).headD 0).toNat : Int) := by
  obtain ⟨c, h1, h2⟩ := drop_bt s 0 h
  rw [List.drop_zero] at h1
  rw [h1]
  exact h2
theorem runL_le (l : List UInt8) : runL l ≤ l.length := List.Sublist.length_le (List.takeWhile_sublist _)
theorem size_drop (s : ByteArray) (n : Nat) : (s.extract n s.size).size = s.size - n := by rw [← bl_len, bl_drop, List.length_drop, bl_len]
theorem cmp_ev : ∀ (f : Nat) (s t : ByteArray), s.size < f → s.size ≤ 140737488351300 → t.size ≤ 140737488351300 → Ev (fun k => name_Cmp.l0 k s t) (cmpL f (bl s) (bl t)) := by
  intro f
  induction f with
  | zero => intro s t h; omega
  | succ f ih =>
    intro s t hf hs ht
    have hls : ((bl s).length : Int) = s.size := by rw [bl_len]
    have hlt : ((bl t).length : Int) = t.size := by rw [bl_len]
    refine Ev.step (f := fun k => name_Cmp.j1 k s t (decide (0 < s.size ∧ 0 < t.size))) (fun k => ?_) ?_
    · simp only [name_Cmp.l0]
      by_cases h : 0 < s.size
      · rw [if_pos (by omega)]
        congr 1
        exact decide_eq_decide.2 (by omega)
      · rw [if_neg (by omega)]
        congr 1
        exact (decide_eq_false (by omega)).symm
    unfold cmpL
    by_cases h0 : 0 < s.size ∧ 0 < t.size
    · obtain ⟨hs0, ht0⟩ := h0
      rw [if_neg (by rw [bl_nil, bl_nil]; omega)]
      refine Ev.step (f := fun k => (name_run.f k s).bind fun t117 => (name_run.f k t).bind fun t118 => if t117 > 0 then name_Cmp.j2 k s t t117 t118 (decide (t118 > 0)) else name_Cmp.j2 k s t t117 t118 false) (fun k => ?_) ?_
      · simp only [name_Cmp.j1]
        rw [if_pos (decide_eq_true ⟨hs0, ht0⟩)]
      refine Ev.bind (run_ev s hs) (Ev.bind (run_ev t ht) ?_)
      have r1 := runL_le (bl s)
      have r2 := runL_le (bl t)
      by_cases hr : 0 < runL (bl s) ∧ 0 < runL (bl t)
      · rw [if_pos hr]
        refine Ev.congr (fun k => if_pos (by omega)) ?_
        refine Ev.step (f := fun k => (name_number.f k (s.extract 0 (runL (bl s))) (t.extract 0 (runL (bl t)))).bind fun t119 => if t119 = 0 then name_Cmp.l0 k (s.extract (runL (bl s)) s.size) (t.extract (runL (bl t)) t.size) else some t119) (fun k => ?_) ?_
        · simp only [name_Cmp.j2]
          rw [if_pos (decide_eq_true (by omega)), if_pos (by omega), if_pos (by omega), if_pos (by omega), if_pos (by omega), Int.toNat_natCast, Int.toNat_natCast]
        · have hn := number_ev (s.extract 0 (runL (bl s))) (t.extract 0 (runL (bl t)))
          rw [bl_take, bl_take] at hn
          refine Ev.bind hn ?_
          by_cases hz : numL ((bl s).take (runL (bl s))) ((bl t).take (runL (bl t))) = 0
          · rw [if_pos hz]
            refine Ev.congr (fun k => if_pos hz) ?_
            rw [← bl_drop, ← bl_drop]
            exact ih _ _ (by rw [size_drop]; omega) (by rw [size_drop]; omega) (by rw [size_drop]; omega)
          · rw [if_neg hz]
            exact Ev.congr (fun k => if_neg hz) (Ev.now _)
      · rw [if_neg hr]
        refine Ev.congr (f := fun k => name_Cmp.j2 k s t (runL (bl s)) (runL (bl t)) false) (fun k => ?_) ?_
        · by_cases hr1 : 0 < runL (bl s)
          · rw [if_pos (by omega)]
            congr 1
            exact decide_eq_false (by omega)
          · rw [if_neg (by omega)]
        refine Ev.step (f := fun k => if cmpI (bt s 0) (bt t 0) = 0 then name_Cmp.l0 k (s.extract 1 s.size) (t.extract 1 t.size) else some (cmpI (bt s 0) (bt t 0))) (fun k => ?_) ?_
        · simp only [name_Cmp.j2]
          rw [if_neg (by simp), if_pos (by omega), if_pos (by omega), compareB_eq]
          simp only [Option.bind_some]
          rw [if_pos (c := 1 ≤ (s.size : Int)) (by omega), if_pos (c := 1 ≤ (t.size : Int)) (by omega)]
        · rw [← bt_head s hs0, ← bt_head t ht0]
          by_cases hz : cmpI (bt s 0) (bt t 0) = 0
          · rw [if_pos hz]
            refine Ev.congr (fun k => if_pos hz) ?_
            rw [← bl_drop, ← bl_drop]
            exact ih _ _ (by rw [size_drop]; omega) (by rw [size_drop]; omega) (by rw [size_drop]; omega)
          · rw [if_neg hz]
            exact Ev.congr (fun k => if_neg hz) (Ev.now _)
    · rw [if_pos (by rw [bl_nil, bl_nil]; omega)]
      refine Ev.step (f := fun _ => some (cmpI ((bl s).length : Int) ((bl t).length : Int))) (fun k => ?_) (Ev.now _)
      simp only [name_Cmp.j1]
      rw [if_neg (by rw [decide_eq_false h0]; simp), compare_eq, hls, hlt]
      rfl
end Go.Proofs.YtoinmpjjmkpamaaDoor.Pure
