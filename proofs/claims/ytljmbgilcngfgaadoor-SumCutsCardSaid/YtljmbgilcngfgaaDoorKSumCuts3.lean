/- What this claim uses of this session's own texts, put together by a program: PAx80 PAx81 HSumE HSumF HSumB HFz GParse PAx2 PAx69 PAx1. -/
import Derived.Test.YtljmbgilcngfgaaDoorKSumCuts2
import Derived.Test.YtljmbgilcngfgaaDoorProg
import Derived.Test.YtljmbgilcngfgaaDoorRows
import Derived.Test.YtljmbgilcngfgaaDoorCards
import Derived.Test.YtljmbgilcngfgaaDoorTie
namespace Go.Proofs.YtljmbgilcngfgaaDoor.PA
open Go.RowKit Go.Proofs.YtljmbgilcngfgaaDoorW.PrintWords Go.Proofs.YtljmbgilcngfgaaDoorW.PrintLast Go.Proofs.YtljmbgilcngfgaaDoorW.PrintMore
set_option linter.unusedVariables false
set_option linter.unusedSimpArgs false
set_option maxRecDepth 100000
set_option maxHeartbeats 8000000
section
attribute [local go_sem] max2_int min2_int max_two min_two max_three min_three max_four min_four   -- for this text's walks alone
mutual
def colloquyref20_Lines.l0 : Nat → List ByteArray → Int → ByteArray → ByteArray → List (S53) → Option (List ByteArray)
  | 0, _, _, _, _, _ => none
  | k + 1, x3, x4, x245000, x245001, x245002 => if x4 < (x245002.length : Int) then (if 0 ≤ x4 then ((colloquyref02_Write.f k ((rd_T53 x245002 x4).f0)).bind fun t251 => (if 6 + t251.size ≤ 9223372036854775807 then (if x3.length < 8796093022208 then (colloquyref20_Lines.l1 k (x3 ++ [(⟨#[103, 114, 111, 117, 112, 32]⟩ : ByteArray) ++ t251]) x4 0 x245000 x245001 x245002) else (none)) else (none))) else (none)) else (colloquyref20_Lines.l2 k x3 1 x245000 x245001 x245002)
def colloquyref20_Lines.l1 : Nat → List ByteArray → Int → Int → ByteArray → ByteArray → List (S53) → Option (List ByteArray)
  | 0, _, _, _, _, _, _ => none
  | k + 1, x3, x4, x5, x245000, x245001, x245002 => if 0 ≤ x4 then (if x4 < (x245002.length : Int) then (if x5 < (((rd_T53 x245002 x4).f1).length : Int) then (if 0 ≤ x5 then ((colloquyref18_Text.f ((rd_T49 ((rd_T53 x245002 x4).f1) x5).f1)).bind fun t259 => (if t259.size + 2 ≤ 9223372036854775807 then ((colloquyref02_Write.f k ((rd_T49 ((rd_T53 x245002 x4).f1) x5).f0)).bind fun t260 => (if (t259 ++ (⟨#[58, 32]⟩ : ByteArray)).size + t260.size ≤ 9223372036854775807 then (if x3.length < 8796093022208 then (colloquyref20_Lines.l1 k (x3 ++ [(t259 ++ (⟨#[58, 32]⟩ : ByteArray)) ++ t260]) x4 (wrap64 (x5 + 1)) x245000 x245001 x245002) else (none)) else (none))) else (none))) else (none)) else (colloquyref20_Lines.l0 k x3 (wrap64 (x4 + 1)) x245000 x245001 x245002)) else (none)) else (none)
def colloquyref20_Lines.l2 : Nat → List ByteArray → Int → ByteArray → ByteArray → List (S53) → Option (List ByteArray)
  | 0, _, _, _, _, _ => none
  | k + 1, x3, x7, x245000, x245001, x245002 => if x7 ≤ 7 then ((colloquyref20_Total.f k x245000 x245001 x245002 x7).bind fun t267 => (if t267 > 0 then ((colloquyref18_Text.f x7).bind fun t268 => (if 2 + t268.size ≤ 9223372036854775807 then (if ((⟨#[35, 32]⟩ : ByteArray) ++ t268).size + 1 ≤ 9223372036854775807 then ((colloquyref20_Total.f k x245000 x245001 x245002 x7).bind fun t269 => ((colloquyref01_Decimal.f k t269).bind fun t270 => (if (((⟨#[35, 32]⟩ : ByteArray) ++ t268) ++ (⟨#[32]⟩ : ByteArray)).size + t270.size ≤ 9223372036854775807 then (if x3.length < 8796093022208 then (colloquyref20_Lines.l2 k (x3 ++ [(((⟨#[35, 32]⟩ : ByteArray) ++ t268) ++ (⟨#[32]⟩ : ByteArray)) ++ t270]) (wrap64 (x7 + 1)) x245000 x245001 x245002) else (none)) else (none)))) else (none)) else (none))) else (colloquyref20_Lines.l2 k x3 (wrap64 (x7 + 1)) x245000 x245001 x245002))) else (if x3.length < 8796093022208 then (some (x3 ++ [(⟨#[35, 32, 101, 110, 100]⟩ : ByteArray)])) else (none))
end
def colloquyref20_Lines.f (k : Nat) (a0_0 : ByteArray) (a0_1 : ByteArray) (l0_2 : List (S53)) : Option (List ByteArray) := (colloquyref02_Write.f k a0_0).bind fun t245 => (if 12 + t245.size ≤ 9223372036854775807 then ((colloquyref02_Write.f k a0_1).bind fun t246 => (if 6 + t246.size ≤ 9223372036854775807 then (colloquyref20_Lines.l0 k (([(⟨#[84, 101, 115, 116, 32, 114, 117, 110, 32, 111, 102, 32]⟩ : ByteArray) ++ t245, (⟨#[66, 111, 97, 114, 100, 32]⟩ : ByteArray) ++ t246] : List ByteArray)) 0 a0_0 a0_1 l0_2) else (none))) else (none))
theorem colloquyref20_Lines.mono_l : ∀ k, (∀ y0 y1 y2 y3 y4, LeO (colloquyref20_Lines.l0 k y0 y1 y2 y3 y4) (colloquyref20_Lines.l0 (k + 1) y0 y1 y2 y3 y4)) ∧ (∀ y0 y1 y2 y3 y4 y5, LeO (colloquyref20_Lines.l1 k y0 y1 y2 y3 y4 y5) (colloquyref20_Lines.l1 (k + 1) y0 y1 y2 y3 y4 y5)) ∧ (∀ y0 y1 y2 y3 y4, LeO (colloquyref20_Lines.l2 k y0 y1 y2 y3 y4) (colloquyref20_Lines.l2 (k + 1) y0 y1 y2 y3 y4))
  | 0 => ⟨fun _ _ _ _ _ r h => by simp [colloquyref20_Lines.l0] at h, fun _ _ _ _ _ _ r h => by simp [colloquyref20_Lines.l1] at h, fun _ _ _ _ _ r h => by simp [colloquyref20_Lines.l2] at h⟩
  | k + 1 => by
    obtain ⟨ih0, ih1, ih2⟩ := colloquyref20_Lines.mono_l k
    refine ⟨?_, ?_, ?_⟩
    · intro y0 y1 y2 y3 y4
      unfold colloquyref20_Lines.l0
      repeat' first
      | (with_reducible exact ih0 _ _ _ _ _)
      | (with_reducible exact ih1 _ _ _ _ _ _)
      | (with_reducible exact ih2 _ _ _ _ _)
      | (with_reducible exact colloquyref01_Decimal.mono _ _)
      | (with_reducible exact colloquyref02_Write.mono _ _)
      | (with_reducible exact colloquyref20_Total.mono _ _ _ _ _)
      | (with_reducible exact LeO.refl _)
      | (with_reducible exact LeO.none _)
      | (with_reducible refine LeO.ite ?_ ?_)
      | (with_reducible refine LeO.bind ?_ (fun _ => ?_))
      | exact ih0 _ _ _ _ _
      | exact ih1 _ _ _ _ _ _
      | exact ih2 _ _ _ _ _
      | exact colloquyref01_Decimal.mono _ _
      | exact colloquyref02_Write.mono _ _
      | exact colloquyref20_Total.mono _ _ _ _ _
      | exact LeO.none _
      | refine LeO.ite ?_ ?_
      | refine LeO.bind ?_ (fun _ => ?_)
    · intro y0 y1 y2 y3 y4 y5
      unfold colloquyref20_Lines.l1
      repeat' first
      | (with_reducible exact ih0 _ _ _ _ _)
      | (with_reducible exact ih1 _ _ _ _ _ _)
      | (with_reducible exact ih2 _ _ _ _ _)
      | (with_reducible exact colloquyref01_Decimal.mono _ _)
      | (with_reducible exact colloquyref02_Write.mono _ _)
      | (with_reducible exact colloquyref20_Total.mono _ _ _ _ _)
      | (with_reducible exact LeO.refl _)
      | (with_reducible exact LeO.none _)
      | (with_reducible refine LeO.ite ?_ ?_)
      | (with_reducible refine LeO.bind ?_ (fun _ => ?_))
      | exact ih0 _ _ _ _ _
      | exact ih1 _ _ _ _ _ _
      | exact ih2 _ _ _ _ _
      | exact colloquyref01_Decimal.mono _ _
      | exact colloquyref02_Write.mono _ _
      | exact colloquyref20_Total.mono _ _ _ _ _
      | exact LeO.none _
      | refine LeO.ite ?_ ?_
      | refine LeO.bind ?_ (fun _ => ?_)
    · intro y0 y1 y2 y3 y4
      unfold colloquyref20_Lines.l2
      repeat' first
      | (with_reducible exact ih0 _ _ _ _ _)
      | (with_reducible exact ih1 _ _ _ _ _ _)
      | (with_reducible exact ih2 _ _ _ _ _)
      | (with_reducible exact colloquyref01_Decimal.mono _ _)
      | (with_reducible exact colloquyref02_Write.mono _ _)
      | (with_reducible exact colloquyref20_Total.mono _ _ _ _ _)
      | (with_reducible exact LeO.refl _)
      | (with_reducible exact LeO.none _)
      | (with_reducible refine LeO.ite ?_ ?_)
      | (with_reducible refine LeO.bind ?_ (fun _ => ?_))
      | exact ih0 _ _ _ _ _
      | exact ih1 _ _ _ _ _ _
      | exact ih2 _ _ _ _ _
      | exact colloquyref01_Decimal.mono _ _
      | exact colloquyref02_Write.mono _ _
      | exact colloquyref20_Total.mono _ _ _ _ _
      | exact LeO.none _
      | refine LeO.ite ?_ ?_
      | refine LeO.bind ?_ (fun _ => ?_)
theorem colloquyref20_Lines.mono : ∀ a0 a1 a2 k, LeO (colloquyref20_Lines.f k a0 a1 a2) (colloquyref20_Lines.f (k + 1) a0 a1 a2) := by
  intro a0 a1 a2 k
  obtain ⟨ih0, ih1, ih2⟩ := colloquyref20_Lines.mono_l k
  unfold colloquyref20_Lines.f
  repeat' first
      | (with_reducible exact ih0 _ _ _ _ _)
      | (with_reducible exact ih1 _ _ _ _ _ _)
      | (with_reducible exact ih2 _ _ _ _ _)
      | (with_reducible exact colloquyref01_Decimal.mono _ _)
      | (with_reducible exact colloquyref02_Write.mono _ _)
      | (with_reducible exact colloquyref20_Total.mono _ _ _ _ _)
      | (with_reducible exact LeO.refl _)
      | (with_reducible exact LeO.none _)
      | (with_reducible refine LeO.ite ?_ ?_)
      | (with_reducible refine LeO.bind ?_ (fun _ => ?_))
      | exact ih0 _ _ _ _ _
      | exact ih1 _ _ _ _ _ _
      | exact ih2 _ _ _ _ _
      | exact colloquyref01_Decimal.mono _ _
      | exact colloquyref02_Write.mono _ _
      | exact colloquyref20_Total.mono _ _ _ _ _
      | exact LeO.none _
      | refine LeO.ite ?_ ?_
      | refine LeO.bind ?_ (fun _ => ?_)
def colloquyref20_Lines.T1 : Bool × List (List Nat × List Nat) := (true, [([], []), ([0], [0]), ([1], [1]), ([2], [2]), ([], []), ([4], [4]), ([5, 2], [5]), ([6], [6]), ([3, 7], [3, 7]), ([8, 6, 0, 1, 2, 3, 4, 5, 6, 7, 8], [8])])
def colloquyref20_Lines.B1 : List Nat := [0, 1, 3, 7, 0, 16, 55, 119, 255, 511]
theorem colloquyref20_Lines.tab1 : rtab .any (opsOf Tryd.f29 1) = colloquyref20_Lines.T1 := by kernel_rfl
theorem colloquyref20_Lines.bits1 : waitsOk colloquyref20_Lines.T1.2 colloquyref20_Lines.B1 = true := by kernel_rfl
def colloquyref20_Lines.T10 : Bool × List (List Nat × List Nat) := (true, [([], []), ([], []), ([1], [1]), ([2], [2]), ([3], [3]), ([], []), ([5], [5]), ([6, 3], [6]), ([4, 7], [4, 7]), ([8], [8]), ([0, 9, 7], [0, 9]), ([10, 10, 0, 1, 2, 3, 4, 5, 6, 7, 8, 9, 10], [0, 10])])
def colloquyref20_Lines.B10 : List Nat := [0, 0, 2, 6, 14, 0, 32, 110, 254, 510, 1023, 2047]
theorem colloquyref20_Lines.tab10 : rtab .any (opsOf Tryd.f29 10) = colloquyref20_Lines.T10 := by kernel_rfl
theorem colloquyref20_Lines.bits10 : waitsOk colloquyref20_Lines.T10.2 colloquyref20_Lines.B10 = true := by kernel_rfl
def colloquyref20_Lines.T15 : Bool × List (List Nat × List Nat) := (true, [([], []), ([], []), ([1], [1]), ([2], [2]), ([3], [3]), ([], []), ([], []), ([5, 6, 2], [5, 6]), ([7, 7], [7]), ([4, 8], [4, 8]), ([9], [9]), ([0, 10, 8], [0, 10]), ([11, 11, 0, 1, 2, 3, 4, 5, 6, 7, 8, 9, 10, 11], [0, 11])])
def colloquyref20_Lines.B15 : List Nat := [0, 0, 2, 6, 14, 0, 0, 102, 230, 510, 1022, 2047, 4095]
theorem colloquyref20_Lines.tab15 : rtab .any (opsOf Tryd.f29 15) = colloquyref20_Lines.T15 := by kernel_rfl
theorem colloquyref20_Lines.bits15 : waitsOk colloquyref20_Lines.T15.2 colloquyref20_Lines.B15 = true := by kernel_rfl
theorem colloquyref20_Lines.calls (k : Nat) (a0_0 : ByteArray) (a0_1 : ByteArray) (A0_2 : Option Addr) (c0_2 : Nat) (l0_2 : List (S53)) (r : List ByteArray) (w : World) (hr0_2 : Kd.C k53 w A0_2 l0_2.length l0_2) (hc0_2 : l0_2.length ≤ c0_2) (h : colloquyref20_Lines.f k a0_0 a0_1 l0_2 = some r) :
    Calls Tryd.prog 29 #[.agg #[.string a0_0, .string a0_1, .slice A0_2 l0_2.length c0_2]] w fun e w' => ∃ v0_ : Value, e = .returned (v0_) ∧ Kd.R Kd.string 9 w' w.heap.size (fun _ => True) v0_ r ∧ Below w.heap.size w w' := by
  have hu29 := Tryd.underlying29
  have hu49 := Tryd.underlying49
  have HR0_2 := Aside0.mk hr0_2
  have HC0_2 := Aside0.mk hc0_2
  clear hr0_2 hc0_2
  have HB := Aside0.mk (Below.refl w.heap.size w)
  have H : ((colloquyref02_Write.f k a0_0).bind fun t245 => (if 12 + t245.size ≤ 9223372036854775807 then ((colloquyref02_Write.f k a0_1).bind fun t246 => (if 6 + t246.size ≤ 9223372036854775807 then (colloquyref20_Lines.l0 k (([(⟨#[84, 101, 115, 116, 32, 114, 117, 110, 32, 111, 102, 32]⟩ : ByteArray) ++ t245, (⟨#[66, 111, 97, 114, 100, 32]⟩ : ByteArray) ++ t246] : List ByteArray)) 0 a0_0 a0_1 l0_2) else (none))) else (none))) = some r := h
  clear h
  replace H := Option.bind_eq_some_iff.mp H
  obtain ⟨t245, A20, H⟩ := H
  replace H : (if 12 + t245.size ≤ 9223372036854775807 then ((colloquyref02_Write.f k a0_1).bind fun t246 => (if 6 + t246.size ≤ 9223372036854775807 then (colloquyref20_Lines.l0 k (([(⟨#[84, 101, 115, 116, 32, 114, 117, 110, 32, 111, 102, 32]⟩ : ByteArray) ++ t245, (⟨#[66, 111, 97, 114, 100, 32]⟩ : ByteArray) ++ t246] : List ByteArray)) 0 a0_0 a0_1 l0_2) else (none))) else (none)) = some r := H
  have A2 := Aside0.mk A20
  clear A20
  by_cases c3 : 12 + t245.size ≤ 9223372036854775807
  · rw [if_pos c3] at H
    have c3b0 := eq_true c3
    have c3b1 : decide (12 + t245.size ≤ 9223372036854775807) = true := decide_eq_true c3
    try have c3b2 : (9223372036854775807 < 12 + t245.size) = False := eq_false (Nat.not_lt.2 c3)
    try (have c3b3 := c3; simp only [ByteArray.size_append] at c3b3; replace c3b3 := eq_false (Nat.not_lt.2 c3b3))
    replace H := Option.bind_eq_some_iff.mp H
    obtain ⟨t246, A40, H⟩ := H
    replace H : (if 6 + t246.size ≤ 9223372036854775807 then (colloquyref20_Lines.l0 k (([(⟨#[84, 101, 115, 116, 32, 114, 117, 110, 32, 111, 102, 32]⟩ : ByteArray) ++ t245, (⟨#[66, 111, 97, 114, 100, 32]⟩ : ByteArray) ++ t246] : List ByteArray)) 0 a0_0 a0_1 l0_2) else (none)) = some r := H
    have A4 := Aside0.mk A40
    clear A40
    by_cases c5 : 6 + t246.size ≤ 9223372036854775807
    · rw [if_pos c5] at H
      have c5b0 := eq_true c5
      have c5b1 : decide (6 + t246.size ≤ 9223372036854775807) = true := decide_eq_true c5
      try have c5b2 : (9223372036854775807 < 6 + t246.size) = False := eq_false (Nat.not_lt.2 c5)
      try (have c5b3 := c5; simp only [ByteArray.size_append] at c5b3; replace c5b3 := eq_false (Nat.not_lt.2 c5b3))
      obtain ⟨y247, hy247⟩ : ∃ y_ : List ByteArray, y_ = (([(⟨#[84, 101, 115, 116, 32, 114, 117, 110, 32, 111, 102, 32]⟩ : ByteArray) ++ t245, (⟨#[66, 111, 97, 114, 100, 32]⟩ : ByteArray) ++ t246] : List ByteArray)) := ⟨_, rfl⟩
      replace H : (colloquyref20_Lines.l0 k y247 0 a0_0 a0_1 l0_2) = some r := by first | (rw [hy247]; with_reducible exact H) | (have H2_ := (Option.bind_some _ _).symm.trans H; rw [hy247]; with_reducible exact H2_) | (have H2_ := (Option.bind_some _ _).symm.trans H; with_reducible exact H2_) | with_reducible exact H | (rw [hy247]; exact H) | exact H
      have Ny247 := Aside0.mk hy247
      clear hy247
      have H' := Aside0.mk H
      clear H
      go_enter Tryd.func29, Tryd.ntmps29
      try go_wp2_with (first | ((with_reducible refine gate_dst (N := 1) rfl ?_); refine box_event ?hg (N := 1) ?hd (cs := #[.string a0_0, .string a0_1, .slice A0_2 l0_2.length c0_2]) (t := 29) ?hr ?_; (case hd => rfl); (case hg => rfl); (case hr => first | (go_simp; done) | (go_simp; rfl)); intro gb244 hg w6 hbox hb; have n0_ := Aside0.mk (below_step (by repeat (first | (with_reducible first | exact HB.out | apply below_alloc | apply pw_below_drewN | apply below_drew1) | exact HB.out)) hb); have n1_ := Aside0.mk (hbox); have n2_ := Aside0.mk ((by rw [hg]; exact (below_size (by repeat (first | (with_reducible first | exact HB.out | apply below_alloc | apply pw_below_drewN | apply below_drew1) | exact HB.out))) : w.heap.size ≤ gb244)); have n3_ := Aside0.mk ((by rw [hg]; exact (below_size (by repeat (first | (with_reducible first | exact HB.out | apply below_alloc | apply pw_below_drewN | apply below_drew1) | exact HB.out))) : w.heap.size ≤ gb244)); clear HB; have HB := n0_; have BK244 := n1_; have GW244 := n2_; have GE244 := n3_; clear n0_ n1_ n2_ n3_; clear hb hbox hg))
      have n0_ := Aside0.mk (blk_drew BK244.out)
      have n1_ := Aside0.mk (below_drew1 HB.out)
      clear BK244
      clear HB
      have BK244 := n0_
      have HB := n1_
      clear n0_ n1_
      refine start_ (n := 10) (S := fun w' => w'.cell? ⟨gb244, 0, none⟩ = some (.string a0_0) ∧ w'.cell? ⟨gb244, 1, none⟩ = some (.string a0_1) ∧ w'.cell? ⟨gb244, 2, none⟩ = some (.slice A0_2 l0_2.length c0_2)) (ds := []) #[false, false, false, false, false, false, false, false, false, false] (by kernel_rfl) rfl rfl ⟨(blk_cell BK244.out 0).trans rfl, (blk_cell BK244.out 1).trans rfl, (blk_cell BK244.out 2).trans rfl⟩ (fun hHeld => ?_); refine with_tabW colloquyref20_Lines.tab1 colloquyref20_Lines.bits1 (fun HT_ HW_ => ?_)
      generalize w6.drew = w7 at BK244 HB hHeld ⊢
      refine pure_ (i := 0) (N := some 8) (v := ?_) (a' := ?_) #[true, false, false, false, false, false, false, false, false, false] rfl rfl (any_of HT_.out (by kernel_rfl)) (fun _ _ _ h => h) (Or.inl ⟨by rfl, ?_⟩) ?_ ?_
      rotate_left
      · intro w'
        go_simp
        with_reducible rfl
      rotate_left
      · simp only [Act.put, List.setIfInBounds_toArray, List.set_cons_zero, List.set_cons_succ, i64_w, i32_w]
        rfl
      refine pure_ (i := 4) (N := some 12) (v := ?_) (a' := ?_) #[true, false, false, false, true, false, false, false, false, false] rfl rfl (any_of HT_.out (by kernel_rfl)) (fun _ _ _ h => h) (Or.inl ⟨by rfl, ?_⟩) ?_ ?_
      rotate_left
      · intro w'
        go_simp
        with_reducible rfl
      rotate_left
      · simp only [Act.put, List.setIfInBounds_toArray, List.set_cons_zero, List.set_cons_succ, i64_w, i32_w]
        rfl
      refine take_ (i := 1) (N := some 9) (v := ?_) (a' := ?_) #[true, true, false, false, true, false, false, false, false, false] rfl rfl (take_ofW HT_.out HW_.out (by kernel_rfl)) (fun _ _ _ h => h) (Or.inl ⟨by rfl, ?_⟩) hHeld ?_ ?_
      rotate_left
      · rintro w' ⟨s0, s1, s2⟩
        go_simp
        with_reducible rfl
      rotate_left
      · simp only [Act.put, List.setIfInBounds_toArray, List.set_cons_zero, List.set_cons_succ, i64_w, i32_w]
        rfl
      refine take_ (i := 5) (N := some 13) (v := ?_) (a' := ?_) #[true, true, false, false, true, true, false, false, false, false] rfl rfl (take_ofW HT_.out HW_.out (by kernel_rfl)) (fun _ _ _ h => h) (Or.inl ⟨by rfl, ?_⟩) hHeld ?_ ?_
      rotate_left
      · rintro w' ⟨s0, s1, s2⟩
        go_simp
        with_reducible rfl
      rotate_left
      · simp only [Act.put, List.setIfInBounds_toArray, List.set_cons_zero, List.set_cons_succ, i64_w, i32_w]
        rfl
      refine one_ (i := 2) (N := some 10) #[true, true, true, false, true, true, false, false, false, false] rfl rfl (one_of HT_.out (by kernel_rfl)) (by decide) (fun K hK => ?_)
      refine goes_ Tryd.func44 (by kernel_rfl) rfl #[.string a0_0] (by rfl) rfl rfl (by (try simp only [List.map_toArray, List.map_cons, List.map_nil]); first | done | rfl | (simp only [List.length_drop, List.length_take]; rfl)) ?_
      with_reducible refine (colloquyref02_Write.calls k a0_0 t245 _ A2.out).mono ?_
      rintro e w8 ⟨rfl, hb⟩
      refine ⟨_, rfl, ?_⟩
      have n0_ := Aside0.mk (blk_below (g := gb244) (o := .cells #[.string a0_0, .string a0_1, .slice A0_2 l0_2.length c0_2] 29 (0, 0)) (by (with_reducible repeat (first | refine blk_drewN ?_ _ | refine blk_drew ?_ | refine blk_alloc ?_ _)); exact BK244.out) hb)
      have n1_ := Aside0.mk (below_step (by repeat (first | (with_reducible first | exact HB.out | apply below_alloc | apply pw_below_drewN | apply below_drew1 | refine below_set ?_ GE244.out) | exact HB.out)) hb)
      clear BK244
      clear HB
      have BK244 := n0_
      have HB := n1_
      clear n0_ n1_
      (try clear hb)
      (try clear hb2)
      (try clear hk)
      (try clear hi)
      refine hK.out _ _ ⟨(blk_cell BK244.out 0).trans rfl, (blk_cell BK244.out 1).trans rfl, (blk_cell BK244.out 2).trans rfl⟩ (fun hHeld => ?_)
      clear hK K
      refine norm_ (a' := ?_) ?_ ?_
      rotate_left
      · show Act.put _ (some 10) _ = _
        simp only [Act.put, List.setIfInBounds_toArray, List.set_cons_zero, List.set_cons_succ, i64_w, i32_w]
        rfl
      refine pure_ (i := 3) (N := some 11) (v := ?_) (a' := ?_) #[true, true, true, true, true, true, false, false, false, false] rfl rfl (any_of HT_.out (by kernel_rfl)) (fun _ _ _ h => h) (Or.inl ⟨by rfl, ?_⟩) ?_ ?_
      rotate_left
      · intro w'
        go_simp
        with_reducible rfl
      rotate_left
      · simp only [Act.put, List.setIfInBounds_toArray, List.set_cons_zero, List.set_cons_succ, i64_w, i32_w]
        rfl
      refine one_ (i := 6) (N := some 14) #[true, true, true, true, true, true, true, false, false, false] rfl rfl (one_of HT_.out (by kernel_rfl)) (by decide) (fun K hK => ?_)
      refine goes_ Tryd.func44 (by kernel_rfl) rfl #[.string a0_1] (by rfl) rfl rfl (by (try simp only [List.map_toArray, List.map_cons, List.map_nil]); first | done | rfl | (simp only [List.length_drop, List.length_take]; rfl)) ?_
      with_reducible refine (colloquyref02_Write.calls k a0_1 t246 _ A4.out).mono ?_
      rintro e w9 ⟨rfl, hb⟩
      refine ⟨_, rfl, ?_⟩
      have n0_ := Aside0.mk (blk_below (g := gb244) (o := .cells #[.string a0_0, .string a0_1, .slice A0_2 l0_2.length c0_2] 29 (0, 0)) (by (with_reducible repeat (first | refine blk_drewN ?_ _ | refine blk_drew ?_ | refine blk_alloc ?_ _)); exact BK244.out) hb)
      have n1_ := Aside0.mk (below_step (by repeat (first | (with_reducible first | exact HB.out | apply below_alloc | apply pw_below_drewN | apply below_drew1 | refine below_set ?_ GE244.out) | exact HB.out)) hb)
      clear BK244
      clear HB
      have BK244 := n0_
      have HB := n1_
      clear n0_ n1_
      (try clear hb)
      (try clear hb2)
      (try clear hk)
      (try clear hi)
      refine hK.out _ _ ⟨(blk_cell BK244.out 0).trans rfl, (blk_cell BK244.out 1).trans rfl, (blk_cell BK244.out 2).trans rfl⟩ (fun hHeld => ?_)
      clear hK K
      refine norm_ (a' := ?_) ?_ ?_
      rotate_left
      · show Act.put _ (some 14) _ = _
        simp only [Act.put, List.setIfInBounds_toArray, List.set_cons_zero, List.set_cons_succ, i64_w, i32_w]
        rfl
      refine pure_ (i := 7) (N := some 15) (v := ?_) (a' := ?_) #[true, true, true, true, true, true, true, true, false, false] rfl rfl (any_of HT_.out (by kernel_rfl)) (fun _ _ _ h => h) (Or.inl ⟨by rfl, ?_⟩) ?_ ?_
      rotate_left
      · intro w'
        go_simp
        with_reducible rfl
      rotate_left
      · simp only [Act.put, List.setIfInBounds_toArray, List.set_cons_zero, List.set_cons_succ, i64_w, i32_w]
        rfl
      refine one_ (i := 8) (N := some 16) #[true, true, true, true, true, true, true, true, true, false] rfl rfl (one_of HT_.out (by kernel_rfl)) (by decide) (fun K hK => ?_)
      refine Kd.R_lit_step Kd.string _ 9 ?hg (N := 16) ?hd (xs := ([(⟨#[84, 101, 115, 116, 32, 114, 117, 110, 32, 111, 102, 32]⟩ : ByteArray) ++ t245, (⟨#[66, 111, 97, 114, 100, 32]⟩ : ByteArray) ++ t246] : List ByteArray)) (inner := [.string ((⟨#[84, 101, 115, 116, 32, 114, 117, 110, 32, 111, 102, 32]⟩ : ByteArray) ++ t245), .string ((⟨#[66, 111, 97, 114, 100, 32]⟩ : ByteArray) ++ t246)]) (ok := fun _ => True) (okp := fun _ => True) ?hr ?hp (fun _ hk => hk) trivial (Below.refl _ _) (Nat.le_refl _) (by simp) ?_; (case hd => rfl); (case hg => rfl); (case hr => first | (go_simp; done) | (go_simp; rfl)); (case hp => exact (Reps.one (show Kd.M Kd.string _ _ _ ((⟨#[84, 101, 115, 116, 32, 114, 117, 110, 32, 111, 102, 32]⟩ : ByteArray) ++ t245) [.string ((⟨#[84, 101, 115, 116, 32, 114, 117, 110, 32, 111, 102, 32]⟩ : ByteArray) ++ t245)] from rfl) (Reps.one (show Kd.M Kd.string _ _ _ ((⟨#[66, 111, 97, 114, 100, 32]⟩ : ByteArray) ++ t246) [.string ((⟨#[66, 111, 97, 114, 100, 32]⟩ : ByteArray) ++ t246)] from rfl) (Reps.none _ _))))
      intro v248 w10 ho11 hb hg_ hnew_
      clear hg_ hnew_
      (first | rw [← Ny247.out] at ho11 | (simp only [Int.reduceToNat] at ho11; rw [← Ny247.out] at ho11))
      have n0_ := Aside0.mk (Kd.R_lower ho11 (below_size (by repeat (first | (with_reducible first | exact HB.out | apply below_alloc | apply pw_below_drewN | apply below_drew1 | refine below_set ?_ GE244.out) | exact HB.out))))
      have n1_ := Aside0.mk (blk_below (g := gb244) (o := .cells #[.string a0_0, .string a0_1, .slice A0_2 l0_2.length c0_2] 29 (0, 0)) (by (with_reducible repeat (first | refine blk_drewN ?_ _ | refine blk_drew ?_ | refine blk_alloc ?_ _)); exact BK244.out) hb)
      have n2_ := Aside0.mk (below_step (by repeat (first | (with_reducible first | exact HB.out | apply below_alloc | apply pw_below_drewN | apply below_drew1 | refine below_set ?_ GE244.out) | exact HB.out)) hb)
      clear BK244
      clear HB
      have HO249 := n0_
      have BK244 := n1_
      have HB := n2_
      clear n0_ n1_ n2_
      clear hb ho11
      refine hK.out _ _ ⟨(blk_cell BK244.out 0).trans rfl, (blk_cell BK244.out 1).trans rfl, (blk_cell BK244.out 2).trans rfl⟩ (fun hHeld => ?_)
      clear hK K
      refine norm_ (a' := ?_) ?_ ?_
      rotate_left
      · show Act.put _ (some 16) _ = _
        simp only [Act.put, List.setIfInBounds_toArray, List.set_cons_zero, List.set_cons_succ, i64_w, i32_w]
        rfl
      refine pure_ (i := 9) (N := some 3) (v := ?_) (a' := ?_) #[true, true, true, true, true, true, true, true, true, true] rfl rfl (any_of HT_.out (by kernel_rfl)) (fun _ _ _ h => h) (Or.inl ⟨by rfl, ?_⟩) ?_ ?_
      rotate_left
      · intro w'
        go_simp
        with_reducible rfl
      rotate_left
      · simp only [Act.put, List.setIfInBounds_toArray, List.set_cons_zero, List.set_cons_succ, i64_w, i32_w]
        rfl
      refine done_ (done_of HT_.out (by kernel_rfl)) ?_
      try go_wp2
      go_loopg [3, 4] k (fun kq v3 v4 w' => ∃ (x3_1 : List ByteArray) (x4_1 : Int), v4 = .int .i64 x4_1 ∧ Aside0 (colloquyref20_Lines.l0 kq x3_1 x4_1 a0_0 a0_1 l0_2 = some r) ∧ Aside0 (kq ≤ k) ∧ Aside0 (Kd.R Kd.string 9 w' w.heap.size (fun _ => True) v3 x3_1) ∧ Aside0 (w'.heap[gb244]? = some (.cells #[.string a0_0, .string a0_1, (.slice A0_2 l0_2.length c0_2)] 29 (0, 0))) ∧ Aside0 (Below w.heap.size w w'))
      case atStart => exact ⟨(y247), (0), (by first | rfl | (simp; done) | (simp [*]; done)), H', ⟨Nat.le_refl _⟩, ⟨by (with_reducible repeat (first | apply Kd.R_alloc | apply Kd.R_drewN | apply Kd.R_drew)); exact HO249.out⟩, ⟨by (with_reducible repeat (first | refine blk_drewN ?_ _ | refine blk_drew ?_ | refine blk_alloc ?_ _)); exact BK244.out⟩, ⟨by repeat (first | (with_reducible first | exact HB.out | apply below_alloc | apply pw_below_drewN | apply below_drew1 | refine below_set ?_ GE244.out) | exact HB.out)⟩⟩
      case round =>
        clear H'
        try clear c2
        try clear p2
        try clear c3
        try clear c3b0
        try clear c3b1
        try clear c3b2
        try clear c4
        try clear c5
        try clear c5b0
        try clear c5b1
        try clear c5b2
        obtain ⟨x3_1, x4_1, rfl, HA, HK1, HO_3, BK244, HB⟩ := hrel
        cases gk with
        | zero => exact absurd HA.out (by simp [colloquyref20_Lines.l0])
        | succ k1 =>
          have H := HA.out
          clear HA
          simp only [colloquyref20_Lines.l0] at H
          by_cases c12 : x4_1 < (l0_2.length : Int)
          · rw [if_pos c12] at H
            have c12b0 : decide (x4_1 < (l0_2.length : Int)) = true := decide_eq_true c12
            clear c12
            by_cases c13 : 0 ≤ x4_1
            · rw [if_pos c13] at H
              have c13b0 : decide (0 ≤ x4_1) = true := decide_eq_true c13
              clear c13
              replace H := Option.bind_eq_some_iff.mp H
              obtain ⟨t251, A140, H⟩ := H
              replace H : (if 6 + t251.size ≤ 9223372036854775807 then (if x3_1.length < 8796093022208 then (colloquyref20_Lines.l1 k1 (x3_1 ++ [(⟨#[103, 114, 111, 117, 112, 32]⟩ : ByteArray) ++ t251]) x4_1 0 a0_0 a0_1 l0_2) else (none)) else (none)) = some r := H
              have A14 := Aside0.mk A140
              clear A140
              by_cases c15 : 6 + t251.size ≤ 9223372036854775807
              · rw [if_pos c15] at H
                have c15b0 := eq_true c15
                have c15b1 : decide (6 + t251.size ≤ 9223372036854775807) = true := decide_eq_true c15
                try have c15b2 : (9223372036854775807 < 6 + t251.size) = False := eq_false (Nat.not_lt.2 c15)
                try (have c15b3 := c15; simp only [ByteArray.size_append] at c15b3; replace c15b3 := eq_false (Nat.not_lt.2 c15b3))
                by_cases c16 : x3_1.length < 8796093022208
                · rw [if_pos c16] at H
                  have LMc16 := Aside0.mk c16
                  clear c16
                  obtain ⟨y252, hy252⟩ : ∃ y_ : List ByteArray, y_ = (x3_1 ++ [(⟨#[103, 114, 111, 117, 112, 32]⟩ : ByteArray) ++ t251]) := ⟨_, rfl⟩
                  replace H : (colloquyref20_Lines.l1 k1 y252 x4_1 0 a0_0 a0_1 l0_2) = some r := by first | (rw [hy252]; with_reducible exact H) | (have H2_ := (Option.bind_some _ _).symm.trans H; rw [hy252]; with_reducible exact H2_) | (have H2_ := (Option.bind_some _ _).symm.trans H; with_reducible exact H2_) | with_reducible exact H | (rw [hy252]; exact H) | exact H
                  have Ny252 := Aside0.mk hy252
                  clear hy252
                  have H' := Aside0.mk H
                  clear H
                  have hcz17_0 : wr.cell? ⟨gb244, 0, none⟩ = some (.string a0_0) := (blk_cell BK244.out 0).trans rfl
                  have hcz17_1 : wr.cell? ⟨gb244, 1, none⟩ = some (.string a0_1) := (blk_cell BK244.out 1).trans rfl
                  have hcz17_2 : wr.cell? ⟨gb244, 2, none⟩ = some (.slice A0_2 l0_2.length c0_2) := (blk_cell BK244.out 2).trans rfl
                  have hfz17_0 := blk_frozen BK244.out 0
                  have hfz17_1 := blk_frozen BK244.out 1
                  have hfz17_2 := blk_frozen BK244.out 2
                  have p250 : 0 ≤ (x4_1 : Int) := of_decide_eq_true (by first | (with_reducible assumption) | assumption)
                  have q250 : x4_1 < (l0_2.length : Int) := of_decide_eq_true (by first | (with_reducible assumption) | assumption)
                  obtain ⟨ad250, A250_1, c250_1, e250, hx250_0, hx250_1, hl250_1, hi250_1⟩ := at_T53 HR0_2.out x4_1 p250 q250
                  cases e250
                  replace hx250_0 := (HB.out.cell (World.block_lt_of_cell? w _ hx250_0)).trans hx250_0
                  replace hx250_1 := (HB.out.cell (World.block_lt_of_cell? w _ hx250_1)).trans hx250_1
                  have HR250_1 := Aside0.mk hi250_1
                  have HC250_1 := Aside0.mk hl250_1
                  clear hi250_1 hl250_1
                  replace p250 := eq_true p250
                  replace q250 := eq_true q250
                  go_wp2_with (first | ((with_reducible refine gate_callee (f := 44) rfl ?_); refine goesL_ (some 31) rfl rfl Tryd.func44 (by kernel_rfl) rfl #[.string ((rd_T53 l0_2 x4_1).f0)] rfl (by (try simp only [List.map_toArray, List.map_cons, List.map_nil]); first | done | rfl | (simp only [List.length_drop, List.length_take]; rfl)) ?_; (with_reducible refine (colloquyref02_Write.calls k1 ((rd_T53 l0_2 x4_1).f0) t251 _ A14.out).mono ?_); rintro e w18 ⟨rfl, hb⟩; refine ⟨_, rfl, ?_⟩; have n0_ := Aside0.mk (Kd.R_below (by (with_reducible repeat (first | apply Kd.R_alloc | apply Kd.R_drewN | apply Kd.R_drew)); exact HO_3.out) hb); have n1_ := Aside0.mk (blk_below (g := gb244) (o := .cells #[.string a0_0, .string a0_1, .slice (some ad250) l0_2.length c0_2] 29 (0, 0)) (by (with_reducible repeat (first | refine blk_drewN ?_ _ | refine blk_drew ?_ | refine blk_alloc ?_ _)); exact BK244.out) hb); have n2_ := Aside0.mk (below_step (by repeat (first | (with_reducible first | exact HB.out | apply below_alloc | apply pw_below_drewN | apply below_drew1 | refine below_set ?_ GE244.out) | exact HB.out)) hb); clear HO_3; clear BK244; clear HB; have HO_3 := n0_; have BK244 := n1_; have HB := n2_; clear n0_ n1_ n2_; (try clear hb); (try clear hb2); (try clear hk); (try clear hi)) | ((with_reducible refine gate_builtin (b := .append) (xs := #[.tmp 24, .tmp 33]) rfl ?_); at_builtin; refine Kd.R_append Kd.string (w0 := w) w.heap.size rfl (.tmp 24) (.tmp 33) 58 9 (.string ⟨#[]⟩) 16 rfl Tryd.underlying58 info9 rfl (by decide) (by omega) u3 x3_1 ((⟨#[103, 114, 111, 117, 112, 32]⟩ : ByteArray) ++ t251) [.string ((⟨#[103, 114, 111, 117, 112, 32]⟩ : ByteArray) ++ t251)] (fun _ => True) (fun _ => False) rfl rfl ?aP (fun _ hk => hk.elim) ?aF ?aO ?aB ?aS ?aL ?_; (case aP => exact rfl); (case aB => exact (by repeat (first | (with_reducible first | exact HB.out | apply below_alloc | apply pw_below_drewN | apply below_drew1 | refine below_set ?_ GE244.out) | exact HB.out))); (case aF => exact (fun _ _ => trivial)); (case aO => exact (by (with_reducible repeat (first | apply Kd.R_alloc | apply Kd.R_drewN | apply Kd.R_drew)); exact HO_3.out)); (case aS => exact (below_size (by repeat (first | (with_reducible first | exact HB.out | apply below_alloc | apply pw_below_drewN | apply below_drew1 | refine below_set ?_ GE244.out) | exact HB.out)))); (case aL => have := LMc16.out; omega); intro v253 w19 ho hb hg hat; rw [← Ny252.out] at ho; have n0_ := Aside0.mk (blk_grown (g := gb244) (o := .cells #[.string a0_0, .string a0_1, .slice (some ad250) l0_2.length c0_2] 29 (0, 0)) (by (with_reducible repeat (first | refine blk_drewN ?_ _ | refine blk_drew ?_ | refine blk_alloc ?_ _)); exact BK244.out) hg (Kd.R_ne HO_3.out BK244.out (by decide))); have n1_ := Aside0.mk (hb); have n2_ := Aside0.mk (ho); clear BK244; clear HB; clear HO_3; have BK244 := n0_; have HB := n1_; have HO254 := n2_; clear n0_ n1_ n2_; clear ho hb hg hat))
                  go_loopg [3, 5] k1 (fun kq v3 v5 w' => ∃ (x3_2 : List ByteArray) (x5_2 : Int), v5 = .int .i64 x5_2 ∧ Aside0 (colloquyref20_Lines.l1 kq x3_2 x4_1 x5_2 a0_0 a0_1 l0_2 = some r) ∧ Aside0 (kq ≤ k1) ∧ Aside0 (Kd.R Kd.string 9 w' w.heap.size (fun _ => True) v3 x3_2) ∧ Aside0 (w'.heap[gb244]? = some (.cells #[.string a0_0, .string a0_1, (.slice (some ad250) l0_2.length c0_2)] 29 (0, 0))) ∧ Aside0 (Below w.heap.size w w'))
                  case atStart => exact ⟨(y252), (0), (by first | rfl | (simp; done) | (simp [*]; done)), H', ⟨Nat.le_refl _⟩, ⟨by (with_reducible repeat (first | apply Kd.R_alloc | apply Kd.R_drewN | apply Kd.R_drew)); exact HO254.out⟩, ⟨by (with_reducible repeat (first | refine blk_drewN ?_ _ | refine blk_drew ?_ | refine blk_alloc ?_ _)); exact BK244.out⟩, ⟨by repeat (first | (with_reducible first | exact HB.out | apply below_alloc | apply pw_below_drewN | apply below_drew1 | refine below_set ?_ GE244.out) | exact HB.out)⟩⟩
                  case round =>
                    clear H'
                    try clear c1
                    try clear c2
                    try clear p2
                    try clear q2
                    try clear hx2
                    try clear c3
                    try clear c3b0
                    try clear c3b1
                    try clear c3b2
                    try clear c4
                    try clear c5
                    try clear c5b0
                    try clear c5b1
                    try clear c5b2
                    try clear c12
                    try clear c12b0
                    try clear c13
                    try clear c13b0
                    try clear c15
                    try clear c15b0
                    try clear c15b1
                    try clear c15b2
                    try clear c16
                    try clear hcz17_0
                    try clear hcz17_1
                    try clear hcz17_2
                    try clear hfz17_0
                    try clear hfz17_1
                    try clear hfz17_2
                    try clear hx250_0
                    try clear hx250_1
                    try clear p2
                    try clear p250
                    try clear q250
                    obtain ⟨x3_2, x5_2, rfl, HA, HK2, HO_3, BK244, HB⟩ := hrel
                    cases gk with
                    | zero => exact absurd HA.out (by simp [colloquyref20_Lines.l1])
                    | succ k2 =>
                      have H := HA.out
                      clear HA
                      simp only [colloquyref20_Lines.l1] at H
                      by_cases c20 : 0 ≤ x4_1
                      · rw [if_pos c20] at H
                        have c20b0 : decide (0 ≤ x4_1) = true := decide_eq_true c20
                        clear c20
                        by_cases c21 : x4_1 < (l0_2.length : Int)
                        · rw [if_pos c21] at H
                          have c21b0 : decide (x4_1 < (l0_2.length : Int)) = true := decide_eq_true c21
                          clear c21
                          by_cases c22 : x5_2 < (((rd_T53 l0_2 x4_1).f1).length : Int)
                          · rw [if_pos c22] at H
                            have c22b0 : decide (x5_2 < (((rd_T53 l0_2 x4_1).f1).length : Int)) = true := decide_eq_true c22
                            clear c22
                            by_cases c23 : 0 ≤ x5_2
                            · rw [if_pos c23] at H
                              have c23b0 : decide (0 ≤ x5_2) = true := decide_eq_true c23
                              clear c23
                              replace H := Option.bind_eq_some_iff.mp H
                              obtain ⟨t259, A240, H⟩ := H
                              replace H : (if t259.size + 2 ≤ 9223372036854775807 then ((colloquyref02_Write.f k2 ((rd_T49 ((rd_T53 l0_2 x4_1).f1) x5_2).f0)).bind fun t260 => (if (t259 ++ (⟨#[58, 32]⟩ : ByteArray)).size + t260.size ≤ 9223372036854775807 then (if x3_2.length < 8796093022208 then (colloquyref20_Lines.l1 k2 (x3_2 ++ [(t259 ++ (⟨#[58, 32]⟩ : ByteArray)) ++ t260]) x4_1 (wrap64 (x5_2 + 1)) a0_0 a0_1 l0_2) else (none)) else (none))) else (none)) = some r := H
                              have A24 := Aside0.mk A240
                              clear A240
                              by_cases c25 : t259.size + 2 ≤ 9223372036854775807
                              · rw [if_pos c25] at H
                                have c25b0 := eq_true c25
                                have c25b1 : decide (t259.size + 2 ≤ 9223372036854775807) = true := decide_eq_true c25
                                try have c25b2 : (9223372036854775807 < t259.size + 2) = False := eq_false (Nat.not_lt.2 c25)
                                try (have c25b3 := c25; simp only [ByteArray.size_append] at c25b3; replace c25b3 := eq_false (Nat.not_lt.2 c25b3))
                                replace H := Option.bind_eq_some_iff.mp H
                                obtain ⟨t260, A260, H⟩ := H
                                replace H : (if (t259 ++ (⟨#[58, 32]⟩ : ByteArray)).size + t260.size ≤ 9223372036854775807 then (if x3_2.length < 8796093022208 then (colloquyref20_Lines.l1 k2 (x3_2 ++ [(t259 ++ (⟨#[58, 32]⟩ : ByteArray)) ++ t260]) x4_1 (wrap64 (x5_2 + 1)) a0_0 a0_1 l0_2) else (none)) else (none)) = some r := H
                                have A26 := Aside0.mk A260
                                clear A260
                                by_cases c27 : (t259 ++ (⟨#[58, 32]⟩ : ByteArray)).size + t260.size ≤ 9223372036854775807
                                · rw [if_pos c27] at H
                                  have c27b0 := eq_true c27
                                  have c27b1 : decide ((t259 ++ (⟨#[58, 32]⟩ : ByteArray)).size + t260.size ≤ 9223372036854775807) = true := decide_eq_true c27
                                  try have c27b2 : (9223372036854775807 < (t259 ++ (⟨#[58, 32]⟩ : ByteArray)).size + t260.size) = False := eq_false (Nat.not_lt.2 c27)
                                  try (have c27b3 := c27; simp only [ByteArray.size_append, show (⟨#[58, 32]⟩ : ByteArray).size = 2 from rfl] at c27b3; replace c27b3 := eq_false (Nat.not_lt.2 c27b3))
                                  by_cases c28 : x3_2.length < 8796093022208
                                  · rw [if_pos c28] at H
                                    have LMc28 := Aside0.mk c28
                                    clear c28
                                    obtain ⟨y261, hy261⟩ : ∃ y_ : List ByteArray, y_ = (x3_2 ++ [(t259 ++ (⟨#[58, 32]⟩ : ByteArray)) ++ t260]) := ⟨_, rfl⟩
                                    replace H : (colloquyref20_Lines.l1 k2 y261 x4_1 (wrap64 (x5_2 + 1)) a0_0 a0_1 l0_2) = some r := by first | (rw [hy261]; with_reducible exact H) | (have H2_ := (Option.bind_some _ _).symm.trans H; rw [hy261]; with_reducible exact H2_) | (have H2_ := (Option.bind_some _ _).symm.trans H; with_reducible exact H2_) | with_reducible exact H | (rw [hy261]; exact H) | exact H
                                    have Ny261 := Aside0.mk hy261
                                    clear hy261
                                    have H' := Aside0.mk H
                                    clear H
                                    have hcz29_0 : wr.cell? ⟨gb244, 0, none⟩ = some (.string a0_0) := (blk_cell BK244.out 0).trans rfl
                                    have hcz29_1 : wr.cell? ⟨gb244, 1, none⟩ = some (.string a0_1) := (blk_cell BK244.out 1).trans rfl
                                    have hcz29_2 : wr.cell? ⟨gb244, 2, none⟩ = some (.slice (some ad250) l0_2.length c0_2) := (blk_cell BK244.out 2).trans rfl
                                    have hfz29_0 := blk_frozen BK244.out 0
                                    have hfz29_1 := blk_frozen BK244.out 1
                                    have hfz29_2 := blk_frozen BK244.out 2
                                    have p255 : 0 ≤ (x4_1 : Int) := of_decide_eq_true (by first | (with_reducible assumption) | assumption)
                                    have q255 : x4_1 < (l0_2.length : Int) := of_decide_eq_true (by first | (with_reducible assumption) | assumption)
                                    obtain ⟨ad255, A255_1, c255_1, e255, hx255_0, hx255_1, hl255_1, hi255_1⟩ := at_T53 HR0_2.out x4_1 p255 q255
                                    obtain rfl : ad250 = ad255 := (by injection e255)
                                    replace hx255_0 := (HB.out.cell (World.block_lt_of_cell? w _ hx255_0)).trans hx255_0
                                    replace hx255_1 := (HB.out.cell (World.block_lt_of_cell? w _ hx255_1)).trans hx255_1
                                    have HR255_1 := Aside0.mk hi255_1
                                    have HC255_1 := Aside0.mk hl255_1
                                    clear hi255_1 hl255_1
                                    replace p255 := eq_true p255
                                    replace q255 := eq_true q255
                                    have p256 : 0 ≤ (x4_1 : Int) := of_decide_eq_true (by first | (with_reducible assumption) | assumption)
                                    have q256 : x4_1 < (l0_2.length : Int) := of_decide_eq_true (by first | (with_reducible assumption) | assumption)
                                    obtain ⟨ad256, A256_1, c256_1, e256, hx256_0, hx256_1, hl256_1, hi256_1⟩ := at_T53 HR0_2.out x4_1 p256 q256
                                    obtain rfl : ad250 = ad256 := (by injection e256)
                                    replace hx256_0 := (HB.out.cell (World.block_lt_of_cell? w _ hx256_0)).trans hx256_0
                                    replace hx256_1 := (HB.out.cell (World.block_lt_of_cell? w _ hx256_1)).trans hx256_1
                                    have HR256_1 := Aside0.mk hi256_1
                                    have HC256_1 := Aside0.mk hl256_1
                                    clear hi256_1 hl256_1
                                    replace p256 := eq_true p256
                                    replace q256 := eq_true q256
                                    have ea_ := Option.some.inj (hx255_1.symm.trans hx256_1)
                                    injection ea_ with ea_ en_ ec_
                                    subst ea_
                                    subst ec_
                                    clear en_
                                    have p257 : 0 ≤ (x5_2 : Int) := of_decide_eq_true (by first | (with_reducible assumption) | assumption)
                                    have q257 : x5_2 < (((rd_T53 l0_2 x4_1).f1).length : Int) := of_decide_eq_true (by first | (with_reducible assumption) | assumption)
                                    obtain ⟨ad257, e257, hx257_0, hx257_1⟩ := at_T49 HR256_1.out x5_2 p257 q257
                                    cases e257
                                    replace hx257_0 := (HB.out.cell (World.block_lt_of_cell? w _ hx257_0)).trans hx257_0
                                    replace hx257_1 := (HB.out.cell (World.block_lt_of_cell? w _ hx257_1)).trans hx257_1
                                    replace p257 := eq_true p257
                                    replace q257 := eq_true q257
                                    try go_wp2_with (first | ((with_reducible refine gate_dst (N := 6) rfl ?_); refine box_event ?hg (N := 6) ?hd (cs := #[.string (⟨#[]⟩ : ByteArray), .int .i64 0]) (t := 49) ?hr ?_; (case hd => rfl); (case hg => rfl); (case hr => first | (go_simp; done) | (go_simp; rfl)); intro gb258 hg w30 hbox hb; have n0_ := Aside0.mk (Kd.R_below (by (with_reducible repeat (first | apply Kd.R_alloc | apply Kd.R_drewN | apply Kd.R_drew)); exact HO_3.out) hb); have n1_ := Aside0.mk (blk_below (g := gb244) (o := .cells #[.string a0_0, .string a0_1, .slice (some ad250) l0_2.length c0_2] 29 (0, 0)) (by (with_reducible repeat (first | refine blk_drewN ?_ _ | refine blk_drew ?_ | refine blk_alloc ?_ _)); exact BK244.out) hb); have n2_ := Aside0.mk (below_step (by repeat (first | (with_reducible first | exact HB.out | apply below_alloc | apply pw_below_drewN | apply below_drew1 | refine below_set ?_ GE244.out) | exact HB.out)) hb); have n3_ := Aside0.mk (hbox); have n4_ := Aside0.mk ((by rw [hg]; exact (below_size (by repeat (first | (with_reducible first | exact HB.out | apply below_alloc | apply pw_below_drewN | apply below_drew1 | refine below_set ?_ GE244.out) | exact HB.out))) : w.heap.size ≤ gb258)); have n5_ := Aside0.mk ((by rw [hg]; exact (below_size (by repeat (first | (with_reducible first | exact HB.out | apply below_alloc | apply pw_below_drewN | apply below_drew1 | refine below_set ?_ GE244.out) | exact HB.out))) : w.heap.size ≤ gb258)); have n6_ := Aside0.mk ((by rw [hg]; exact Nat.ne_of_lt (blk_lt (g := gb244) (o := .cells #[.string a0_0, .string a0_1, .slice (some ad250) l0_2.length c0_2] 29 (0, 0)) (by (with_reducible repeat (first | refine blk_drewN ?_ _ | refine blk_drew ?_ | refine blk_alloc ?_ _)); exact BK244.out)) : gb244 ≠ gb258)); have n7_ := Aside0.mk ((by rw [hg]; exact Nat.ne_of_gt (blk_lt (g := gb244) (o := .cells #[.string a0_0, .string a0_1, .slice (some ad250) l0_2.length c0_2] 29 (0, 0)) (by (with_reducible repeat (first | refine blk_drewN ?_ _ | refine blk_drew ?_ | refine blk_alloc ?_ _)); exact BK244.out)) : gb258 ≠ gb244)); clear HO_3; clear BK244; clear HB; have HO_3 := n0_; have BK244 := n1_; have HB := n2_; have BK258 := n3_; have GW258 := n4_; have GE258 := n5_; have NB244_258 := n6_; have NB258_244 := n7_; clear n0_ n1_ n2_ n3_ n4_ n5_ n6_ n7_; clear hb hbox hg; have hnb31 := NB258_244.out; have hnc31 := NB244_258.out; have hcz32_0 : w30.cell? ⟨gb258, 0, none⟩ = some (.string (⟨#[]⟩ : ByteArray)) := (blk_cell BK258.out 0).trans rfl; have hcz32_1 : w30.cell? ⟨gb258, 1, none⟩ = some (.int .i64 0) := (blk_cell BK258.out 1).trans rfl; have hfz32_0 := blk_frozen BK258.out 0; have hfz32_1 := blk_frozen BK258.out 1))
                                    have n0_ : Aside0 (Kd.R Kd.string 9 ((w30.setCell ⟨gb258, 0, none⟩ (.string ((rd_T49 ((rd_T53 l0_2 x4_1).f1) x5_2).f0))).setCell ⟨gb258, 1, none⟩ (.int .i64 ((rd_T49 ((rd_T53 l0_2 x4_1).f1) x5_2).f1))) w.heap.size (fun _ => True) u3 x3_2) := ⟨by (with_reducible repeat (first | apply Kd.R_alloc | apply Kd.R_drewN | apply Kd.R_drew)); exact Kd.R_mono (Kd.R_far (p := ⟨gb258, 1, none⟩) (Kd.R_far (p := ⟨gb258, 0, none⟩) (Kd.R_types HO_3.out BK258.out (by decide)) (fun _ hk => hk.2) (.string ((rd_T49 ((rd_T53 l0_2 x4_1).f1) x5_2).f0))) (fun _ hk => hk.2) (.int .i64 ((rd_T49 ((rd_T53 l0_2 x4_1).f1) x5_2).f1))) (fun _ hk => trivial)⟩
                                    have n1_ : Aside0 (((w30.setCell ⟨gb258, 0, none⟩ (.string ((rd_T49 ((rd_T53 l0_2 x4_1).f1) x5_2).f0))).setCell ⟨gb258, 1, none⟩ (.int .i64 ((rd_T49 ((rd_T53 l0_2 x4_1).f1) x5_2).f1))).heap[gb244]? = some (.cells #[.string a0_0, .string a0_1, .slice (some ad250) l0_2.length c0_2] 29 (0, 0))) := ⟨by (with_reducible repeat (first | refine blk_drewN ?_ _ | refine blk_drew ?_ | refine blk_alloc ?_ _)); refine blk_far ?_ NB244_258.out _; (with_reducible repeat (first | refine blk_drewN ?_ _ | refine blk_drew ?_ | refine blk_alloc ?_ _)); refine blk_far ?_ NB244_258.out _; (with_reducible repeat (first | refine blk_drewN ?_ _ | refine blk_drew ?_ | refine blk_alloc ?_ _)); exact BK244.out⟩
                                    have n2_ : Aside0 (((w30.setCell ⟨gb258, 0, none⟩ (.string ((rd_T49 ((rd_T53 l0_2 x4_1).f1) x5_2).f0))).setCell ⟨gb258, 1, none⟩ (.int .i64 ((rd_T49 ((rd_T53 l0_2 x4_1).f1) x5_2).f1))).heap[gb258]? = some (.cells #[.string ((rd_T49 ((rd_T53 l0_2 x4_1).f1) x5_2).f0), .int .i64 ((rd_T49 ((rd_T53 l0_2 x4_1).f1) x5_2).f1)] 49 (0, 0))) := ⟨by (with_reducible repeat (first | refine blk_drewN ?_ _ | refine blk_drew ?_ | refine blk_alloc ?_ _)); refine blk_put (cs := #[.string ((rd_T49 ((rd_T53 l0_2 x4_1).f1) x5_2).f0), .int .i64 0]) ?_ 1 _ rfl; (with_reducible repeat (first | refine blk_drewN ?_ _ | refine blk_drew ?_ | refine blk_alloc ?_ _)); refine blk_put (cs := #[.string (⟨#[]⟩ : ByteArray), .int .i64 0]) ?_ 0 _ rfl; (with_reducible repeat (first | refine blk_drewN ?_ _ | refine blk_drew ?_ | refine blk_alloc ?_ _)); exact BK258.out⟩
                                    have n3_ : Aside0 (Below w.heap.size w ((w30.setCell ⟨gb258, 0, none⟩ (.string ((rd_T49 ((rd_T53 l0_2 x4_1).f1) x5_2).f0))).setCell ⟨gb258, 1, none⟩ (.int .i64 ((rd_T49 ((rd_T53 l0_2 x4_1).f1) x5_2).f1)))) := ⟨by repeat (first | (with_reducible first | exact HB.out | apply below_alloc | apply pw_below_drewN | apply below_drew1 | refine below_set ?_ GE244.out | refine below_set ?_ GE258.out) | exact HB.out)⟩
                                    (try clear HO_3)
                                    (try clear BK244)
                                    (try clear BK258)
                                    (try clear HB)
                                    generalize ((w30.setCell ⟨gb258, 0, none⟩ (.string ((rd_T49 ((rd_T53 l0_2 x4_1).f1) x5_2).f0))).setCell ⟨gb258, 1, none⟩ (.int .i64 ((rd_T49 ((rd_T53 l0_2 x4_1).f1) x5_2).f1))) = w33 at n0_ n1_ n2_ n3_ ⊢
                                    have HO_3 := n0_
                                    have BK244 := n1_
                                    have BK258 := n2_
                                    have HB := n3_
                                    clear n0_ n1_ n2_ n3_
                                    have n0_ := Aside0.mk (Kd.R_drew HO_3.out)
                                    have n1_ := Aside0.mk (blk_drew BK244.out)
                                    have n2_ := Aside0.mk (blk_drew BK258.out)
                                    have n3_ := Aside0.mk (below_drew1 HB.out)
                                    clear HO_3
                                    clear BK244
                                    clear BK258
                                    clear HB
                                    have HO_3 := n0_
                                    have BK244 := n1_
                                    have BK258 := n2_
                                    have HB := n3_
                                    clear n0_ n1_ n2_ n3_
                                    refine start_ (n := 12) (S := fun w' => w'.cell? ⟨gb258, 0, none⟩ = some (.string ((rd_T49 ((rd_T53 l0_2 x4_1).f1) x5_2).f0)) ∧ w'.cell? ⟨gb258, 1, none⟩ = some (.int .i64 ((rd_T49 ((rd_T53 l0_2 x4_1).f1) x5_2).f1))) (ds := []) #[false, false, false, false, false, false, false, false, false, false, false, false] (by kernel_rfl) rfl rfl ⟨(blk_cell BK258.out 0).trans rfl, (blk_cell BK258.out 1).trans rfl⟩ (fun hHeld => ?_); refine with_tabW colloquyref20_Lines.tab10 colloquyref20_Lines.bits10 (fun HT_ HW_ => ?_)
                                    generalize w33.drew = w34 at HO_3 BK244 BK258 HB hHeld ⊢
                                    refine pure_ (i := 0) (N := some 55) (v := ?_) (a' := ?_) #[true, false, false, false, false, false, false, false, false, false, false, false] rfl rfl (any_of HT_.out (by kernel_rfl)) (fun _ _ _ h => h) (Or.inl ⟨by rfl, ?_⟩) ?_ ?_
                                    rotate_left
                                    · intro w'
                                      go_simp
                                      with_reducible rfl
                                    rotate_left
                                    · simp only [Act.put, List.setIfInBounds_toArray, List.set_cons_zero, List.set_cons_succ, i64_w, i32_w]
                                      rfl
                                    refine pure_ (i := 1) (N := some 56) (v := ?_) (a' := ?_) #[true, true, false, false, false, false, false, false, false, false, false, false] rfl rfl (any_of HT_.out (by kernel_rfl)) (fun _ _ _ h => h) (Or.inl ⟨by rfl, ?_⟩) ?_ ?_
                                    rotate_left
                                    · intro w'
                                      go_simp
                                      with_reducible rfl
                                    rotate_left
                                    · simp only [Act.put, List.setIfInBounds_toArray, List.set_cons_zero, List.set_cons_succ, i64_w, i32_w]
                                      rfl
                                    refine pure_ (i := 5) (N := some 60) (v := ?_) (a' := ?_) #[true, true, false, false, false, true, false, false, false, false, false, false] rfl rfl (any_of HT_.out (by kernel_rfl)) (fun _ _ _ h => h) (Or.inl ⟨by rfl, ?_⟩) ?_ ?_
                                    rotate_left
                                    · intro w'
                                      go_simp
                                      with_reducible rfl
                                    rotate_left
                                    · simp only [Act.put, List.setIfInBounds_toArray, List.set_cons_zero, List.set_cons_succ, i64_w, i32_w]
                                      rfl
                                    refine take_ (i := 2) (N := some 57) (v := ?_) (a' := ?_) #[true, true, true, false, false, true, false, false, false, false, false, false] rfl rfl (take_ofW HT_.out HW_.out (by kernel_rfl)) (fun _ _ _ h => h) (Or.inl ⟨by rfl, ?_⟩) hHeld ?_ ?_
                                    rotate_left
                                    · rintro w' ⟨s0, s1⟩
                                      go_simp
                                      with_reducible rfl
                                    rotate_left
                                    · simp only [Act.put, List.setIfInBounds_toArray, List.set_cons_zero, List.set_cons_succ, i64_w, i32_w]
                                      rfl
                                    refine take_ (i := 6) (N := some 61) (v := ?_) (a' := ?_) #[true, true, true, false, false, true, true, false, false, false, false, false] rfl rfl (take_ofW HT_.out HW_.out (by kernel_rfl)) (fun _ _ _ h => h) (Or.inl ⟨by rfl, ?_⟩) hHeld ?_ ?_
                                    rotate_left
                                    · rintro w' ⟨s0, s1⟩
                                      go_simp
                                      with_reducible rfl
                                    rotate_left
                                    · simp only [Act.put, List.setIfInBounds_toArray, List.set_cons_zero, List.set_cons_succ, i64_w, i32_w]
                                      rfl
                                    refine one_ (i := 3) (N := some 58) #[true, true, true, true, false, true, true, false, false, false, false, false] rfl rfl (one_of HT_.out (by kernel_rfl)) (by decide) (fun K hK => ?_)
                                    refine goes_ Tryd.func45 (by kernel_rfl) rfl #[.int .i64 ((rd_T49 ((rd_T53 l0_2 x4_1).f1) x5_2).f1)] (by rfl) rfl rfl (by (try simp only [List.map_toArray, List.map_cons, List.map_nil]); first | done | rfl | (simp only [List.length_drop, List.length_take]; rfl)) ?_
                                    with_reducible refine (colloquyref18_Text.calls ((rd_T49 ((rd_T53 l0_2 x4_1).f1) x5_2).f1) t259 _ A24.out).mono ?_
                                    rintro e w' ⟨rfl, ⟨nd, rfl⟩⟩
                                    refine ⟨_, rfl, ?_⟩
                                    refine hK.out _ _ ⟨(blk_cell BK258.out 0).trans rfl, (blk_cell BK258.out 1).trans rfl⟩ (fun hHeld => ?_)
                                    clear hK K
                                    refine norm_ (a' := ?_) ?_ ?_
                                    rotate_left
                                    · show Act.put _ (some 58) _ = _
                                      simp only [Act.put, List.setIfInBounds_toArray, List.set_cons_zero, List.set_cons_succ, i64_w, i32_w]
                                      rfl
                                    refine pure_ (i := 4) (N := some 59) (v := ?_) (a' := ?_) #[true, true, true, true, true, true, true, false, false, false, false, false] rfl rfl (any_of HT_.out (by kernel_rfl)) (fun _ _ _ h => h) (Or.inl ⟨by rfl, ?_⟩) ?_ ?_
                                    rotate_left
                                    · intro w'
                                      go_simp
                                      with_reducible rfl
                                    rotate_left
                                    · simp only [Act.put, List.setIfInBounds_toArray, List.set_cons_zero, List.set_cons_succ, i64_w, i32_w]
                                      rfl
                                    refine one_ (i := 7) (N := some 62) #[true, true, true, true, true, true, true, true, false, false, false, false] rfl rfl (one_of HT_.out (by kernel_rfl)) (by decide) (fun K hK => ?_)
                                    refine goes_ Tryd.func44 (by kernel_rfl) rfl #[.string ((rd_T49 ((rd_T53 l0_2 x4_1).f1) x5_2).f0)] (by rfl) rfl rfl (by (try simp only [List.map_toArray, List.map_cons, List.map_nil]); first | done | rfl | (simp only [List.length_drop, List.length_take]; rfl)) ?_
                                    with_reducible refine (colloquyref02_Write.calls k2 ((rd_T49 ((rd_T53 l0_2 x4_1).f1) x5_2).f0) t260 _ A26.out).mono ?_
                                    rintro e w35 ⟨rfl, hb⟩
                                    refine ⟨_, rfl, ?_⟩
                                    have n0_ := Aside0.mk (Kd.R_below (by (with_reducible repeat (first | apply Kd.R_alloc | apply Kd.R_drewN | apply Kd.R_drew)); exact HO_3.out) hb)
                                    have n1_ := Aside0.mk (blk_below (g := gb244) (o := .cells #[.string a0_0, .string a0_1, .slice (some ad250) l0_2.length c0_2] 29 (0, 0)) (by (with_reducible repeat (first | refine blk_drewN ?_ _ | refine blk_drew ?_ | refine blk_alloc ?_ _)); exact BK244.out) hb)
                                    have n2_ := Aside0.mk (blk_below (g := gb258) (o := .cells #[.string ((rd_T49 ((rd_T53 l0_2 x4_1).f1) x5_2).f0), .int .i64 ((rd_T49 ((rd_T53 l0_2 x4_1).f1) x5_2).f1)] 49 (0, 0)) (by (with_reducible repeat (first | refine blk_drewN ?_ _ | refine blk_drew ?_ | refine blk_alloc ?_ _)); exact BK258.out) hb)
                                    have n3_ := Aside0.mk (below_step (by repeat (first | (with_reducible first | exact HB.out | apply below_alloc | apply pw_below_drewN | apply below_drew1 | refine below_set ?_ GE244.out | refine below_set ?_ GE258.out) | exact HB.out)) hb)
                                    clear HO_3
                                    clear BK244
                                    clear BK258
                                    clear HB
                                    have HO_3 := n0_
                                    have BK244 := n1_
                                    have BK258 := n2_
                                    have HB := n3_
                                    clear n0_ n1_ n2_ n3_
                                    (try clear hb)
                                    (try clear hb2)
                                    (try clear hk)
                                    (try clear hi)
                                    refine hK.out _ _ ⟨(blk_cell BK258.out 0).trans rfl, (blk_cell BK258.out 1).trans rfl⟩ (fun hHeld => ?_)
                                    clear hK K
                                    refine norm_ (a' := ?_) ?_ ?_
                                    rotate_left
                                    · show Act.put _ (some 62) _ = _
                                      simp only [Act.put, List.setIfInBounds_toArray, List.set_cons_zero, List.set_cons_succ, i64_w, i32_w]
                                      rfl
                                    refine pure_ (i := 8) (N := some 63) (v := ?_) (a' := ?_) #[true, true, true, true, true, true, true, true, true, false, false, false] rfl rfl (any_of HT_.out (by kernel_rfl)) (fun _ _ _ h => h) (Or.inl ⟨by rfl, ?_⟩) ?_ ?_
                                    rotate_left
                                    · intro w'
                                      go_simp
                                      with_reducible rfl
                                    rotate_left
                                    · simp only [Act.put, List.setIfInBounds_toArray, List.set_cons_zero, List.set_cons_succ, i64_w, i32_w]
                                      rfl
                                    refine one_ (i := 9) (N := some 64) #[true, true, true, true, true, true, true, true, true, true, false, false] rfl rfl (one_of HT_.out (by kernel_rfl)) (by decide) (fun K hK => ?_)
                                    refine value_ (w1 := ?_) (v := ?_) (by rfl) rfl ?_ ?_
                                    rotate_left 2
                                    · go_simp
                                      constructor
                                      · rfl
                                      · rfl
                                    refine hK.out _ _ ⟨(blk_cell (blk_alloc BK258.out _) 0).trans rfl, (blk_cell (blk_alloc BK258.out _) 1).trans rfl⟩ (fun hHeld => ?_)
                                    clear hK K
                                    refine norm_ (a' := ?_) ?_ ?_
                                    rotate_left
                                    · show Act.put _ (some 64) _ = _
                                      simp only [Act.put, List.setIfInBounds_toArray, List.set_cons_zero, List.set_cons_succ, i64_w, i32_w]
                                      rfl
                                    refine one_ (i := 10) (N := some 65) #[true, true, true, true, true, true, true, true, true, true, true, false] rfl rfl (one_of HT_.out (by kernel_rfl)) (by decide) (fun K hK => ?_)
                                    refine Kd.R_append_step Kd.string (w0 := w) w.heap.size (by rfl) (.tmp 55) (.tmp 64) 58 9 (.string ⟨#[]⟩) 16 rfl Tryd.underlying58 info9 rfl (by decide) (by omega) u3 x3_2 ((t259 ++ (⟨#[58, 32]⟩ : ByteArray)) ++ t260) [.string ((t259 ++ (⟨#[58, 32]⟩ : ByteArray)) ++ t260)] (fun _ => True) (fun _ => False) rfl rfl ?aP (fun _ hk => hk.elim) ?aF ?aO ?aB ?aS ?aL ?_
                                    (case aP => exact rfl)
                                    (case aB => exact (by repeat (first | (with_reducible first | exact HB.out | apply below_alloc | apply pw_below_drewN | apply below_drew1 | refine below_set ?_ GE244.out | refine below_set ?_ GE258.out) | exact HB.out)))
                                    (case aF => exact (fun _ _ => trivial))
                                    (case aO => exact (by (with_reducible repeat (first | apply Kd.R_alloc | apply Kd.R_drewN | apply Kd.R_drew)); exact HO_3.out))
                                    (case aS => exact (below_size (by repeat (first | (with_reducible first | exact HB.out | apply below_alloc | apply pw_below_drewN | apply below_drew1 | refine below_set ?_ GE244.out | refine below_set ?_ GE258.out) | exact HB.out))))
                                    (case aL => have := LMc28.out; omega)
                                    intro v262 w36 ho hb hg hat
                                    rw [← Ny261.out] at ho
                                    have n0_ := Aside0.mk (blk_grown (g := gb244) (o := .cells #[.string a0_0, .string a0_1, .slice (some ad250) l0_2.length c0_2] 29 (0, 0)) (by (with_reducible repeat (first | refine blk_drewN ?_ _ | refine blk_drew ?_ | refine blk_alloc ?_ _)); exact BK244.out) hg (Kd.R_ne HO_3.out BK244.out (by decide)))
                                    have n1_ := Aside0.mk (blk_grown (g := gb258) (o := .cells #[.string ((rd_T49 ((rd_T53 l0_2 x4_1).f1) x5_2).f0), .int .i64 ((rd_T49 ((rd_T53 l0_2 x4_1).f1) x5_2).f1)] 49 (0, 0)) (by (with_reducible repeat (first | refine blk_drewN ?_ _ | refine blk_drew ?_ | refine blk_alloc ?_ _)); exact BK258.out) hg (Kd.R_ne HO_3.out BK258.out (by decide)))
                                    have n2_ := Aside0.mk (hb)
                                    have n3_ := Aside0.mk (ho)
                                    clear BK244
                                    clear BK258
                                    clear HB
                                    clear HO_3
                                    have BK244 := n0_
                                    have BK258 := n1_
                                    have HB := n2_
                                    have HO263 := n3_
                                    clear n0_ n1_ n2_ n3_
                                    clear ho hb hg hat
                                    refine hK.out _ _ ⟨(blk_cell BK258.out 0).trans rfl, (blk_cell BK258.out 1).trans rfl⟩ (fun hHeld => ?_)
                                    clear hK K
                                    refine norm_ (a' := ?_) ?_ ?_
                                    rotate_left
                                    · show Act.put _ (some 65) _ = _
                                      simp only [Act.put, List.setIfInBounds_toArray, List.set_cons_zero, List.set_cons_succ, i64_w, i32_w]
                                      rfl
                                    refine pure_ (i := 11) (N := some 3) (v := ?_) (a' := ?_) #[true, true, true, true, true, true, true, true, true, true, true, true] rfl rfl (any_of HT_.out (by kernel_rfl)) (fun _ _ _ h => h) (Or.inl ⟨by rfl, ?_⟩) ?_ ?_
                                    rotate_left
                                    · intro w'
                                      go_simp
                                      with_reducible rfl
                                    rotate_left
                                    · simp only [Act.put, List.setIfInBounds_toArray, List.set_cons_zero, List.set_cons_succ, i64_w, i32_w]
                                      rfl
                                    refine done_ (done_of HT_.out (by kernel_rfl)) ?_
                                    try go_wp2
                                    go_roundg k2
                                    case measure => have := HK1.out; have := HK2.out; omega
                                    case rel => exact ⟨(y261), (wrap64 (x5_2 + 1)), (by first | rfl | (simp; done) | (simp [*]; done)), H', ⟨by have := HK1.out; have := HK2.out; omega⟩, ⟨by (with_reducible repeat (first | apply Kd.R_alloc | apply Kd.R_drewN | apply Kd.R_drew)); exact HO263.out⟩, ⟨by (with_reducible repeat (first | refine blk_drewN ?_ _ | refine blk_drew ?_ | refine blk_alloc ?_ _)); exact BK244.out⟩, ⟨by repeat (first | (with_reducible first | exact HB.out | apply below_alloc | apply pw_below_drewN | apply below_drew1 | refine below_set ?_ GE244.out | refine below_set ?_ GE258.out) | exact HB.out)⟩⟩
                                  · rw [if_neg c28] at H
                                    exact absurd H (by simp)
                                · rw [if_neg c27] at H
                                  exact absurd H (by simp)
                              · rw [if_neg c25] at H
                                exact absurd H (by simp)
                            · rw [if_neg c23] at H
                              exact absurd H (by simp)
                          · rw [if_neg c22] at H
                            have c22b0 : decide (x5_2 < (((rd_T53 l0_2 x4_1).f1).length : Int)) = false := decide_eq_false c22
                            clear c22
                            have H' := Aside0.mk H
                            clear H
                            have hcz37_0 : wr.cell? ⟨gb244, 0, none⟩ = some (.string a0_0) := (blk_cell BK244.out 0).trans rfl
                            have hcz37_1 : wr.cell? ⟨gb244, 1, none⟩ = some (.string a0_1) := (blk_cell BK244.out 1).trans rfl
                            have hcz37_2 : wr.cell? ⟨gb244, 2, none⟩ = some (.slice (some ad250) l0_2.length c0_2) := (blk_cell BK244.out 2).trans rfl
                            have hfz37_0 := blk_frozen BK244.out 0
                            have hfz37_1 := blk_frozen BK244.out 1
                            have hfz37_2 := blk_frozen BK244.out 2
                            have p255 : 0 ≤ (x4_1 : Int) := of_decide_eq_true (by first | (with_reducible assumption) | assumption)
                            have q255 : x4_1 < (l0_2.length : Int) := of_decide_eq_true (by first | (with_reducible assumption) | assumption)
                            obtain ⟨ad255, A255_1, c255_1, e255, hx255_0, hx255_1, hl255_1, hi255_1⟩ := at_T53 HR0_2.out x4_1 p255 q255
                            obtain rfl : ad250 = ad255 := (by injection e255)
                            replace hx255_0 := (HB.out.cell (World.block_lt_of_cell? w _ hx255_0)).trans hx255_0
                            replace hx255_1 := (HB.out.cell (World.block_lt_of_cell? w _ hx255_1)).trans hx255_1
                            have HR255_1 := Aside0.mk hi255_1
                            have HC255_1 := Aside0.mk hl255_1
                            clear hi255_1 hl255_1
                            replace p255 := eq_true p255
                            replace q255 := eq_true q255
                            go_wp2
                            go_roundg k2
                            case measure => have := HK1.out; have := HK2.out; omega
                            case rel => exact ⟨(x3_2), (wrap64 (x4_1 + 1)), (by first | rfl | (simp; done) | (simp [*]; done)), H', ⟨by have := HK1.out; have := HK2.out; omega⟩, ⟨by (with_reducible repeat (first | apply Kd.R_alloc | apply Kd.R_drewN | apply Kd.R_drew)); exact HO_3.out⟩, ⟨by (with_reducible repeat (first | refine blk_drewN ?_ _ | refine blk_drew ?_ | refine blk_alloc ?_ _)); exact BK244.out⟩, ⟨by repeat (first | (with_reducible first | exact HB.out | apply below_alloc | apply pw_below_drewN | apply below_drew1 | refine below_set ?_ GE244.out) | exact HB.out)⟩⟩
                        · rw [if_neg c21] at H
                          exact absurd H (by simp)
                      · rw [if_neg c20] at H
                        exact absurd H (by simp)
                · rw [if_neg c16] at H
                  exact absurd H (by simp)
              · rw [if_neg c15] at H
                exact absurd H (by simp)
            · rw [if_neg c13] at H
              exact absurd H (by simp)
          · rw [if_neg c12] at H
            have c12b0 : decide (x4_1 < (l0_2.length : Int)) = false := decide_eq_false c12
            clear c12
            have H' := Aside0.mk H
            clear H
            have hcz38_0 : wr.cell? ⟨gb244, 0, none⟩ = some (.string a0_0) := (blk_cell BK244.out 0).trans rfl
            have hcz38_1 : wr.cell? ⟨gb244, 1, none⟩ = some (.string a0_1) := (blk_cell BK244.out 1).trans rfl
            have hcz38_2 : wr.cell? ⟨gb244, 2, none⟩ = some (.slice A0_2 l0_2.length c0_2) := (blk_cell BK244.out 2).trans rfl
            have hfz38_0 := blk_frozen BK244.out 0
            have hfz38_1 := blk_frozen BK244.out 1
            have hfz38_2 := blk_frozen BK244.out 2
            go_wp2
            go_loopg [3, 7] k1 (fun kq v3 v7 w' => ∃ (x3_2 : List ByteArray) (x7_2 : Int), v7 = .int .i64 x7_2 ∧ Aside0 (colloquyref20_Lines.l2 kq x3_2 x7_2 a0_0 a0_1 l0_2 = some r) ∧ Aside0 (kq ≤ k1) ∧ Aside0 (Kd.R Kd.string 9 w' w.heap.size (fun _ => True) v3 x3_2) ∧ Aside0 (w'.heap[gb244]? = some (.cells #[.string a0_0, .string a0_1, (.slice A0_2 l0_2.length c0_2)] 29 (0, 0))) ∧ Aside0 (Below w.heap.size w w'))
            case atStart => exact ⟨(x3_1), (1), (by first | rfl | (simp; done) | (simp [*]; done)), H', ⟨Nat.le_refl _⟩, ⟨by (with_reducible repeat (first | apply Kd.R_alloc | apply Kd.R_drewN | apply Kd.R_drew)); exact HO_3.out⟩, ⟨by (with_reducible repeat (first | refine blk_drewN ?_ _ | refine blk_drew ?_ | refine blk_alloc ?_ _)); exact BK244.out⟩, ⟨by repeat (first | (with_reducible first | exact HB.out | apply below_alloc | apply pw_below_drewN | apply below_drew1 | refine below_set ?_ GE244.out) | exact HB.out)⟩⟩
            case round =>
              clear H'
              try clear c1
              try clear c2
              try clear p2
              try clear q2
              try clear hx2
              try clear c3
              try clear c3b0
              try clear c3b1
              try clear c3b2
              try clear c4
              try clear c5
              try clear c5b0
              try clear c5b1
              try clear c5b2
              try clear p6
              try clear c12
              try clear c12b0
              try clear c13
              try clear c13b0
              try clear c15
              try clear c15b0
              try clear c15b1
              try clear c15b2
              try clear c16
              try clear c20
              try clear c20b0
              try clear c21
              try clear c21b0
              try clear c22
              try clear c22b0
              try clear c23
              try clear c23b0
              try clear c25
              try clear c25b0
              try clear c25b1
              try clear c25b2
              try clear p25
              try clear q25
              try clear hx25
              try clear c27
              try clear c27b0
              try clear c27b1
              try clear c27b2
              try clear c28
              try clear c29
              try clear c31
              try clear hcz17_0
              try clear hcz17_1
              try clear hcz17_2
              try clear hcz29_0
              try clear hcz29_1
              try clear hcz29_2
              try clear hcz32_0
              try clear hcz32_1
              try clear hcz37_0
              try clear hcz37_1
              try clear hcz37_2
              try clear hcz38_0
              try clear hcz38_1
              try clear hcz38_2
              try clear hfz17_0
              try clear hfz17_1
              try clear hfz17_2
              try clear hfz29_0
              try clear hfz29_1
              try clear hfz29_2
              try clear hfz32_0
              try clear hfz32_1
              try clear hfz37_0
              try clear hfz37_1
              try clear hfz37_2
              try clear hfz38_0
              try clear hfz38_1
              try clear hfz38_2
              try clear hx250_0
              try clear hx250_1
              try clear hx255_0
              try clear hx255_1
              try clear hx256_0
              try clear hx256_1
              try clear hx257_0
              try clear hx257_1
              try clear p2
              try clear p250
              try clear p255
              try clear p256
              try clear p257
              try clear q2
              try clear q250
              try clear q255
              try clear q256
              try clear q257
              obtain ⟨x3_2, x7_2, rfl, HA, HK2, HO_3, BK244, HB⟩ := hrel
              cases gk with
              | zero => exact absurd HA.out (by simp [colloquyref20_Lines.l2])
              | succ k2 =>
                have H := HA.out
                clear HA
                simp only [colloquyref20_Lines.l2] at H
                by_cases c39 : x7_2 ≤ 7
                · rw [if_pos c39] at H
                  have c39b0 : decide (x7_2 ≤ 7) = true := decide_eq_true c39
                  clear c39
                  replace H := Option.bind_eq_some_iff.mp H
                  obtain ⟨t267, A400, H⟩ := H
                  replace H : (if t267 > 0 then ((colloquyref18_Text.f x7_2).bind fun t268 => (if 2 + t268.size ≤ 9223372036854775807 then (if ((⟨#[35, 32]⟩ : ByteArray) ++ t268).size + 1 ≤ 9223372036854775807 then ((colloquyref20_Total.f k2 a0_0 a0_1 l0_2 x7_2).bind fun t269 => ((colloquyref01_Decimal.f k2 t269).bind fun t270 => (if (((⟨#[35, 32]⟩ : ByteArray) ++ t268) ++ (⟨#[32]⟩ : ByteArray)).size + t270.size ≤ 9223372036854775807 then (if x3_2.length < 8796093022208 then (colloquyref20_Lines.l2 k2 (x3_2 ++ [(((⟨#[35, 32]⟩ : ByteArray) ++ t268) ++ (⟨#[32]⟩ : ByteArray)) ++ t270]) (wrap64 (x7_2 + 1)) a0_0 a0_1 l0_2) else (none)) else (none)))) else (none)) else (none))) else (colloquyref20_Lines.l2 k2 x3_2 (wrap64 (x7_2 + 1)) a0_0 a0_1 l0_2)) = some r := H
                  have A40 := Aside0.mk A400
                  clear A400
                  by_cases c41 : t267 > 0
                  · rw [if_pos c41] at H
                    have c41b0 : decide (0 < t267) = true := decide_eq_true c41
                    clear c41
                    replace H := Option.bind_eq_some_iff.mp H
                    obtain ⟨t268, A420, H⟩ := H
                    replace H : (if 2 + t268.size ≤ 9223372036854775807 then (if ((⟨#[35, 32]⟩ : ByteArray) ++ t268).size + 1 ≤ 9223372036854775807 then ((colloquyref20_Total.f k2 a0_0 a0_1 l0_2 x7_2).bind fun t269 => ((colloquyref01_Decimal.f k2 t269).bind fun t270 => (if (((⟨#[35, 32]⟩ : ByteArray) ++ t268) ++ (⟨#[32]⟩ : ByteArray)).size + t270.size ≤ 9223372036854775807 then (if x3_2.length < 8796093022208 then (colloquyref20_Lines.l2 k2 (x3_2 ++ [(((⟨#[35, 32]⟩ : ByteArray) ++ t268) ++ (⟨#[32]⟩ : ByteArray)) ++ t270]) (wrap64 (x7_2 + 1)) a0_0 a0_1 l0_2) else (none)) else (none)))) else (none)) else (none)) = some r := H
                    have A42 := Aside0.mk A420
                    clear A420
                    by_cases c43 : 2 + t268.size ≤ 9223372036854775807
                    · rw [if_pos c43] at H
                      have c43b0 := eq_true c43
                      have c43b1 : decide (2 + t268.size ≤ 9223372036854775807) = true := decide_eq_true c43
                      try have c43b2 : (9223372036854775807 < 2 + t268.size) = False := eq_false (Nat.not_lt.2 c43)
                      try (have c43b3 := c43; simp only [ByteArray.size_append] at c43b3; replace c43b3 := eq_false (Nat.not_lt.2 c43b3))
                      by_cases c44 : ((⟨#[35, 32]⟩ : ByteArray) ++ t268).size + 1 ≤ 9223372036854775807
                      · rw [if_pos c44] at H
                        have c44b0 := eq_true c44
                        have c44b1 : decide (((⟨#[35, 32]⟩ : ByteArray) ++ t268).size + 1 ≤ 9223372036854775807) = true := decide_eq_true c44
                        try have c44b2 : (9223372036854775807 < ((⟨#[35, 32]⟩ : ByteArray) ++ t268).size + 1) = False := eq_false (Nat.not_lt.2 c44)
                        try (have c44b3 := c44; simp only [ByteArray.size_append, show (⟨#[35, 32]⟩ : ByteArray).size = 2 from rfl] at c44b3; replace c44b3 := eq_false (Nat.not_lt.2 c44b3))
                        replace H := Option.bind_eq_some_iff.mp H
                        obtain ⟨t269, A450, H⟩ := H
                        replace H : ((colloquyref01_Decimal.f k2 t269).bind fun t270 => (if (((⟨#[35, 32]⟩ : ByteArray) ++ t268) ++ (⟨#[32]⟩ : ByteArray)).size + t270.size ≤ 9223372036854775807 then (if x3_2.length < 8796093022208 then (colloquyref20_Lines.l2 k2 (x3_2 ++ [(((⟨#[35, 32]⟩ : ByteArray) ++ t268) ++ (⟨#[32]⟩ : ByteArray)) ++ t270]) (wrap64 (x7_2 + 1)) a0_0 a0_1 l0_2) else (none)) else (none))) = some r := H
                        have A45 := Aside0.mk A450
                        clear A450
                        obtain rfl : t269 = t267 := Option.some.inj (A45.out.symm.trans A40.out)
                        replace H := Option.bind_eq_some_iff.mp H
                        obtain ⟨t270, A460, H⟩ := H
                        replace H : (if (((⟨#[35, 32]⟩ : ByteArray) ++ t268) ++ (⟨#[32]⟩ : ByteArray)).size + t270.size ≤ 9223372036854775807 then (if x3_2.length < 8796093022208 then (colloquyref20_Lines.l2 k2 (x3_2 ++ [(((⟨#[35, 32]⟩ : ByteArray) ++ t268) ++ (⟨#[32]⟩ : ByteArray)) ++ t270]) (wrap64 (x7_2 + 1)) a0_0 a0_1 l0_2) else (none)) else (none)) = some r := H
                        have A46 := Aside0.mk A460
                        clear A460
                        by_cases c47 : (((⟨#[35, 32]⟩ : ByteArray) ++ t268) ++ (⟨#[32]⟩ : ByteArray)).size + t270.size ≤ 9223372036854775807
                        · rw [if_pos c47] at H
                          have c47b0 := eq_true c47
                          have c47b1 : decide ((((⟨#[35, 32]⟩ : ByteArray) ++ t268) ++ (⟨#[32]⟩ : ByteArray)).size + t270.size ≤ 9223372036854775807) = true := decide_eq_true c47
                          try have c47b2 : (9223372036854775807 < (((⟨#[35, 32]⟩ : ByteArray) ++ t268) ++ (⟨#[32]⟩ : ByteArray)).size + t270.size) = False := eq_false (Nat.not_lt.2 c47)
                          try (have c47b3 := c47; simp only [ByteArray.size_append, show (⟨#[32]⟩ : ByteArray).size = 1 from rfl, show (⟨#[35, 32]⟩ : ByteArray).size = 2 from rfl] at c47b3; replace c47b3 := eq_false (Nat.not_lt.2 c47b3))
                          by_cases c48 : x3_2.length < 8796093022208
                          · rw [if_pos c48] at H
                            have LMc48 := Aside0.mk c48
                            clear c48
                            obtain ⟨y271, hy271⟩ : ∃ y_ : List ByteArray, y_ = (x3_2 ++ [(((⟨#[35, 32]⟩ : ByteArray) ++ t268) ++ (⟨#[32]⟩ : ByteArray)) ++ t270]) := ⟨_, rfl⟩
                            replace H : (colloquyref20_Lines.l2 k2 y271 (wrap64 (x7_2 + 1)) a0_0 a0_1 l0_2) = some r := by first | (rw [hy271]; with_reducible exact H) | (have H2_ := (Option.bind_some _ _).symm.trans H; rw [hy271]; with_reducible exact H2_) | (have H2_ := (Option.bind_some _ _).symm.trans H; with_reducible exact H2_) | with_reducible exact H | (rw [hy271]; exact H) | exact H
                            have Ny271 := Aside0.mk hy271
                            clear hy271
                            have H' := Aside0.mk H
                            clear H
                            have hcz49_0 : wr.cell? ⟨gb244, 0, none⟩ = some (.string a0_0) := (blk_cell BK244.out 0).trans rfl
                            have hcz49_1 : wr.cell? ⟨gb244, 1, none⟩ = some (.string a0_1) := (blk_cell BK244.out 1).trans rfl
                            have hcz49_2 : wr.cell? ⟨gb244, 2, none⟩ = some (.slice A0_2 l0_2.length c0_2) := (blk_cell BK244.out 2).trans rfl
                            have hfz49_0 := blk_frozen BK244.out 0
                            have hfz49_1 := blk_frozen BK244.out 1
                            have hfz49_2 := blk_frozen BK244.out 2
                            try go_wp2_with (first | ((with_reducible refine gate_callee (f := 13) rfl ?_); refine goesL_ (some 72) rfl rfl Tryd.func13 (by kernel_rfl) rfl #[.agg #[.string a0_0, .string a0_1, .slice A0_2 l0_2.length c0_2], .int .i64 x7_2] rfl (by (try simp only [List.map_toArray, List.map_cons, List.map_nil]); first | done | rfl | (simp only [List.length_drop, List.length_take]; rfl)) ?_; (with_reducible refine (colloquyref20_Total.calls k2 a0_0 a0_1 _ _ l0_2 x7_2 t269 _ ?side1 ?side2 A40.out).mono ?_); (case side1 => repeat (first | exact (Kd.C_below HR0_2.out HB.out) | (with_reducible refine Kd.C_alloc ?_ _) | (with_reducible refine Kd.C_drewN ?_ _) | (with_reducible refine Kd.C_drew ?_))); (case side2 => exact HC0_2.out); rintro e w50 ⟨rfl, hb⟩; refine ⟨_, rfl, ?_⟩; have n0_ := Aside0.mk (Kd.R_below (by (with_reducible repeat (first | apply Kd.R_alloc | apply Kd.R_drewN | apply Kd.R_drew)); exact HO_3.out) hb); have n1_ := Aside0.mk (blk_below (g := gb244) (o := .cells #[.string a0_0, .string a0_1, .slice A0_2 l0_2.length c0_2] 29 (0, 0)) (by (with_reducible repeat (first | refine blk_drewN ?_ _ | refine blk_drew ?_ | refine blk_alloc ?_ _)); exact BK244.out) hb); have n2_ := Aside0.mk (below_step (by repeat (first | (with_reducible first | exact HB.out | apply below_alloc | apply pw_below_drewN | apply below_drew1 | refine below_set ?_ GE244.out) | exact HB.out)) hb); clear HO_3; clear BK244; clear HB; have HO_3 := n0_; have BK244 := n1_; have HB := n2_; clear n0_ n1_ n2_; (try clear hb); (try clear hb2); (try clear hk); (try clear hi)))
                            have n0_ := Aside0.mk (Kd.R_drew HO_3.out)
                            have n1_ := Aside0.mk (blk_drew BK244.out)
                            have n2_ := Aside0.mk (below_drew1 HB.out)
                            clear HO_3
                            clear BK244
                            clear HB
                            have HO_3 := n0_
                            have BK244 := n1_
                            have HB := n2_
                            clear n0_ n1_ n2_
                            refine start_ (n := 13) (S := fun w' => w'.cell? ⟨gb244, 0, none⟩ = some (.string a0_0) ∧ w'.cell? ⟨gb244, 1, none⟩ = some (.string a0_1) ∧ w'.cell? ⟨gb244, 2, none⟩ = some (.slice A0_2 l0_2.length c0_2)) (ds := []) #[false, false, false, false, false, false, false, false, false, false, false, false, false] (by kernel_rfl) rfl rfl ⟨(blk_cell BK244.out 0).trans rfl, (blk_cell BK244.out 1).trans rfl, (blk_cell BK244.out 2).trans rfl⟩ (fun hHeld => ?_); refine with_tabW colloquyref20_Lines.tab15 colloquyref20_Lines.bits15 (fun HT_ HW_ => ?_)
                            generalize w50.drew = w51 at HO_3 BK244 HB hHeld ⊢
                            refine pure_ (i := 0) (N := some 74) (v := ?_) (a' := ?_) #[true, false, false, false, false, false, false, false, false, false, false, false, false] rfl rfl (any_of HT_.out (by kernel_rfl)) (fun _ _ _ h => h) (Or.inl ⟨by rfl, ?_⟩) ?_ ?_
                            rotate_left
                            · intro w'
                              go_simp
                              with_reducible rfl
                            rotate_left
                            · simp only [Act.put, List.setIfInBounds_toArray, List.set_cons_zero, List.set_cons_succ, i64_w, i32_w]
                              rfl
                            refine pure_ (i := 1) (N := some 75) (v := ?_) (a' := ?_) #[true, true, false, false, false, false, false, false, false, false, false, false, false] rfl rfl (any_of HT_.out (by kernel_rfl)) (fun _ _ _ h => h) (Or.inl ⟨by rfl, ?_⟩) ?_ ?_
                            rotate_left
                            · intro w'
                              go_simp
                              with_reducible rfl
                            rotate_left
                            · simp only [Act.put, List.setIfInBounds_toArray, List.set_cons_zero, List.set_cons_succ, i64_w, i32_w]
                              rfl
                            refine pure_ (i := 6) (N := some 80) (v := ?_) (a' := ?_) #[true, true, false, false, false, false, true, false, false, false, false, false, false] rfl rfl (any_of HT_.out (by kernel_rfl)) (fun _ _ _ h => h) (Or.inl ⟨by rfl, ?_⟩) ?_ ?_
                            rotate_left
                            · intro w'
                              go_simp
                              with_reducible rfl
                            rotate_left
                            · simp only [Act.put, List.setIfInBounds_toArray, List.set_cons_zero, List.set_cons_succ, i64_w, i32_w]
                              rfl
                            refine take_ (i := 5) (N := some 79) (v := ?_) (a' := ?_) #[true, true, false, false, false, true, true, false, false, false, false, false, false] rfl rfl (take_ofW HT_.out HW_.out (by kernel_rfl)) (fun _ _ _ h => h) (Or.inl ⟨by rfl, ?_⟩) hHeld ?_ ?_
                            rotate_left
                            · rintro w' ⟨s0, s1, s2⟩
                              go_simp
                              with_reducible rfl
                            rotate_left
                            · simp only [Act.put, List.setIfInBounds_toArray, List.set_cons_zero, List.set_cons_succ, i64_w, i32_w]
                              rfl
                            refine one_ (i := 2) (N := some 76) #[true, true, true, false, false, true, true, false, false, false, false, false, false] rfl rfl (one_of HT_.out (by kernel_rfl)) (by decide) (fun K hK => ?_)
                            refine goes_ Tryd.func45 (by kernel_rfl) rfl #[.int .i64 x7_2] (by rfl) rfl rfl (by (try simp only [List.map_toArray, List.map_cons, List.map_nil]); first | done | rfl | (simp only [List.length_drop, List.length_take]; rfl)) ?_
                            with_reducible refine (colloquyref18_Text.calls x7_2 t268 _ A42.out).mono ?_
                            rintro e w' ⟨rfl, ⟨nd, rfl⟩⟩
                            refine ⟨_, rfl, ?_⟩
                            refine hK.out _ _ ⟨(blk_cell BK244.out 0).trans rfl, (blk_cell BK244.out 1).trans rfl, (blk_cell BK244.out 2).trans rfl⟩ (fun hHeld => ?_)
                            clear hK K
                            refine norm_ (a' := ?_) ?_ ?_
                            rotate_left
                            · show Act.put _ (some 76) _ = _
                              simp only [Act.put, List.setIfInBounds_toArray, List.set_cons_zero, List.set_cons_succ, i64_w, i32_w]
                              rfl
                            refine pure_ (i := 3) (N := some 77) (v := ?_) (a' := ?_) #[true, true, true, true, false, true, true, false, false, false, false, false, false] rfl rfl (any_of HT_.out (by kernel_rfl)) (fun _ _ _ h => h) (Or.inl ⟨by rfl, ?_⟩) ?_ ?_
                            rotate_left
                            · intro w'
                              go_simp
                              with_reducible rfl
                            rotate_left
                            · simp only [Act.put, List.setIfInBounds_toArray, List.set_cons_zero, List.set_cons_succ, i64_w, i32_w]
                              rfl
                            refine pure_ (i := 4) (N := some 78) (v := ?_) (a' := ?_) #[true, true, true, true, true, true, true, false, false, false, false, false, false] rfl rfl (any_of HT_.out (by kernel_rfl)) (fun _ _ _ h => h) (Or.inl ⟨by rfl, ?_⟩) ?_ ?_
                            rotate_left
                            · intro w'
                              go_simp
                              with_reducible rfl
                            rotate_left
                            · simp only [Act.put, List.setIfInBounds_toArray, List.set_cons_zero, List.set_cons_succ, i64_w, i32_w]
                              rfl
                            refine one_ (i := 7) (N := some 81) #[true, true, true, true, true, true, true, true, false, false, false, false, false] rfl rfl (one_of HT_.out (by kernel_rfl)) (by decide) (fun K hK => ?_)
                            refine goes_ Tryd.func13 (by kernel_rfl) rfl #[.agg #[.string a0_0, .string a0_1, .slice A0_2 l0_2.length c0_2], .int .i64 x7_2] (by rfl) rfl rfl (by (try simp only [List.map_toArray, List.map_cons, List.map_nil]); first | done | rfl | (simp only [List.length_drop, List.length_take]; rfl)) ?_
                            with_reducible refine (colloquyref20_Total.calls k2 a0_0 a0_1 _ _ l0_2 x7_2 t269 _ ?side1 ?side2 A45.out).mono ?_
                            (case side1 => repeat (first | exact (Kd.C_below HR0_2.out (by repeat (first | (with_reducible first | exact HB.out | apply below_alloc | apply pw_below_drewN | apply below_drew1 | refine below_set ?_ GE244.out) | exact HB.out))) | (with_reducible refine Kd.C_alloc ?_ _) | (with_reducible refine Kd.C_drewN ?_ _) | (with_reducible refine Kd.C_drew ?_)))
                            (case side2 => exact HC0_2.out)
                            rintro e w52 ⟨rfl, hb⟩
                            refine ⟨_, rfl, ?_⟩
                            have n0_ := Aside0.mk (Kd.R_below (by (with_reducible repeat (first | apply Kd.R_alloc | apply Kd.R_drewN | apply Kd.R_drew)); exact HO_3.out) hb)
                            have n1_ := Aside0.mk (blk_below (g := gb244) (o := .cells #[.string a0_0, .string a0_1, .slice A0_2 l0_2.length c0_2] 29 (0, 0)) (by (with_reducible repeat (first | refine blk_drewN ?_ _ | refine blk_drew ?_ | refine blk_alloc ?_ _)); exact BK244.out) hb)
                            have n2_ := Aside0.mk (below_step (by repeat (first | (with_reducible first | exact HB.out | apply below_alloc | apply pw_below_drewN | apply below_drew1 | refine below_set ?_ GE244.out) | exact HB.out)) hb)
                            clear HO_3
                            clear BK244
                            clear HB
                            have HO_3 := n0_
                            have BK244 := n1_
                            have HB := n2_
                            clear n0_ n1_ n2_
                            (try clear hb)
                            (try clear hb2)
                            (try clear hk)
                            (try clear hi)
                            refine hK.out _ _ ⟨(blk_cell BK244.out 0).trans rfl, (blk_cell BK244.out 1).trans rfl, (blk_cell BK244.out 2).trans rfl⟩ (fun hHeld => ?_)
                            clear hK K
                            refine norm_ (a' := ?_) ?_ ?_
                            rotate_left
                            · show Act.put _ (some 81) _ = _
                              simp only [Act.put, List.setIfInBounds_toArray, List.set_cons_zero, List.set_cons_succ, i64_w, i32_w]
                              rfl
                            refine one_ (i := 8) (N := some 82) #[true, true, true, true, true, true, true, true, true, false, false, false, false] rfl rfl (one_of HT_.out (by kernel_rfl)) (by decide) (fun K hK => ?_)
                            refine goes_ Tryd.func46 (by kernel_rfl) rfl #[.int .i64 t269] (by rfl) rfl rfl (by (try simp only [List.map_toArray, List.map_cons, List.map_nil]); first | done | rfl | (simp only [List.length_drop, List.length_take]; rfl)) ?_
                            with_reducible refine (colloquyref01_Decimal.calls k2 t269 t270 _ A46.out).mono ?_
                            rintro e w53 ⟨rfl, hb⟩
                            refine ⟨_, rfl, ?_⟩
                            have n0_ := Aside0.mk (Kd.R_below (by (with_reducible repeat (first | apply Kd.R_alloc | apply Kd.R_drewN | apply Kd.R_drew)); exact HO_3.out) hb)
                            have n1_ := Aside0.mk (blk_below (g := gb244) (o := .cells #[.string a0_0, .string a0_1, .slice A0_2 l0_2.length c0_2] 29 (0, 0)) (by (with_reducible repeat (first | refine blk_drewN ?_ _ | refine blk_drew ?_ | refine blk_alloc ?_ _)); exact BK244.out) hb)
                            have n2_ := Aside0.mk (below_step (by repeat (first | (with_reducible first | exact HB.out | apply below_alloc | apply pw_below_drewN | apply below_drew1 | refine below_set ?_ GE244.out) | exact HB.out)) hb)
                            clear HO_3
                            clear BK244
                            clear HB
                            have HO_3 := n0_
                            have BK244 := n1_
                            have HB := n2_
                            clear n0_ n1_ n2_
                            (try clear hb)
                            (try clear hb2)
                            (try clear hk)
                            (try clear hi)
                            refine hK.out _ _ ⟨(blk_cell BK244.out 0).trans rfl, (blk_cell BK244.out 1).trans rfl, (blk_cell BK244.out 2).trans rfl⟩ (fun hHeld => ?_)
                            clear hK K
                            refine norm_ (a' := ?_) ?_ ?_
                            rotate_left
                            · show Act.put _ (some 82) _ = _
                              simp only [Act.put, List.setIfInBounds_toArray, List.set_cons_zero, List.set_cons_succ, i64_w, i32_w]
                              rfl
                            refine pure_ (i := 9) (N := some 83) (v := ?_) (a' := ?_) #[true, true, true, true, true, true, true, true, true, true, false, false, false] rfl rfl (any_of HT_.out (by kernel_rfl)) (fun _ _ _ h => h) (Or.inl ⟨by rfl, ?_⟩) ?_ ?_
                            rotate_left
                            · intro w'
                              go_simp
                              with_reducible rfl
                            rotate_left
                            · simp only [Act.put, List.setIfInBounds_toArray, List.set_cons_zero, List.set_cons_succ, i64_w, i32_w]
                              rfl
                            refine one_ (i := 10) (N := some 84) #[true, true, true, true, true, true, true, true, true, true, true, false, false] rfl rfl (one_of HT_.out (by kernel_rfl)) (by decide) (fun K hK => ?_)
                            refine value_ (w1 := ?_) (v := ?_) (by rfl) rfl ?_ ?_
                            rotate_left 2
                            · go_simp
                              constructor
                              · rfl
                              · rfl
                            refine hK.out _ _ ⟨(blk_cell (blk_alloc BK244.out _) 0).trans rfl, (blk_cell (blk_alloc BK244.out _) 1).trans rfl, (blk_cell (blk_alloc BK244.out _) 2).trans rfl⟩ (fun hHeld => ?_)
                            clear hK K
                            refine norm_ (a' := ?_) ?_ ?_
                            rotate_left
                            · show Act.put _ (some 84) _ = _
                              simp only [Act.put, List.setIfInBounds_toArray, List.set_cons_zero, List.set_cons_succ, i64_w, i32_w]
                              rfl
                            refine one_ (i := 11) (N := some 85) #[true, true, true, true, true, true, true, true, true, true, true, true, false] rfl rfl (one_of HT_.out (by kernel_rfl)) (by decide) (fun K hK => ?_)
                            refine Kd.R_append_step Kd.string (w0 := w) w.heap.size (by rfl) (.tmp 74) (.tmp 84) 58 9 (.string ⟨#[]⟩) 16 rfl Tryd.underlying58 info9 rfl (by decide) (by omega) u3 x3_2 ((((⟨#[35, 32]⟩ : ByteArray) ++ t268) ++ (⟨#[32]⟩ : ByteArray)) ++ t270) [.string ((((⟨#[35, 32]⟩ : ByteArray) ++ t268) ++ (⟨#[32]⟩ : ByteArray)) ++ t270)] (fun _ => True) (fun _ => False) rfl rfl ?aP (fun _ hk => hk.elim) ?aF ?aO ?aB ?aS ?aL ?_
                            (case aP => exact rfl)
                            (case aB => exact (by repeat (first | (with_reducible first | exact HB.out | apply below_alloc | apply pw_below_drewN | apply below_drew1 | refine below_set ?_ GE244.out) | exact HB.out)))
                            (case aF => exact (fun _ _ => trivial))
                            (case aO => exact (by (with_reducible repeat (first | apply Kd.R_alloc | apply Kd.R_drewN | apply Kd.R_drew)); exact HO_3.out))
                            (case aS => exact (below_size (by repeat (first | (with_reducible first | exact HB.out | apply below_alloc | apply pw_below_drewN | apply below_drew1 | refine below_set ?_ GE244.out) | exact HB.out))))
                            (case aL => have := LMc48.out; omega)
                            intro v272 w54 ho hb hg hat
                            rw [← Ny271.out] at ho
                            have n0_ := Aside0.mk (blk_grown (g := gb244) (o := .cells #[.string a0_0, .string a0_1, .slice A0_2 l0_2.length c0_2] 29 (0, 0)) (by (with_reducible repeat (first | refine blk_drewN ?_ _ | refine blk_drew ?_ | refine blk_alloc ?_ _)); exact BK244.out) hg (Kd.R_ne HO_3.out BK244.out (by decide)))
                            have n1_ := Aside0.mk (hb)
                            have n2_ := Aside0.mk (ho)
                            clear BK244
                            clear HB
                            clear HO_3
                            have BK244 := n0_
                            have HB := n1_
                            have HO273 := n2_
                            clear n0_ n1_ n2_
                            clear ho hb hg hat
                            refine hK.out _ _ ⟨(blk_cell BK244.out 0).trans rfl, (blk_cell BK244.out 1).trans rfl, (blk_cell BK244.out 2).trans rfl⟩ (fun hHeld => ?_)
                            clear hK K
                            refine norm_ (a' := ?_) ?_ ?_
                            rotate_left
                            · show Act.put _ (some 85) _ = _
                              simp only [Act.put, List.setIfInBounds_toArray, List.set_cons_zero, List.set_cons_succ, i64_w, i32_w]
                              rfl
                            refine pure_ (i := 12) (N := some 3) (v := ?_) (a' := ?_) #[true, true, true, true, true, true, true, true, true, true, true, true, true] rfl rfl (any_of HT_.out (by kernel_rfl)) (fun _ _ _ h => h) (Or.inl ⟨by rfl, ?_⟩) ?_ ?_
                            rotate_left
                            · intro w'
                              go_simp
                              with_reducible rfl
                            rotate_left
                            · simp only [Act.put, List.setIfInBounds_toArray, List.set_cons_zero, List.set_cons_succ, i64_w, i32_w]
                              rfl
                            refine done_ (done_of HT_.out (by kernel_rfl)) ?_
                            try go_wp2
                            go_roundg k2
                            case measure => have := HK1.out; have := HK2.out; omega
                            case rel => exact ⟨(y271), (wrap64 (x7_2 + 1)), (by first | rfl | (simp; done) | (simp [*]; done)), H', ⟨by have := HK1.out; have := HK2.out; omega⟩, ⟨by (with_reducible repeat (first | apply Kd.R_alloc | apply Kd.R_drewN | apply Kd.R_drew)); exact HO273.out⟩, ⟨by (with_reducible repeat (first | refine blk_drewN ?_ _ | refine blk_drew ?_ | refine blk_alloc ?_ _)); exact BK244.out⟩, ⟨by repeat (first | (with_reducible first | exact HB.out | apply below_alloc | apply pw_below_drewN | apply below_drew1 | refine below_set ?_ GE244.out) | exact HB.out)⟩⟩
                          · rw [if_neg c48] at H
                            exact absurd H (by simp)
                        · rw [if_neg c47] at H
                          exact absurd H (by simp)
                      · rw [if_neg c44] at H
                        exact absurd H (by simp)
                    · rw [if_neg c43] at H
                      exact absurd H (by simp)
                  · rw [if_neg c41] at H
                    have c41b0 : decide (0 < t267) = false := decide_eq_false c41
                    clear c41
                    have H' := Aside0.mk H
                    clear H
                    have hcz55_0 : wr.cell? ⟨gb244, 0, none⟩ = some (.string a0_0) := (blk_cell BK244.out 0).trans rfl
                    have hcz55_1 : wr.cell? ⟨gb244, 1, none⟩ = some (.string a0_1) := (blk_cell BK244.out 1).trans rfl
                    have hcz55_2 : wr.cell? ⟨gb244, 2, none⟩ = some (.slice A0_2 l0_2.length c0_2) := (blk_cell BK244.out 2).trans rfl
                    have hfz55_0 := blk_frozen BK244.out 0
                    have hfz55_1 := blk_frozen BK244.out 1
                    have hfz55_2 := blk_frozen BK244.out 2
                    go_wp2_with (first | ((with_reducible refine gate_callee (f := 13) rfl ?_); refine goesL_ (some 72) rfl rfl Tryd.func13 (by kernel_rfl) rfl #[.agg #[.string a0_0, .string a0_1, .slice A0_2 l0_2.length c0_2], .int .i64 x7_2] rfl (by (try simp only [List.map_toArray, List.map_cons, List.map_nil]); first | done | rfl | (simp only [List.length_drop, List.length_take]; rfl)) ?_; (with_reducible refine (colloquyref20_Total.calls k2 a0_0 a0_1 _ _ l0_2 x7_2 t267 _ ?side1 ?side2 A40.out).mono ?_); (case side1 => repeat (first | exact (Kd.C_below HR0_2.out HB.out) | (with_reducible refine Kd.C_alloc ?_ _) | (with_reducible refine Kd.C_drewN ?_ _) | (with_reducible refine Kd.C_drew ?_))); (case side2 => exact HC0_2.out); rintro e w56 ⟨rfl, hb⟩; refine ⟨_, rfl, ?_⟩; have n0_ := Aside0.mk (Kd.R_below (by (with_reducible repeat (first | apply Kd.R_alloc | apply Kd.R_drewN | apply Kd.R_drew)); exact HO_3.out) hb); have n1_ := Aside0.mk (blk_below (g := gb244) (o := .cells #[.string a0_0, .string a0_1, .slice A0_2 l0_2.length c0_2] 29 (0, 0)) (by (with_reducible repeat (first | refine blk_drewN ?_ _ | refine blk_drew ?_ | refine blk_alloc ?_ _)); exact BK244.out) hb); have n2_ := Aside0.mk (below_step (by repeat (first | (with_reducible first | exact HB.out | apply below_alloc | apply pw_below_drewN | apply below_drew1 | refine below_set ?_ GE244.out) | exact HB.out)) hb); clear HO_3; clear BK244; clear HB; have HO_3 := n0_; have BK244 := n1_; have HB := n2_; clear n0_ n1_ n2_; (try clear hb); (try clear hb2); (try clear hk); (try clear hi)))
                    go_roundg k2
                    case measure => have := HK1.out; have := HK2.out; omega
                    case rel => exact ⟨(x3_2), (wrap64 (x7_2 + 1)), (by first | rfl | (simp; done) | (simp [*]; done)), H', ⟨by have := HK1.out; have := HK2.out; omega⟩, ⟨by (with_reducible repeat (first | apply Kd.R_alloc | apply Kd.R_drewN | apply Kd.R_drew)); exact HO_3.out⟩, ⟨by (with_reducible repeat (first | refine blk_drewN ?_ _ | refine blk_drew ?_ | refine blk_alloc ?_ _)); exact BK244.out⟩, ⟨by repeat (first | (with_reducible first | exact HB.out | apply below_alloc | apply pw_below_drewN | apply below_drew1 | refine below_set ?_ GE244.out) | exact HB.out)⟩⟩
                · rw [if_neg c39] at H
                  have c39b0 : decide (x7_2 ≤ 7) = false := decide_eq_false c39
                  clear c39
                  by_cases c57 : x3_2.length < 8796093022208
                  · rw [if_pos c57] at H
                    have LMc57 := Aside0.mk c57
                    clear c57
                    obtain ⟨y264, hy264⟩ : ∃ y_ : List ByteArray, y_ = (x3_2 ++ [(⟨#[35, 32, 101, 110, 100]⟩ : ByteArray)]) := ⟨_, rfl⟩
                    replace H : (some y264) = some r := by first | (rw [hy264]; with_reducible exact H) | (have H2_ := (Option.bind_some _ _).symm.trans H; rw [hy264]; with_reducible exact H2_) | (have H2_ := (Option.bind_some _ _).symm.trans H; with_reducible exact H2_) | with_reducible exact H | (rw [hy264]; exact H) | exact H
                    have Ny264 := Aside0.mk hy264
                    clear hy264
                    obtain rfl := Option.some.inj H
                    go_wp2_with (first | ((with_reducible refine gate_builtin (b := .append) (xs := #[.tmp 86, .tmp 87]) rfl ?_); at_builtin; refine Kd.R_append Kd.string (w0 := w) w.heap.size rfl (.tmp 86) (.tmp 87) 58 9 (.string ⟨#[]⟩) 16 rfl Tryd.underlying58 info9 rfl (by decide) (by omega) u3 x3_2 (⟨#[35, 32, 101, 110, 100]⟩ : ByteArray) [.string (⟨#[35, 32, 101, 110, 100]⟩ : ByteArray)] (fun _ => True) (fun _ => False) rfl rfl ?aP (fun _ hk => hk.elim) ?aF ?aO ?aB ?aS ?aL ?_; (case aP => exact rfl); (case aB => exact (by repeat (first | (with_reducible first | exact HB.out | apply below_alloc | apply pw_below_drewN | apply below_drew1 | refine below_set ?_ GE244.out) | exact HB.out))); (case aF => exact (fun _ _ => trivial)); (case aO => exact (by (with_reducible repeat (first | apply Kd.R_alloc | apply Kd.R_drewN | apply Kd.R_drew)); exact HO_3.out)); (case aS => exact (below_size (by repeat (first | (with_reducible first | exact HB.out | apply below_alloc | apply pw_below_drewN | apply below_drew1 | refine below_set ?_ GE244.out) | exact HB.out)))); (case aL => have := LMc57.out; omega); intro v265 w58 ho hb hg hat; rw [← Ny264.out] at ho; have n0_ := Aside0.mk (blk_grown (g := gb244) (o := .cells #[.string a0_0, .string a0_1, .slice A0_2 l0_2.length c0_2] 29 (0, 0)) (by (with_reducible repeat (first | refine blk_drewN ?_ _ | refine blk_drew ?_ | refine blk_alloc ?_ _)); exact BK244.out) hg (Kd.R_ne HO_3.out BK244.out (by decide))); have n1_ := Aside0.mk (hb); have n2_ := Aside0.mk (ho); clear BK244; clear HB; clear HO_3; have BK244 := n0_; have HB := n1_; have HO266 := n2_; clear n0_ n1_ n2_; clear ho hb hg hat))
                    go_ret
                    exact ⟨_, by first | rfl | (simp [errW_none, errW_some] <;> rfl) | (simp [*, errW_none, errW_some] <;> rfl), by (with_reducible repeat (first | apply Kd.R_alloc | apply Kd.R_drewN | apply Kd.R_drew)); exact HO266.out, by repeat (first | (with_reducible first | exact HB.out | apply below_alloc | apply pw_below_drewN | apply below_drew1 | refine below_set ?_ GE244.out) | exact HB.out)⟩
                  · rw [if_neg c57] at H
                    exact absurd H (by simp)
    · rw [if_neg c5] at H
      exact absurd H (by simp)
  · rw [if_neg c3] at H
    exact absurd H (by simp)
end
section
attribute [local go_sem] max2_int min2_int max_two min_two max_three min_three max_four min_four   -- for this text's walks alone
def colloquyref20_Text.l0 : Nat → ByteArray → List ByteArray → Int → Option (ByteArray)
  | 0, _, _, _ => none
  | k + 1, x3, x4, x5 => if x5 < (x4.length : Int) then (if 0 ≤ x5 then (if x3.size + (rdOf ByteArray.empty x4 x5).size ≤ 9223372036854775807 then (if (x3 ++ (rdOf ByteArray.empty x4 x5)).size + 1 ≤ 9223372036854775807 then (colloquyref20_Text.l0 k ((x3 ++ (rdOf ByteArray.empty x4 x5)) ++ (⟨#[10]⟩ : ByteArray)) x4 (wrap64 (x5 + 1))) else (none)) else (none)) else (none)) else (some x3)
def colloquyref20_Text.f (k : Nat) (a0_0 : ByteArray) (a0_1 : ByteArray) (l0_2 : List (S53)) : Option (ByteArray) := (colloquyref20_Right.f k a0_0 a0_1 l0_2).bind fun t275 => (if t275 = true then ((colloquyref20_Lines.f k a0_0 a0_1 l0_2).bind fun t276 => (colloquyref20_Text.l0 k (⟨#[]⟩ : ByteArray) t276 0)) else (some (⟨#[]⟩ : ByteArray)))
theorem colloquyref20_Text.mono_l : ∀ k, (∀ y0 y1 y2, LeO (colloquyref20_Text.l0 k y0 y1 y2) (colloquyref20_Text.l0 (k + 1) y0 y1 y2))
  | 0 => fun _ _ _ r h => by simp [colloquyref20_Text.l0] at h
  | k + 1 => by
    have ih0 := colloquyref20_Text.mono_l k
    · intro y0 y1 y2
      unfold colloquyref20_Text.l0
      repeat' first
      | (with_reducible exact ih0 _ _ _)
      | (with_reducible exact colloquyref20_Lines.mono _ _ _ _)
      | (with_reducible exact colloquyref20_Right.mono _ _ _ _)
      | (with_reducible exact LeO.refl _)
      | (with_reducible exact LeO.none _)
      | (with_reducible refine LeO.ite ?_ ?_)
      | (with_reducible refine LeO.bind ?_ (fun _ => ?_))
      | exact ih0 _ _ _
      | exact colloquyref20_Lines.mono _ _ _ _
      | exact colloquyref20_Right.mono _ _ _ _
      | exact LeO.none _
      | refine LeO.ite ?_ ?_
      | refine LeO.bind ?_ (fun _ => ?_)
theorem colloquyref20_Text.mono : ∀ a0 a1 a2 k, LeO (colloquyref20_Text.f k a0 a1 a2) (colloquyref20_Text.f (k + 1) a0 a1 a2) := by
  intro a0 a1 a2 k
  have ih0 := colloquyref20_Text.mono_l k
  unfold colloquyref20_Text.f
  repeat' first
      | (with_reducible exact ih0 _ _ _)
      | (with_reducible exact colloquyref20_Lines.mono _ _ _ _)
      | (with_reducible exact colloquyref20_Right.mono _ _ _ _)
      | (with_reducible exact LeO.refl _)
      | (with_reducible exact LeO.none _)
      | (with_reducible refine LeO.ite ?_ ?_)
      | (with_reducible refine LeO.bind ?_ (fun _ => ?_))
      | exact ih0 _ _ _
      | exact colloquyref20_Lines.mono _ _ _ _
      | exact colloquyref20_Right.mono _ _ _ _
      | exact LeO.none _
      | refine LeO.ite ?_ ?_
      | refine LeO.bind ?_ (fun _ => ?_)
theorem colloquyref20_Text.calls (k : Nat) (a0_0 : ByteArray) (a0_1 : ByteArray) (A0_2 : Option Addr) (c0_2 : Nat) (l0_2 : List (S53)) (r : ByteArray) (w : World) (hr0_2 : Kd.C k53 w A0_2 l0_2.length l0_2) (hc0_2 : l0_2.length ≤ c0_2) (h : colloquyref20_Text.f k a0_0 a0_1 l0_2 = some r) :
    Calls Tryd.prog 17 #[.agg #[.string a0_0, .string a0_1, .slice A0_2 l0_2.length c0_2]] w fun e w' => e = .returned (.string r) ∧ Below w.heap.size w w' := by
  have hu29 := Tryd.underlying29
  have HR0_2 := Aside0.mk hr0_2
  have HC0_2 := Aside0.mk hc0_2
  clear hr0_2 hc0_2
  have HB := Aside0.mk (Below.refl w.heap.size w)
  have H : ((colloquyref20_Right.f k a0_0 a0_1 l0_2).bind fun t275 => (if t275 = true then ((colloquyref20_Lines.f k a0_0 a0_1 l0_2).bind fun t276 => (colloquyref20_Text.l0 k (⟨#[]⟩ : ByteArray) t276 0)) else (some (⟨#[]⟩ : ByteArray)))) = some r := h
  clear h
  replace H := Option.bind_eq_some_iff.mp H
  obtain ⟨t275, A20, H⟩ := H
  replace H : (if t275 = true then ((colloquyref20_Lines.f k a0_0 a0_1 l0_2).bind fun t276 => (colloquyref20_Text.l0 k (⟨#[]⟩ : ByteArray) t276 0)) else (some (⟨#[]⟩ : ByteArray))) = some r := H
  have A2 := Aside0.mk A20
  clear A20
  by_cases c3 : t275 = true
  · subst c3
    have H1 : ((colloquyref20_Lines.f k a0_0 a0_1 l0_2).bind fun t276 => (colloquyref20_Text.l0 k (⟨#[]⟩ : ByteArray) t276 0)) = some r := by rw [if_pos rfl] at H; exact H
    clear H
    have H := H1
    clear H1
    replace H := Option.bind_eq_some_iff.mp H
    obtain ⟨t276, A40, H⟩ := H
    replace H : (colloquyref20_Text.l0 k (⟨#[]⟩ : ByteArray) t276 0) = some r := H
    have A4 := Aside0.mk A40
    clear A40
    have H' := Aside0.mk H
    clear H
    go_enter Tryd.func17, Tryd.ntmps17
    go_wp2_with (first | ((with_reducible refine gate_dst (N := 1) rfl ?_); refine box_event ?hg (N := 1) ?hd (cs := #[.string a0_0, .string a0_1, .slice A0_2 l0_2.length c0_2]) (t := 29) ?hr ?_; (case hd => rfl); (case hg => rfl); (case hr => first | (go_simp; done) | (go_simp; rfl)); intro gb274 hg w5 hbox hb; have n0_ := Aside0.mk (below_step (by repeat (first | (with_reducible first | exact HB.out | apply below_alloc | apply pw_below_drewN | apply below_drew1) | exact HB.out)) hb); have n1_ := Aside0.mk (hbox); have n2_ := Aside0.mk ((by rw [hg]; exact (below_size (by repeat (first | (with_reducible first | exact HB.out | apply below_alloc | apply pw_below_drewN | apply below_drew1) | exact HB.out))) : w.heap.size ≤ gb274)); have n3_ := Aside0.mk ((by rw [hg]; exact (below_size (by repeat (first | (with_reducible first | exact HB.out | apply below_alloc | apply pw_below_drewN | apply below_drew1) | exact HB.out))) : w.heap.size ≤ gb274)); clear HB; have HB := n0_; have BK274 := n1_; have GW274 := n2_; have GE274 := n3_; clear n0_ n1_ n2_ n3_; clear hb hbox hg; have hcz6_0 : w5.cell? ⟨gb274, 0, none⟩ = some (.string a0_0) := (blk_cell BK274.out 0).trans rfl; have hcz6_1 : w5.cell? ⟨gb274, 1, none⟩ = some (.string a0_1) := (blk_cell BK274.out 1).trans rfl; have hcz6_2 : w5.cell? ⟨gb274, 2, none⟩ = some (.slice A0_2 l0_2.length c0_2) := (blk_cell BK274.out 2).trans rfl; have hfz6_0 := blk_frozen BK274.out 0; have hfz6_1 := blk_frozen BK274.out 1; have hfz6_2 := blk_frozen BK274.out 2) | ((with_reducible refine gate_callee (f := 15) rfl ?_); refine goesL_ (some 7) rfl rfl Tryd.func15 (by kernel_rfl) rfl #[.agg #[.string a0_0, .string a0_1, .slice A0_2 l0_2.length c0_2]] rfl (by (try simp only [List.map_toArray, List.map_cons, List.map_nil]); first | done | rfl | (simp only [List.length_drop, List.length_take]; rfl)) ?_; (with_reducible refine (colloquyref20_Right.calls k a0_0 a0_1 _ _ l0_2 true _ ?side1 ?side2 A2.out).mono ?_); (case side1 => repeat (first | exact (Kd.C_below HR0_2.out HB.out) | (with_reducible refine Kd.C_alloc ?_ _) | (with_reducible refine Kd.C_drewN ?_ _) | (with_reducible refine Kd.C_drew ?_))); (case side2 => exact HC0_2.out); rintro e w7 ⟨rfl, hb⟩; refine ⟨_, rfl, ?_⟩; have n0_ := Aside0.mk (blk_below (g := gb274) (o := .cells #[.string a0_0, .string a0_1, .slice A0_2 l0_2.length c0_2] 29 (0, 0)) (by (with_reducible repeat (first | refine blk_drewN ?_ _ | refine blk_drew ?_ | refine blk_alloc ?_ _)); exact BK274.out) hb); have n1_ := Aside0.mk (below_step (by repeat (first | (with_reducible first | exact HB.out | apply below_alloc | apply pw_below_drewN | apply below_drew1 | refine below_set ?_ GE274.out) | exact HB.out)) hb); clear BK274; clear HB; have BK274 := n0_; have HB := n1_; clear n0_ n1_; (try clear hb); (try clear hb2); (try clear hk); (try clear hi); have hcz8_0 : w7.cell? ⟨gb274, 0, none⟩ = some (.string a0_0) := (blk_cell BK274.out 0).trans rfl; have hcz8_1 : w7.cell? ⟨gb274, 1, none⟩ = some (.string a0_1) := (blk_cell BK274.out 1).trans rfl; have hcz8_2 : w7.cell? ⟨gb274, 2, none⟩ = some (.slice A0_2 l0_2.length c0_2) := (blk_cell BK274.out 2).trans rfl; have hfz8_0 := blk_frozen BK274.out 0; have hfz8_1 := blk_frozen BK274.out 1; have hfz8_2 := blk_frozen BK274.out 2) | ((with_reducible refine gate_callee (f := 29) rfl ?_); refine goesL_ (some 10) rfl rfl Tryd.func29 (by kernel_rfl) rfl #[.agg #[.string a0_0, .string a0_1, .slice A0_2 l0_2.length c0_2]] rfl (by (try simp only [List.map_toArray, List.map_cons, List.map_nil]); first | done | rfl | (simp only [List.length_drop, List.length_take]; rfl)) ?_; (with_reducible refine (colloquyref20_Lines.calls k a0_0 a0_1 _ _ l0_2 t276 _ ?side1 ?side2 A4.out).mono ?_); (case side1 => repeat (first | exact (Kd.C_below HR0_2.out HB.out) | (with_reducible refine Kd.C_alloc ?_ _) | (with_reducible refine Kd.C_drewN ?_ _) | (with_reducible refine Kd.C_drew ?_))); (case side2 => exact HC0_2.out); rintro e w9 ⟨v277, rfl, ho0, hb⟩; refine ⟨_, rfl, ?_⟩; have n0_ := Aside0.mk (Kd.R_lower ho0 (below_size (by repeat (first | (with_reducible first | exact HB.out | apply below_alloc | apply pw_below_drewN | apply below_drew1 | refine below_set ?_ GE274.out) | exact HB.out)))); have n1_ := Aside0.mk (blk_below (g := gb274) (o := .cells #[.string a0_0, .string a0_1, .slice A0_2 l0_2.length c0_2] 29 (0, 0)) (by (with_reducible repeat (first | refine blk_drewN ?_ _ | refine blk_drew ?_ | refine blk_alloc ?_ _)); exact BK274.out) hb); have n2_ := Aside0.mk (below_step (by repeat (first | (with_reducible first | exact HB.out | apply below_alloc | apply pw_below_drewN | apply below_drew1 | refine below_set ?_ GE274.out) | exact HB.out)) hb); clear BK274; clear HB; have HO278 := n0_; have BK274 := n1_; have HB := n2_; clear n0_ n1_ n2_; (try clear hb); (try clear hb2); (try clear hk); (try clear hi); (try clear ho0)))
    go_loopg [3, 5] k (fun kq v3 v5 w' => ∃ (x3_1 : ByteArray) (x5_1 : Int), v3 = .string x3_1 ∧ v5 = .int .i64 x5_1 ∧ Aside0 (colloquyref20_Text.l0 kq x3_1 t276 x5_1 = some r) ∧ Aside0 (kq ≤ k) ∧ Aside0 (Kd.R Kd.string 9 w' w.heap.size (fun _ => True) v277 t276) ∧ Aside0 (w'.heap[gb274]? = some (.cells #[.string a0_0, .string a0_1, (.slice A0_2 l0_2.length c0_2)] 29 (0, 0))) ∧ Aside0 (Below w.heap.size w w'))
    case atStart => exact ⟨((⟨#[]⟩ : ByteArray)), (0), (by first | rfl | (simp; done) | (simp [*]; done)), (by first | rfl | (simp; done) | (simp [*]; done)), H', ⟨Nat.le_refl _⟩, ⟨by (with_reducible repeat (first | apply Kd.R_alloc | apply Kd.R_drewN | apply Kd.R_drew)); exact HO278.out⟩, ⟨by (with_reducible repeat (first | refine blk_drewN ?_ _ | refine blk_drew ?_ | refine blk_alloc ?_ _)); exact BK274.out⟩, ⟨by repeat (first | (with_reducible first | exact HB.out | apply below_alloc | apply pw_below_drewN | apply below_drew1 | refine below_set ?_ GE274.out) | exact HB.out)⟩⟩
    case round =>
      clear H'
      try clear c1
      try clear c2
      try clear p2
      try clear c3
      try clear hcz6_0
      try clear hcz6_1
      try clear hcz6_2
      try clear hcz8_0
      try clear hcz8_1
      try clear hcz8_2
      try clear hfz6_0
      try clear hfz6_1
      try clear hfz6_2
      try clear hfz8_0
      try clear hfz8_1
      try clear hfz8_2
      obtain ⟨x3_1, x5_1, rfl, rfl, HA, HK1, HO_4, BK274, HB⟩ := hrel
      cases gk with
      | zero => exact absurd HA.out (by simp [colloquyref20_Text.l0])
      | succ k1 =>
        have H := HA.out
        clear HA
        simp only [colloquyref20_Text.l0] at H
        by_cases c10 : x5_1 < (t276.length : Int)
        · rw [if_pos c10] at H
          have c10b0 : decide (x5_1 < (t276.length : Int)) = true := decide_eq_true c10
          clear c10
          by_cases c11 : 0 ≤ x5_1
          · rw [if_pos c11] at H
            have c11b0 : decide (0 ≤ x5_1) = true := decide_eq_true c11
            clear c11
            by_cases c12 : x3_1.size + (rdOf ByteArray.empty t276 x5_1).size ≤ 9223372036854775807
            · rw [if_pos c12] at H
              have c12b0 := eq_true c12
              have c12b1 : decide (x3_1.size + (rdOf ByteArray.empty t276 x5_1).size ≤ 9223372036854775807) = true := decide_eq_true c12
              try have c12b2 : (9223372036854775807 < x3_1.size + (rdOf ByteArray.empty t276 x5_1).size) = False := eq_false (Nat.not_lt.2 c12)
              try (have c12b3 := c12; simp only [ByteArray.size_append] at c12b3; replace c12b3 := eq_false (Nat.not_lt.2 c12b3))
              by_cases c13 : (x3_1 ++ (rdOf ByteArray.empty t276 x5_1)).size + 1 ≤ 9223372036854775807
              · rw [if_pos c13] at H
                have c13b0 := eq_true c13
                have c13b1 : decide ((x3_1 ++ (rdOf ByteArray.empty t276 x5_1)).size + 1 ≤ 9223372036854775807) = true := decide_eq_true c13
                try have c13b2 : (9223372036854775807 < (x3_1 ++ (rdOf ByteArray.empty t276 x5_1)).size + 1) = False := eq_false (Nat.not_lt.2 c13)
                try (have c13b3 := c13; simp only [ByteArray.size_append] at c13b3; replace c13b3 := eq_false (Nat.not_lt.2 c13b3))
                have H' := Aside0.mk H
                clear H
                obtain ⟨Ao14, co14, eo14⟩ := Kd.R_slice HO_4.out
                subst eo14
                have p279 : 0 ≤ (x5_1 : Int) := of_decide_eq_true (by first | (with_reducible assumption) | assumption)
                have q279 : x5_1 < (t276.length : Int) := of_decide_eq_true (by first | (with_reducible assumption) | assumption)
                obtain ⟨ad279, e279, hx279_0⟩ := Kd.at_string (Kd.R_reads' HO_4.out).2.2 x5_1 p279 q279
                cases e279
                replace p279 := eq_true p279
                replace q279 := eq_true q279
                go_wp2
                go_roundg k1
                case measure => have := HK1.out; omega
                case rel => exact ⟨((x3_1 ++ (rdOf ByteArray.empty t276 x5_1)) ++ (⟨#[10]⟩ : ByteArray)), (wrap64 (x5_1 + 1)), (by first | rfl | (simp; done) | (simp [*]; done)), (by first | rfl | (simp; done) | (simp [*]; done)), H', ⟨by have := HK1.out; omega⟩, ⟨by (with_reducible repeat (first | apply Kd.R_alloc | apply Kd.R_drewN | apply Kd.R_drew)); exact HO_4.out⟩, ⟨by (with_reducible repeat (first | refine blk_drewN ?_ _ | refine blk_drew ?_ | refine blk_alloc ?_ _)); exact BK274.out⟩, ⟨by repeat (first | (with_reducible first | exact HB.out | apply below_alloc | apply pw_below_drewN | apply below_drew1 | refine below_set ?_ GE274.out) | exact HB.out)⟩⟩
              · rw [if_neg c13] at H
                exact absurd H (by simp)
            · rw [if_neg c12] at H
              exact absurd H (by simp)
          · rw [if_neg c11] at H
            exact absurd H (by simp)
        · rw [if_neg c10] at H
          have c10b0 : decide (x5_1 < (t276.length : Int)) = false := decide_eq_false c10
          clear c10
          obtain rfl := Option.some.inj H
          obtain ⟨Ao15, co15, eo15⟩ := Kd.R_slice HO_4.out
          subst eo15
          go_wp2
          go_ret
          exact ⟨by first | rfl | (simp [errW_none, errW_some] <;> rfl) | (simp [*, errW_none, errW_some] <;> rfl), by repeat (first | (with_reducible first | exact HB.out | apply below_alloc | apply pw_below_drewN | apply below_drew1 | refine below_set ?_ GE274.out) | exact HB.out)⟩
  · replace c3 := Bool.eq_false_iff.mpr c3
    subst c3
    have H1 : (some (⟨#[]⟩ : ByteArray)) = some r := by rw [if_neg (show ¬ (false = true) by decide)] at H; exact H
    clear H
    have H := H1
    clear H1
    obtain rfl := Option.some.inj H
    go_enter Tryd.func17, Tryd.ntmps17
    go_wp2_with (first | ((with_reducible refine gate_dst (N := 1) rfl ?_); refine box_event ?hg (N := 1) ?hd (cs := #[.string a0_0, .string a0_1, .slice A0_2 l0_2.length c0_2]) (t := 29) ?hr ?_; (case hd => rfl); (case hg => rfl); (case hr => first | (go_simp; done) | (go_simp; rfl)); intro gb274 hg w16 hbox hb; have n0_ := Aside0.mk (below_step (by repeat (first | (with_reducible first | exact HB.out | apply below_alloc | apply pw_below_drewN | apply below_drew1) | exact HB.out)) hb); have n1_ := Aside0.mk (hbox); have n2_ := Aside0.mk ((by rw [hg]; exact (below_size (by repeat (first | (with_reducible first | exact HB.out | apply below_alloc | apply pw_below_drewN | apply below_drew1) | exact HB.out))) : w.heap.size ≤ gb274)); have n3_ := Aside0.mk ((by rw [hg]; exact (below_size (by repeat (first | (with_reducible first | exact HB.out | apply below_alloc | apply pw_below_drewN | apply below_drew1) | exact HB.out))) : w.heap.size ≤ gb274)); clear HB; have HB := n0_; have BK274 := n1_; have GW274 := n2_; have GE274 := n3_; clear n0_ n1_ n2_ n3_; clear hb hbox hg; have hcz17_0 : w16.cell? ⟨gb274, 0, none⟩ = some (.string a0_0) := (blk_cell BK274.out 0).trans rfl; have hcz17_1 : w16.cell? ⟨gb274, 1, none⟩ = some (.string a0_1) := (blk_cell BK274.out 1).trans rfl; have hcz17_2 : w16.cell? ⟨gb274, 2, none⟩ = some (.slice A0_2 l0_2.length c0_2) := (blk_cell BK274.out 2).trans rfl; have hfz17_0 := blk_frozen BK274.out 0; have hfz17_1 := blk_frozen BK274.out 1; have hfz17_2 := blk_frozen BK274.out 2) | ((with_reducible refine gate_callee (f := 15) rfl ?_); refine goesL_ (some 7) rfl rfl Tryd.func15 (by kernel_rfl) rfl #[.agg #[.string a0_0, .string a0_1, .slice A0_2 l0_2.length c0_2]] rfl (by (try simp only [List.map_toArray, List.map_cons, List.map_nil]); first | done | rfl | (simp only [List.length_drop, List.length_take]; rfl)) ?_; (with_reducible refine (colloquyref20_Right.calls k a0_0 a0_1 _ _ l0_2 false _ ?side1 ?side2 A2.out).mono ?_); (case side1 => repeat (first | exact (Kd.C_below HR0_2.out HB.out) | (with_reducible refine Kd.C_alloc ?_ _) | (with_reducible refine Kd.C_drewN ?_ _) | (with_reducible refine Kd.C_drew ?_))); (case side2 => exact HC0_2.out); rintro e w18 ⟨rfl, hb⟩; refine ⟨_, rfl, ?_⟩; have n0_ := Aside0.mk (blk_below (g := gb274) (o := .cells #[.string a0_0, .string a0_1, .slice A0_2 l0_2.length c0_2] 29 (0, 0)) (by (with_reducible repeat (first | refine blk_drewN ?_ _ | refine blk_drew ?_ | refine blk_alloc ?_ _)); exact BK274.out) hb); have n1_ := Aside0.mk (below_step (by repeat (first | (with_reducible first | exact HB.out | apply below_alloc | apply pw_below_drewN | apply below_drew1 | refine below_set ?_ GE274.out) | exact HB.out)) hb); clear BK274; clear HB; have BK274 := n0_; have HB := n1_; clear n0_ n1_; (try clear hb); (try clear hb2); (try clear hk); (try clear hi)))
    go_ret
    exact ⟨by first | rfl | (simp [errW_none, errW_some] <;> rfl) | (simp [*, errW_none, errW_some] <;> rfl), by repeat (first | (with_reducible first | exact HB.out | apply below_alloc | apply pw_below_drewN | apply below_drew1 | refine below_set ?_ GE274.out) | exact HB.out)⟩
end
abbrev QQ := S53
abbrev KQ := k53
def cv (p : PP) : QQ := ⟨p.f0, p.f1⟩
theorem rdP (pre suf : List PP) (p : PP) : rd_T46 (pre ++ p :: suf) (pre.length : Int) = p := by
  unfold rd_T46
  simp
theorem rdQ (pre suf : List PP) (p : PP) : rd_T53 ((pre ++ p :: suf).map cv) (pre.length : Int) = cv p := by
  unfold rd_T53
  simp
theorem rdR (pre suf : List RS) (p : RS) : rd_T49 (pre ++ p :: suf) (pre.length : Int) = p := by
  unfold rd_T49
  simp
theorem wr1 {α : Type} (pre : List α) (x : α) (h : pre.length < 9223372036854775807) : wrap64 ((pre.length : Int) + 1) = ((pre ++ [x]).length : Int) := by
  rw [Pure.wrap_id (by omega) (by omega), List.length_append, List.length_singleton]
  omega
theorem app1 {α : Type} (pre suf : List α) (x : α) : pre ++ x :: suf = (pre ++ [x]) ++ suf := by simp
theorem ltA {α : Type} (pre suf : List α) (x : α) : (pre.length : Int) < ((pre ++ x :: suf).length : Int) := by simp; omega
theorem nltA {α : Type} (pre : List α) : ¬ (pre.length : Int) < ((pre ++ []).length : Int) := by simp
def resOK (r : RS) : Bool := Pure.rightB r.f0 && decide (1 ≤ r.f1 ∧ r.f1 ≤ 7)
def partOK (p : PP) : Bool := Pure.rightB p.f0 && p.f1.all resOK
def rightS (su bo : ByteArray) (ps : List PP) : Bool := Pure.rightB su && Pure.rightB bo && ps.all partOK
theorem vt_f (v : Int) : trace_Text.f v = some (vtB v) := rfl
theorem vt_nil (v : Int) : (vtB v).toList = [] ↔ ¬ (1 ≤ v ∧ v ≤ 7) := by
  by_cases h : v < 0 ∨ 7 < v
  · have e : vtB v = ⟨#[]⟩ := by unfold vtB trace_Text.f; rw [Option.getD_some, if_pos h]
    rw [e]
    constructor
    · intro _; omega
    · intro _; decide +kernel
  · have : v = 0 ∨ v = 1 ∨ v = 2 ∨ v = 3 ∨ v = 4 ∨ v = 5 ∨ v = 6 ∨ v = 7 := by omega
    rcases this with rfl | rfl | rfl | rfl | rfl | rfl | rfl | rfl <;> decide +kernel
theorem right_l1 (ps : List PP) (n i : Int) (hi : wrap64 (i + 1) = i + 1) (b : Bool) (hb : Ev (fun k => sum_Right.l0 k ps n (i + 1)) b) : ∀ (rsuf rpre : List RS), (rpre ++ rsuf).length ≤ 9223372036854775807 → Ev (fun k => sum_Right.l1 k ps n i (rpre ++ rsuf) ((rpre ++ rsuf).length : Int) (rpre.length : Int)) (rsuf.all resOK && b)
  | [], rpre, _ => Ev.step (f := fun k => sum_Right.l0 k ps n (i + 1)) (fun k => by rw [sum_Right.l1, if_neg (nltA _), hi]) hb
  | r :: rs, rpre, h => by
    have ih := right_l1 ps n i hi b hb rs (rpre ++ [r]) (by rw [← app1]; exact h)
    rw [← app1] at ih
    have hl : rpre.length < 9223372036854775807 := by simp at h; omega
    have e0 : ∀ k, sum_Right.l1 (k + 1) ps n i (rpre ++ r :: rs) ((rpre ++ r :: rs).length : Int) (rpre.length : Int) = if Pure.rightB r.f0 = true then (if (vtB r.f1).toList = [] then some false else sum_Right.l1 k ps n i (rpre ++ r :: rs) ((rpre ++ r :: rs).length : Int) ((rpre ++ [r]).length : Int)) else some false := fun k => by
      rw [sum_Right.l1, if_pos (ltA _ _ _), if_pos (by omega), if_pos (ltA _ _ _), rdR, Pure.right_eq, Option.bind_some, vt_f, Option.bind_some, wr1 rpre r hl]
    by_cases h1 : Pure.rightB r.f0 = true
    · by_cases h2 : (vtB r.f1).toList = []
      · have e : ((r :: rs).all resOK && b) = false := by rw [List.all_cons, resOK, decide_eq_false ((vt_nil _).1 h2), Bool.and_false, Bool.false_and, Bool.false_and]
        rw [e]
        exact Ev.step (f := fun _ => some false) (fun k => by rw [e0, if_pos h1, if_pos h2]) (Ev.now _)
      · have e : ((r :: rs).all resOK && b) = (rs.all resOK && b) := by rw [List.all_cons, resOK, h1, decide_eq_true (Decidable.not_not.1 fun h3 => h2 ((vt_nil _).2 h3)), Bool.true_and, Bool.true_and]
        rw [e]
        exact Ev.step (fun k => by rw [e0, if_pos h1, if_neg h2]) ih
    · have e : ((r :: rs).all resOK && b) = false := by rw [List.all_cons, resOK, Bool.eq_false_iff.2 h1, Bool.false_and, Bool.false_and, Bool.false_and]
      rw [e]
      exact Ev.step (f := fun _ => some false) (fun k => by rw [e0, if_neg h1]) (Ev.now _)
def szP (ps : List PP) : Prop := ps.length ≤ 3518437208883 ∧ ∀ p ∈ ps, p.f1.length ≤ 8796093022208
theorem right_l0 (ps : List PP) (hs : szP ps) : ∀ suf pre, pre ++ suf = ps → Ev (fun k => sum_Right.l0 k ps (ps.length : Int) (pre.length : Int)) (suf.all partOK)
  | [], pre, h => by
    subst h
    exact Ev.step (f := fun _ => some true) (fun k => by rw [sum_Right.l0, if_neg (nltA _)]) (Ev.now _)
  | p :: suf, pre, h => by
    have ih := right_l0 ps hs suf (pre ++ [p]) (by rw [← app1]; exact h)
    subst h
    have hl : pre.length < 9223372036854775807 := by have h_ := hs.1; simp at h_; omega
    have hw := wr1 pre p hl
    rw [show ((pre ++ [p]).length : Int) = (pre.length : Int) + 1 by simp] at ih hw
    have h1 := right_l1 (pre ++ p :: suf) ((pre ++ p :: suf).length : Int) (pre.length : Int) hw _ ih p.f1 [] (by have := hs.2 p (by simp); rw [List.nil_append]; omega)
    have e0 : ∀ k, sum_Right.l0 (k + 1) (pre ++ p :: suf) ((pre ++ p :: suf).length : Int) (pre.length : Int) = if Pure.rightB p.f0 = true then sum_Right.l1 k (pre ++ p :: suf) ((pre ++ p :: suf).length : Int) (pre.length : Int) p.f1 (p.f1.length : Int) 0 else some false := fun k => by
      rw [sum_Right.l0, if_pos (ltA _ _ _), if_pos (by omega), if_pos (ltA _ _ _), rdP, Pure.right_eq, Option.bind_some]
    by_cases hp : Pure.rightB p.f0 = true
    · have e : (p :: suf).all partOK = (p.f1.all resOK && suf.all partOK) := by rw [List.all_cons, partOK, hp, Bool.true_and]
      rw [e]
      exact Ev.step (fun k => by rw [e0, if_pos hp]; rfl) h1
    · have e : (p :: suf).all partOK = false := by rw [List.all_cons, partOK, Bool.eq_false_iff.2 hp, Bool.false_and, Bool.false_and]
      rw [e]
      exact Ev.step (f := fun _ => some false) (fun k => by rw [e0, if_neg hp]) (Ev.now _)
theorem right_ev (su bo : ByteArray) (ps : List PP) (hs : szP ps) : Ev (fun k => sum_Right.f k su bo ps) (rightS su bo ps) := by
  have h0 := right_l0 ps hs ps [] rfl
  unfold rightS
  by_cases h1 : Pure.rightB su = true
  · by_cases h2 : Pure.rightB bo = true
    · rw [h1, h2, Bool.true_and, Bool.true_and]
      refine Ev.congr (f := fun k => sum_Right.j0 k false su bo ps) (fun k => ?_) (Ev.step (fun k => ?_) h0)
      · rw [sum_Right.f, Pure.right_eq, Option.bind_some, if_pos h1, Pure.right_eq, Option.bind_some, h2]; rfl
      · rw [sum_Right.j0, if_neg (by decide)]; rfl
    · rw [h1, Bool.eq_false_iff.2 h2, Bool.true_and, Bool.false_and]
      refine Ev.congr (f := fun k => sum_Right.j0 k true su bo ps) (fun k => ?_) (Ev.step (f := fun _ => some false) (fun k => ?_) (Ev.now _))
      · rw [sum_Right.f, Pure.right_eq, Option.bind_some, if_pos h1, Pure.right_eq, Option.bind_some, Bool.eq_false_iff.2 h2]; rfl
      · rw [sum_Right.j0, if_pos rfl]
  · rw [Bool.eq_false_iff.2 h1, Bool.false_and, Bool.false_and]
    refine Ev.congr (f := fun k => sum_Right.j0 k true su bo ps) (fun k => ?_) (Ev.step (f := fun _ => some false) (fun k => ?_) (Ev.now _))
    · rw [sum_Right.f, Pure.right_eq, Option.bind_some, if_neg h1]
    · rw [sum_Right.j0, if_pos rfl]
theorem few_l0 (su bo : ByteArray) (ps : List PP) (hs : szP ps) : ∀ (suf pre : List PP) (n : Int), pre ++ suf = ps → 0 ≤ n → (suf = [] ∨ n ≤ 2000 ∨ 2000 < n) → n ≤ 8796093022208 + 2000 → Ev (fun k => colloquylaw20_few.l0 k n (pre.length : Int) su bo ps) (decide (n + sumL suf ≤ 2000))
  | [], pre, n, h, _, _, _ => by
    subst h
    have e : n + ((sumL [] : Nat) : Int) = n := by simp [sumL]
    rw [e]
    exact Ev.step (f := fun _ => some (decide (n ≤ 2000))) (fun k => by rw [colloquylaw20_few.l0, if_neg (nltA _)]) (Ev.now _)
  | p :: suf, pre, n, h, h0, _, hn => by
    subst h
    have hl : pre.length < 9223372036854775807 := by have h_ := hs.1; simp at h_; omega
    have hp := hs.2 p (by simp)
    have e : ((sumL (p :: suf) : Nat) : Int) = p.f1.length + sumL suf := by simp [sumL]
    by_cases h1 : n ≤ 2000
    · have ih := few_l0 su bo (pre ++ p :: suf) hs suf (pre ++ [p]) (n + p.f1.length) (by rw [← app1]) (by omega) (by omega) (by omega)
      rw [e, ← Int.add_assoc]
      refine Ev.step (fun k => ?_) ih
      rw [colloquylaw20_few.l0, if_pos (ltA _ _ _), if_pos h1, if_pos (by omega), rdP, wr1 pre p hl, Pure.wrap_id (by omega) (by omega)]
    · rw [decide_eq_false (show ¬ n + ((sumL (p :: suf) : Nat) : Int) ≤ 2000 by omega)]
      exact Ev.step (f := fun _ => some false) (fun k => by rw [colloquylaw20_few.l0, if_pos (ltA _ _ _), if_neg h1, decide_eq_false h1]) (Ev.now _)
theorem few_ev (su bo : ByteArray) (ps : List PP) (hs : szP ps) : Ev (fun k => colloquylaw20_few.f k su bo ps) (decide ((ps.length : Int) + sumL ps ≤ 2000)) :=
  few_l0 su bo ps hs ps [] (ps.length : Int) rfl (by omega) (by omega) (by have := hs.1; omega)
theorem ltQ (pre suf : List PP) (p : PP) : (pre.length : Int) < (((pre ++ p :: suf).map cv).length : Int) := by simp; omega
theorem nltQ (pre : List PP) : ¬ (pre.length : Int) < (((pre ++ []).map cv).length : Int) := by simp
abbrev endB : ByteArray := ⟨#[35, 32, 101, 110, 100]⟩
def catL : List ByteArray → ByteArray
  | [] => eB
  | x :: xs => (x ++ lfB) ++ catL xs
def textL (su bo : ByteArray) (ps : List PP) : ByteArray := if rightS su bo ps = true then catL (linesL su bo ps) else eB
theorem line_sz (su bo : ByteArray) (ps : List PP) (hsm : sumL ps ≤ 1000000000) : ∀ x ∈ linesL su bo ps, x.size ≤ 399 := by
  intro x hx
  have a1 : ∀ s : ByteArray, (nwB s).size ≤ 240 := nw_size
  unfold linesL bodyL headL at hx
  simp only [List.mem_append, List.mem_cons, List.mem_nil_iff, or_false, List.mem_flatMap] at hx
  rcases hx with ((((rfl | rfl) | ⟨p, _, hp⟩) | hx) | rfl)
  · rw [size_cat]; have := nw_size su; have z : (⟨#[84, 101, 115, 116, 32, 114, 117, 110, 32, 111, 102, 32]⟩ : ByteArray).size = 12 := rfl; omega
  · rw [size_cat]; have := nw_size bo; have z : (⟨#[66, 111, 97, 114, 100, 32]⟩ : ByteArray).size = 6 := rfl; omega
  · unfold partL at hp
    rcases List.mem_cons.1 hp with rfl | hp
    · rw [size_cat]; have := nw_size p.f0; have z : (⟨#[103, 114, 111, 117, 112, 32]⟩ : ByteArray).size = 6 := rfl; omega
    · obtain ⟨r, _, rfl⟩ := List.mem_map.1 hp
      unfold resL
      rw [size_cat, size_cat]
      have := nw_size r.f0
      have := vt_size r.f1
      have z : (⟨#[58, 32]⟩ : ByteArray).size = 2 := rfl
      omega
  · unfold totsL at hx
    obtain ⟨v, _, hv⟩ := List.mem_flatMap.1 hx
    unfold totT at hv
    split at hv
    · rw [List.mem_singleton.1 hv]
      simp only [size_cat]
      have := vt_size (v : Int)
      have hb := tot_b ps (v : Int)
      have := it_size (totL ps (v : Int)) (by omega)
      have z2 : (⟨#[35, 32]⟩ : ByteArray).size = 2 := rfl
      have z1 : (⟨#[32]⟩ : ByteArray).size = 1 := rfl
      omega
    · cases hv
  · decide
theorem eB_cat (s : ByteArray) : eB ++ s = s := by
  apply ByteArray.ext
  rw [ByteArray.data_append]
  simp
def joinB (xs : List ByteArray) : ByteArray := ⟨(Lib.join (xs.map (·.data.toList)) [10]).toArray⟩
theorem join_flat : ∀ (r : List ByteArray) (x : ByteArray), x.data.toList ++ Lib.joinTail [10] (r.map (·.data.toList)) ++ [10] = (catL (x :: r)).data.toList
  | [], x => by
    show x.data.toList ++ [] ++ [10] = ((x ++ lfB) ++ eB).data.toList
    rw [ByteArray.data_append, ByteArray.data_append]
    simp
  | y :: r, x => by
    have ih := join_flat r y
    show x.data.toList ++ (([10] ++ y.data.toList) ++ Lib.joinTail [10] (r.map (·.data.toList))) ++ [10] = ((x ++ lfB) ++ catL (y :: r)).data.toList
    rw [ByteArray.data_append, Array.toList_append, ← ih, ByteArray.data_append, Array.toList_append]
    simp
theorem join_cat (xs : List ByteArray) (h : xs ≠ []) : joinB xs ++ lfB = catL xs := by
  cases xs with
  | nil => exact absurd rfl h
  | cons x r =>
    apply ByteArray.ext
    apply Array.ext'
    rw [← join_flat, ByteArray.data_append, Array.toList_append]
    show Lib.join _ _ ++ _ = _
    rw [List.map_cons, Lib.join_cons]
theorem join_size (xs : List ByteArray) (h : xs ≠ []) : (Lib.join (xs.map (·.data.toList)) [10]).length + 1 = (catL xs).size := by
  have h1 := congrArg ByteArray.size (join_cat xs h)
  rw [size_cat] at h1
  have h2 : (joinB xs).size = (Lib.join (xs.map (·.data.toList)) [10]).length := List.size_toArray ..
  rw [← h1, ← h2]
  rfl
theorem cat_size (xs : List ByteArray) (h : ∀ x ∈ xs, x.size ≤ 399) : (catL xs).size ≤ 400 * xs.length := by
  induction xs with
  | nil => exact Nat.zero_le _
  | cons x xs ih =>
    have h1 := h x (List.mem_cons_self ..)
    have h2 := ih fun y hy => h y (List.mem_cons_of_mem _ hy)
    show ((x ++ lfB) ++ catL xs).size ≤ _
    have z1 : lfB.size = 1 := rfl
    rw [size_cat, size_cat, List.length_cons]
    omega
theorem text_size (su bo : ByteArray) (ps : List PP) (hsm : ps.length + sumL ps ≤ 1000000000) : (textL su bo ps).size ≤ 400 * (11 + ps.length + sumL ps) := by
  unfold textL
  split
  · have := cat_size _ (line_sz su bo ps (by omega))
    have := (lines_len su bo ps).2
    omega
  · exact Nat.zero_le _
theorem join_row {w : World} {A : Option Addr} {c base : Nat} {S : Nat → Prop} {xs : List ByteArray} (h : Kd.string.R 9 w base S (.slice A xs.length c) xs) (h0 : xs ≠ []) (hN : xs.length ≤ 140737488355328) (hlen : (catL xs).size ≤ 140737488355328) :
    Calls Tryd.prog 27 #[.slice A xs.length c, .string lfB] w fun e w' => e = .returned (.string (joinB xs)) ∧ Below w.heap.size w w' := by
  have hpos : 0 < xs.length := List.length_pos_iff.2 h0
  obtain ⟨g, cap, hv, _⟩ := Kd.R_form h hpos
  injection hv with hA hn hc
  subst hA hc
  obtain ⟨_, hcap, hC⟩ := Kd.R_reads' h
  obtain ⟨ad, had, hcl⟩ := hC.2.2 hpos
  obtain rfl := Option.some.inj had
  have cells : ∀ (j : Nat) x, xs[j]? = some x → w.cell? ⟨g, 0 + j, none⟩ = some (.string x) := fun j x hj => by
    obtain ⟨cs, hl, hk, hcc⟩ := hcl j x hj
    have hk' : cs = [.string x] := hk
    have := hcc 0 (.string x) (by rw [hk']; rfl)
    rw [add_plain, show j * Kd.string.sz + 0 = j by show j * 1 + 0 = j; omega] at this
    rw [Nat.zero_add]
    exact this
  have hj := join_size xs h0
  refine Tryd.strings_Join g 0 c xs lfB w cells ?_ hN hcap ?_
  · exact World.block_lt_of_cell? _ _ (cells 0 xs[0] (List.getElem?_eq_getElem hpos))
  · show (Lib.join (xs.map (·.data.toList)) [10]).length ≤ _
    omega
section
theorem bext {a b : ByteArray} (h : a.data.toList = b.data.toList) : a = b := ByteArray.ext (Array.ext' h)
theorem dcat (a b : ByteArray) : (a ++ b).data.toList = a.data.toList ++ b.data.toList := by rw [ByteArray.data_append, Array.toList_append]
theorem index_mid (c : UInt8) (t : List UInt8) : ∀ (l r : List UInt8), c ∉ l → Lib.index (l ++ ((c :: t) ++ r)) (c :: t) = l.length
  | [], r, _ => by
    show Lib.index (c :: (t ++ r)) (c :: t) = _
    have hp : (c :: t).isPrefixOf (c :: (t ++ r)) = true := List.isPrefixOf_iff_prefix.2 ⟨r, rfl⟩
    unfold Lib.index
    rw [if_pos hp]
    rfl
  | b :: l, r, h => by
    have hb : c ≠ b := fun e => h (by rw [e]; exact List.mem_cons_self ..)
    have ih := index_mid c t l r (fun hc => h (List.mem_cons_of_mem _ hc))
    show Lib.index (b :: (l ++ ((c :: t) ++ r))) (c :: t) = _
    unfold Lib.index
    rw [ih, if_neg (by simp [List.isPrefixOf, hb]), if_neg (by simp <;> omega), List.length_cons]
    omega
theorem index_no (c : UInt8) : ∀ (l : List UInt8), c ∉ l → Lib.index l [c] = -1
  | [], _ => by unfold Lib.index; simp
  | b :: l, h => by
    have hb : c ≠ b := fun e => h (by rw [e]; exact List.mem_cons_self ..)
    have ih := index_no c l (fun hc => h (List.mem_cons_of_mem _ hc))
    unfold Lib.index
    rw [ih, if_neg (by simp [List.isPrefixOf, hb]), if_pos (by decide)]
theorem pcN_eq (s : ByteArray) : pcN s - 1 = Lib.countB s nlB := by
  have := Lib.countB_le nlB (by decide) s.size s (Nat.le_refl _)
  unfold pcN
  omega
theorem pcs_eq (s : ByteArray) : pcs s = Lib.splitB nlB 1 (Lib.countB s nlB) s := by unfold pcs; rw [pcN_eq]
theorem pcs_no (s : ByteArray) (h : (10 : UInt8) ∉ s.data.toList) : pcs s = [s] := by
  rw [pcs_eq]
  exact Lib.splitB_miss _ _ _ _ (index_no 10 _ h)
theorem pcs_hit (x r : ByteArray) (h : (10 : UInt8) ∉ x.data.toList) : pcs ((x ++ lfB) ++ r) = (x ++ lfB) :: pcs r := by
  have hi : Lib.indexB ((x ++ lfB) ++ r) nlB = (x.size : Int) := by
    show Lib.index ((x ++ lfB) ++ r).data.toList [10] = _
    rw [dcat, dcat, List.append_assoc]
    rw [show lfB.data.toList = [10] from rfl, index_mid 10 [] x.data.toList r.data.toList h]
    rfl
  have e1 : ((x ++ lfB) ++ r).extract 0 (x.size + 1) = x ++ lfB := by
    apply bext
    rw [Lib.extract_from_zero, dcat]
    have : (x ++ lfB).data.toList.length = x.size + 1 := by rw [dcat, List.length_append]; rfl
    rw [← this, List.take_left]
  have e2 : ((x ++ lfB) ++ r).extract (x.size + nlB.size) ((x ++ lfB) ++ r).size = r := by
    apply bext
    rw [Lib.extract_to_end, dcat]
    have : (x ++ lfB).data.toList.length = x.size + nlB.size := by rw [dcat, List.length_append]; rfl
    rw [← this, List.drop_left]
  rw [pcs_eq, Lib.countB_hit _ _ _ (by decide) hi, Nat.add_comm, Lib.splitB_hit _ _ _ _ _ hi, e1, e2, ← pcs_eq]
theorem pcs_cat : ∀ ls : List ByteArray, (∀ x ∈ ls, (10 : UInt8) ∉ x.data.toList) → pcs (catL ls) = ls.map (· ++ lfB) ++ [eB]
  | [], _ => pcs_no eB (by simp)
  | x :: ls, h => by
    show pcs ((x ++ lfB) ++ catL ls) = _
    rw [pcs_hit x _ (h x (List.mem_cons_self ..)), pcs_cat ls fun y hy => h y (List.mem_cons_of_mem _ hy)]
    rfl
theorem allL_cat (ls : List ByteArray) (h : ∀ x ∈ ls, (10 : UInt8) ∉ x.data.toList) : allL (catL ls) = ls.map (· ++ lfB) := by
  unfold allL
  rw [pcs_cat ls h]
  have e : (ls.map (· ++ lfB) ++ [eB]).length - 1 = (ls.map (· ++ lfB)).length := by simp
  rw [e, List.take_left, if_pos]
  rw [List.getD_eq_getElem?_getD, List.getElem?_append_right (Nat.le_refl _), Nat.sub_self]
  rfl
theorem hp_app (p y : ByteArray) : hpB (p ++ y) p = true := by
  unfold hpB Lib.hasPrefix
  rw [dcat]
  exact List.isPrefixOf_iff_prefix.2 ⟨_, rfl⟩
theorem tp_app (p y : ByteArray) : tpB (p ++ y) p = y := by
  apply bext
  unfold tpB Lib.trimPrefix
  have h : Lib.hasPrefix (p ++ y).data.toList p.data.toList = true := hp_app p y
  rw [h, if_pos rfl, dcat, List.drop_left]
theorem hs_app (x : ByteArray) : hsB (x ++ lfB) lfB = true := by
  unfold hsB Lib.hasSuffix
  rw [dcat]
  exact List.isSuffixOf_iff_suffix.2 ⟨_, rfl⟩
theorem ts_app (x : ByteArray) : tsB (x ++ lfB) lfB = x := by
  apply bext
  unfold tsB Lib.trimSuffix
  have h : Lib.hasSuffix (x ++ lfB).data.toList lfB.data.toList = true := hs_app x
  rw [h, if_pos rfl, dcat]
  show (List.take ((x.data.toList ++ [10]).length - 1) (x.data.toList ++ [10])).toArray.toList = _
  rw [List.length_append, List.length_singleton, Nat.add_sub_cancel, List.take_left]
theorem hp_ne {s p : ByteArray} {b c : UInt8} {l t : List UInt8} (hs : s.data.toList = b :: l) (hp : p.data.toList = c :: t) (h : c ≠ b) : hpB s p = false := by
  unfold hpB Lib.hasPrefix
  rw [hs, hp]
  simp [List.isPrefixOf, h]
theorem cut_app (w r : ByteArray) (h : (58 : UInt8) ∉ w.data.toList) : cuA (w ++ sepB ++ r) sepB = w ∧ cuB (w ++ sepB ++ r) sepB = r ∧ cuO (w ++ sepB ++ r) sepB = true := by
  have hd : (w ++ sepB ++ r).data.toList = w.data.toList ++ ((58 :: [32]) ++ r.data.toList) := by rw [dcat, dcat, List.append_assoc]
  have hi : Lib.index (w ++ sepB ++ r).data.toList sepB.data.toList = (w.data.toList.length : Int) := by rw [hd]; exact index_mid 58 [32] w.data.toList r.data.toList h
  have hc : Lib.cut (w ++ sepB ++ r).data.toList sepB.data.toList = (w.data.toList, r.data.toList, true) := by
    unfold Lib.cut
    rw [hi, if_pos (by omega), Int.toNat_natCast, hd, List.take_left]
    have e : w.data.toList.length + sepB.data.toList.length = (w.data.toList ++ (58 :: [32])).length := by rw [List.length_append]
    rw [e, ← List.append_assoc, List.drop_left]
  unfold cuA cuB cuO
  rw [hc]
  exact ⟨rfl, rfl, rfl⟩
theorem readN_nw (s : ByteArray) (h : Pure.rightB s = true) : readN (nwB s) = (s, true) := by
  have h' := of_decide_eq_true h
  have hz := nw_size s
  exact Pure.ev_one (read_ev (nwB s) (by omega)) (Pure.back_ev s h')
theorem nm_app (p s : ByteArray) (h : Pure.rightB s = true) : nmO (p ++ nwB s) p = true ∧ nmB (p ++ nwB s) p = s := by
  unfold nmO nmB
  rw [hp_app, tp_app, readN_nw s h]
  exact ⟨rfl, rfl⟩
def plainB (s : ByteArray) : Prop := ∀ b ∈ s.data.toList, 32 ≤ b.toNat ∧ b.toNat ≤ 126
theorem plain_app {a b : ByteArray} (ha : plainB a) (hb : plainB b) : plainB (a ++ b) := fun x hx => by
  rw [dcat] at hx
  exact (List.mem_append.1 hx).elim (ha x) (hb x)
theorem plain_nw (s : ByteArray) : plainB (nwB s) := by
  intro b hb
  have hw : nwB s = Pure.wr s := rfl
  rw [hw] at hb
  unfold Pure.wr at hb
  split at hb
  · rename_i h
    rw [strOfNums_data] at hb
    obtain ⟨x, hx, rfl⟩ := List.mem_map.1 hb
    have h2 := Pure.pre_plain s h.2 s.size (Nat.le_refl _) x hx
    have : x.toNat < 256 := by omega
    rw [UInt8.toNat_ofNat']
    omega
  · simp at hb
theorem vt_case (v : Int) : (¬ (1 ≤ v ∧ v ≤ 7) ∧ vtB v = eB) ∨ v = 1 ∨ v = 2 ∨ v = 3 ∨ v = 4 ∨ v = 5 ∨ v = 6 ∨ v = 7 := by
  by_cases h : 1 ≤ v ∧ v ≤ 7
  · omega
  · have := (vt_nil v).2 h
    exact .inl ⟨h, Pure.bytes_eq (this.trans (show ([] : List UInt8) = eB.toList by decide +kernel))⟩
theorem plain_vt (v : Int) : plainB (vtB v) := by
  rcases vt_case v with ⟨_, h⟩ | rfl | rfl | rfl | rfl | rfl | rfl | rfl
  · rw [h]; intro b hb; simp at hb
  all_goals (unfold plainB; decide +kernel)
theorem vt_no58 (v : Int) : (58 : UInt8) ∉ (vtB v).data.toList := by
  rcases vt_case v with ⟨_, h⟩ | rfl | rfl | rfl | rfl | rfl | rfl | rfl
  · rw [h]; simp
  all_goals decide +kernel
theorem vp_vt (v : Int) (h : 1 ≤ v ∧ v ≤ 7) : vpB (vtB v) = v := by
  rcases vt_case v with ⟨h2, _⟩ | rfl | rfl | rfl | rfl | rfl | rfl | rfl
  · exact absurd h h2
  all_goals decide +kernel
theorem vt_head (v : Int) (h : 1 ≤ v ∧ v ≤ 7) : ∃ b l, (vtB v).data.toList = b :: l ∧ b ≠ 103 ∧ b ≠ 35 := by
  rcases vt_case v with ⟨h2, _⟩ | rfl | rfl | rfl | rfl | rfl | rfl | rfl
  · exact absurd h h2
  all_goals exact ⟨_, _, rfl, by decide, by decide⟩
theorem plain_dec (u : Nat) : ∀ b ∈ Lib.decDigits u, 48 ≤ b.toNat ∧ b.toNat ≤ 57 := by
  induction u using Nat.strongRecOn with
  | ind u ih =>
    intro b hb
    rw [Lib.decDigits] at hb
    split at hb
    · rw [List.mem_singleton.1 hb, UInt8.toNat_ofNat']; omega
    · rcases List.mem_append.1 hb with hb | hb
      · exact ih (u / 10) (by omega) b hb
      · rw [List.mem_singleton.1 hb, UInt8.toNat_ofNat']; omega
theorem plain_it (n : Int) (h : 0 ≤ n) : plainB (itB n) := by
  intro b hb
  have hb' : b ∈ Lib.itoa n := by simpa [itB] using hb
  unfold Lib.itoa at hb'
  rw [if_neg (by omega)] at hb'
  have := plain_dec _ b hb'
  omega
theorem plain_lines (su bo : ByteArray) (ps : List PP) : ∀ x ∈ linesL su bo ps, plainB x := by
  intro x hx
  unfold linesL bodyL headL at hx
  simp only [List.mem_append, List.mem_cons, List.mem_nil_iff, or_false, List.mem_flatMap] at hx
  rcases hx with ((((rfl | rfl) | ⟨p, _, hp⟩) | hx) | rfl)
  · exact plain_app (by unfold plainB; decide +kernel) (plain_nw su)
  · exact plain_app (by unfold plainB; decide +kernel) (plain_nw bo)
  · unfold partL at hp
    rcases List.mem_cons.1 hp with rfl | hp
    · exact plain_app (by unfold plainB; decide +kernel) (plain_nw _)
    · obtain ⟨r, _, rfl⟩ := List.mem_map.1 hp
      exact plain_app (plain_app (plain_vt _) (by unfold plainB; decide +kernel)) (plain_nw _)
  · unfold totsL at hx
    obtain ⟨v, _, hv⟩ := List.mem_flatMap.1 hx
    unfold totT at hv
    split at hv
    · rw [List.mem_singleton.1 hv]
      exact plain_app (plain_app (plain_app (by unfold plainB; decide +kernel) (plain_vt _)) (by unfold plainB; decide +kernel)) (plain_it _ (tot_b _ _).1)
    · cases hv
  · unfold plainB; decide +kernel
theorem plain_no10 {s : ByteArray} (h : plainB s) : (10 : UInt8) ∉ s.data.toList := fun hb => by
  have := h 10 hb
  revert this
  decide
theorem tail_head (ps : List PP) : ∀ x ∈ totsL ps 8 ++ [endB], ∃ l, x.data.toList = 35 :: l := by
  intro x hx
  rcases List.mem_append.1 hx with hx | hx
  · unfold totsL at hx
    obtain ⟨v, _, hv⟩ := List.mem_flatMap.1 hx
    unfold totT at hv
    split at hv
    · rw [List.mem_singleton.1 hv, dcat, dcat, dcat]
      exact ⟨_, rfl⟩
    · cases hv
  · rw [List.mem_singleton.1 hx]
    exact ⟨_, rfl⟩
theorem pl_tail (su bo : ByteArray) (ps : List PP) : ∀ (xs : List ByteArray) (i : Int), 2 ≤ i → parsL (xs.map (· ++ lfB)) i su bo ps false xs = (some (su, bo, ps), 0)
  | [], i, _ => by unfold parsL; exact if_neg (by decide)
  | x :: xs, i, h => by
    show parsL ((x ++ lfB) :: xs.map (· ++ lfB)) i su bo ps false (x :: xs) = _
    rw [pl_t (x :: xs) (by rw [if_neg (by decide)]) (hs_app x) (by omega) (by omega) (by rfl) ⟨by simp <;> omega, by rw [ts_app]; rfl⟩]
    exact pl_tail su bo ps xs (i + 1) (by omega)
attribute [local irreducible] parsL
theorem pl_res (su bo : ByteArray) (qs : List PP) (g : ByteArray) (r : RS) (hr : resOK r = true) (xs : List RS) (rest : List ByteArray) (i : Int) (hi : 2 ≤ i) : parsL ((resL r ++ lfB) :: rest) i su bo (qs ++ [⟨g, xs⟩]) true [] = parsL rest (i + 1) su bo (qs ++ [⟨g, xs ++ [r]⟩]) true [] := by
  unfold resOK at hr
  obtain ⟨h1, h2⟩ := (Bool.and_eq_true _ _).mp hr
  have h2' := of_decide_eq_true h2
  obtain ⟨b, l, hb, hb1, hb2⟩ := vt_head r.f1 h2'
  have hd : (resL r).data.toList = b :: (l ++ (sepB.data.toList ++ (nwB r.f0).data.toList)) := by unfold resL; rw [dcat, dcat, hb]; simp
  have hg : hpB (resL r) grpB = false := hp_ne hd (c := 103) (t := [114, 111, 117, 112, 32]) rfl (fun e => hb1 e.symm)
  have hh : hpB (resL r) hashB = false := hp_ne hd (c := 35) (t := []) rfl (fun e => hb2 e.symm)
  have hc := cut_app (vtB r.f1) (nwB r.f0) (vt_no58 r.f1)
  have hO : resO (qs ++ [⟨g, xs⟩]) (resL r) = true := by
    unfold resO resL
    rw [hc.1, hc.2.1, hc.2.2, vp_vt _ h2', readN_nw _ h1, snoc_ne, decide_eq_false (by omega)]
    rfl
  have hl : lineO (qs ++ [⟨g, xs⟩]) (resL r) = true := by unfold lineO; rw [if_neg (by rw [hg]; decide), hO]
  have hS : lineS (qs ++ [⟨g, xs⟩]) (resL r) = qs ++ [⟨g, xs ++ [r]⟩] := by
    unfold lineS
    rw [if_neg (by rw [hg]; decide), if_pos hO, addL_snoc]
    unfold resL
    rw [hc.1, hc.2.1, vp_vt _ h2', readN_nw _ h1]
  rw [pl_l (hs_app _) (by omega) (by omega) (by rw [ts_app, hh]; rfl) (by rw [ts_app]; exact hl), ts_app, hS]
theorem pl_ress (su bo : ByteArray) (qs : List PP) (g : ByteArray) (rest : List ByteArray) : ∀ (rs xs : List RS) (i : Int), 2 ≤ i → rs.all resOK = true → parsL ((rs.map resL).map (· ++ lfB) ++ rest) i su bo (qs ++ [⟨g, xs⟩]) true [] = parsL rest (i + rs.length) su bo (qs ++ [⟨g, xs ++ rs⟩]) true []
  | [], xs, i, _, _ => by simp
  | r :: rs, xs, i, hi, h => by
    rw [List.all_cons, Bool.and_eq_true] at h
    show parsL ((resL r ++ lfB) :: ((rs.map resL).map (· ++ lfB) ++ rest)) i su bo (qs ++ [⟨g, xs⟩]) true [] = _
    have e2 : i + ((r :: rs).length : Int) = i + 1 + (rs.length : Int) := by rw [List.length_cons]; omega
    rw [e2, app1 xs rs r]
    have h2 := pl_ress su bo qs g rest rs (xs ++ [r]) (i + 1) (by omega) h.2
    rw [pl_res su bo qs g r h.1 xs _ i hi]
    exact h2
theorem pl_grp (su bo : ByteArray) (qs : List PP) (g : ByteArray) (hg : Pure.rightB g = true) (rest : List ByteArray) (i : Int) (hi : 2 ≤ i) : parsL ((grpB ++ nwB g ++ lfB) :: rest) i su bo qs true [] = parsL rest (i + 1) su bo (qs ++ [⟨g, []⟩]) true [] := by
  have hd : (grpB ++ nwB g).data.toList = 103 :: ([114, 111, 117, 112, 32] ++ (nwB g).data.toList) := by rw [dcat]; rfl
  have hh : hpB (grpB ++ nwB g) hashB = false := hp_ne hd (c := 35) (t := []) rfl (by decide)
  have hn := nm_app grpB g hg
  have hl : lineO qs (grpB ++ nwB g) = true := by unfold lineO; rw [if_pos (hp_app _ _)]; exact hn.1
  have hS : lineS qs (grpB ++ nwB g) = qs ++ [⟨g, []⟩] := by unfold lineS; rw [if_pos (hp_app _ _), hn.2]
  rw [pl_l (hs_app _) (by omega) (by omega) (by rw [ts_app, hh]; rfl) (by rw [ts_app]; exact hl), ts_app, hS]
theorem pl_parts (su bo : ByteArray) (rest : List ByteArray) : ∀ (ps qs : List PP) (i : Int), 2 ≤ i → ps.all partOK = true → parsL ((ps.flatMap partL).map (· ++ lfB) ++ rest) i su bo qs true [] = parsL rest (i + ps.length + sumL ps) su bo (qs ++ ps) true []
  | [], qs, i, _, _ => by simp [sumL]
  | p :: ps, qs, i, hi, h => by
    rw [List.all_cons, Bool.and_eq_true] at h
    have hp := h.1
    unfold partOK at hp
    rw [Bool.and_eq_true] at hp
    have e : ((p :: ps).flatMap partL).map (· ++ lfB) ++ rest = (grpB ++ nwB p.f0 ++ lfB) :: ((p.f1.map resL).map (· ++ lfB) ++ ((ps.flatMap partL).map (· ++ lfB) ++ rest)) := by
      rw [List.flatMap_cons, List.map_append, List.append_assoc]
      rfl
    have e2 : i + ((p :: ps).length : Int) + (sumL (p :: ps) : Int) = i + 1 + (p.f1.length : Int) + (ps.length : Int) + (sumL ps : Int) := by rw [List.length_cons]; simp only [sumL]; omega
    rw [e, e2, app1 qs ps p]
    exact ((pl_grp su bo qs p.f0 hp.1 _ i hi).trans (pl_ress su bo qs p.f0 _ p.f1 [] (i + 1) (by omega) hp.2)).trans (pl_parts su bo rest ps (qs ++ [p]) (i + 1 + p.f1.length) (by omega) h.2)
theorem parse_text (su bo : ByteArray) (ps : List PP) (h : rightS su bo ps = true) : parseP (textL su bo ps) = (some (su, bo, ps), 0) := by
  unfold textL
  rw [if_pos h]
  unfold rightS at h
  rw [Bool.and_eq_true, Bool.and_eq_true] at h
  unfold parseP
  rw [allL_cat _ fun x hx => plain_no10 (plain_lines su bo ps x hx)]
  have e : (linesL su bo ps).map (· ++ lfB) = (w1B ++ nwB su ++ lfB) :: (w2B ++ nwB bo ++ lfB) :: ((ps.flatMap partL).map (· ++ lfB) ++ (totsL ps 8 ++ [endB]).map (· ++ lfB)) := by
    unfold linesL bodyL headL
    simp
  have n1 := nm_app w1B su h.1.1
  have n2 := nm_app w2B bo h.1.2
  rw [e, pl_0 (hs_app _) rfl (by rw [ts_app]; exact n1.1), ts_app, n1.2, pl_1 (hs_app _) (by decide) (by rw [ts_app]; exact n2.1), ts_app, n2.2]
  show parsL _ 2 su bo [] true [] = _
  rw [pl_parts su bo _ ps [] 2 (by decide) h.2, List.nil_append]
  have hd : (linesL su bo ps).drop (2 + (ps.length : Int) + (sumL ps : Int)).toNat = totsL ps 8 ++ [endB] := by
    unfold linesL
    have hb := body_len su bo ps
    rw [show (2 + (ps.length : Int) + (sumL ps : Int)).toNat = (bodyL su bo ps).length by omega, List.append_assoc, List.drop_left]
  have hne : totsL ps 8 ++ [endB] ≠ [] := by simp
  have hth := tail_head ps
  generalize totsL ps 8 ++ [endB] = T at hd hne hth
  cases T with
  | nil => exact absurd rfl hne
  | cons x xs =>
    obtain ⟨l, hx⟩ := hth x (List.mem_cons_self ..)
    have hh : hpB x hashB = true := by
      unfold hpB Lib.hasPrefix
      rw [hx]
      rfl
    show parsL ((x ++ lfB) :: xs.map (· ++ lfB)) _ su bo ps true [] = _
    rw [pl_t (x :: xs) (by rw [if_pos rfl, hd]) (hs_app x) (by omega) (by omega) (by rw [ts_app, hh]; rfl) ⟨by simp <;> omega, by rw [ts_app]; rfl⟩]
    exact pl_tail su bo ps xs _ (by omega)
end
section
def Chunk.frz (w1 : World) (S : Nat → Prop) : Chunk := ⟨S, fun w => ∀ k, S k → w.heap[k]? = w1.heap[k]?, fun h hm k hk => (hm k hk).trans (h k hk)⟩
section
variable {α β : Type} {d : Kd α} {d' : Kd β} {e base n c i : Nat} {S S' : Nat → Prop} {A : Option Addr} {xs : List α} {w0 w w' w1 : World} {L : List Chunk}
abbrev okF (w0 : World) (S : Nat → Prop) : Nat → Prop := fun k => k < w0.heap.size ∨ S k
theorem Own.frz (h : Own w0 w L) (i : Nat) {c : Chunk} (hi : L[i]? = some c) : Own w0 w (L.set i (Chunk.frz w c.S)) :=
  h.calls (cs := []) i hi (Out.one (Out.refl w _) (c := Chunk.frz w c.S) (fun _ _ => rfl) fun k hk => ⟨.inl hk, (h.lt i hi hk).2⟩)
theorem frz_C (HO : Own w0 w L) (hi : L[i]? = some (Chunk.frz w1 S)) (hb : Below w0.heap.size w0 w1) (hF : d.F w1 (okF w0 S) A n xs) : d.C w A n xs :=
  hF w fun k hk _ => hk.elim (fun h => (HO.below.block k h).trans (hb.block k h).symm) fun h => HO.get i hi k h
theorem frz_F (HO : Own w0 w L) (hi : L[i]? = some (Chunk.frz w1 S)) (hb : Below w0.heap.size w0 w1) (hF : d.F w1 (okF w0 S) A n xs) : d.F w (okF w0 S) A n xs :=
  Kd.F_step hF fun k hk _ => hk.elim (fun h => (HO.below.block k h).trans (hb.block k h).symm) fun h => HO.get i hi k h
theorem frz_view (h : Own w0 w L) (i : Nat) (hi : L[i]? = some (Chunk.view d S A n c xs)) : Own w0 w (L.set i (Chunk.frz w S)) ∧ Kd.F d w (okF w0 S) A n xs ∧ n ≤ c ∧ Below w0.heap.size w0 w := by
  have hV := h.get i hi
  exact ⟨h.frz i hi, Kd.F_mono hV.1 (fun k hk => .inr hk), hV.2.1, h.below⟩
theorem frz_new (h : Own w0 w L) (hb : Below w.heap.size w w') : Own w0 w' (Chunk.frz w' (fun k => w.heap.size ≤ k ∧ k < w'.heap.size) :: L) :=
  h.fresh (cs := [Chunk.frz w' fun k => w.heap.size ≤ k ∧ k < w'.heap.size]) (Out.one (Out.of_below hb _) (c := Chunk.frz w' fun k => w.heap.size ≤ k ∧ k < w'.heap.size) (fun _ _ => rfl) fun k hk => ⟨.inr hk.1, hk.2⟩)
theorem frz_grow (h : Own w0 w L) (i : Nat) (hi : L[i]? = some (Chunk.frz w1 S)) (hb : Below w.heap.size w w') : Own w0 w' (L.set i (Chunk.frz w' (fun k => S k ∨ w.heap.size ≤ k ∧ k < w'.heap.size))) :=
  h.calls (cs := []) i hi (Out.one (Out.of_below hb _) (c := Chunk.frz w' fun k => S k ∨ w.heap.size ≤ k ∧ k < w'.heap.size) (fun _ _ => rfl) fun k hk => hk.elim (fun h2 => ⟨.inl h2, Nat.lt_of_lt_of_le (h.lt i hi h2).2 hb.size⟩) fun h2 => ⟨.inr h2.1, h2.2⟩)
end
end
namespace GParse_
theorem parse_calls (s : ByteArray) (w : World) (hs : s.size ≤ 100000000) (hL : LaidW w) :
    Calls Tryd.prog 18 #[.string s] w fun e w' => ∃ A_ c_ S_, e = .returned (.tuple #[(.agg #[.string (outS s).1, .string (outS s).2.1, .slice A_ (outS s).2.2.length c_]), .int .i64 (codeP s), .int .i64 (parseP s).2]) ∧ Out w w' (fun _ => False) [Chunk.view KP S_ A_ (outS s).2.2.length c_ (outS s).2.2] := by
 have hpl := pcs_len s
 have hpe := pcs_le s
 refine gw_start (N := 98) (vs := [.string s]) Tryd.func18 rfl rfl (by simp) fun a HF HO => ?_
 replace HO : Own w w [] := HO
 refine gR fun K1 hK1 => ?_
 refine gw_new HF HO (want_none rfl) rfl (by decide) (op_alloc gwzer24 rfl) ?_
 intro g2 _ w4 H5 O6; clear HF HO
 have O7 : Own w w4 [Bk g2 [.string (⟨#[]⟩ : ByteArray), .string (⟨#[]⟩ : ByteArray), .slice none 0 0] 24] := O6
 clear O6
 refine Vc H5 fun _ H9 => ?_
 refine Vc H9 fun _ H11 => ?_
 refine gE hK1 ?_
 refine gR fun K12 hK12 => ?_
 clear H5 H9
 refine gw_new H11 O7 (want_none rfl) rfl (by decide) (op_alloc gwzer24 rfl) ?_
 intro g13 _ w15 H16 O17; clear H11 O7
 have O18 : Own w w15 [Bk g13 [.string (⟨#[]⟩ : ByteArray), .string (⟨#[]⟩ : ByteArray), .slice none 0 0] 24, Bk g2 [.string (⟨#[]⟩ : ByteArray), .string (⟨#[]⟩ : ByteArray), .slice none 0 0] 24] := O17
 clear O17
 obtain ⟨S20, O19⟩ := O18.sp_start
 clear O18
 refine gE hK12 ?_
 refine gR fun K21 hK21 => ?_
 refine Vm H16 fun _ H23 => ?_
 clear H16
 refine Wk H23 Tryd.func30 rfl (ar_cons (H23.ev rfl) (ar_cons (ev_c _ _) ar_nil)) (split_calls s _ (by omega) (hL.own O19)) ?_
 rintro e28 w29 ⟨A24, c25, S26, rfl, hb30⟩
 refine ⟨_, rfl, fun _ H32 => ?_⟩
 have O33 := O19.fresh hb30
 clear H23 O19 hb30
 refine Va H32 fun _ H36 => ?_
 refine gE hK21 ?_
 clear H32
 refine gw_joinS (fun a_ w_ => ∃ (AL : List ByteArray) (A6 : Option Addr) (c6 : Nat) (S6 : Nat → Prop), Fr 98 a_ [(6, .slice A6 AL.length c6), (2, .pointer (some ⟨g2, 0, none⟩)), (3, J 0), (4, J 0), (5, .pointer (some ⟨g13, 0, none⟩))] ∧ Own w w_ [Chunk.view Kd.string S6 A6 AL.length c6 AL, Chunk.sp w.heap.size S20 none 0 ([] : List PP), Bk g13 [.string (⟨#[]⟩ : ByteArray), .string (⟨#[]⟩ : ByteArray), .slice none 0 0] 24, Bk g2 [.string (⟨#[]⟩ : ByteArray), .string (⟨#[]⟩ : ByteArray), .slice none 0 0] 24] ∧ (AL = allL s)) ?_ ?_
 ·
  refine gR fun K37 hK37 => ?_
  refine Vm H36 fun _ H39 => ?_
  refine V H39 (op_len Tryd.underlying58 rfl (H39.ev rfl)) fun _ H41 => ?_
  refine V H41 (op_sub rfl (H41.ev rfl) (ev_c _ _) (by omega)) fun _ H43 => ?_
  refine Va H43 fun _ H45 => ?_
  refine gE hK37 ?_
  refine gR fun K46 hK46 => ?_
  refine Vm H45 fun _ H48 => ?_
  refine Vm H48 fun _ H50 => ?_
  clear H36 H39 H41 H43 H45 H48
  have O57 := O33.pin 0 rfl
  clear O33
  have O58 : Own w w29 [Chunk.viewAt w29 Kd.string S26 A24 ((pcs s).length) c25 (pcs s), Chunk.sp w.heap.size S20 none 0 ([] : List PP), Bk g13 [.string (⟨#[]⟩ : ByteArray), .string (⟨#[]⟩ : ByteArray), .slice none 0 0] 24, Bk g2 [.string (⟨#[]⟩ : ByteArray), .string (⟨#[]⟩ : ByteArray), .slice none 0 0] 24] := O57
  clear O57
  obtain ⟨ad51, cs54, hA52, hl55, hK56, hc53, _⟩ := Kd.F_get (viewAt_F (O58.get 0 rfl)) (⟨#[]⟩ : ByteArray) ((((pcs s).length) : Int) - 1) (by omega) (by omega)
  obtain rfl := str_openF hK56
  clear hl55
  refine V H50 (op_index Tryd.underlying58 gwsiz9 rfl (H50.ev rfl) (H50.ev rfl) hA52 (⟨by omega, by omega⟩)) fun _ H60 => ?_
  refine V H60 (op_load1 gwagg9 rfl (H60.ev rfl) (((pin_cells (O58.get 0 rfl) hA52 hc53) 0 _ rfl))) fun _ H62 => ?_
  refine V H62 (op_eqs rfl (H62.ev rfl) (ev_c _ _)) fun _ H64 => ?_
  refine gE hK46 ?_
  clear H50 H60 H62
  refine gw_cond H64 rfl (fun hb65 => ?_) (fun hb65 => ?_)
  ·
   have H66 := H64.subst_ (d := 22) (b := true) rfl hb65
   clear H64
   (try simp only [beq_iff_eq, beq_eq_false_iff_ne, ne_eq] at hb65)
   have hlast := hb65
   refine wp_region_lit ?_
   refine Vm H66 fun _ H68 => ?_
   refine Vm H68 fun _ H70 => ?_
   clear H66 H68
   obtain ⟨hr71, hc72, hC73⟩ := cut_hi (P := Tryd.prog) (d := Kd.string) (t := 58) (e := 9) Tryd.underlying58 gwsiz9 A24 c25 (pcs s) (viewAt_le (O58.get 0 rfl)) ((((pcs s).length) : Int) - 1) (by omega) (by omega)
   refine V H70 (op_cut Tryd.underlying58 hr71 rfl (H70.ev rfl) rfl (some_ev (H70.ev rfl))) fun _ H75 => ?_
   clear H70
   have O76 := O58.unpin 0 rfl
   clear O58
   have O77 : Own w w29 [Chunk.view Kd.string S26 A24 ((pcs s).length) c25 (pcs s), Chunk.sp w.heap.size S20 none 0 ([] : List PP), Bk g13 [.string (⟨#[]⟩ : ByteArray), .string (⟨#[]⟩ : ByteArray), .slice none 0 0] 24, Bk g2 [.string (⟨#[]⟩ : ByteArray), .string (⟨#[]⟩ : ByteArray), .slice none 0 0] 24] := O76
   clear O76
   have O78 := O77.view_cut 0 rfl (A' := A24) (n' := (((pcs s).take ((((pcs s).length) : Int) - 1).toNat).length)) (c' := c25) (ys := ((pcs s).take ((((pcs s).length) : Int) - 1).toNat)) hc72 hC73 (fun ad e => ⟨ad, e, rfl⟩)
   clear O77
   have O79 : Own w w29 [Chunk.view Kd.string S26 A24 (((pcs s).take ((((pcs s).length) : Int) - 1).toNat).length) c25 ((pcs s).take ((((pcs s).length) : Int) - 1).toNat), Chunk.sp w.heap.size S20 none 0 ([] : List PP), Bk g13 [.string (⟨#[]⟩ : ByteArray), .string (⟨#[]⟩ : ByteArray), .slice none 0 0] 24, Bk g2 [.string (⟨#[]⟩ : ByteArray), .string (⟨#[]⟩ : ByteArray), .slice none 0 0] 24] := O78
   clear O78
   refine Va H75 fun _ H81 => ?_
   clear H75
   refine wpList_nil ?_
   refine gw_nx ⟨((pcs s).take ((((pcs s).length) : Int) - 1).toNat), A24, c25, S26, (H81.pick (t := 6) rfl (H81.pick (t := 2) rfl (H81.pick (t := 3) rfl (H81.pick (t := 4) rfl (H81.pick (t := 5) rfl H81.nil))))), O79.sel [0, 1, 2, 3] (by decide), ?_⟩
   exact allL_yes s hlast
  have H82 := H64.subst_ (d := 22) (b := false) rfl hb65
  clear H64
  (try simp only [beq_iff_eq, beq_eq_false_iff_ne, ne_eq] at hb65)
  have hlast := hb65
  refine wp_skip ?_
  have O83 := O58.unpin 0 rfl
  clear O58
  have O84 : Own w w29 [Chunk.view Kd.string S26 A24 ((pcs s).length) c25 (pcs s), Chunk.sp w.heap.size S20 none 0 ([] : List PP), Bk g13 [.string (⟨#[]⟩ : ByteArray), .string (⟨#[]⟩ : ByteArray), .slice none 0 0] 24, Bk g2 [.string (⟨#[]⟩ : ByteArray), .string (⟨#[]⟩ : ByteArray), .slice none 0 0] 24] := O83
  clear O83
  refine gw_nx ⟨(pcs s), A24, c25, S26, (H82.pick (t := 6) rfl (H82.pick (t := 2) rfl (H82.pick (t := 3) rfl (H82.pick (t := 4) rfl (H82.pick (t := 5) rfl H82.nil))))), O84.sel [0, 1, 2, 3] (by decide), ?_⟩
  exact allL_no s hlast
 rintro _ w86 ⟨AL, A6, c6, S6, H87, O88, hAL⟩
 refine gR fun K89 hK89 => ?_
 refine Vc H87 fun _ H91 => ?_
 refine gE hK89 ?_
 refine gw_seq fun K92 hK92 => ?_
 refine gR fun K93 hK93 => ?_
 refine Vm H91 fun _ H95 => ?_
 refine V H95 (op_len Tryd.underlying58 rfl (H95.ev rfl)) fun _ H97 => ?_
 refine V H97 (op_move rfl (ev_c _ _)) fun _ H99 => ?_
 refine gE hK93 ?_
 clear H87 H91 H95 H97
 refine wp_block ?_
 have O100 := O88.row_nil Kd.string 9 w.heap.size
 clear O88
 have O101 : Own w w86 [Chunk.row Kd.string 9 w.heap.size (fun _ => False) (.slice none (([] : List ByteArray).length) 0) ([] : List ByteArray), Chunk.view Kd.string S6 A6 AL.length c6 AL, Chunk.sp w.heap.size S20 none 0 ([] : List PP), Bk g13 [.string (⟨#[]⟩ : ByteArray), .string (⟨#[]⟩ : ByteArray), .slice none 0 0] 24, Bk g2 [.string (⟨#[]⟩ : ByteArray), .string (⟨#[]⟩ : ByteArray), .slice none 0 0] 24] := O100
 clear O100
 have O102 := O101.row_view 0 rfl
 clear O101
 have O103 : Own w w86 [Chunk.view Kd.string (fun _ => False) none (([] : List ByteArray).length) 0 ([] : List ByteArray), Chunk.view Kd.string S6 A6 AL.length c6 AL, Chunk.sp w.heap.size S20 none 0 ([] : List PP), Bk g13 [.string (⟨#[]⟩ : ByteArray), .string (⟨#[]⟩ : ByteArray), .slice none 0 0] 24, Bk g2 [.string (⟨#[]⟩ : ByteArray), .string (⟨#[]⟩ : ByteArray), .slice none 0 0] 24] := O102
 clear O102
 have hal := allL_len s
 rw [← hAL] at hal
 refine gw_loop (fun m_ a_ w_ => ∃ (i : Int) (su : ByteArray) (bo : ByteArray) (ps : List PP) (A : Option Addr) (c : Nat) (S : Nat → Prop) (At : Option Addr) (ct : Nat) (St : Nat → Prop) (TL : List ByteArray), Fr 98 a_ [(28, J i), (8, .slice At TL.length ct), (6, .slice A6 AL.length c6), (2, .pointer (some ⟨g2, 0, none⟩)), (5, .pointer (some ⟨g13, 0, none⟩)), (26, .slice A6 AL.length c6), (27, J (AL.length : Int))] ∧ Own w w_ [Chunk.view Kd.string St At TL.length ct TL, Chunk.view Kd.string S6 A6 AL.length c6 AL, Chunk.sp w.heap.size S A c ps, Bk g13 [.string su, .string bo, .slice A ps.length c] 24, Bk g2 [.string (⟨#[]⟩ : ByteArray), .string (⟨#[]⟩ : ByteArray), .slice none 0 0] 24] ∧ (0 ≤ i ∧ i ≤ AL.length) ∧ ((ps.length : Int) + sumL ps ≤ i ∧ (Option.isNone At = true → i ≤ 2 + (ps.length : Int) + sumL ps)) ∧ (parsL (AL.drop i.toNat) i su bo ps (Option.isNone At) TL = parseP s) ∧ m_ = (AL.length - i.toNat)) ((AL.length - (0 : Int).toNat)) ?_ ?_
 ·
  refine ⟨0, _, _, ([] : List PP), none, 0, _, none, 0, _, ([] : List ByteArray), (H99.pick (t := 28) rfl (H99.pick (t := 8) rfl (H99.pick (t := 6) rfl (H99.pick (t := 2) rfl (H99.pick (t := 5) rfl (H99.pick (t := 26) rfl (H99.pick (t := 27) rfl H99.nil))))))), O103.sel [0, 1, 2, 3, 4] (by decide), ?_, ?_, ?_, rfl⟩
  ·
   omega
  ·
   exact ⟨by simp [sumL], fun _ => by simp [sumL]⟩
  show parsL (AL.drop 0) 0 eB eB [] true [] = parseP s; rw [List.drop_zero, hAL]; rfl
 rintro m105 _ w107 ⟨i, su, bo, ps, A, c, S, At, ct, St, TL, H108, O109, hi, hcnt, hP, hm110⟩
 have hts := ts_size (AL.getD i.toNat (⟨#[]⟩ : ByteArray)) (⟨#[10]⟩ : ByteArray)
 have hAs : (AL.getD i.toNat (⟨#[]⟩ : ByteArray)).size ≤ s.size := by rw [hAL]; exact allL_at s i
 refine gR fun K111 hK111 => ?_
 refine V H108 (op_lss rfl (H108.ev rfl) (H108.ev rfl)) fun _ H113 => ?_
 refine gE hK111 ?_
 refine gw_seq fun K114 hK114 => ?_
 clear H108
 refine gw_cond H113 rfl (fun hb115 => ?_) (fun hb115 => ?_)
 ·
  have H116 := H113.subst_ (d := 29) (b := true) rfl hb115
  clear H113
  (try simp only [decide_eq_true_eq] at hb115)
  refine gS hK114 ?_
  refine gw_seq fun K117 hK117 => ?_
  refine wp_block ?_
  refine gR fun K118 hK118 => ?_
  refine Vm H116 fun _ H120 => ?_
  clear H116
  have O127 := O109.pin 1 rfl
  clear O109
  have O128 : Own w w107 [Chunk.view Kd.string St At TL.length ct TL, Chunk.viewAt w107 Kd.string S6 A6 AL.length c6 AL, Chunk.sp w.heap.size S A c ps, Bk g13 [.string su, .string bo, .slice A ps.length c] 24, Bk g2 [.string (⟨#[]⟩ : ByteArray), .string (⟨#[]⟩ : ByteArray), .slice none 0 0] 24] := O127
  clear O127
  obtain ⟨ad121, cs124, hA122, hl125, hK126, hc123, _⟩ := Kd.F_get (viewAt_F (O128.get 1 rfl)) (⟨#[]⟩ : ByteArray) i (by omega) (by omega)
  obtain rfl := str_openF hK126
  clear hl125
  refine V H120 (op_index Tryd.underlying58 gwsiz9 rfl (H120.ev rfl) (H120.ev rfl) hA122 (⟨by omega, by omega⟩)) fun _ H130 => ?_
  refine V H130 (op_load1 gwagg9 rfl (H130.ev rfl) (((pin_cells (O128.get 1 rfl) hA122 hc123) 0 _ rfl))) fun _ H132 => ?_
  refine Va H132 fun _ H134 => ?_
  refine Va H134 fun _ H136 => ?_
  refine gE hK118 ?_
  refine gR fun K137 hK137 => ?_
  refine Vm H136 fun _ H139 => ?_
  clear H120 H130 H132 H134 H136
  refine Wk H139 Tryd.func31 rfl (ar_cons (H139.ev rfl) (ar_cons (ev_c _ _) ar_nil)) (cs_calls (AL.getD i.toNat (⟨#[]⟩ : ByteArray)) (⟨#[10]⟩ : ByteArray) (by omega) _) ?_
  rintro e140 w141 ⟨rfl, hb142⟩
  refine ⟨_, rfl, fun _ H144 => ?_⟩
  have O145 := O128.after hb142
  clear H139 O128 hb142
  refine Vm H144 fun _ H148 => ?_
  refine Vx H148 fun _ H150 => ?_
  refine Vx H150 fun _ H152 => ?_
  refine Va H152 fun _ H154 => ?_
  refine Va H154 fun _ H156 => ?_
  refine gE hK137 ?_
  refine gw_seq fun K157 hK157 => ?_
  clear H144 H148 H150 H152 H154
  refine wp_block ?_
  refine gR fun K158 hK158 => ?_
  refine Vm H156 fun _ H160 => ?_
  refine V H160 (op_not rfl (H160.ev rfl)) fun _ H162 => ?_
  refine Va H162 fun _ H164 => ?_
  refine gE hK158 ?_
  clear H156 H160 H162
  refine gw_cond H164 rfl (fun hb165 => ?_) (fun hb165 => ?_)
  ·
   have H166 := H164.subst_ (d := 57) (b := true) rfl hb165
   clear H164
   (try simp only [Bool.and_eq_true, Bool.and_eq_false_iff, Bool.not_and, Bool.or_eq_true, Bool.or_eq_false_iff, Bool.not_or, Bool.not_not, Bool.not_eq_true', Bool.not_eq_false', Bool.not_eq_true, Bool.not_eq_false] at hb165)
   have hok : hsB (AL.getD i.toNat (⟨#[]⟩ : ByteArray)) lfB = false := by have hb_ := hb165; revert hb_; cases hsB (AL.getD i.toNat (⟨#[]⟩ : ByteArray)) (⟨#[10]⟩ : ByteArray) <;> simp
   refine wp_skip ?_
   refine gw_blk ?_
   refine gw_nx (hK157 _ _ ?_)
   refine gR fun K167 hK167 => ?_
   refine Vm H166 fun _ H169 => ?_
   refine V H169 (op_not rfl (H169.ev rfl)) fun _ H171 => ?_
   clear H166 H169
   have H172 := H171.lit (b := true) (by rw [hok]; rfl)
   clear H171
   refine gE hK167 ?_
   refine gw_cond H172 rfl (fun hb173 => ?_) (fun hb173 => ?_)
   rotate_left
   ·
    cases hb173
   refine gR fun K174 hK174 => ?_
   refine V H172 (op_build (cells := #[.string (⟨#[]⟩ : ByteArray), .string (⟨#[]⟩ : ByteArray), .slice none 0 0]) rfl pt_nil (by kernel_rfl)) fun _ H176 => ?_
   refine Vm H176 fun _ H178 => ?_
   clear H172 H176
   refine gw_setn 4 H178 O145 rfl (want_none rfl) rfl (op_storen gwsiz24 rfl (H178.ev rfl) (H178.ev rfl) (O145.get 4 rfl) rfl (by simp) (by simp [Value.oneCell'])) ?_
   intro _ w181 H180 O182; clear H178 O145
   refine Vc H180 fun _ H184 => ?_
   refine Va H184 fun _ H186 => ?_
   refine gE hK174 ?_
   refine wp_ret ?_
   clear H180 H184
   refine gw_blr ?_
   refine gw_thr ?_
   refine gw_thr ?_
   refine gw_blr ?_
   refine gw_thr ?_
   have O187 := O182.unpin 1 rfl
   clear O182
   have O188 : Own w w181 [Chunk.view Kd.string St At TL.length ct TL, Chunk.view Kd.string S6 A6 AL.length c6 AL, Chunk.sp w.heap.size S A c ps, Bk g13 [.string su, .string bo, .slice A ps.length c] 24, Bk g2 [.string (⟨#[]⟩ : ByteArray), .string (⟨#[]⟩ : ByteArray), .slice none 0 0] 24] := O187
   clear O187
   refine gw_rets3 H186 rfl (rv_celln H186 rfl gwagg24 gwsiz24 (O188.get 4 rfl) rfl) (rv_tmp H186 rfl) (rv_tmp H186 rfl) ?_
   have hr : parseP s = (none, i) := by rw [← hP, drop_at AL i (by omega) (by omega)]; exact pl_bad hok
   have ho_ : outS s = (eB, eB, []) := by unfold outS; rw [hr]; rfl
   have hc_ : codeP s = 80 := by unfold codeP; rw [hr]; rfl
   have O189_1 := (O188.row_nil KP 46 w.heap.size).row_view 0 rfl
   rw [ho_, hc_, hr]
   exact ⟨none, 0, _, rfl, (O189_1.sel [0] (by decide)).out⟩
  have H190 := H164.subst_ (d := 57) (b := false) rfl hb165
  clear H164
  (try simp only [Bool.and_eq_true, Bool.and_eq_false_iff, Bool.not_and, Bool.or_eq_true, Bool.or_eq_false_iff, Bool.not_or, Bool.not_not, Bool.not_eq_true', Bool.not_eq_false', Bool.not_eq_true, Bool.not_eq_false] at hb165)
  have hok : hsB (AL.getD i.toNat (⟨#[]⟩ : ByteArray)) lfB = true := by have hb_ := hb165; revert hb_; cases hsB (AL.getD i.toNat (⟨#[]⟩ : ByteArray)) (⟨#[10]⟩ : ByteArray) <;> simp
  refine gR fun K191 hK191 => ?_
  refine Vm H190 fun _ H193 => ?_
  refine V H193 (op_eqi rfl (H193.ev rfl) (ev_c _ _)) fun _ H195 => ?_
  refine Va H195 fun _ H197 => ?_
  refine gE hK191 ?_
  clear H190 H193 H195
  refine gw_cond H197 rfl (fun hb198 => ?_) (fun hb198 => ?_)
  ·
   have H199 := H197.subst_ (d := 60) (b := true) rfl hb198
   clear H197
   (try simp only [decide_eq_true_eq] at hb198)
   have hi0 := hb198
   refine wp_region_lit ?_
   refine Vm H199 fun _ H201 => ?_
   refine Vf H201 (gwfld24_0 _ _) fun _ H203 => ?_
   clear H199 H201
   have O210 : Own w _ [(Chunk.all [Chunk.view Kd.string St At TL.length ct TL, Chunk.viewAt w107 Kd.string S6 A6 AL.length c6 AL, Chunk.sp w.heap.size S A c ps, Bk g2 [.string (⟨#[]⟩ : ByteArray), .string (⟨#[]⟩ : ByteArray), .slice none 0 0] 24]), Bk g13 [.string su, .string bo, .slice A ps.length c] 24] := Own.bundle (O145.sel [0, 1, 2, 4, 3] (by decide))
   refine Wk H203 Tryd.func32 rfl (ar_cons (H203.ev rfl) (ar_cons (ev_c _ _) (ar_cons (H203.ev rfl) ar_nil))) (named_0 w (Chunk.all [Chunk.view Kd.string St At TL.length ct TL, Chunk.viewAt w107 Kd.string S6 A6 AL.length c6 AL, Chunk.sp w.heap.size S A c ps, Bk g2 [.string (⟨#[]⟩ : ByteArray), .string (⟨#[]⟩ : ByteArray), .slice none 0 0] 24]) g13 (tsB (AL.getD i.toNat (⟨#[]⟩ : ByteArray)) (⟨#[10]⟩ : ByteArray)) (⟨#[84, 101, 115, 116, 32, 114, 117, 110, 32, 111, 102, 32]⟩ : ByteArray) su (.string bo) (.slice A ps.length c) _ (by omega) O210) ?_
   rintro e204 w205 ⟨rfl, hb206⟩
   refine ⟨_, rfl, fun _ H208 => ?_⟩
   have O209 : Own w w205 [Chunk.view Kd.string St At TL.length ct TL, Chunk.viewAt w107 Kd.string S6 A6 AL.length c6 AL, Chunk.sp w.heap.size S A c ps, Bk g2 [.string (⟨#[]⟩ : ByteArray), .string (⟨#[]⟩ : ByteArray), .slice none 0 0] 24, Bk g13 [.string (nmB (tsB (AL.getD i.toNat (⟨#[]⟩ : ByteArray)) (⟨#[10]⟩ : ByteArray)) (⟨#[84, 101, 115, 116, 32, 114, 117, 110, 32, 111, 102, 32]⟩ : ByteArray)), .string bo, .slice A ps.length c] 24] := Own.unbundle (hb206.sel [0, 1] (by decide))
   clear O210
   clear H203 O145 hb206
   refine Va H208 fun _ H213 => ?_
   clear H208
   refine wpList_nil ?_
   refine gw_blk ?_
   refine gw_nx (hK157 _ _ ?_)
   refine gR fun K214 hK214 => ?_
   refine Vm H213 fun _ H216 => ?_
   refine V H216 (op_not rfl (H216.ev rfl)) fun _ H218 => ?_
   refine gE hK214 ?_
   clear H213 H216
   refine gw_cond H218 rfl (fun hb219 => ?_) (fun hb219 => ?_)
   ·
    have H220 := H218.subst_ (d := 83) (b := true) rfl hb219
    clear H218
    (try simp only [Bool.and_eq_true, Bool.and_eq_false_iff, Bool.not_and, Bool.or_eq_true, Bool.or_eq_false_iff, Bool.not_or, Bool.not_not, Bool.not_eq_true', Bool.not_eq_false', Bool.not_eq_true, Bool.not_eq_false] at hb219)
    have hnm := hb219
    refine gR fun K221 hK221 => ?_
    refine V H220 (op_build (cells := #[.string (⟨#[]⟩ : ByteArray), .string (⟨#[]⟩ : ByteArray), .slice none 0 0]) rfl pt_nil (by kernel_rfl)) fun _ H223 => ?_
    refine Vm H223 fun _ H225 => ?_
    clear H220 H223
    refine gw_setn 3 H225 O209 rfl (want_none rfl) rfl (op_storen gwsiz24 rfl (H225.ev rfl) (H225.ev rfl) (O209.get 3 rfl) rfl (by simp) (by simp [Value.oneCell'])) ?_
    intro _ w228 H227 O229; clear H225 O209
    refine Vc H227 fun _ H231 => ?_
    refine Va H231 fun _ H233 => ?_
    refine gE hK221 ?_
    refine wp_ret ?_
    clear H227 H231
    refine gw_blr ?_
    refine gw_thr ?_
    refine gw_thr ?_
    refine gw_blr ?_
    refine gw_thr ?_
    have O234 := O229.unpin 1 rfl
    clear O229
    have O235 : Own w w228 [Chunk.view Kd.string St At TL.length ct TL, Chunk.view Kd.string S6 A6 AL.length c6 AL, Chunk.sp w.heap.size S A c ps, Bk g2 [.string (⟨#[]⟩ : ByteArray), .string (⟨#[]⟩ : ByteArray), .slice none 0 0] 24, Bk g13 [.string (nmB (tsB (AL.getD i.toNat (⟨#[]⟩ : ByteArray)) (⟨#[10]⟩ : ByteArray)) (⟨#[84, 101, 115, 116, 32, 114, 117, 110, 32, 111, 102, 32]⟩ : ByteArray)), .string bo, .slice A ps.length c] 24] := O234
    clear O234
    refine gw_rets3 H233 rfl (rv_celln H233 rfl gwagg24 gwsiz24 (O235.get 3 rfl) rfl) (rv_tmp H233 rfl) (rv_tmp H233 rfl) ?_
    have hr : parseP s = (none, i) := by rw [← hP, drop_at AL i (by omega) (by omega)]; exact pl_0x hok (by omega) hnm
    have ho_ : outS s = (eB, eB, []) := by unfold outS; rw [hr]; rfl
    have hc_ : codeP s = 80 := by unfold codeP; rw [hr]; rfl
    have O236_1 := (O235.row_nil KP 46 w.heap.size).row_view 0 rfl
    rw [ho_, hc_, hr]
    exact ⟨none, 0, _, rfl, (O236_1.sel [0] (by decide)).out⟩
   have H237 := H218.subst_ (d := 83) (b := false) rfl hb219
   clear H218
   (try simp only [Bool.and_eq_true, Bool.and_eq_false_iff, Bool.not_and, Bool.or_eq_true, Bool.or_eq_false_iff, Bool.not_or, Bool.not_not, Bool.not_eq_true', Bool.not_eq_false', Bool.not_eq_true, Bool.not_eq_false] at hb219)
   have hnm := hb219
   refine wp_skip ?_
   refine gw_blk ?_
   refine gw_nx (hK117 _ _ ?_)
   refine wp_region_lit ?_
   refine V H237 (op_add rfl (H237.ev rfl) (ev_c _ _) (by omega)) fun _ H239 => ?_
   refine Vm H239 fun _ H241 => ?_
   clear H237 H239
   refine wpList_nil ?_
   have O242 := O209.unpin 1 rfl
   clear O209
   have O243 : Own w w205 [Chunk.view Kd.string St At TL.length ct TL, Chunk.view Kd.string S6 A6 AL.length c6 AL, Chunk.sp w.heap.size S A c ps, Bk g2 [.string (⟨#[]⟩ : ByteArray), .string (⟨#[]⟩ : ByteArray), .slice none 0 0] 24, Bk g13 [.string (nmB (tsB (AL.getD i.toNat (⟨#[]⟩ : ByteArray)) (⟨#[10]⟩ : ByteArray)) (⟨#[84, 101, 115, 116, 32, 114, 117, 110, 32, 111, 102, 32]⟩ : ByteArray)), .string bo, .slice A ps.length c] 24] := O242
   clear O242
   refine gw_nx ⟨_, ?_, i + 1, (nmB (tsB (AL.getD i.toNat (⟨#[]⟩ : ByteArray)) (⟨#[10]⟩ : ByteArray)) (⟨#[84, 101, 115, 116, 32, 114, 117, 110, 32, 111, 102, 32]⟩ : ByteArray)), bo, ps, A, c, S, At, ct, St, TL, (H241.pick (t := 28) rfl (H241.pick (t := 8) rfl (H241.pick (t := 6) rfl (H241.pick (t := 2) rfl (H241.pick (t := 5) rfl (H241.pick (t := 26) rfl (H241.pick (t := 27) rfl H241.nil))))))), O243.sel [0, 1, 2, 4, 3] (by decide), ?_, ?_, ?_, rfl⟩
   ·
    rw [hm110]; omega
   ·
    omega
   ·
    exact ⟨by omega, fun _ => by omega⟩
   rw [← hP, drop_at AL i (by omega) (by omega)]; symm; exact pl_0 hok (by omega) hnm
  have H244 := H197.subst_ (d := 60) (b := false) rfl hb198
  clear H197
  (try simp only [decide_eq_false_iff_not] at hb198)
  have hi0 := hb198
  refine gR fun K245 hK245 => ?_
  refine Vm H244 fun _ H247 => ?_
  refine V H247 (op_eqi rfl (H247.ev rfl) (ev_c _ _)) fun _ H249 => ?_
  refine Va H249 fun _ H251 => ?_
  refine gE hK245 ?_
  clear H244 H247 H249
  refine gw_cond H251 rfl (fun hb252 => ?_) (fun hb252 => ?_)
  ·
   have H253 := H251.subst_ (d := 66) (b := true) rfl hb252
   clear H251
   (try simp only [decide_eq_true_eq] at hb252)
   have hi1 := hb252
   refine wp_region_lit ?_
   refine Vm H253 fun _ H255 => ?_
   refine Vf H255 (gwfld24_1 _ _) fun _ H257 => ?_
   clear H253 H255
   have O264 : Own w _ [(Chunk.all [Chunk.view Kd.string St At TL.length ct TL, Chunk.viewAt w107 Kd.string S6 A6 AL.length c6 AL, Chunk.sp w.heap.size S A c ps, Bk g2 [.string (⟨#[]⟩ : ByteArray), .string (⟨#[]⟩ : ByteArray), .slice none 0 0] 24]), Bk g13 [.string su, .string bo, .slice A ps.length c] 24] := Own.bundle (O145.sel [0, 1, 2, 4, 3] (by decide))
   refine Wk H257 Tryd.func32 rfl (ar_cons (H257.ev rfl) (ar_cons (ev_c _ _) (ar_cons (H257.ev rfl) ar_nil))) (named_1 w (Chunk.all [Chunk.view Kd.string St At TL.length ct TL, Chunk.viewAt w107 Kd.string S6 A6 AL.length c6 AL, Chunk.sp w.heap.size S A c ps, Bk g2 [.string (⟨#[]⟩ : ByteArray), .string (⟨#[]⟩ : ByteArray), .slice none 0 0] 24]) g13 (tsB (AL.getD i.toNat (⟨#[]⟩ : ByteArray)) (⟨#[10]⟩ : ByteArray)) (⟨#[66, 111, 97, 114, 100, 32]⟩ : ByteArray) bo (.string su) (.slice A ps.length c) _ (by omega) O264) ?_
   rintro e258 w259 ⟨rfl, hb260⟩
   refine ⟨_, rfl, fun _ H262 => ?_⟩
   have O263 : Own w w259 [Chunk.view Kd.string St At TL.length ct TL, Chunk.viewAt w107 Kd.string S6 A6 AL.length c6 AL, Chunk.sp w.heap.size S A c ps, Bk g2 [.string (⟨#[]⟩ : ByteArray), .string (⟨#[]⟩ : ByteArray), .slice none 0 0] 24, Bk g13 [.string su, .string (nmB (tsB (AL.getD i.toNat (⟨#[]⟩ : ByteArray)) (⟨#[10]⟩ : ByteArray)) (⟨#[66, 111, 97, 114, 100, 32]⟩ : ByteArray)), .slice A ps.length c] 24] := Own.unbundle (hb260.sel [0, 1] (by decide))
   clear O264
   clear H257 O145 hb260
   refine Va H262 fun _ H267 => ?_
   clear H262
   refine wpList_nil ?_
   refine gw_blk ?_
   refine gw_nx (hK157 _ _ ?_)
   refine gR fun K268 hK268 => ?_
   refine Vm H267 fun _ H270 => ?_
   refine V H270 (op_not rfl (H270.ev rfl)) fun _ H272 => ?_
   refine gE hK268 ?_
   clear H267 H270
   refine gw_cond H272 rfl (fun hb273 => ?_) (fun hb273 => ?_)
   ·
    have H274 := H272.subst_ (d := 83) (b := true) rfl hb273
    clear H272
    (try simp only [Bool.and_eq_true, Bool.and_eq_false_iff, Bool.not_and, Bool.or_eq_true, Bool.or_eq_false_iff, Bool.not_or, Bool.not_not, Bool.not_eq_true', Bool.not_eq_false', Bool.not_eq_true, Bool.not_eq_false] at hb273)
    have hnm := hb273
    refine gR fun K275 hK275 => ?_
    refine V H274 (op_build (cells := #[.string (⟨#[]⟩ : ByteArray), .string (⟨#[]⟩ : ByteArray), .slice none 0 0]) rfl pt_nil (by kernel_rfl)) fun _ H277 => ?_
    refine Vm H277 fun _ H279 => ?_
    clear H274 H277
    refine gw_setn 3 H279 O263 rfl (want_none rfl) rfl (op_storen gwsiz24 rfl (H279.ev rfl) (H279.ev rfl) (O263.get 3 rfl) rfl (by simp) (by simp [Value.oneCell'])) ?_
    intro _ w282 H281 O283; clear H279 O263
    refine Vc H281 fun _ H285 => ?_
    refine Va H285 fun _ H287 => ?_
    refine gE hK275 ?_
    refine wp_ret ?_
    clear H281 H285
    refine gw_blr ?_
    refine gw_thr ?_
    refine gw_thr ?_
    refine gw_blr ?_
    refine gw_thr ?_
    have O288 := O283.unpin 1 rfl
    clear O283
    have O289 : Own w w282 [Chunk.view Kd.string St At TL.length ct TL, Chunk.view Kd.string S6 A6 AL.length c6 AL, Chunk.sp w.heap.size S A c ps, Bk g2 [.string (⟨#[]⟩ : ByteArray), .string (⟨#[]⟩ : ByteArray), .slice none 0 0] 24, Bk g13 [.string su, .string (nmB (tsB (AL.getD i.toNat (⟨#[]⟩ : ByteArray)) (⟨#[10]⟩ : ByteArray)) (⟨#[66, 111, 97, 114, 100, 32]⟩ : ByteArray)), .slice A ps.length c] 24] := O288
    clear O288
    refine gw_rets3 H287 rfl (rv_celln H287 rfl gwagg24 gwsiz24 (O289.get 3 rfl) rfl) (rv_tmp H287 rfl) (rv_tmp H287 rfl) ?_
    have hr : parseP s = (none, i) := by rw [← hP, drop_at AL i (by omega) (by omega)]; exact pl_1x hok (by omega) hnm
    have ho_ : outS s = (eB, eB, []) := by unfold outS; rw [hr]; rfl
    have hc_ : codeP s = 80 := by unfold codeP; rw [hr]; rfl
    have O290_1 := (O289.row_nil KP 46 w.heap.size).row_view 0 rfl
    rw [ho_, hc_, hr]
    exact ⟨none, 0, _, rfl, (O290_1.sel [0] (by decide)).out⟩
   have H291 := H272.subst_ (d := 83) (b := false) rfl hb273
   clear H272
   (try simp only [Bool.and_eq_true, Bool.and_eq_false_iff, Bool.not_and, Bool.or_eq_true, Bool.or_eq_false_iff, Bool.not_or, Bool.not_not, Bool.not_eq_true', Bool.not_eq_false', Bool.not_eq_true, Bool.not_eq_false] at hb273)
   have hnm := hb273
   refine wp_skip ?_
   refine gw_blk ?_
   refine gw_nx (hK117 _ _ ?_)
   refine wp_region_lit ?_
   refine V H291 (op_add rfl (H291.ev rfl) (ev_c _ _) (by omega)) fun _ H293 => ?_
   refine Vm H293 fun _ H295 => ?_
   clear H291 H293
   refine wpList_nil ?_
   have O296 := O263.unpin 1 rfl
   clear O263
   have O297 : Own w w259 [Chunk.view Kd.string St At TL.length ct TL, Chunk.view Kd.string S6 A6 AL.length c6 AL, Chunk.sp w.heap.size S A c ps, Bk g2 [.string (⟨#[]⟩ : ByteArray), .string (⟨#[]⟩ : ByteArray), .slice none 0 0] 24, Bk g13 [.string su, .string (nmB (tsB (AL.getD i.toNat (⟨#[]⟩ : ByteArray)) (⟨#[10]⟩ : ByteArray)) (⟨#[66, 111, 97, 114, 100, 32]⟩ : ByteArray)), .slice A ps.length c] 24] := O296
   clear O296
   refine gw_nx ⟨_, ?_, i + 1, su, (nmB (tsB (AL.getD i.toNat (⟨#[]⟩ : ByteArray)) (⟨#[10]⟩ : ByteArray)) (⟨#[66, 111, 97, 114, 100, 32]⟩ : ByteArray)), ps, A, c, S, At, ct, St, TL, (H295.pick (t := 28) rfl (H295.pick (t := 8) rfl (H295.pick (t := 6) rfl (H295.pick (t := 2) rfl (H295.pick (t := 5) rfl (H295.pick (t := 26) rfl (H295.pick (t := 27) rfl H295.nil))))))), O297.sel [0, 1, 2, 4, 3] (by decide), ?_, ?_, ?_, rfl⟩
   ·
    rw [hm110]; omega
   ·
    omega
   ·
    exact ⟨by omega, fun _ => by omega⟩
   rw [← hP, drop_at AL i (by omega) (by omega)]; symm; exact pl_1 hok (by omega) hnm
  have H298 := H251.subst_ (d := 66) (b := false) rfl hb252
  clear H251
  (try simp only [decide_eq_false_iff_not] at hb252)
  have hi1 := hb252
  refine gR fun K299 hK299 => ?_
  refine Vm H298 fun _ H301 => ?_
  refine V H301 (op_bin_run (r := .bool (Option.isNone At)) rfl (H301.ev rfl) (ev_c _ _) (ssn_eq Tryd.underlying58)) fun _ H303 => ?_
  refine Vm H303 fun _ H305 => ?_
  clear H298 H301 H303
  refine gw_evG H305 rfl rfl rfl rfl (on_t _) rfl (by decide) (fun h_ => (op_move rfl (H305.ev rfl))) ?_
  intro _ H307; clear H305
  refine gw_callG H307 rfl rfl rfl rfl (on_t _) rfl (by decide) (fun h_ => (op_callL Tryd.func33 (by kernel_rfl) rfl rfl (ar_cons (ev_gv (H307.ev rfl) h_) (ar_cons (ev_c _ _) ar_nil)))) (fun h_ => hp_calls (tsB (AL.getD i.toNat (⟨#[]⟩ : ByteArray)) (⟨#[10]⟩ : ByteArray)) (⟨#[35]⟩ : ByteArray) _) ?_
  intro _ w310 hb311 H309
  have O312 := O145.after hb311; clear H307 O145 hb311
  refine gw_evG H309 rfl rfl rfl rfl (on_t _) rfl (by decide) (fun h_ => (op_not rfl (ev_gv (H309.ev rfl) h_))) ?_
  intro _ H314; clear H309
  refine V H314 (op_pick_and rfl (H314.ev rfl) (fun hp_ => (ev_gv (H314.ev rfl) hp_)) (ev_c _ _)) fun _ H316 => ?_
  refine Va H316 fun _ H318 => ?_
  refine gE hK299 ?_
  clear H314 H316
  refine gw_cond H318 rfl (fun hb319 => ?_) (fun hb319 => ?_)
  ·
   have H320 := H318.subst_ (d := 72) (b := true) rfl hb319
   clear H318
   (try simp only [Bool.and_eq_true, Bool.and_eq_false_iff, Bool.not_and, Bool.or_eq_true, Bool.or_eq_false_iff, Bool.not_or, Bool.not_not, Bool.not_eq_true', Bool.not_eq_false', Bool.not_eq_true, Bool.not_eq_false] at hb319)
   have hcl : (Option.isNone At && !(hpB (tsB (AL.getD i.toNat (⟨#[]⟩ : ByteArray)) (⟨#[10]⟩ : ByteArray)) hashB)) = true := by obtain ⟨h1_, h2_⟩ := hb319; rw [h1_, show hpB (tsB (AL.getD i.toNat (⟨#[]⟩ : ByteArray)) (⟨#[10]⟩ : ByteArray)) hashB = false from h2_]; rfl
   refine wp_region_lit ?_
   refine Vm H320 fun _ H322 => ?_
   clear H320
   have O332 : Own w _ [(Chunk.all [Chunk.view Kd.string St At TL.length ct TL, Chunk.viewAt w107 Kd.string S6 A6 AL.length c6 AL, Bk g2 [.string (⟨#[]⟩ : ByteArray), .string (⟨#[]⟩ : ByteArray), .slice none 0 0] 24]), Bk g13 [.string su, .string bo, .slice A ps.length c] 24, Chunk.sp w.heap.size S A c ps] := Own.bundle (O312.sel [0, 1, 4, 3, 2] (by decide))
   refine Wk H322 Tryd.func34 rfl (ar_cons (H322.ev rfl) (ar_cons (H322.ev rfl) ar_nil)) (line_own w (Chunk.all [Chunk.view Kd.string St At TL.length ct TL, Chunk.viewAt w107 Kd.string S6 A6 AL.length c6 AL, Bk g2 [.string (⟨#[]⟩ : ByteArray), .string (⟨#[]⟩ : ByteArray), .slice none 0 0] 24]) g13 su bo (tsB (AL.getD i.toNat (⟨#[]⟩ : ByteArray)) (⟨#[10]⟩ : ByteArray)) A c S ps _ (by omega) hL (by omega) O332) ?_
   rintro e326 w327 ⟨A323, c324, S325, rfl, hb328⟩
   refine ⟨_, rfl, fun _ H330 => ?_⟩
   have O331 : Own w w327 [Chunk.view Kd.string St At TL.length ct TL, Chunk.viewAt w107 Kd.string S6 A6 AL.length c6 AL, Bk g2 [.string (⟨#[]⟩ : ByteArray), .string (⟨#[]⟩ : ByteArray), .slice none 0 0] 24, Bk g13 [.string su, .string bo, .slice A323 ((lineS ps (tsB (AL.getD i.toNat (⟨#[]⟩ : ByteArray)) (⟨#[10]⟩ : ByteArray))).length) c324] 24, Chunk.sp w.heap.size S325 A323 c324 (lineS ps (tsB (AL.getD i.toNat (⟨#[]⟩ : ByteArray)) (⟨#[10]⟩ : ByteArray)))] := Own.unbundle (hb328.sel [0, 1, 2] (by decide))
   clear O332
   clear H322 O312 hb328
   refine Va H330 fun _ H335 => ?_
   clear H330
   refine wpList_nil ?_
   refine gw_blk ?_
   refine gw_nx (hK157 _ _ ?_)
   refine gR fun K336 hK336 => ?_
   refine Vm H335 fun _ H338 => ?_
   refine V H338 (op_not rfl (H338.ev rfl)) fun _ H340 => ?_
   refine gE hK336 ?_
   clear H335 H338
   refine gw_cond H340 rfl (fun hb341 => ?_) (fun hb341 => ?_)
   ·
    have H342 := H340.subst_ (d := 83) (b := true) rfl hb341
    clear H340
    (try simp only [Bool.and_eq_true, Bool.and_eq_false_iff, Bool.not_and, Bool.or_eq_true, Bool.or_eq_false_iff, Bool.not_or, Bool.not_not, Bool.not_eq_true', Bool.not_eq_false', Bool.not_eq_true, Bool.not_eq_false] at hb341)
    have hnm := hb341
    refine gR fun K343 hK343 => ?_
    refine V H342 (op_build (cells := #[.string (⟨#[]⟩ : ByteArray), .string (⟨#[]⟩ : ByteArray), .slice none 0 0]) rfl pt_nil (by kernel_rfl)) fun _ H345 => ?_
    refine Vm H345 fun _ H347 => ?_
    clear H342 H345
    refine gw_setn 2 H347 O331 rfl (want_none rfl) rfl (op_storen gwsiz24 rfl (H347.ev rfl) (H347.ev rfl) (O331.get 2 rfl) rfl (by simp) (by simp [Value.oneCell'])) ?_
    intro _ w350 H349 O351; clear H347 O331
    refine Vc H349 fun _ H353 => ?_
    refine Va H353 fun _ H355 => ?_
    refine gE hK343 ?_
    refine wp_ret ?_
    clear H349 H353
    refine gw_blr ?_
    refine gw_thr ?_
    refine gw_thr ?_
    refine gw_blr ?_
    refine gw_thr ?_
    have O356 := O351.unpin 1 rfl
    clear O351
    have O357 : Own w w350 [Chunk.view Kd.string St At TL.length ct TL, Chunk.view Kd.string S6 A6 AL.length c6 AL, Bk g2 [.string (⟨#[]⟩ : ByteArray), .string (⟨#[]⟩ : ByteArray), .slice none 0 0] 24, Bk g13 [.string su, .string bo, .slice A323 ((lineS ps (tsB (AL.getD i.toNat (⟨#[]⟩ : ByteArray)) (⟨#[10]⟩ : ByteArray))).length) c324] 24, Chunk.sp w.heap.size S325 A323 c324 (lineS ps (tsB (AL.getD i.toNat (⟨#[]⟩ : ByteArray)) (⟨#[10]⟩ : ByteArray)))] := O356
    clear O356
    refine gw_rets3 H355 rfl (rv_celln H355 rfl gwagg24 gwsiz24 (O357.get 2 rfl) rfl) (rv_tmp H355 rfl) (rv_tmp H355 rfl) ?_
    have hr : parseP s = (none, i) := by rw [← hP, drop_at AL i (by omega) (by omega)]; exact pl_lx hok (by omega) (by omega) hcl hnm
    have ho_ : outS s = (eB, eB, []) := by unfold outS; rw [hr]; rfl
    have hc_ : codeP s = 80 := by unfold codeP; rw [hr]; rfl
    have O358_1 := (O357.row_nil KP 46 w.heap.size).row_view 0 rfl
    rw [ho_, hc_, hr]
    exact ⟨none, 0, _, rfl, (O358_1.sel [0] (by decide)).out⟩
   have H359 := H340.subst_ (d := 83) (b := false) rfl hb341
   clear H340
   (try simp only [Bool.and_eq_true, Bool.and_eq_false_iff, Bool.not_and, Bool.or_eq_true, Bool.or_eq_false_iff, Bool.not_or, Bool.not_not, Bool.not_eq_true', Bool.not_eq_false', Bool.not_eq_true, Bool.not_eq_false] at hb341)
   have hnm := hb341
   refine wp_skip ?_
   refine gw_blk ?_
   refine gw_nx (hK117 _ _ ?_)
   refine wp_region_lit ?_
   refine V H359 (op_add rfl (H359.ev rfl) (ev_c _ _) (by omega)) fun _ H361 => ?_
   refine Vm H361 fun _ H363 => ?_
   clear H359 H361
   refine wpList_nil ?_
   have O364 := O331.unpin 1 rfl
   clear O331
   have O365 : Own w w327 [Chunk.view Kd.string St At TL.length ct TL, Chunk.view Kd.string S6 A6 AL.length c6 AL, Bk g2 [.string (⟨#[]⟩ : ByteArray), .string (⟨#[]⟩ : ByteArray), .slice none 0 0] 24, Bk g13 [.string su, .string bo, .slice A323 ((lineS ps (tsB (AL.getD i.toNat (⟨#[]⟩ : ByteArray)) (⟨#[10]⟩ : ByteArray))).length) c324] 24, Chunk.sp w.heap.size S325 A323 c324 (lineS ps (tsB (AL.getD i.toNat (⟨#[]⟩ : ByteArray)) (⟨#[10]⟩ : ByteArray)))] := O364
   clear O364
   refine gw_nx ⟨_, ?_, i + 1, su, bo, (lineS ps (tsB (AL.getD i.toNat (⟨#[]⟩ : ByteArray)) (⟨#[10]⟩ : ByteArray))), A323, c324, S325, At, ct, St, TL, (H363.pick (t := 28) rfl (H363.pick (t := 8) rfl (H363.pick (t := 6) rfl (H363.pick (t := 2) rfl (H363.pick (t := 5) rfl (H363.pick (t := 26) rfl (H363.pick (t := 27) rfl H363.nil))))))), O365.sel [0, 1, 4, 3, 2] (by decide), ?_, ?_, ?_, rfl⟩
   ·
    rw [hm110]; omega
   ·
    omega
   ·
    have h_ := line_count ps (tsB (AL.getD i.toNat (⟨#[]⟩ : ByteArray)) (⟨#[10]⟩ : ByteArray)) hnm; exact ⟨by omega, fun h2_ => by have h3_ := hcnt.2 h2_; omega⟩
   rw [← hP, drop_at AL i (by omega) (by omega)]; symm; exact pl_l hok (by omega) (by omega) hcl hnm
  have H366 := H318.subst_ (d := 72) (b := false) rfl hb319
  clear H318
  (try simp only [Bool.and_eq_true, Bool.and_eq_false_iff, Bool.not_and, Bool.or_eq_true, Bool.or_eq_false_iff, Bool.not_or, Bool.not_not, Bool.not_eq_true', Bool.not_eq_false', Bool.not_eq_true, Bool.not_eq_false] at hb319)
  have hcl : (Option.isNone At && !(hpB (tsB (AL.getD i.toNat (⟨#[]⟩ : ByteArray)) (⟨#[10]⟩ : ByteArray)) hashB)) = false := by have hb_ := hb319; revert hb_; cases Option.isNone At <;> cases hpB (tsB (AL.getD i.toNat (⟨#[]⟩ : ByteArray)) (⟨#[10]⟩ : ByteArray)) (⟨#[35]⟩ : ByteArray) <;> simp
  refine gw_seq fun K367 hK367 => ?_
  refine gR fun K368 hK368 => ?_
  refine Vm H366 fun _ H370 => ?_
  refine V H370 (op_bin_run (r := .bool (Option.isNone At)) rfl (H370.ev rfl) (ev_c _ _) (ssn_eq Tryd.underlying58)) fun _ H372 => ?_
  refine gE hK368 ?_
  clear H366 H370
  refine gw_cond H372 rfl (fun hb373 => ?_) (fun hb373 => ?_)
  ·
   have H374 := H372.subst_ (d := 39) (b := true) rfl hb373
   clear H372
   (try simp only [Bool.not_eq_true] at hb373)
   have hnil := hb373
   refine wp_region_lit ?_
   refine V H374 (op_loadn gwagg24 gwsiz24 rfl (H374.ev rfl) (O312.get 3 rfl) rfl rfl) fun _ H376 => ?_
   clear H374
   refine Wk H376 Tryd.func28 rfl (ar_cons (H376.ev rfl) ar_nil) (lines_calls su bo A c ps _ (sp_C (O312.get 2 rfl)).1 (sp_C (O312.get 2 rfl)).2 (by omega) (hL.own O312)) ?_
   rintro e380 w381 ⟨A377, c378, S379, rfl, hb382⟩
   refine ⟨_, rfl, fun _ H384 => ?_⟩
   have O385 := O312.fresh hb382
   have hbel386 := O312.below
   clear H376 O312 hb382
   have O387 := O385.lowrow 0 rfl (base' := w.heap.size) (Below.size hbel386)
   have hll := lines_len su bo ps
   have hcn := hcnt.2 hnil
   have hsm41 := some_of_C (Kd.R_reads' (O387.get 0 rfl)).2.2 (by omega)
   refine Vm H384 fun _ H389 => ?_
   clear H384
   obtain ⟨A390, c391, hr392, hc393, hC394, hA395, hN396⟩ := cut_loN (P := Tryd.prog) (d := Kd.string) (t := 58) (e := 9) Tryd.underlying58 gwsiz9 A377 c378 (linesL su bo ps) (row_cap (O387.get 0 rfl)) i (by omega) (by omega)
   refine V H389 (op_cut Tryd.underlying58 hr392 rfl (H389.ev rfl) (some_ev (H389.ev rfl)) rfl) fun _ H398 => ?_
   clear H389
   rw [hsm41] at hN396
   have O399 := O387.row_view 0 rfl
   clear O387
   have O400 : Own w w381 [Chunk.view Kd.string S379 A377 ((linesL su bo ps).length) c378 (linesL su bo ps), Chunk.view Kd.string St At TL.length ct TL, Chunk.viewAt w107 Kd.string S6 A6 AL.length c6 AL, Chunk.sp w.heap.size S A c ps, Bk g13 [.string su, .string bo, .slice A ps.length c] 24, Bk g2 [.string (⟨#[]⟩ : ByteArray), .string (⟨#[]⟩ : ByteArray), .slice none 0 0] 24] := O399
   clear O399
   have O401 := O400.view_cut 0 rfl (A' := A390) (n' := (((linesL su bo ps).drop i.toNat).length)) (c' := c391) (ys := ((linesL su bo ps).drop i.toNat)) hc393 hC394 hA395
   clear O400
   have O402 : Own w w381 [Chunk.view Kd.string S379 A390 (((linesL su bo ps).drop i.toNat).length) c391 ((linesL su bo ps).drop i.toNat), Chunk.view Kd.string St At TL.length ct TL, Chunk.viewAt w107 Kd.string S6 A6 AL.length c6 AL, Chunk.sp w.heap.size S A c ps, Bk g13 [.string su, .string bo, .slice A ps.length c] 24, Bk g2 [.string (⟨#[]⟩ : ByteArray), .string (⟨#[]⟩ : ByteArray), .slice none 0 0] 24] := O401
   clear O401
   refine Va H398 fun _ H404 => ?_
   refine gE hK367 ?_
   refine gR fun K405 hK405 => ?_
   refine Vm H404 fun _ H407 => ?_
   refine V H407 (op_len Tryd.underlying58 rfl (H407.ev rfl)) fun _ H409 => ?_
   refine V H409 (op_gtr rfl (H409.ev rfl) (ev_c _ _)) fun _ H411 => ?_
   refine Vm H411 fun _ H413 => ?_
   clear H398 H404 H407 H409 H411
   refine gw_evG H413 rfl rfl rfl rfl (on_t _) rfl (by decide) (fun h_ => (op_move rfl (H413.ev rfl))) ?_
   intro _ H415; clear H413
   have O425 := O402.pin 0 rfl
   clear O402
   have O426 : Own w w381 [Chunk.viewAt w381 Kd.string S379 A390 (((linesL su bo ps).drop i.toNat).length) c391 ((linesL su bo ps).drop i.toNat), Chunk.view Kd.string St At TL.length ct TL, Chunk.viewAt w107 Kd.string S6 A6 AL.length c6 AL, Chunk.sp w.heap.size S A c ps, Bk g13 [.string su, .string bo, .slice A ps.length c] 24, Bk g2 [.string (⟨#[]⟩ : ByteArray), .string (⟨#[]⟩ : ByteArray), .slice none 0 0] 24] := O425
   clear O425
   obtain ⟨ad419, cs422, hA420, hl423, hK424, hc421⟩ := F_getT (viewAt_F (O426.get 0 rfl)) (⟨#[]⟩ : ByteArray) 0 (⟨_, fun _ _ => rfl⟩)
   obtain rfl := str_openF hK424
   clear hl423
   refine gw_evG H415 rfl rfl rfl rfl (on_t _) rfl (by decide) (fun h_ => (op_index Tryd.underlying58 gwsiz9 rfl (ev_gv (H415.ev rfl) h_) (ev_c _ _) (hA420 ⟨by (try simp only [bxs_, ne_eq, bne_iff_ne, beq_iff_eq, bne_eq_false_iff_eq, beq_eq_false_iff_ne] at h_); omega, by (try simp only [bxs_, ne_eq, bne_iff_ne, beq_iff_eq, bne_eq_false_iff_eq, beq_eq_false_iff_ne] at h_); omega⟩) (⟨by (try simp only [bxs_, ne_eq, bne_iff_ne, beq_iff_eq, bne_eq_false_iff_eq, beq_eq_false_iff_ne] at h_); omega, by (try simp only [bxs_, ne_eq, bne_iff_ne, beq_iff_eq, bne_eq_false_iff_eq, beq_eq_false_iff_ne] at h_); omega⟩))) ?_
   intro _ H428; clear H415
   refine gw_evG H428 rfl rfl rfl rfl (on_t _) rfl (by decide) (fun h_ => (op_load1 gwagg9 rfl (ev_gv (H428.ev rfl) h_) (((pin_cells (O426.get 0 rfl) (hA420 ⟨by (try simp only [bxs_, ne_eq, bne_iff_ne, beq_iff_eq, bne_eq_false_iff_eq, beq_eq_false_iff_ne] at h_); omega, by (try simp only [bxs_, ne_eq, bne_iff_ne, beq_iff_eq, bne_eq_false_iff_eq, beq_eq_false_iff_ne] at h_); omega⟩) (hc421 ⟨by (try simp only [bxs_, ne_eq, bne_iff_ne, beq_iff_eq, bne_eq_false_iff_eq, beq_eq_false_iff_ne] at h_); omega, by (try simp only [bxs_, ne_eq, bne_iff_ne, beq_iff_eq, bne_eq_false_iff_eq, beq_eq_false_iff_ne] at h_); omega⟩)) 0 _ rfl)))) ?_
   intro _ H430; clear H428
   refine gw_evG H430 rfl rfl rfl rfl (on_t _) rfl (by decide) (fun h_ => (op_move rfl (H430.ev rfl))) ?_
   intro _ H432; clear H430
   refine gw_evG H432 rfl rfl rfl rfl (on_t _) rfl (by decide) (fun h_ => (op_eqs rfl (ev_gv (H432.ev rfl) h_) (ev_gv (H432.ev rfl) h_))) ?_
   intro _ H434; clear H432
   refine V H434 (op_pick_and rfl (H434.ev rfl) (fun hp_ => (ev_gv (H434.ev rfl) hp_)) (ev_c _ _)) fun _ H436 => ?_
   refine Va H436 fun _ H438 => ?_
   refine gE hK405 ?_
   refine gR fun K439 hK439 => ?_
   refine Vm H438 fun _ H441 => ?_
   refine gE hK439 ?_
   clear H434 H436 H438
   refine gw_cond H441 rfl (fun hb442 => ?_) (fun hb442 => ?_)
   ·
    have H443 := H441.subst_ (d := 54) (b := true) rfl hb442
    clear H441
    have hkb := hb442
    (try simp only [Bool.and_eq_true, Bool.and_eq_false_iff, decide_eq_true_eq, decide_eq_false_iff_not, Int.not_lt, beq_iff_eq, beq_eq_false_iff_ne, ne_eq] at hb442)
    have htl : (0 < (((linesL su bo ps).drop i.toNat).length : Int) ∧ ((linesL su bo ps).drop i.toNat).getD 0 eB = (tsB (AL.getD i.toNat (⟨#[]⟩ : ByteArray)) (⟨#[10]⟩ : ByteArray))) := by have hb_ := hb442; exact ⟨hb_.1, Pure.bytes_eq hb_.2⟩
    refine wp_region_lit ?_
    refine Vm H443 fun _ H445 => ?_
    clear H443
    obtain ⟨A446, c447, hr448, hc449, hC450, hA451, hN452⟩ := cut_loN (P := Tryd.prog) (d := Kd.string) (t := 58) (e := 9) Tryd.underlying58 gwsiz9 A390 c391 ((linesL su bo ps).drop i.toNat) (viewAt_le (O426.get 0 rfl)) 1 (by omega) (by omega)
    refine V H445 (op_cut Tryd.underlying58 hr448 rfl (H445.ev rfl) (some_ev (ev_c _ _)) rfl) fun _ H454 => ?_
    clear H445
    rw [hN396] at hN452
    have O455 := O426.unpin 0 rfl
    clear O426
    have O456 : Own w w381 [Chunk.view Kd.string S379 A390 (((linesL su bo ps).drop i.toNat).length) c391 ((linesL su bo ps).drop i.toNat), Chunk.view Kd.string St At TL.length ct TL, Chunk.viewAt w107 Kd.string S6 A6 AL.length c6 AL, Chunk.sp w.heap.size S A c ps, Bk g13 [.string su, .string bo, .slice A ps.length c] 24, Bk g2 [.string (⟨#[]⟩ : ByteArray), .string (⟨#[]⟩ : ByteArray), .slice none 0 0] 24] := O455
    clear O455
    have O457 := O456.view_cut 0 rfl (A' := A446) (n' := ((((linesL su bo ps).drop i.toNat).drop (1 : Int).toNat).length)) (c' := c447) (ys := (((linesL su bo ps).drop i.toNat).drop (1 : Int).toNat)) hc449 hC450 hA451
    clear O456
    have O458 : Own w w381 [Chunk.view Kd.string S379 A446 ((((linesL su bo ps).drop i.toNat).drop (1 : Int).toNat).length) c447 (((linesL su bo ps).drop i.toNat).drop (1 : Int).toNat), Chunk.view Kd.string St At TL.length ct TL, Chunk.viewAt w107 Kd.string S6 A6 AL.length c6 AL, Chunk.sp w.heap.size S A c ps, Bk g13 [.string su, .string bo, .slice A ps.length c] 24, Bk g2 [.string (⟨#[]⟩ : ByteArray), .string (⟨#[]⟩ : ByteArray), .slice none 0 0] 24] := O457
    clear O457
    refine Va H454 fun _ H460 => ?_
    clear H454
    refine wpList_nil ?_
    refine gw_blk ?_
    refine gw_nx (hK157 _ _ ?_)
    refine gR fun K461 hK461 => ?_
    refine Vm H460 fun _ H463 => ?_
    refine V H463 (op_not rfl (H463.ev rfl)) fun _ H465 => ?_
    clear H460 H463
    have H466 := H465.lit (b := false) (by rw [hkb]; rfl)
    clear H465
    refine gE hK461 ?_
    refine gw_cond H466 rfl (fun hb467 => ?_) (fun hb467 => ?_)
    ·
     cases hb467
    refine wp_skip ?_
    refine gw_blk ?_
    refine gw_nx (hK117 _ _ ?_)
    refine wp_region_lit ?_
    refine V H466 (op_add rfl (H466.ev rfl) (ev_c _ _) (by omega)) fun _ H469 => ?_
    refine Vm H469 fun _ H471 => ?_
    clear H466 H469
    refine wpList_nil ?_
    have O472 := O458.unpin 2 rfl
    clear O458
    have O473 : Own w w381 [Chunk.view Kd.string S379 A446 ((((linesL su bo ps).drop i.toNat).drop (1 : Int).toNat).length) c447 (((linesL su bo ps).drop i.toNat).drop (1 : Int).toNat), Chunk.view Kd.string St At TL.length ct TL, Chunk.view Kd.string S6 A6 AL.length c6 AL, Chunk.sp w.heap.size S A c ps, Bk g13 [.string su, .string bo, .slice A ps.length c] 24, Bk g2 [.string (⟨#[]⟩ : ByteArray), .string (⟨#[]⟩ : ByteArray), .slice none 0 0] 24] := O472
    clear O472
    refine gw_nx ⟨_, ?_, i + 1, su, bo, ps, A, c, S, A446, c447, S379, (((linesL su bo ps).drop i.toNat).drop (1 : Int).toNat), (H471.pick (t := 28) rfl (H471.pick (t := 8) rfl (H471.pick (t := 6) rfl (H471.pick (t := 2) rfl (H471.pick (t := 5) rfl (H471.pick (t := 26) rfl (H471.pick (t := 27) rfl H471.nil))))))), O473.sel [0, 2, 3, 4, 5] (by decide), ?_, ?_, ?_, rfl⟩
    ·
     rw [hm110]; omega
    ·
     omega
    ·
     exact ⟨by omega, fun h_ => by rw [hN452] at h_; cases h_⟩
    rw [← hP, drop_at AL i (by omega) (by omega)]; symm; rw [hN452]; exact pl_t ((linesL su bo ps).drop i.toNat) (by rw [if_pos hnil]) hok (by omega) (by omega) hcl htl
   have H474 := H441.subst_ (d := 54) (b := false) rfl hb442
   clear H441
   have hkb := hb442
   (try simp only [Bool.and_eq_true, Bool.and_eq_false_iff, decide_eq_true_eq, decide_eq_false_iff_not, Int.not_lt, beq_iff_eq, beq_eq_false_iff_ne, ne_eq] at hb442)
   have htl : ¬ (0 < (((linesL su bo ps).drop i.toNat).length : Int) ∧ ((linesL su bo ps).drop i.toNat).getD 0 eB = (tsB (AL.getD i.toNat (⟨#[]⟩ : ByteArray)) (⟨#[10]⟩ : ByteArray))) := by intro hc_; have hb_ := hb442; rcases hb_ with hb_ | hb_; omega; exact hb_ (by rw [← hc_.2]; rfl)
   refine wp_skip ?_
   refine gw_blk ?_
   refine gw_nx (hK157 _ _ ?_)
   refine gR fun K475 hK475 => ?_
   refine Vm H474 fun _ H477 => ?_
   refine V H477 (op_not rfl (H477.ev rfl)) fun _ H479 => ?_
   clear H474 H477
   have H480 := H479.lit (b := true) (by rw [hkb]; rfl)
   clear H479
   refine gE hK475 ?_
   refine gw_cond H480 rfl (fun hb481 => ?_) (fun hb481 => ?_)
   rotate_left
   ·
    cases hb481
   refine gR fun K482 hK482 => ?_
   refine V H480 (op_build (cells := #[.string (⟨#[]⟩ : ByteArray), .string (⟨#[]⟩ : ByteArray), .slice none 0 0]) rfl pt_nil (by kernel_rfl)) fun _ H484 => ?_
   refine Vm H484 fun _ H486 => ?_
   clear H480 H484
   refine gw_setn 5 H486 O426 rfl (want_none rfl) rfl (op_storen gwsiz24 rfl (H486.ev rfl) (H486.ev rfl) (O426.get 5 rfl) rfl (by simp) (by simp [Value.oneCell'])) ?_
   intro _ w489 H488 O490; clear H486 O426
   refine Vc H488 fun _ H492 => ?_
   refine Va H492 fun _ H494 => ?_
   refine gE hK482 ?_
   refine wp_ret ?_
   clear H488 H492
   refine gw_blr ?_
   refine gw_thr ?_
   refine gw_thr ?_
   refine gw_blr ?_
   refine gw_thr ?_
   have O495 := O490.unpin 0 rfl
   clear O490
   have O496 : Own w w489 [Chunk.view Kd.string S379 A390 (((linesL su bo ps).drop i.toNat).length) c391 ((linesL su bo ps).drop i.toNat), Chunk.view Kd.string St At TL.length ct TL, Chunk.viewAt w107 Kd.string S6 A6 AL.length c6 AL, Chunk.sp w.heap.size S A c ps, Bk g13 [.string su, .string bo, .slice A ps.length c] 24, Bk g2 [.string (⟨#[]⟩ : ByteArray), .string (⟨#[]⟩ : ByteArray), .slice none 0 0] 24] := O495
   clear O495
   have O497 := O496.unpin 2 rfl
   clear O496
   have O498 : Own w w489 [Chunk.view Kd.string S379 A390 (((linesL su bo ps).drop i.toNat).length) c391 ((linesL su bo ps).drop i.toNat), Chunk.view Kd.string St At TL.length ct TL, Chunk.view Kd.string S6 A6 AL.length c6 AL, Chunk.sp w.heap.size S A c ps, Bk g13 [.string su, .string bo, .slice A ps.length c] 24, Bk g2 [.string (⟨#[]⟩ : ByteArray), .string (⟨#[]⟩ : ByteArray), .slice none 0 0] 24] := O497
   clear O497
   refine gw_rets3 H494 rfl (rv_celln H494 rfl gwagg24 gwsiz24 (O498.get 5 rfl) rfl) (rv_tmp H494 rfl) (rv_tmp H494 rfl) ?_
   have hr : parseP s = (none, i) := by rw [← hP, drop_at AL i (by omega) (by omega)]; exact pl_tx ((linesL su bo ps).drop i.toNat) (by rw [if_pos hnil]) hok (by omega) (by omega) hcl htl
   have ho_ : outS s = (eB, eB, []) := by unfold outS; rw [hr]; rfl
   have hc_ : codeP s = 80 := by unfold codeP; rw [hr]; rfl
   have O499_1 := (O498.row_nil KP 46 w.heap.size).row_view 0 rfl
   rw [ho_, hc_, hr]
   exact ⟨none, 0, _, rfl, (O499_1.sel [0] (by decide)).out⟩
  have H500 := H372.subst_ (d := 39) (b := false) rfl hb373
  clear H372
  (try simp only [Bool.not_eq_true] at hb373)
  have hnil := hb373
  refine gS hK367 ?_
  refine gR fun K501 hK501 => ?_
  refine Vm H500 fun _ H503 => ?_
  refine V H503 (op_len Tryd.underlying58 rfl (H503.ev rfl)) fun _ H505 => ?_
  refine V H505 (op_gtr rfl (H505.ev rfl) (ev_c _ _)) fun _ H507 => ?_
  refine Vm H507 fun _ H509 => ?_
  clear H500 H503 H505 H507
  refine gw_evG H509 rfl rfl rfl rfl (on_t _) rfl (by decide) (fun h_ => (op_move rfl (H509.ev rfl))) ?_
  intro _ H511; clear H509
  have O521 := O312.pin 0 rfl
  clear O312
  have O522 : Own w w310 [Chunk.viewAt w310 Kd.string St At TL.length ct TL, Chunk.viewAt w107 Kd.string S6 A6 AL.length c6 AL, Chunk.sp w.heap.size S A c ps, Bk g13 [.string su, .string bo, .slice A ps.length c] 24, Bk g2 [.string (⟨#[]⟩ : ByteArray), .string (⟨#[]⟩ : ByteArray), .slice none 0 0] 24] := O521
  clear O521
  obtain ⟨ad515, cs518, hA516, hl519, hK520, hc517⟩ := F_getT (viewAt_F (O522.get 0 rfl)) (⟨#[]⟩ : ByteArray) 0 (⟨_, fun _ _ => rfl⟩)
  obtain rfl := str_openF hK520
  clear hl519
  refine gw_evG H511 rfl rfl rfl rfl (on_t _) rfl (by decide) (fun h_ => (op_index Tryd.underlying58 gwsiz9 rfl (ev_gv (H511.ev rfl) h_) (ev_c _ _) (hA516 ⟨by (try simp only [bxs_, ne_eq, bne_iff_ne, beq_iff_eq, bne_eq_false_iff_eq, beq_eq_false_iff_ne] at h_); omega, by (try simp only [bxs_, ne_eq, bne_iff_ne, beq_iff_eq, bne_eq_false_iff_eq, beq_eq_false_iff_ne] at h_); omega⟩) (⟨by (try simp only [bxs_, ne_eq, bne_iff_ne, beq_iff_eq, bne_eq_false_iff_eq, beq_eq_false_iff_ne] at h_); omega, by (try simp only [bxs_, ne_eq, bne_iff_ne, beq_iff_eq, bne_eq_false_iff_eq, beq_eq_false_iff_ne] at h_); omega⟩))) ?_
  intro _ H524; clear H511
  refine gw_evG H524 rfl rfl rfl rfl (on_t _) rfl (by decide) (fun h_ => (op_load1 gwagg9 rfl (ev_gv (H524.ev rfl) h_) (((pin_cells (O522.get 0 rfl) (hA516 ⟨by (try simp only [bxs_, ne_eq, bne_iff_ne, beq_iff_eq, bne_eq_false_iff_eq, beq_eq_false_iff_ne] at h_); omega, by (try simp only [bxs_, ne_eq, bne_iff_ne, beq_iff_eq, bne_eq_false_iff_eq, beq_eq_false_iff_ne] at h_); omega⟩) (hc517 ⟨by (try simp only [bxs_, ne_eq, bne_iff_ne, beq_iff_eq, bne_eq_false_iff_eq, beq_eq_false_iff_ne] at h_); omega, by (try simp only [bxs_, ne_eq, bne_iff_ne, beq_iff_eq, bne_eq_false_iff_eq, beq_eq_false_iff_ne] at h_); omega⟩)) 0 _ rfl)))) ?_
  intro _ H526; clear H524
  refine gw_evG H526 rfl rfl rfl rfl (on_t _) rfl (by decide) (fun h_ => (op_move rfl (H526.ev rfl))) ?_
  intro _ H528; clear H526
  refine gw_evG H528 rfl rfl rfl rfl (on_t _) rfl (by decide) (fun h_ => (op_eqs rfl (ev_gv (H528.ev rfl) h_) (ev_gv (H528.ev rfl) h_))) ?_
  intro _ H530; clear H528
  refine V H530 (op_pick_and rfl (H530.ev rfl) (fun hp_ => (ev_gv (H530.ev rfl) hp_)) (ev_c _ _)) fun _ H532 => ?_
  refine Va H532 fun _ H534 => ?_
  refine gE hK501 ?_
  refine gR fun K535 hK535 => ?_
  refine Vm H534 fun _ H537 => ?_
  refine gE hK535 ?_
  clear H530 H532 H534
  refine gw_cond H537 rfl (fun hb538 => ?_) (fun hb538 => ?_)
  ·
   have H539 := H537.subst_ (d := 54) (b := true) rfl hb538
   clear H537
   have hkb := hb538
   (try simp only [Bool.and_eq_true, Bool.and_eq_false_iff, decide_eq_true_eq, decide_eq_false_iff_not, Int.not_lt, beq_iff_eq, beq_eq_false_iff_ne, ne_eq] at hb538)
   have htl : (0 < (TL.length : Int) ∧ TL.getD 0 eB = (tsB (AL.getD i.toNat (⟨#[]⟩ : ByteArray)) (⟨#[10]⟩ : ByteArray))) := by have hb_ := hb538; exact ⟨hb_.1, Pure.bytes_eq hb_.2⟩
   refine wp_region_lit ?_
   refine Vm H539 fun _ H541 => ?_
   clear H539
   obtain ⟨A542, c543, hr544, hc545, hC546, hA547, hN548⟩ := cut_loN (P := Tryd.prog) (d := Kd.string) (t := 58) (e := 9) Tryd.underlying58 gwsiz9 At ct TL (viewAt_le (O522.get 0 rfl)) 1 (by omega) (by omega)
   refine V H541 (op_cut Tryd.underlying58 hr544 rfl (H541.ev rfl) (some_ev (ev_c _ _)) rfl) fun _ H550 => ?_
   clear H541
   rw [hnil] at hN548
   have O551 := O522.unpin 0 rfl
   clear O522
   have O552 : Own w w310 [Chunk.view Kd.string St At TL.length ct TL, Chunk.viewAt w107 Kd.string S6 A6 AL.length c6 AL, Chunk.sp w.heap.size S A c ps, Bk g13 [.string su, .string bo, .slice A ps.length c] 24, Bk g2 [.string (⟨#[]⟩ : ByteArray), .string (⟨#[]⟩ : ByteArray), .slice none 0 0] 24] := O551
   clear O551
   have O553 := O552.view_cut 0 rfl (A' := A542) (n' := ((TL.drop (1 : Int).toNat).length)) (c' := c543) (ys := (TL.drop (1 : Int).toNat)) hc545 hC546 hA547
   clear O552
   have O554 : Own w w310 [Chunk.view Kd.string St A542 ((TL.drop (1 : Int).toNat).length) c543 (TL.drop (1 : Int).toNat), Chunk.viewAt w107 Kd.string S6 A6 AL.length c6 AL, Chunk.sp w.heap.size S A c ps, Bk g13 [.string su, .string bo, .slice A ps.length c] 24, Bk g2 [.string (⟨#[]⟩ : ByteArray), .string (⟨#[]⟩ : ByteArray), .slice none 0 0] 24] := O553
   clear O553
   refine Va H550 fun _ H556 => ?_
   clear H550
   refine wpList_nil ?_
   refine gw_blk ?_
   refine gw_nx (hK157 _ _ ?_)
   refine gR fun K557 hK557 => ?_
   refine Vm H556 fun _ H559 => ?_
   refine V H559 (op_not rfl (H559.ev rfl)) fun _ H561 => ?_
   clear H556 H559
   have H562 := H561.lit (b := false) (by rw [hkb]; rfl)
   clear H561
   refine gE hK557 ?_
   refine gw_cond H562 rfl (fun hb563 => ?_) (fun hb563 => ?_)
   ·
    cases hb563
   refine wp_skip ?_
   refine gw_blk ?_
   refine gw_nx (hK117 _ _ ?_)
   refine wp_region_lit ?_
   refine V H562 (op_add rfl (H562.ev rfl) (ev_c _ _) (by omega)) fun _ H565 => ?_
   refine Vm H565 fun _ H567 => ?_
   clear H562 H565
   refine wpList_nil ?_
   have O568 := O554.unpin 1 rfl
   clear O554
   have O569 : Own w w310 [Chunk.view Kd.string St A542 ((TL.drop (1 : Int).toNat).length) c543 (TL.drop (1 : Int).toNat), Chunk.view Kd.string S6 A6 AL.length c6 AL, Chunk.sp w.heap.size S A c ps, Bk g13 [.string su, .string bo, .slice A ps.length c] 24, Bk g2 [.string (⟨#[]⟩ : ByteArray), .string (⟨#[]⟩ : ByteArray), .slice none 0 0] 24] := O568
   clear O568
   refine gw_nx ⟨_, ?_, i + 1, su, bo, ps, A, c, S, A542, c543, St, (TL.drop (1 : Int).toNat), (H567.pick (t := 28) rfl (H567.pick (t := 8) rfl (H567.pick (t := 6) rfl (H567.pick (t := 2) rfl (H567.pick (t := 5) rfl (H567.pick (t := 26) rfl (H567.pick (t := 27) rfl H567.nil))))))), O569.sel [0, 1, 2, 3, 4] (by decide), ?_, ?_, ?_, rfl⟩
   ·
    rw [hm110]; omega
   ·
    omega
   ·
    exact ⟨by omega, fun h_ => by rw [hN548] at h_; cases h_⟩
   rw [← hP, drop_at AL i (by omega) (by omega)]; symm; rw [hN548]; exact pl_t TL (by rw [hnil]; rfl) hok (by omega) (by omega) hcl htl
  have H570 := H537.subst_ (d := 54) (b := false) rfl hb538
  clear H537
  have hkb := hb538
  (try simp only [Bool.and_eq_true, Bool.and_eq_false_iff, decide_eq_true_eq, decide_eq_false_iff_not, Int.not_lt, beq_iff_eq, beq_eq_false_iff_ne, ne_eq] at hb538)
  have htl : ¬ (0 < (TL.length : Int) ∧ TL.getD 0 eB = (tsB (AL.getD i.toNat (⟨#[]⟩ : ByteArray)) (⟨#[10]⟩ : ByteArray))) := by intro hc_; have hb_ := hb538; rcases hb_ with hb_ | hb_; omega; exact hb_ (by rw [← hc_.2]; rfl)
  refine wp_skip ?_
  refine gw_blk ?_
  refine gw_nx (hK157 _ _ ?_)
  refine gR fun K571 hK571 => ?_
  refine Vm H570 fun _ H573 => ?_
  refine V H573 (op_not rfl (H573.ev rfl)) fun _ H575 => ?_
  clear H570 H573
  have H576 := H575.lit (b := true) (by rw [hkb]; rfl)
  clear H575
  refine gE hK571 ?_
  refine gw_cond H576 rfl (fun hb577 => ?_) (fun hb577 => ?_)
  rotate_left
  ·
   cases hb577
  refine gR fun K578 hK578 => ?_
  refine V H576 (op_build (cells := #[.string (⟨#[]⟩ : ByteArray), .string (⟨#[]⟩ : ByteArray), .slice none 0 0]) rfl pt_nil (by kernel_rfl)) fun _ H580 => ?_
  refine Vm H580 fun _ H582 => ?_
  clear H576 H580
  refine gw_setn 4 H582 O522 rfl (want_none rfl) rfl (op_storen gwsiz24 rfl (H582.ev rfl) (H582.ev rfl) (O522.get 4 rfl) rfl (by simp) (by simp [Value.oneCell'])) ?_
  intro _ w585 H584 O586; clear H582 O522
  refine Vc H584 fun _ H588 => ?_
  refine Va H588 fun _ H590 => ?_
  refine gE hK578 ?_
  refine wp_ret ?_
  clear H584 H588
  refine gw_blr ?_
  refine gw_thr ?_
  refine gw_thr ?_
  refine gw_blr ?_
  refine gw_thr ?_
  have O591 := O586.unpin 0 rfl
  clear O586
  have O592 : Own w w585 [Chunk.view Kd.string St At TL.length ct TL, Chunk.viewAt w107 Kd.string S6 A6 AL.length c6 AL, Chunk.sp w.heap.size S A c ps, Bk g13 [.string su, .string bo, .slice A ps.length c] 24, Bk g2 [.string (⟨#[]⟩ : ByteArray), .string (⟨#[]⟩ : ByteArray), .slice none 0 0] 24] := O591
  clear O591
  have O593 := O592.unpin 1 rfl
  clear O592
  have O594 : Own w w585 [Chunk.view Kd.string St At TL.length ct TL, Chunk.view Kd.string S6 A6 AL.length c6 AL, Chunk.sp w.heap.size S A c ps, Bk g13 [.string su, .string bo, .slice A ps.length c] 24, Bk g2 [.string (⟨#[]⟩ : ByteArray), .string (⟨#[]⟩ : ByteArray), .slice none 0 0] 24] := O593
  clear O593
  refine gw_rets3 H590 rfl (rv_celln H590 rfl gwagg24 gwsiz24 (O594.get 4 rfl) rfl) (rv_tmp H590 rfl) (rv_tmp H590 rfl) ?_
  have hr : parseP s = (none, i) := by rw [← hP, drop_at AL i (by omega) (by omega)]; exact pl_tx TL (by rw [hnil]; rfl) hok (by omega) (by omega) hcl htl
  have ho_ : outS s = (eB, eB, []) := by unfold outS; rw [hr]; rfl
  have hc_ : codeP s = 80 := by unfold codeP; rw [hr]; rfl
  have O595_1 := (O594.row_nil KP 46 w.heap.size).row_view 0 rfl
  rw [ho_, hc_, hr]
  exact ⟨none, 0, _, rfl, (O595_1.sel [0] (by decide)).out⟩
 have H596 := H113.subst_ (d := 29) (b := false) rfl hb115
 clear H113
 (try simp only [decide_eq_false_iff_not, Int.not_lt] at hb115)
 refine wp_exit ?_
 refine gw_thx ?_
 refine gw_thx ?_
 refine gw_in ?_
 refine gw_nx (hK92 _ _ ?_)
 refine gw_seq fun K597 hK597 => ?_
 refine gR fun K598 hK598 => ?_
 refine Vm H596 fun _ H600 => ?_
 refine V H600 (op_bin_run (r := .bool (Option.isNone At)) rfl (H600.ev rfl) (ev_c _ _) (ssn_eq Tryd.underlying58)) fun _ H602 => ?_
 refine Vm H602 fun _ H604 => ?_
 clear H596 H600 H602
 refine gw_evG H604 rfl rfl rfl rfl (on_f _) rfl (by decide) (fun h_ => (op_move rfl (H604.ev rfl))) ?_
 intro _ H606; clear H604
 refine gw_evG H606 rfl rfl rfl rfl (on_f _) rfl (by decide) (fun h_ => (op_len Tryd.underlying58 rfl (ev_gv (H606.ev rfl) h_))) ?_
 intro _ H608; clear H606
 refine gw_evG H608 rfl rfl rfl rfl (on_f _) rfl (by decide) (fun h_ => (op_gtr rfl (ev_gv (H608.ev rfl) h_) (ev_c _ _))) ?_
 intro _ H610; clear H608
 refine V H610 (op_pick_or rfl (H610.ev rfl) (ev_c _ _) (fun hp_ => (ev_gv (H610.ev rfl) (not_t hp_)))) fun _ H612 => ?_
 refine gE hK598 ?_
 clear H610
 refine gw_cond H612 rfl (fun hb613 => ?_) (fun hb613 => ?_)
 ·
  have H614 := H612.subst_ (d := 93) (b := true) rfl hb613
  clear H612
  (try simp only [Bool.or_eq_true, Bool.or_eq_false_iff, decide_eq_true_eq, decide_eq_false_iff_not, Int.not_lt] at hb613)
  have hend : (Option.isNone At || decide (0 < (TL.length : Int))) = true := by have hb_ := hb613; revert hb_; cases Option.isNone At <;> simp
  refine gR fun K615 hK615 => ?_
  refine V H614 (op_build (cells := #[.string (⟨#[]⟩ : ByteArray), .string (⟨#[]⟩ : ByteArray), .slice none 0 0]) rfl pt_nil (by kernel_rfl)) fun _ H617 => ?_
  refine Vm H617 fun _ H619 => ?_
  refine V H619 (op_len Tryd.underlying58 rfl (H619.ev rfl)) fun _ H621 => ?_
  clear H614 H617 H619
  refine gw_setn 4 H621 O109 rfl (want_none rfl) rfl (op_storen gwsiz24 rfl (H621.ev rfl) (H621.ev rfl) (O109.get 4 rfl) rfl (by simp) (by simp [Value.oneCell'])) ?_
  intro _ w624 H623 O625; clear H621 O109
  refine Vc H623 fun _ H627 => ?_
  refine Va H627 fun _ H629 => ?_
  refine gE hK615 ?_
  refine wp_ret ?_
  clear H623 H627
  refine gw_thr ?_
  refine gw_rets3 H629 rfl (rv_celln H629 rfl gwagg24 gwsiz24 (O625.get 4 rfl) rfl) (rv_tmp H629 rfl) (rv_tmp H629 rfl) ?_
  have hr : parseP s = (none, (AL.length : Int)) := by rw [← hP, List.drop_eq_nil_of_le (by omega)]; unfold parsL; rw [if_pos hend]; exact congrArg (Prod.mk none) (by omega)
  have ho_ : outS s = (eB, eB, []) := by unfold outS; rw [hr]; rfl
  have hc_ : codeP s = 80 := by unfold codeP; rw [hr]; rfl
  have O630_1 := (O625.row_nil KP 46 w.heap.size).row_view 0 rfl
  rw [ho_, hc_, hr]
  exact ⟨none, 0, _, rfl, (O630_1.sel [0] (by decide)).out⟩
 have H631 := H612.subst_ (d := 93) (b := false) rfl hb613
 clear H612
 (try simp only [Bool.or_eq_true, Bool.or_eq_false_iff, decide_eq_true_eq, decide_eq_false_iff_not, Int.not_lt] at hb613)
 have hend : ¬ (Option.isNone At || decide (0 < (TL.length : Int))) = true := by have hb_ := hb613; revert hb_; cases Option.isNone At <;> simp
 refine gS hK597 ?_
 refine gR fun K632 hK632 => ?_
 refine V H631 (op_loadn gwagg24 gwsiz24 rfl (H631.ev rfl) (O109.get 3 rfl) rfl rfl) fun _ H634 => ?_
 clear H631
 refine gw_setn 4 H634 O109 rfl (want_none rfl) rfl (op_storen gwsiz24 rfl (H634.ev rfl) (H634.ev rfl) (O109.get 4 rfl) rfl (by simp) (by simp [Value.oneCell'])) ?_
 intro _ w637 H636 O638; clear H634 O109
 refine Vc H636 fun _ H640 => ?_
 refine Vc H640 fun _ H642 => ?_
 refine gE hK632 ?_
 refine wp_ret ?_
 clear H636 H640
 refine gw_rets3 H642 rfl (rv_celln H642 rfl gwagg24 gwsiz24 (O638.get 4 rfl) rfl) (rv_tmp H642 rfl) (rv_tmp H642 rfl) ?_
 have hr : parseP s = (some (su, bo, ps), 0) := by rw [← hP, List.drop_eq_nil_of_le (by omega)]; unfold parsL; rw [if_neg hend]
 have ho_ : outS s = (su, bo, ps) := by unfold outS; rw [hr]; rfl
 have hc_ : codeP s = 0 := by unfold codeP; rw [hr]; rfl
 have O643_1 := O638.sp_view (i := 2) rfl
 rw [ho_, hc_, hr]
 exact ⟨_, _, _, rfl, (O643_1.sel [2] (by decide)).out⟩
end GParse_
export GParse_ (parse_calls)
section
attribute [local go_sem] max2_int min2_int max_two min_two max_three min_three max_four min_four   -- for this text's walks alone
def colloquylaw20_of.l0 : Nat → List (S46) → Int → Int → ByteArray → ByteArray → List (S53) → Option (ByteArray × ByteArray × (List (S53)))
  | 0, _, _, _, _, _, _ => none
  | k + 1, x12, x13, x14, x104000, x104001, x104002 => if x14 < x13 then (if 0 ≤ x14 then (if x14 < (x12.length : Int) then (if x104002.length < 3518437208883 then (colloquylaw20_of.l0 k x12 x13 (wrap64 (x14 + 1)) x104000 x104001 (x104002 ++ [(⟨(rd_T46 x12 x14).f0, (rd_T46 x12 x14).f1⟩ : S53)])) else (none)) else (none)) else (none)) else (some (x104000, x104001, x104002))
def colloquylaw20_of.f (k : Nat) (a0_0 : ByteArray) (a0_1 : ByteArray) (l0_2 : List (S46)) : Option (ByteArray × ByteArray × (List (S53))) := colloquylaw20_of.l0 k l0_2 (l0_2.length : Int) 0 a0_0 a0_1 ([] : List (S53))
theorem colloquylaw20_of.mono_l : ∀ k, (∀ y0 y1 y2 y3 y4 y5, LeO (colloquylaw20_of.l0 k y0 y1 y2 y3 y4 y5) (colloquylaw20_of.l0 (k + 1) y0 y1 y2 y3 y4 y5))
  | 0 => fun _ _ _ _ _ _ r h => by simp [colloquylaw20_of.l0] at h
  | k + 1 => by
    have ih0 := colloquylaw20_of.mono_l k
    · intro y0 y1 y2 y3 y4 y5
      unfold colloquylaw20_of.l0
      repeat' first
      | (with_reducible exact ih0 _ _ _ _ _ _)
      | (with_reducible exact LeO.refl _)
      | (with_reducible exact LeO.none _)
      | (with_reducible refine LeO.ite ?_ ?_)
      | (with_reducible refine LeO.bind ?_ (fun _ => ?_))
      | exact ih0 _ _ _ _ _ _
      | exact LeO.none _
      | refine LeO.ite ?_ ?_
      | refine LeO.bind ?_ (fun _ => ?_)
theorem colloquylaw20_of.mono : ∀ a0 a1 a2 k, LeO (colloquylaw20_of.f k a0 a1 a2) (colloquylaw20_of.f (k + 1) a0 a1 a2) := by
  intro a0 a1 a2 k
  have ih0 := colloquylaw20_of.mono_l k
  unfold colloquylaw20_of.f
  repeat' first
      | (with_reducible exact ih0 _ _ _ _ _ _)
      | (with_reducible exact LeO.refl _)
      | (with_reducible exact LeO.none _)
      | (with_reducible refine LeO.ite ?_ ?_)
      | (with_reducible refine LeO.bind ?_ (fun _ => ?_))
      | exact ih0 _ _ _ _ _ _
      | exact LeO.none _
      | refine LeO.ite ?_ ?_
      | refine LeO.bind ?_ (fun _ => ?_)
theorem colloquylaw20_of.calls (k : Nat) (a0_0 : ByteArray) (a0_1 : ByteArray) (P0_2_ : Nat → Prop) (A0_2 : Option Addr) (c0_2 : Nat) (l0_2 : List (S46)) (r1 : ByteArray) (r2 : ByteArray) (r3 : List (S53)) (w : World) (hs0_2 : Kd.V k46 46 w w.heap.size (fun k_ => P0_2_ k_) (.slice A0_2 l0_2.length c0_2) l0_2) (h : colloquylaw20_of.f k a0_0 a0_1 l0_2 = some (r1, r2, r3)) :
    Calls Tryd.prog 11 #[.agg #[.string a0_0, .string a0_1, .slice A0_2 l0_2.length c0_2]] w fun e w' => ∃ v2_ : Value, e = .returned (.agg #[.string r1, .string r2, v2_]) ∧ Kd.N k53 53 w' w.heap.size (fun k_ => (P0_2_ k_ ∨ w.heap.size ≤ k_)) v2_ r3 ∧ Below w.heap.size w w' := by
  have hu24 := Tryd.underlying24
  have hu29 := Tryd.underlying29
  have hu46 := Tryd.underlying46
  have hu53 := Tryd.underlying53
  have HO0_2 := Aside0.mk (show Kd.V k46 46 w w.heap.size (fun k_ => (P0_2_ k_ ∨ w.heap.size ≤ k_)) (.slice A0_2 l0_2.length c0_2) l0_2 from Kd.V_mono hs0_2 (fun k_ hk => .inl hk))
  have HB := Aside0.mk (Below.refl w.heap.size w)
  have H : (colloquylaw20_of.l0 k l0_2 (l0_2.length : Int) 0 a0_0 a0_1 ([] : List (S53))) = some (r1, r2, r3) := h
  clear h
  have H' := Aside0.mk H
  clear H
  go_enter Tryd.func11, Tryd.ntmps11
  go_wp2_with (first | ((with_reducible refine gate_dst (N := 1) rfl ?_); refine box_event ?hg (N := 1) ?hd (cs := #[.string a0_0, .string a0_1, .slice A0_2 l0_2.length c0_2]) (t := 24) ?hr ?_; (case hd => rfl); (case hg => rfl); (case hr => first | (go_simp; done) | (go_simp; rfl)); intro gb101 hg w2 hbox hb; have n0_ := Aside0.mk (Kd.V_below (Kd.V_elderB (by (with_reducible repeat (first | apply Kd.V_alloc | apply Kd.V_drewN | apply Kd.V_drew)); exact HO0_2.out) gb101 (Nat.le_of_eq hg.symm)) hb); have n1_ := Aside0.mk (below_step (by repeat (first | (with_reducible first | exact HB.out | apply below_alloc | apply pw_below_drewN | apply below_drew1) | exact HB.out)) hb); have n2_ := Aside0.mk (hbox); have n3_ := Aside0.mk ((by rw [hg]; exact (below_size (by repeat (first | (with_reducible first | exact HB.out | apply below_alloc | apply pw_below_drewN | apply below_drew1) | exact HB.out))) : w.heap.size ≤ gb101)); have n4_ := Aside0.mk ((by rw [hg]; exact (below_size (by repeat (first | (with_reducible first | exact HB.out | apply below_alloc | apply pw_below_drewN | apply below_drew1) | exact HB.out))) : w.heap.size ≤ gb101)); clear HO0_2; clear HB; have HO0_2 := n0_; have HB := n1_; have BK101 := n2_; have GW101 := n3_; have GE101 := n4_; clear n0_ n1_ n2_ n3_ n4_; clear hb hbox hg) | ((with_reducible refine gate_dst (N := 2) rfl ?_); refine box_event ?hg (N := 2) ?hd (cs := #[.string (⟨#[]⟩ : ByteArray), .string (⟨#[]⟩ : ByteArray), .slice none 0 0]) (t := 29) ?hr ?_; (case hd => rfl); (case hg => rfl); (case hr => first | (go_simp; done) | (go_simp; rfl)); intro gb102 hg w3 hbox hb; have n0_ := Aside0.mk (Kd.V_below (Kd.V_elderB (by (with_reducible repeat (first | apply Kd.V_alloc | apply Kd.V_drewN | apply Kd.V_drew)); exact HO0_2.out) gb102 (Nat.le_of_eq hg.symm)) hb); have n1_ := Aside0.mk (blk_below (g := gb101) (o := .cells #[.string a0_0, .string a0_1, .slice A0_2 l0_2.length c0_2] 24 (0, 0)) (by (with_reducible repeat (first | refine blk_drewN ?_ _ | refine blk_drew ?_ | refine blk_alloc ?_ _)); exact BK101.out) hb); have n2_ := Aside0.mk (below_step (by repeat (first | (with_reducible first | exact HB.out | apply below_alloc | apply pw_below_drewN | apply below_drew1 | refine below_set ?_ GE101.out) | exact HB.out)) hb); have n3_ := Aside0.mk (hbox); have n4_ := Aside0.mk ((by rw [hg]; exact (below_size (by repeat (first | (with_reducible first | exact HB.out | apply below_alloc | apply pw_below_drewN | apply below_drew1 | refine below_set ?_ GE101.out) | exact HB.out))) : w.heap.size ≤ gb102)); have n5_ := Aside0.mk ((by rw [hg]; exact (below_size (by repeat (first | (with_reducible first | exact HB.out | apply below_alloc | apply pw_below_drewN | apply below_drew1 | refine below_set ?_ GE101.out) | exact HB.out))) : w.heap.size ≤ gb102)); have n6_ := Aside0.mk ((by rw [hg]; exact Nat.ne_of_lt (blk_lt (g := gb101) (o := .cells #[.string a0_0, .string a0_1, .slice A0_2 l0_2.length c0_2] 24 (0, 0)) (by (with_reducible repeat (first | refine blk_drewN ?_ _ | refine blk_drew ?_ | refine blk_alloc ?_ _)); exact BK101.out)) : gb101 ≠ gb102)); have n7_ := Aside0.mk ((by rw [hg]; exact Nat.ne_of_gt (blk_lt (g := gb101) (o := .cells #[.string a0_0, .string a0_1, .slice A0_2 l0_2.length c0_2] 24 (0, 0)) (by (with_reducible repeat (first | refine blk_drewN ?_ _ | refine blk_drew ?_ | refine blk_alloc ?_ _)); exact BK101.out)) : gb102 ≠ gb101)); clear HO0_2; clear BK101; clear HB; have HO0_2 := n0_; have BK101 := n1_; have HB := n2_; have BK102 := n3_; have GW102 := n4_; have GE102 := n5_; have NB101_102 := n6_; have NB102_101 := n7_; clear n0_ n1_ n2_ n3_ n4_ n5_ n6_ n7_; clear hb hbox hg; have hnb4 := NB101_102.out; have hnc4 := NB102_101.out; have hcz5_0 : w3.cell? ⟨gb101, 0, none⟩ = some (.string a0_0) := (blk_cell BK101.out 0).trans rfl; have hcz5_1 : w3.cell? ⟨gb101, 1, none⟩ = some (.string a0_1) := (blk_cell BK101.out 1).trans rfl; have hcz5_2 : w3.cell? ⟨gb101, 2, none⟩ = some (.slice A0_2 l0_2.length c0_2) := (blk_cell BK101.out 2).trans rfl; have hfz5_0 := blk_frozen BK101.out 0; have hfz5_1 := blk_frozen BK101.out 1; have hfz5_2 := blk_frozen BK101.out 2) | ((with_reducible refine gate_dst (N := 3) rfl ?_); refine box_event ?hg (N := 3) ?hd (cs := #[.string (⟨#[]⟩ : ByteArray), .string (⟨#[]⟩ : ByteArray), .slice none 0 0]) (t := 29) ?hr ?_; (case hd => rfl); (case hg => rfl); (case hr => first | (go_simp; done) | (go_simp; rfl)); intro gb103 hg w6 hbox hb; have n0_ := Aside0.mk (Kd.V_below (Kd.V_elderB (by (with_reducible repeat (first | apply Kd.V_alloc | apply Kd.V_drewN | apply Kd.V_drew)); exact HO0_2.out) gb103 (Nat.le_of_eq hg.symm)) hb); have n1_ := Aside0.mk (blk_below (g := gb101) (o := .cells #[.string a0_0, .string a0_1, .slice A0_2 l0_2.length c0_2] 24 (0, 0)) (by (with_reducible repeat (first | refine blk_drewN ?_ _ | refine blk_drew ?_ | refine blk_alloc ?_ _)); exact BK101.out) hb); have n2_ := Aside0.mk (blk_below (g := gb102) (o := .cells #[.string (⟨#[]⟩ : ByteArray), .string (⟨#[]⟩ : ByteArray), .slice none 0 0] 29 (0, 0)) (by (with_reducible repeat (first | refine blk_drewN ?_ _ | refine blk_drew ?_ | refine blk_alloc ?_ _)); exact BK102.out) hb); have n3_ := Aside0.mk (below_step (by repeat (first | (with_reducible first | exact HB.out | apply below_alloc | apply pw_below_drewN | apply below_drew1 | refine below_set ?_ GE101.out | refine below_set ?_ GE102.out) | exact HB.out)) hb); have n4_ := Aside0.mk (hbox); have n5_ := Aside0.mk ((by rw [hg]; exact (below_size (by repeat (first | (with_reducible first | exact HB.out | apply below_alloc | apply pw_below_drewN | apply below_drew1 | refine below_set ?_ GE101.out | refine below_set ?_ GE102.out) | exact HB.out))) : w.heap.size ≤ gb103)); have n6_ := Aside0.mk ((by rw [hg]; exact (below_size (by repeat (first | (with_reducible first | exact HB.out | apply below_alloc | apply pw_below_drewN | apply below_drew1 | refine below_set ?_ GE101.out | refine below_set ?_ GE102.out) | exact HB.out))) : w.heap.size ≤ gb103)); have n7_ := Aside0.mk ((by rw [hg]; exact Nat.ne_of_lt (blk_lt (g := gb101) (o := .cells #[.string a0_0, .string a0_1, .slice A0_2 l0_2.length c0_2] 24 (0, 0)) (by (with_reducible repeat (first | refine blk_drewN ?_ _ | refine blk_drew ?_ | refine blk_alloc ?_ _)); exact BK101.out)) : gb101 ≠ gb103)); have n8_ := Aside0.mk ((by rw [hg]; exact Nat.ne_of_gt (blk_lt (g := gb101) (o := .cells #[.string a0_0, .string a0_1, .slice A0_2 l0_2.length c0_2] 24 (0, 0)) (by (with_reducible repeat (first | refine blk_drewN ?_ _ | refine blk_drew ?_ | refine blk_alloc ?_ _)); exact BK101.out)) : gb103 ≠ gb101)); have n9_ := Aside0.mk ((by rw [hg]; exact Nat.ne_of_lt (blk_lt (g := gb102) (o := .cells #[.string (⟨#[]⟩ : ByteArray), .string (⟨#[]⟩ : ByteArray), .slice none 0 0] 29 (0, 0)) (by (with_reducible repeat (first | refine blk_drewN ?_ _ | refine blk_drew ?_ | refine blk_alloc ?_ _)); exact BK102.out)) : gb102 ≠ gb103)); have n10_ := Aside0.mk ((by rw [hg]; exact Nat.ne_of_gt (blk_lt (g := gb102) (o := .cells #[.string (⟨#[]⟩ : ByteArray), .string (⟨#[]⟩ : ByteArray), .slice none 0 0] 29 (0, 0)) (by (with_reducible repeat (first | refine blk_drewN ?_ _ | refine blk_drew ?_ | refine blk_alloc ?_ _)); exact BK102.out)) : gb103 ≠ gb102)); clear HO0_2; clear BK101; clear BK102; clear HB; have HO0_2 := n0_; have BK101 := n1_; have BK102 := n2_; have HB := n3_; have BK103 := n4_; have GW103 := n5_; have GE103 := n6_; have NB101_103 := n7_; have NB103_101 := n8_; have NB102_103 := n9_; have NB103_102 := n10_; clear n0_ n1_ n2_ n3_ n4_ n5_ n6_ n7_ n8_ n9_ n10_; clear hb hbox hg; have hnb7 := NB103_101.out; have hnc7 := NB101_103.out; have hnb8 := NB103_102.out; have hnc8 := NB102_103.out; have hcz9_0 : w6.cell? ⟨gb103, 0, none⟩ = some (.string (⟨#[]⟩ : ByteArray)) := (blk_cell BK103.out 0).trans rfl; have hcz9_1 : w6.cell? ⟨gb103, 1, none⟩ = some (.string (⟨#[]⟩ : ByteArray)) := (blk_cell BK103.out 1).trans rfl; have hcz9_2 : w6.cell? ⟨gb103, 2, none⟩ = some (.slice none 0 0) := (blk_cell BK103.out 2).trans rfl; have hfz9_0 := blk_frozen BK103.out 0; have hfz9_1 := blk_frozen BK103.out 1; have hfz9_2 := blk_frozen BK103.out 2; have hcz10_0 : w6.cell? ⟨gb101, 0, none⟩ = some (.string a0_0) := (blk_cell BK101.out 0).trans rfl; have hcz10_1 : w6.cell? ⟨gb101, 1, none⟩ = some (.string a0_1) := (blk_cell BK101.out 1).trans rfl; have hcz10_2 : w6.cell? ⟨gb101, 2, none⟩ = some (.slice A0_2 l0_2.length c0_2) := (blk_cell BK101.out 2).trans rfl; have hfz10_0 := blk_frozen BK101.out 0; have hfz10_1 := blk_frozen BK101.out 1; have hfz10_2 := blk_frozen BK101.out 2))
  go_loopg [14] k (fun kq v14 w' => ∃ (x14_1 : Int) (x104002_1 : List (S53)) (u104002 : Value), v14 = .int .i64 x14_1 ∧ Aside0 (colloquylaw20_of.l0 kq l0_2 (l0_2.length : Int) x14_1 a0_0 a0_1 x104002_1 = some (r1, r2, r3)) ∧ Aside0 (kq ≤ k) ∧ Aside0 (Kd.V k46 46 w' w.heap.size (fun k_ => (P0_2_ k_ ∨ w.heap.size ≤ k_) ∧ some k_ ≠ (u104002 : Value).ownBlock ∧ k_ ≠ gb101 ∧ k_ ≠ gb102 ∧ k_ ≠ gb103) (.slice A0_2 l0_2.length c0_2) l0_2) ∧ Aside0 (Kd.V k46 46 w' w.heap.size (fun k_ => (P0_2_ k_ ∨ w.heap.size ≤ k_) ∧ some k_ ≠ (u104002 : Value).ownBlock ∧ k_ ≠ gb101 ∧ k_ ≠ gb102 ∧ k_ ≠ gb103) (.slice A0_2 l0_2.length c0_2) l0_2) ∧ Aside0 (Kd.N k53 53 w' w.heap.size (fun k_ => (P0_2_ k_ ∨ w.heap.size ≤ k_) ∧ k_ ≠ gb101 ∧ k_ ≠ gb102 ∧ k_ ≠ gb103) u104002 x104002_1) ∧ Aside0 (w'.heap[gb101]? = some (.cells #[.string a0_0, .string a0_1, (.slice A0_2 l0_2.length c0_2)] 24 (0, 0))) ∧ Aside0 (w'.heap[gb102]? = some (.cells #[.string (⟨#[]⟩ : ByteArray), .string (⟨#[]⟩ : ByteArray), (.slice none 0 0)] 29 (0, 0))) ∧ Aside0 (w'.heap[gb103]? = some (.cells #[.string a0_0, .string a0_1, u104002] 29 (0, 0))) ∧ Aside0 (Below w.heap.size w w'))
  case atStart => exact ⟨(0), (([] : List (S53))), (.slice none 0 0), (by first | rfl | (simp; done) | (simp [*]; done)), H', ⟨Nat.le_refl _⟩, ⟨by (with_reducible repeat (first | apply Kd.V_alloc | apply Kd.V_drewN | apply Kd.V_drew)); exact Kd.V_mono (Kd.V_far (p := ⟨gb103, 2, none⟩) (Kd.V_far (p := ⟨gb103, 1, none⟩) (Kd.V_far (p := ⟨gb103, 0, none⟩) (Kd.V_mono HO0_2.out (fun k_ hk => (⟨hk, hk.2⟩ : _ ∧ k_ ≠ gb103))) (fun _ hk => hk.2) (.string a0_0)) (fun _ hk => hk.2) (.string a0_1)) (fun _ hk => hk.2) (.slice none 0 0)) (fun _ hk => ⟨hk.1.1.1.1, ⟨(by simp [Value.ownBlock]), ⟨hk.1.1.1.2, ⟨hk.1.1.2, hk.1.2⟩⟩⟩⟩)⟩, ⟨by (with_reducible repeat (first | apply Kd.V_alloc | apply Kd.V_drewN | apply Kd.V_drew)); exact Kd.V_mono (Kd.V_far (p := ⟨gb103, 2, none⟩) (Kd.V_far (p := ⟨gb103, 1, none⟩) (Kd.V_far (p := ⟨gb103, 0, none⟩) (Kd.V_mono HO0_2.out (fun k_ hk => (⟨hk, hk.2⟩ : _ ∧ k_ ≠ gb103))) (fun _ hk => hk.2) (.string a0_0)) (fun _ hk => hk.2) (.string a0_1)) (fun _ hk => hk.2) (.slice none 0 0)) (fun _ hk => ⟨hk.1.1.1.1, ⟨(by simp [Value.ownBlock]), ⟨hk.1.1.1.2, ⟨hk.1.1.2, hk.1.2⟩⟩⟩⟩)⟩, ⟨by first | exact Kd.S_nil _ _ _ _ _ | exact Kd.N_nil _ _ _ _ _ | exact Kd.V_nil _ _ _ _ _ | exact Kd.Q_nil _ _ _ _ _ | exact Kd.R_nil _ _ _ _ _⟩, ⟨by (with_reducible repeat (first | refine blk_drewN ?_ _ | refine blk_drew ?_ | refine blk_alloc ?_ _)); refine blk_far ?_ NB101_103.out _; (with_reducible repeat (first | refine blk_drewN ?_ _ | refine blk_drew ?_ | refine blk_alloc ?_ _)); refine blk_far ?_ NB101_103.out _; (with_reducible repeat (first | refine blk_drewN ?_ _ | refine blk_drew ?_ | refine blk_alloc ?_ _)); refine blk_far ?_ NB101_103.out _; (with_reducible repeat (first | refine blk_drewN ?_ _ | refine blk_drew ?_ | refine blk_alloc ?_ _)); exact BK101.out⟩, ⟨by (with_reducible repeat (first | refine blk_drewN ?_ _ | refine blk_drew ?_ | refine blk_alloc ?_ _)); refine blk_far ?_ NB102_103.out _; (with_reducible repeat (first | refine blk_drewN ?_ _ | refine blk_drew ?_ | refine blk_alloc ?_ _)); refine blk_far ?_ NB102_103.out _; (with_reducible repeat (first | refine blk_drewN ?_ _ | refine blk_drew ?_ | refine blk_alloc ?_ _)); refine blk_far ?_ NB102_103.out _; (with_reducible repeat (first | refine blk_drewN ?_ _ | refine blk_drew ?_ | refine blk_alloc ?_ _)); exact BK102.out⟩, ⟨by (with_reducible repeat (first | refine blk_drewN ?_ _ | refine blk_drew ?_ | refine blk_alloc ?_ _)); refine blk_put (cs := #[.string a0_0, .string a0_1, .slice none 0 0]) ?_ 2 _ rfl; (with_reducible repeat (first | refine blk_drewN ?_ _ | refine blk_drew ?_ | refine blk_alloc ?_ _)); refine blk_put (cs := #[.string a0_0, .string (⟨#[]⟩ : ByteArray), .slice none 0 0]) ?_ 1 _ rfl; (with_reducible repeat (first | refine blk_drewN ?_ _ | refine blk_drew ?_ | refine blk_alloc ?_ _)); refine blk_put (cs := #[.string (⟨#[]⟩ : ByteArray), .string (⟨#[]⟩ : ByteArray), .slice none 0 0]) ?_ 0 _ rfl; (with_reducible repeat (first | refine blk_drewN ?_ _ | refine blk_drew ?_ | refine blk_alloc ?_ _)); exact BK103.out⟩, ⟨by repeat (first | (with_reducible first | exact HB.out | apply below_alloc | apply pw_below_drewN | apply below_drew1 | refine below_set ?_ GE101.out | refine below_set ?_ GE102.out | refine below_set ?_ GE103.out) | exact HB.out)⟩⟩
  case round =>
    clear H'
    try clear c1
    try clear p2
    try clear c4
    try clear c7
    try clear c8
    try clear hcz10_0
    try clear hcz10_1
    try clear hcz10_2
    try clear hcz5_0
    try clear hcz5_1
    try clear hcz5_2
    try clear hcz9_0
    try clear hcz9_1
    try clear hcz9_2
    try clear hfz10_0
    try clear hfz10_1
    try clear hfz10_2
    try clear hfz5_0
    try clear hfz5_1
    try clear hfz5_2
    try clear hfz9_0
    try clear hfz9_1
    try clear hfz9_2
    obtain ⟨x14_1, x104002_1, u104002, rfl, HA, HK1, HO_12, HO_102002, HO_104002, BK101, BK102, BK103, HB⟩ := hrel
    cases gk with
    | zero => exact absurd HA.out (by simp [colloquylaw20_of.l0])
    | succ k1 =>
      have H := HA.out
      clear HA
      simp only [colloquylaw20_of.l0] at H
      by_cases c11 : x14_1 < (l0_2.length : Int)
      · rw [if_pos c11] at H
        have c11b0 : decide (x14_1 < (l0_2.length : Int)) = true := decide_eq_true c11
        clear c11
        by_cases c12 : 0 ≤ x14_1
        · rw [if_pos c12] at H
          have c12b0 : decide (0 ≤ x14_1) = true := decide_eq_true c12
          clear c12
          by_cases c13 : x14_1 < (l0_2.length : Int)
          · rw [if_pos c13] at H
            have c13b0 : decide (x14_1 < (l0_2.length : Int)) = true := decide_eq_true c13
            clear c13
            by_cases c14 : x104002_1.length < 3518437208883
            · rw [if_pos c14] at H
              have LMc14 := Aside0.mk c14
              clear c14
              obtain ⟨y106, hy106⟩ : ∃ y_ : List (S53), y_ = (x104002_1 ++ [(⟨(rd_T46 l0_2 x14_1).f0, (rd_T46 l0_2 x14_1).f1⟩ : S53)]) := ⟨_, rfl⟩
              replace H : (colloquylaw20_of.l0 k1 l0_2 (l0_2.length : Int) (wrap64 (x14_1 + 1)) a0_0 a0_1 y106) = some (r1, r2, r3) := by first | (rw [hy106]; with_reducible exact H) | (have H2_ := (Option.bind_some _ _).symm.trans H; rw [hy106]; with_reducible exact H2_) | (have H2_ := (Option.bind_some _ _).symm.trans H; with_reducible exact H2_) | with_reducible exact H | (rw [hy106]; exact H) | exact H
              have Ny106 := Aside0.mk hy106
              clear hy106
              have H' := Aside0.mk H
              clear H
              have p104 : 0 ≤ (x14_1 : Int) := of_decide_eq_true (by first | (with_reducible assumption) | assumption)
              have q104 : x14_1 < (l0_2.length : Int) := of_decide_eq_true (by first | (with_reducible assumption) | assumption)
              obtain ⟨ad104, A104_1, c104_1, e104, hx104_0, hx104_1, hl104_1, hi104_1⟩ := at_T46 (Kd.V_reads' HO_12.out).2.2 x14_1 p104 q104
              cases e104
              obtain ⟨ce104, hce104, hMe104, hcc104⟩ := Kd.V_get HO_12.out z46 x14_1 p104 (by first | exact q104 | exact of_decide_eq_true (by first | (with_reducible assumption) | assumption) | (have e_ := (Kd.V_reads' HO_12.out).1; omega))
              obtain ⟨ua104_1, uc104_1, rfl, ul104_1, ge104_1⟩ := k46_openF hMe104
              have hv104_1 := hcc104 1 _ rfl
              rw [add_field _ _ 1 (by omega)] at hv104_1
              replace hv104_1 := Option.some.inj (hv104_1.symm.trans hx104_1)
              injection hv104_1 with hva_ hvn_ hvc_
              rw [hva_] at ge104_1
              rw [hvc_] at ul104_1
              have HL104_1 := Aside0.mk (show Kd.V k49 49 _ w.heap.size _ _ ((rd_T46 l0_2 x14_1).f1) from Kd.V_mk ul104_1 ge104_1)
              clear hva_ hvn_ hvc_ ge104_1 ul104_1
              clear hcc104 hce104
              have HR104_1 := Aside0.mk hi104_1
              have HC104_1 := Aside0.mk hl104_1
              clear hi104_1 hl104_1
              replace p104 := eq_true p104
              replace q104 := eq_true q104
              go_wp2_with (first | ((with_reducible refine gate_dst (N := 5) rfl ?_); refine box_event ?hg (N := 5) ?hd (cs := #[.string (⟨#[]⟩ : ByteArray), .slice none 0 0]) (t := 46) ?hr ?_; (case hd => rfl); (case hg => rfl); (case hr => first | (go_simp; done) | (go_simp; rfl)); intro gb105 hg w15 hbox hb; have n0_ := Aside0.mk (Kd.V_below (Kd.V_elderB (by (with_reducible repeat (first | apply Kd.V_alloc | apply Kd.V_drewN | apply Kd.V_drew)); exact HO_12.out) gb105 (Nat.le_of_eq hg.symm)) hb); have n1_ := Aside0.mk (Kd.V_below (Kd.V_elderB (by (with_reducible repeat (first | apply Kd.V_alloc | apply Kd.V_drewN | apply Kd.V_drew)); exact HO_102002.out) gb105 (Nat.le_of_eq hg.symm)) hb); have n2_ := Aside0.mk (Kd.N_below (Kd.N_elderB (by (with_reducible repeat (first | apply Kd.N_alloc | apply Kd.N_drewN | apply Kd.N_drew)); exact HO_104002.out) gb105 (Nat.le_of_eq hg.symm)) hb); have n3_ := Aside0.mk (Kd.V_below (Kd.V_elderB (by (with_reducible repeat (first | apply Kd.V_alloc | apply Kd.V_drewN | apply Kd.V_drew)); exact HL104_1.out) gb105 (Nat.le_of_eq hg.symm)) hb); have n4_ := Aside0.mk (blk_below (g := gb101) (o := .cells #[.string a0_0, .string a0_1, .slice (some ad104) l0_2.length c0_2] 24 (0, 0)) (by (with_reducible repeat (first | refine blk_drewN ?_ _ | refine blk_drew ?_ | refine blk_alloc ?_ _)); exact BK101.out) hb); have n5_ := Aside0.mk (blk_below (g := gb102) (o := .cells #[.string (⟨#[]⟩ : ByteArray), .string (⟨#[]⟩ : ByteArray), .slice none 0 0] 29 (0, 0)) (by (with_reducible repeat (first | refine blk_drewN ?_ _ | refine blk_drew ?_ | refine blk_alloc ?_ _)); exact BK102.out) hb); have n6_ := Aside0.mk (blk_below (g := gb103) (o := .cells #[.string a0_0, .string a0_1, u104002] 29 (0, 0)) (by (with_reducible repeat (first | refine blk_drewN ?_ _ | refine blk_drew ?_ | refine blk_alloc ?_ _)); exact BK103.out) hb); have n7_ := Aside0.mk (Kd.C_below (by repeat (first | (with_reducible exact HR104_1.out) | (with_reducible refine Kd.C_alloc ?_ _) | (with_reducible refine Kd.C_drewN ?_ _) | (with_reducible refine Kd.C_drew ?_) | exact HR104_1.out)) hb); have n8_ := Aside0.mk (below_step (by repeat (first | (with_reducible first | exact HB.out | apply below_alloc | apply pw_below_drewN | apply below_drew1 | refine below_set ?_ GE101.out | refine below_set ?_ GE102.out | refine below_set ?_ GE103.out) | exact HB.out)) hb); have n9_ := Aside0.mk (hbox); have n10_ := Aside0.mk ((by rw [hg]; exact (below_size (by repeat (first | (with_reducible first | exact HB.out | apply below_alloc | apply pw_below_drewN | apply below_drew1 | refine below_set ?_ GE101.out | refine below_set ?_ GE102.out | refine below_set ?_ GE103.out) | exact HB.out))) : w.heap.size ≤ gb105)); have n11_ := Aside0.mk ((by rw [hg]; exact (below_size (by repeat (first | (with_reducible first | exact HB.out | apply below_alloc | apply pw_below_drewN | apply below_drew1 | refine below_set ?_ GE101.out | refine below_set ?_ GE102.out | refine below_set ?_ GE103.out) | exact HB.out))) : w.heap.size ≤ gb105)); have n12_ := Aside0.mk ((by rw [hg]; exact Nat.ne_of_lt (blk_lt (g := gb101) (o := .cells #[.string a0_0, .string a0_1, .slice (some ad104) l0_2.length c0_2] 24 (0, 0)) (by (with_reducible repeat (first | refine blk_drewN ?_ _ | refine blk_drew ?_ | refine blk_alloc ?_ _)); exact BK101.out)) : gb101 ≠ gb105)); have n13_ := Aside0.mk ((by rw [hg]; exact Nat.ne_of_gt (blk_lt (g := gb101) (o := .cells #[.string a0_0, .string a0_1, .slice (some ad104) l0_2.length c0_2] 24 (0, 0)) (by (with_reducible repeat (first | refine blk_drewN ?_ _ | refine blk_drew ?_ | refine blk_alloc ?_ _)); exact BK101.out)) : gb105 ≠ gb101)); have n14_ := Aside0.mk ((by rw [hg]; exact Nat.ne_of_lt (blk_lt (g := gb102) (o := .cells #[.string (⟨#[]⟩ : ByteArray), .string (⟨#[]⟩ : ByteArray), .slice none 0 0] 29 (0, 0)) (by (with_reducible repeat (first | refine blk_drewN ?_ _ | refine blk_drew ?_ | refine blk_alloc ?_ _)); exact BK102.out)) : gb102 ≠ gb105)); have n15_ := Aside0.mk ((by rw [hg]; exact Nat.ne_of_gt (blk_lt (g := gb102) (o := .cells #[.string (⟨#[]⟩ : ByteArray), .string (⟨#[]⟩ : ByteArray), .slice none 0 0] 29 (0, 0)) (by (with_reducible repeat (first | refine blk_drewN ?_ _ | refine blk_drew ?_ | refine blk_alloc ?_ _)); exact BK102.out)) : gb105 ≠ gb102)); have n16_ := Aside0.mk ((by rw [hg]; exact Nat.ne_of_lt (blk_lt (g := gb103) (o := .cells #[.string a0_0, .string a0_1, u104002] 29 (0, 0)) (by (with_reducible repeat (first | refine blk_drewN ?_ _ | refine blk_drew ?_ | refine blk_alloc ?_ _)); exact BK103.out)) : gb103 ≠ gb105)); have n17_ := Aside0.mk ((by rw [hg]; exact Nat.ne_of_gt (blk_lt (g := gb103) (o := .cells #[.string a0_0, .string a0_1, u104002] 29 (0, 0)) (by (with_reducible repeat (first | refine blk_drewN ?_ _ | refine blk_drew ?_ | refine blk_alloc ?_ _)); exact BK103.out)) : gb105 ≠ gb103)); clear HO_12; clear HO_102002; clear HO_104002; clear HL104_1; clear BK101; clear BK102; clear BK103; clear HR104_1; clear HB; have HO_12 := n0_; have HO_102002 := n1_; have HO_104002 := n2_; have HL104_1 := n3_; have BK101 := n4_; have BK102 := n5_; have BK103 := n6_; have HR104_1 := n7_; have HB := n8_; have BK105 := n9_; have GW105 := n10_; have GE105 := n11_; have NB101_105 := n12_; have NB105_101 := n13_; have NB102_105 := n14_; have NB105_102 := n15_; have NB103_105 := n16_; have NB105_103 := n17_; clear n0_ n1_ n2_ n3_ n4_ n5_ n6_ n7_ n8_ n9_ n10_ n11_ n12_ n13_ n14_ n15_ n16_ n17_; clear hb hbox hg; have hnb16 := NB105_101.out; have hnc16 := NB101_105.out; have hnb17 := NB105_102.out; have hnc17 := NB102_105.out; have hnb18 := NB105_103.out; have hnc18 := NB103_105.out; have hcz19_0 : w15.cell? ⟨gb105, 0, none⟩ = some (.string (⟨#[]⟩ : ByteArray)) := (blk_cell BK105.out 0).trans rfl; have hcz19_1 : w15.cell? ⟨gb105, 1, none⟩ = some (.slice none 0 0) := (blk_cell BK105.out 1).trans rfl; have hfz19_0 := blk_frozen BK105.out 0; have hfz19_1 := blk_frozen BK105.out 1) | ((with_reducible refine gate_store (t := 46) (p := 5) rfl ?_); refine store_event (t := 46) (p := 5) (v := ?vo_w20) (w1 := ((w15.setCell ⟨gb105, 0, none⟩ (.string ((rd_T46 l0_2 x14_1).f0))).setCell ⟨gb105, 1, none⟩ (.slice A104_1 ((rd_T46 l0_2 x14_1).f1).length c104_1))) ?hg ?ho ?hn ?hr ?_; (case ho => rfl); (case hg => rfl); (case hn => rfl); (case hr => first | (go_simp; done) | (go_simp; rfl)); intro w20 hw; have n0_ : Aside0 (Kd.V k46 46 w20 w.heap.size (fun k_ => (P0_2_ k_ ∨ w.heap.size ≤ k_) ∧ some k_ ≠ (u104002 : Value).ownBlock ∧ k_ ≠ gb101 ∧ k_ ≠ gb102 ∧ k_ ≠ gb103 ∧ k_ ≠ gb105) (.slice (some ad104) l0_2.length c0_2) l0_2) := ⟨(by rw [hw]; exact (by (with_reducible repeat (first | apply Kd.V_alloc | apply Kd.V_drewN | apply Kd.V_drew)); exact Kd.V_mono (Kd.V_far (p := ⟨gb105, 1, none⟩) (Kd.V_far (p := ⟨gb105, 0, none⟩) (Kd.V_mono HO_12.out (fun k_ hk => (⟨hk, hk.2⟩ : _ ∧ k_ ≠ gb105))) (fun _ hk => hk.2) (.string ((rd_T46 l0_2 x14_1).f0))) (fun _ hk => hk.2) (.slice A104_1 ((rd_T46 l0_2 x14_1).f1).length c104_1)) (fun _ hk => ⟨hk.1.1.1, ⟨hk.1.1.2.1, ⟨hk.1.1.2.2.1, ⟨hk.1.1.2.2.2.1, ⟨hk.1.1.2.2.2.2, hk.1.2⟩⟩⟩⟩⟩)))⟩; have n1_ : Aside0 (Kd.V k46 46 w20 w.heap.size (fun k_ => (P0_2_ k_ ∨ w.heap.size ≤ k_) ∧ some k_ ≠ (u104002 : Value).ownBlock ∧ k_ ≠ gb101 ∧ k_ ≠ gb102 ∧ k_ ≠ gb103 ∧ k_ ≠ gb105) (.slice (some ad104) l0_2.length c0_2) l0_2) := ⟨(by rw [hw]; exact (by (with_reducible repeat (first | apply Kd.V_alloc | apply Kd.V_drewN | apply Kd.V_drew)); exact Kd.V_mono (Kd.V_far (p := ⟨gb105, 1, none⟩) (Kd.V_far (p := ⟨gb105, 0, none⟩) (Kd.V_mono HO_102002.out (fun k_ hk => (⟨hk, hk.2⟩ : _ ∧ k_ ≠ gb105))) (fun _ hk => hk.2) (.string ((rd_T46 l0_2 x14_1).f0))) (fun _ hk => hk.2) (.slice A104_1 ((rd_T46 l0_2 x14_1).f1).length c104_1)) (fun _ hk => ⟨hk.1.1.1, ⟨hk.1.1.2.1, ⟨hk.1.1.2.2.1, ⟨hk.1.1.2.2.2.1, ⟨hk.1.1.2.2.2.2, hk.1.2⟩⟩⟩⟩⟩)))⟩; have n2_ : Aside0 (Kd.N k53 53 w20 w.heap.size (fun k_ => (P0_2_ k_ ∨ w.heap.size ≤ k_) ∧ k_ ≠ gb101 ∧ k_ ≠ gb102 ∧ k_ ≠ gb103 ∧ k_ ≠ gb105) u104002 x104002_1) := ⟨(by rw [hw]; exact (by (with_reducible repeat (first | apply Kd.N_alloc | apply Kd.N_drewN | apply Kd.N_drew)); exact Kd.N_mono (Kd.N_far (p := ⟨gb105, 1, none⟩) (Kd.N_far (p := ⟨gb105, 0, none⟩) (Kd.N_mono HO_104002.out (fun k_ hk => (⟨hk, hk.2⟩ : _ ∧ k_ ≠ gb105))) (fun _ hk => hk.2) (.string ((rd_T46 l0_2 x14_1).f0))) (fun _ hk => hk.2) (.slice A104_1 ((rd_T46 l0_2 x14_1).f1).length c104_1)) (fun _ hk => ⟨hk.1.1.1, ⟨hk.1.1.2.1, ⟨hk.1.1.2.2.1, ⟨hk.1.1.2.2.2, hk.1.2⟩⟩⟩⟩)))⟩; have n3_ : Aside0 (Kd.V k49 49 w20 w.heap.size (fun k_ => (P0_2_ k_ ∨ w.heap.size ≤ k_) ∧ some k_ ≠ (u104002 : Value).ownBlock ∧ k_ ≠ gb101 ∧ k_ ≠ gb102 ∧ k_ ≠ gb103 ∧ k_ ≠ gb105) (.slice A104_1 ((rd_T46 l0_2 x14_1).f1).length c104_1) ((rd_T46 l0_2 x14_1).f1)) := ⟨(by rw [hw]; exact (by (with_reducible repeat (first | apply Kd.V_alloc | apply Kd.V_drewN | apply Kd.V_drew)); exact Kd.V_mono (Kd.V_far (p := ⟨gb105, 1, none⟩) (Kd.V_far (p := ⟨gb105, 0, none⟩) (Kd.V_mono HL104_1.out (fun k_ hk => (⟨hk, hk.2⟩ : _ ∧ k_ ≠ gb105))) (fun _ hk => hk.2) (.string ((rd_T46 l0_2 x14_1).f0))) (fun _ hk => hk.2) (.slice A104_1 ((rd_T46 l0_2 x14_1).f1).length c104_1)) (fun _ hk => ⟨hk.1.1.1, ⟨hk.1.1.2.1, ⟨hk.1.1.2.2.1, ⟨hk.1.1.2.2.2.1, ⟨hk.1.1.2.2.2.2, hk.1.2⟩⟩⟩⟩⟩)))⟩; have n4_ : Aside0 (w20.heap[gb101]? = some (.cells #[.string a0_0, .string a0_1, .slice (some ad104) l0_2.length c0_2] 24 (0, 0))) := ⟨(by rw [hw]; exact (by (with_reducible repeat (first | refine blk_drewN ?_ _ | refine blk_drew ?_ | refine blk_alloc ?_ _)); refine blk_far ?_ NB101_105.out _; (with_reducible repeat (first | refine blk_drewN ?_ _ | refine blk_drew ?_ | refine blk_alloc ?_ _)); refine blk_far ?_ NB101_105.out _; (with_reducible repeat (first | refine blk_drewN ?_ _ | refine blk_drew ?_ | refine blk_alloc ?_ _)); exact BK101.out))⟩; have n5_ : Aside0 (w20.heap[gb102]? = some (.cells #[.string (⟨#[]⟩ : ByteArray), .string (⟨#[]⟩ : ByteArray), .slice none 0 0] 29 (0, 0))) := ⟨(by rw [hw]; exact (by (with_reducible repeat (first | refine blk_drewN ?_ _ | refine blk_drew ?_ | refine blk_alloc ?_ _)); refine blk_far ?_ NB102_105.out _; (with_reducible repeat (first | refine blk_drewN ?_ _ | refine blk_drew ?_ | refine blk_alloc ?_ _)); refine blk_far ?_ NB102_105.out _; (with_reducible repeat (first | refine blk_drewN ?_ _ | refine blk_drew ?_ | refine blk_alloc ?_ _)); exact BK102.out))⟩; have n6_ : Aside0 (w20.heap[gb103]? = some (.cells #[.string a0_0, .string a0_1, u104002] 29 (0, 0))) := ⟨(by rw [hw]; exact (by (with_reducible repeat (first | refine blk_drewN ?_ _ | refine blk_drew ?_ | refine blk_alloc ?_ _)); refine blk_far ?_ NB103_105.out _; (with_reducible repeat (first | refine blk_drewN ?_ _ | refine blk_drew ?_ | refine blk_alloc ?_ _)); refine blk_far ?_ NB103_105.out _; (with_reducible repeat (first | refine blk_drewN ?_ _ | refine blk_drew ?_ | refine blk_alloc ?_ _)); exact BK103.out))⟩; have n7_ : Aside0 (w20.heap[gb105]? = some (.cells #[.string ((rd_T46 l0_2 x14_1).f0), .slice A104_1 ((rd_T46 l0_2 x14_1).f1).length c104_1] 46 (0, 0))) := ⟨(by rw [hw]; exact (by (with_reducible repeat (first | refine blk_drewN ?_ _ | refine blk_drew ?_ | refine blk_alloc ?_ _)); refine blk_put (cs := #[.string ((rd_T46 l0_2 x14_1).f0), .slice none 0 0]) ?_ 1 _ rfl; (with_reducible repeat (first | refine blk_drewN ?_ _ | refine blk_drew ?_ | refine blk_alloc ?_ _)); refine blk_put (cs := #[.string (⟨#[]⟩ : ByteArray), .slice none 0 0]) ?_ 0 _ rfl; (with_reducible repeat (first | refine blk_drewN ?_ _ | refine blk_drew ?_ | refine blk_alloc ?_ _)); exact BK105.out))⟩; have n8_ : Aside0 (Below w.heap.size w w20) := ⟨(by rw [hw]; exact (by repeat (first | (with_reducible first | exact HB.out | apply below_alloc | apply pw_below_drewN | apply below_drew1 | refine below_set ?_ GE101.out | refine below_set ?_ GE102.out | refine below_set ?_ GE103.out | refine below_set ?_ GE105.out) | exact HB.out)))⟩; clear hw; clear HO_12; clear HO_102002; clear HO_104002; clear HL104_1; clear BK101; clear BK102; clear BK103; clear BK105; clear HB; have HO_12 := n0_; have HO_102002 := n1_; have HO_104002 := n2_; have HL104_1 := n3_; have BK101 := n4_; have BK102 := n5_; have BK103 := n6_; have BK105 := n7_; have HB := n8_; clear n0_ n1_ n2_ n3_ n4_ n5_ n6_ n7_ n8_; have hnb21 := NB103_101.out; have hnc21 := NB101_103.out; have hnb22 := NB103_102.out; have hnc22 := NB102_103.out; have hcz23_0 : w20.cell? ⟨gb103, 0, none⟩ = some (.string a0_0) := (blk_cell BK103.out 0).trans rfl; have hcz23_1 : w20.cell? ⟨gb103, 1, none⟩ = some (.string a0_1) := (blk_cell BK103.out 1).trans rfl; have hcz23_2 : w20.cell? ⟨gb103, 2, none⟩ = some (u104002) := (blk_cell BK103.out 2).trans rfl; have hfz23_0 := blk_frozen BK103.out 0; have hfz23_1 := blk_frozen BK103.out 1; have hfz23_2 := blk_frozen BK103.out 2; have hcz24_0 : w20.cell? ⟨gb105, 0, none⟩ = some (.string ((rd_T46 l0_2 x14_1).f0)) := (blk_cell BK105.out 0).trans rfl; have hcz24_1 : w20.cell? ⟨gb105, 1, none⟩ = some (.slice A104_1 ((rd_T46 l0_2 x14_1).f1).length c104_1) := (blk_cell BK105.out 1).trans rfl; have hfz24_0 := blk_frozen BK105.out 0; have hfz24_1 := blk_frozen BK105.out 1) | ((with_reducible refine gate_builtin (b := .append) (xs := #[.tmp 19, .tmp 25]) rfl ?_); at_builtin; refine Kd.N_append k53 (w0 := w) w.heap.size rfl (.tmp 19) (.tmp 25) 27 53 (.agg #[(.string ⟨#[]⟩), (.slice none 0 0)]) 40 rfl Tryd.underlying27 info53 rfl (by decide) (by omega) u104002 x104002_1 (⟨(rd_T46 l0_2 x14_1).f0, (rd_T46 l0_2 x14_1).f1⟩ : S53) [.string ((rd_T46 l0_2 x14_1).f0), .slice A104_1 ((rd_T46 l0_2 x14_1).f1).length c104_1] (fun k_ => (P0_2_ k_ ∨ w.heap.size ≤ k_) ∧ k_ ≠ gb101 ∧ k_ ≠ gb102 ∧ k_ ≠ gb103 ∧ k_ ≠ gb105) (fun k_ => ((fun k_ => (P0_2_ k_ ∨ w.heap.size ≤ k_) ∧ k_ ≠ gb101 ∧ k_ ≠ gb102 ∧ k_ ≠ gb103 ∧ k_ ≠ gb105)) k_ ∧ some k_ ≠ (u104002 : Value).ownBlock) rfl rfl ?aP (fun _ hk => hk) ?aF ?aO ?aB ?aS ?aL ?_; (case aP => exact (k53_mkF _ _ (⟨(rd_T46 l0_2 x14_1).f0, (rd_T46 l0_2 x14_1).f1⟩ : S53) (Kd.V_reads' (Kd.V_mono (ok' := (fun k_ => ((fun k_ => (P0_2_ k_ ∨ w.heap.size ≤ k_) ∧ k_ ≠ gb101 ∧ k_ ≠ gb102 ∧ k_ ≠ gb103 ∧ k_ ≠ gb105)) k_ ∧ some k_ ≠ (u104002 : Value).ownBlock)) (HL104_1.out) (fun k_ hk => ⟨⟨hk.1, ⟨hk.2.2.1, ⟨hk.2.2.2.1, ⟨hk.2.2.2.2.1, hk.2.2.2.2.2⟩⟩⟩⟩, hk.2.1⟩))).2.1 (Kd.V_F (Kd.V_mono (ok' := (fun k_ => ((fun k_ => (P0_2_ k_ ∨ w.heap.size ≤ k_) ∧ k_ ≠ gb101 ∧ k_ ≠ gb102 ∧ k_ ≠ gb103 ∧ k_ ≠ gb105)) k_ ∧ some k_ ≠ (u104002 : Value).ownBlock)) (HL104_1.out) (fun k_ hk => ⟨⟨hk.1, ⟨hk.2.2.1, ⟨hk.2.2.2.1, ⟨hk.2.2.2.2.1, hk.2.2.2.2.2⟩⟩⟩⟩, hk.2.1⟩))))); (case aB => exact (by repeat (first | (with_reducible first | exact HB.out | apply below_alloc | apply pw_below_drewN | apply below_drew1 | refine below_set ?_ GE101.out | refine below_set ?_ GE102.out | refine below_set ?_ GE103.out | refine below_set ?_ GE105.out) | exact HB.out))); (case aF => exact (fun k_ hk => ⟨(.inr (Nat.le_trans (below_size (by repeat (first | (with_reducible first | exact HB.out | apply below_alloc | apply pw_below_drewN | apply below_drew1 | refine below_set ?_ GE101.out | refine below_set ?_ GE102.out | refine below_set ?_ GE103.out | refine below_set ?_ GE105.out) | exact HB.out))) hk)), Kd.freshB (g := gb101) (o := .cells #[.string a0_0, .string a0_1, .slice (some ad104) l0_2.length c0_2] 24 (0, 0)) (by (with_reducible repeat (first | refine blk_drewN ?_ _ | refine blk_drew ?_ | refine blk_alloc ?_ _)); exact BK101.out) k_ hk, Kd.freshB (g := gb102) (o := .cells #[.string (⟨#[]⟩ : ByteArray), .string (⟨#[]⟩ : ByteArray), .slice none 0 0] 29 (0, 0)) (by (with_reducible repeat (first | refine blk_drewN ?_ _ | refine blk_drew ?_ | refine blk_alloc ?_ _)); exact BK102.out) k_ hk, Kd.freshB (g := gb103) (o := .cells #[.string a0_0, .string a0_1, u104002] 29 (0, 0)) (by (with_reducible repeat (first | refine blk_drewN ?_ _ | refine blk_drew ?_ | refine blk_alloc ?_ _)); exact BK103.out) k_ hk, Kd.freshB (g := gb105) (o := .cells #[.string ((rd_T46 l0_2 x14_1).f0), .slice A104_1 ((rd_T46 l0_2 x14_1).f1).length c104_1] 46 (0, 0)) (by (with_reducible repeat (first | refine blk_drewN ?_ _ | refine blk_drew ?_ | refine blk_alloc ?_ _)); exact BK105.out) k_ hk⟩)); (case aO => exact (by (with_reducible repeat (first | apply Kd.N_alloc | apply Kd.N_drewN | apply Kd.N_drew)); exact HO_104002.out)); (case aS => exact (below_size (by repeat (first | (with_reducible first | exact HB.out | apply below_alloc | apply pw_below_drewN | apply below_drew1 | refine below_set ?_ GE101.out | refine below_set ?_ GE102.out | refine below_set ?_ GE103.out | refine below_set ?_ GE105.out) | exact HB.out)))); (case aL => have := LMc14.out; omega); intro v107 w25 ho hb hg hat; rw [← Ny106.out] at ho; have n0_ := Aside0.mk (Kd.V_afterv (ok := (fun k_ => (P0_2_ k_ ∨ w.heap.size ≤ k_) ∧ k_ ≠ gb101 ∧ k_ ≠ gb102 ∧ k_ ≠ gb103 ∧ k_ ≠ gb105)) (by (with_reducible repeat (first | apply Kd.V_alloc | apply Kd.V_drewN | apply Kd.V_drew)); exact Kd.V_mono HO_12.out (fun _ hk => ⟨⟨hk.1, ⟨hk.2.2.1, ⟨hk.2.2.2.1, ⟨hk.2.2.2.2.1, hk.2.2.2.2.2⟩⟩⟩⟩, hk.2.1⟩)) hg hat); have n1_ := Aside0.mk (Kd.V_afterv (ok := (fun k_ => (P0_2_ k_ ∨ w.heap.size ≤ k_) ∧ k_ ≠ gb101 ∧ k_ ≠ gb102 ∧ k_ ≠ gb103 ∧ k_ ≠ gb105)) (by (with_reducible repeat (first | apply Kd.V_alloc | apply Kd.V_drewN | apply Kd.V_drew)); exact Kd.V_mono HO_102002.out (fun _ hk => ⟨⟨hk.1, ⟨hk.2.2.1, ⟨hk.2.2.2.1, ⟨hk.2.2.2.2.1, hk.2.2.2.2.2⟩⟩⟩⟩, hk.2.1⟩)) hg hat); have n2_ := Aside0.mk (blk_grown (g := gb101) (o := .cells #[.string a0_0, .string a0_1, .slice (some ad104) l0_2.length c0_2] 24 (0, 0)) (by (with_reducible repeat (first | refine blk_drewN ?_ _ | refine blk_drew ?_ | refine blk_alloc ?_ _)); exact BK101.out) hg (Kd.N_ne HO_104002.out BK101.out (by decide))); have n3_ := Aside0.mk (blk_grown (g := gb102) (o := .cells #[.string (⟨#[]⟩ : ByteArray), .string (⟨#[]⟩ : ByteArray), .slice none 0 0] 29 (0, 0)) (by (with_reducible repeat (first | refine blk_drewN ?_ _ | refine blk_drew ?_ | refine blk_alloc ?_ _)); exact BK102.out) hg (Kd.N_ne HO_104002.out BK102.out (by decide))); have n4_ := Aside0.mk (blk_grown (g := gb103) (o := .cells #[.string a0_0, .string a0_1, u104002] 29 (0, 0)) (by (with_reducible repeat (first | refine blk_drewN ?_ _ | refine blk_drew ?_ | refine blk_alloc ?_ _)); exact BK103.out) hg (Kd.N_ne HO_104002.out BK103.out (by decide))); have n5_ := Aside0.mk (Kd.V_afterv (ok := (fun k_ => (P0_2_ k_ ∨ w.heap.size ≤ k_) ∧ k_ ≠ gb101 ∧ k_ ≠ gb102 ∧ k_ ≠ gb103 ∧ k_ ≠ gb105)) (by (with_reducible repeat (first | apply Kd.V_alloc | apply Kd.V_drewN | apply Kd.V_drew)); exact Kd.V_mono HL104_1.out (fun _ hk => ⟨⟨hk.1, ⟨hk.2.2.1, ⟨hk.2.2.2.1, ⟨hk.2.2.2.2.1, hk.2.2.2.2.2⟩⟩⟩⟩, hk.2.1⟩)) hg hat); have n6_ := Aside0.mk (blk_grown (g := gb105) (o := .cells #[.string ((rd_T46 l0_2 x14_1).f0), .slice A104_1 ((rd_T46 l0_2 x14_1).f1).length c104_1] 46 (0, 0)) (by (with_reducible repeat (first | refine blk_drewN ?_ _ | refine blk_drew ?_ | refine blk_alloc ?_ _)); exact BK105.out) hg (Kd.N_ne HO_104002.out BK105.out (by decide))); have n7_ := Aside0.mk (hb); have n8_ := Aside0.mk (ho); clear HO_12; clear HO_102002; clear BK101; clear BK102; clear BK103; clear HL104_1; clear BK105; clear HB; clear HO_104002; have HO_12 := n0_; have HO_102002 := n1_; have BK101 := n2_; have BK102 := n3_; have BK103 := n4_; have HL104_1 := n5_; have BK105 := n6_; have HB := n7_; have HO108 := n8_; clear n0_ n1_ n2_ n3_ n4_ n5_ n6_ n7_ n8_; clear ho hb hg hat; obtain ⟨Ao26, co26, eo26⟩ := Kd.N_slice HO108.out; subst eo26; have hcz27_0 : w25.cell? ⟨gb103, 0, none⟩ = some (.string a0_0) := (blk_cell BK103.out 0).trans rfl; have hcz27_1 : w25.cell? ⟨gb103, 1, none⟩ = some (.string a0_1) := (blk_cell BK103.out 1).trans rfl; have hcz27_2 : w25.cell? ⟨gb103, 2, none⟩ = some (u104002) := (blk_cell BK103.out 2).trans rfl; have hfz27_0 := blk_frozen BK103.out 0; have hfz27_1 := blk_frozen BK103.out 1; have hfz27_2 := blk_frozen BK103.out 2))
              go_roundg k1
              case measure => have := HK1.out; omega
              case rel => exact ⟨(wrap64 (x14_1 + 1)), (y106), (.slice Ao26 y106.length co26), (by first | rfl | (simp; done) | (simp [*]; done)), H', ⟨by have := HK1.out; omega⟩, ⟨by (with_reducible repeat (first | apply Kd.V_alloc | apply Kd.V_drewN | apply Kd.V_drew)); exact Kd.V_mono (Kd.V_far (p := ⟨gb103, 2, none⟩) (Kd.V_mono HO_12.out (fun k_ hk => (⟨hk, hk.1.2.2.2.1⟩ : _ ∧ k_ ≠ gb103))) (fun _ hk => hk.2) (.slice Ao26 y106.length co26)) (fun _ hk => ⟨hk.1.1.1, ⟨hk.1.2, ⟨hk.1.1.2.1, ⟨hk.1.1.2.2.1, hk.1.1.2.2.2.1⟩⟩⟩⟩)⟩, ⟨by (with_reducible repeat (first | apply Kd.V_alloc | apply Kd.V_drewN | apply Kd.V_drew)); exact Kd.V_mono (Kd.V_far (p := ⟨gb103, 2, none⟩) (Kd.V_mono HO_102002.out (fun k_ hk => (⟨hk, hk.1.2.2.2.1⟩ : _ ∧ k_ ≠ gb103))) (fun _ hk => hk.2) (.slice Ao26 y106.length co26)) (fun _ hk => ⟨hk.1.1.1, ⟨hk.1.2, ⟨hk.1.1.2.1, ⟨hk.1.1.2.2.1, hk.1.1.2.2.2.1⟩⟩⟩⟩)⟩, ⟨by (with_reducible repeat (first | apply Kd.N_alloc | apply Kd.N_drewN | apply Kd.N_drew)); exact Kd.N_mono (Kd.N_far (p := ⟨gb103, 2, none⟩) (Kd.N_mono HO108.out (fun k_ hk => (⟨hk, hk.2.2.2.1⟩ : _ ∧ k_ ≠ gb103))) (fun _ hk => hk.2) (.slice Ao26 y106.length co26)) (fun _ hk => ⟨hk.1.1, ⟨hk.1.2.1, ⟨hk.1.2.2.1, hk.1.2.2.2.1⟩⟩⟩)⟩, ⟨by (with_reducible repeat (first | refine blk_drewN ?_ _ | refine blk_drew ?_ | refine blk_alloc ?_ _)); refine blk_far ?_ NB101_103.out _; (with_reducible repeat (first | refine blk_drewN ?_ _ | refine blk_drew ?_ | refine blk_alloc ?_ _)); exact BK101.out⟩, ⟨by (with_reducible repeat (first | refine blk_drewN ?_ _ | refine blk_drew ?_ | refine blk_alloc ?_ _)); refine blk_far ?_ NB102_103.out _; (with_reducible repeat (first | refine blk_drewN ?_ _ | refine blk_drew ?_ | refine blk_alloc ?_ _)); exact BK102.out⟩, ⟨by (with_reducible repeat (first | refine blk_drewN ?_ _ | refine blk_drew ?_ | refine blk_alloc ?_ _)); refine blk_put (cs := #[.string a0_0, .string a0_1, u104002]) ?_ 2 _ rfl; (with_reducible repeat (first | refine blk_drewN ?_ _ | refine blk_drew ?_ | refine blk_alloc ?_ _)); exact BK103.out⟩, ⟨by repeat (first | (with_reducible first | exact HB.out | apply below_alloc | apply pw_below_drewN | apply below_drew1 | refine below_set ?_ GE101.out | refine below_set ?_ GE102.out | refine below_set ?_ GE103.out | refine below_set ?_ GE105.out) | exact HB.out)⟩⟩
            · rw [if_neg c14] at H
              exact absurd H (by simp)
          · rw [if_neg c13] at H
            exact absurd H (by simp)
        · rw [if_neg c12] at H
          exact absurd H (by simp)
      · rw [if_neg c11] at H
        have c11b0 : decide (x14_1 < (l0_2.length : Int)) = false := decide_eq_false c11
        clear c11
        simp only [Option.some.injEq, Prod.mk.injEq] at H
        obtain ⟨rfl, rfl, rfl⟩ := H
        have hnb28 := NB103_101.out
        have hnc28 := NB101_103.out
        have hnb29 := NB103_102.out
        have hnc29 := NB102_103.out
        have hcz30_0 : wr.cell? ⟨gb103, 0, none⟩ = some (.string a0_0) := (blk_cell BK103.out 0).trans rfl
        have hcz30_1 : wr.cell? ⟨gb103, 1, none⟩ = some (.string a0_1) := (blk_cell BK103.out 1).trans rfl
        have hcz30_2 : wr.cell? ⟨gb103, 2, none⟩ = some (u104002) := (blk_cell BK103.out 2).trans rfl
        have hfz30_0 := blk_frozen BK103.out 0
        have hfz30_1 := blk_frozen BK103.out 1
        have hfz30_2 := blk_frozen BK103.out 2
        have hnb31 := NB102_101.out
        have hnc31 := NB101_102.out
        have hcz32_0 : wr.cell? ⟨gb102, 0, none⟩ = some (.string (⟨#[]⟩ : ByteArray)) := (blk_cell BK102.out 0).trans rfl
        have hcz32_1 : wr.cell? ⟨gb102, 1, none⟩ = some (.string (⟨#[]⟩ : ByteArray)) := (blk_cell BK102.out 1).trans rfl
        have hcz32_2 : wr.cell? ⟨gb102, 2, none⟩ = some (.slice none 0 0) := (blk_cell BK102.out 2).trans rfl
        have hfz32_0 := blk_frozen BK102.out 0
        have hfz32_1 := blk_frozen BK102.out 1
        have hfz32_2 := blk_frozen BK102.out 2
        obtain ⟨Ao33, co33, eo33⟩ := Kd.N_slice HO_104002.out
        subst eo33
        go_wp2
        refine bodyPost_ret (results_cell_row rfl _ _ gb102 29 #[.string a0_0, .string a0_1, .slice Ao33 x104002_1.length co33] (0, 0) _ rfl (by (with_reducible repeat (first | refine blk_drewN ?_ _ | refine blk_drew ?_ | refine blk_alloc ?_ _)); refine blk_put (cs := #[.string a0_0, .string a0_1, .slice none 0 0]) ?_ 2 _ rfl; (with_reducible repeat (first | refine blk_drewN ?_ _ | refine blk_drew ?_ | refine blk_alloc ?_ _)); refine blk_put (cs := #[.string a0_0, .string (⟨#[]⟩ : ByteArray), .slice none 0 0]) ?_ 1 _ rfl; (with_reducible repeat (first | refine blk_drewN ?_ _ | refine blk_drew ?_ | refine blk_alloc ?_ _)); refine blk_put (cs := #[.string (⟨#[]⟩ : ByteArray), .string (⟨#[]⟩ : ByteArray), .slice none 0 0]) ?_ 0 _ rfl; (with_reducible repeat (first | refine blk_drewN ?_ _ | refine blk_drew ?_ | refine blk_alloc ?_ _)); exact BK102.out) Tryd.underlying29 rfl (by kernel_rfl)) rfl ?_
        exact ⟨_, by first | rfl | (simp [errW_none, errW_some] <;> rfl) | (simp [*, errW_none, errW_some] <;> rfl), by (with_reducible repeat (first | apply Kd.N_alloc | apply Kd.N_drewN | apply Kd.N_drew)); exact Kd.N_mono (Kd.N_far (p := ⟨gb102, 2, none⟩) (Kd.N_far (p := ⟨gb102, 1, none⟩) (Kd.N_far (p := ⟨gb102, 0, none⟩) (Kd.N_mono HO_104002.out (fun k_ hk => (⟨hk, hk.2.2.1⟩ : _ ∧ k_ ≠ gb102))) (fun _ hk => hk.2) (.string a0_0)) (fun _ hk => hk.2) (.string a0_1)) (fun _ hk => hk.2) (.slice Ao33 x104002_1.length co33)) (fun _ hk => hk.1.1), by repeat (first | (with_reducible first | exact HB.out | apply below_alloc | apply pw_below_drewN | apply below_drew1 | refine below_set ?_ GE101.out | refine below_set ?_ GE102.out | refine below_set ?_ GE103.out) | exact HB.out)⟩
end
section
attribute [local go_sem] max2_int min2_int max_two min_two max_three min_three max_four min_four   -- for this text's walks alone
def colloquylaw20_first.f  : Option (ByteArray × ByteArray × (List (S46))) := some ((⟨#[115]⟩ : ByteArray), (⟨#[98]⟩ : ByteArray), (([(⟨(⟨#[103]⟩ : ByteArray), (([(⟨(⟨#[116]⟩ : ByteArray), 1⟩ : S49)] : List (S49)))⟩ : S46)] : List (S46))))
theorem colloquylaw20_first.calls  (r1 : ByteArray) (r2 : ByteArray) (r3 : List (S46)) (w : World) (h : colloquylaw20_first.f  = some (r1, r2, r3)) :
    Calls Tryd.prog 21 #[] w fun e w' => ∃ v2_ : Value, e = .returned (.agg #[.string r1, .string r2, v2_]) ∧ Kd.N k46 46 w' w.heap.size (fun k_ => (w.heap.size ≤ k_)) v2_ r3 ∧ Below w.heap.size w w' := by
  have hu24 := Tryd.underlying24
  have hu49 := Tryd.underlying49
  have hu46 := Tryd.underlying46
  have HB := Aside0.mk (Below.refl w.heap.size w)
  have H : (some ((⟨#[115]⟩ : ByteArray), (⟨#[98]⟩ : ByteArray), (([(⟨(⟨#[103]⟩ : ByteArray), (([(⟨(⟨#[116]⟩ : ByteArray), 1⟩ : S49)] : List (S49)))⟩ : S46)] : List (S46))))) = some (r1, r2, r3) := h
  clear h
  obtain ⟨y196, hy196⟩ : ∃ y_ : List (S49), y_ = (([(⟨(⟨#[116]⟩ : ByteArray), 1⟩ : S49)] : List (S49))) := ⟨_, rfl⟩
  replace H : (some ((⟨#[115]⟩ : ByteArray), (⟨#[98]⟩ : ByteArray), (([(⟨(⟨#[103]⟩ : ByteArray), y196⟩ : S46)] : List (S46))))) = some (r1, r2, r3) := by first | (rw [hy196]; with_reducible exact H) | (have H2_ := (Option.bind_some _ _).symm.trans H; rw [hy196]; with_reducible exact H2_) | (have H2_ := (Option.bind_some _ _).symm.trans H; with_reducible exact H2_) | with_reducible exact H | (rw [hy196]; exact H) | exact H
  have Ny196 := Aside0.mk hy196
  clear hy196
  obtain ⟨y199, hy199⟩ : ∃ y_ : List (S46), y_ = (([(⟨(⟨#[103]⟩ : ByteArray), y196⟩ : S46)] : List (S46))) := ⟨_, rfl⟩
  replace H : (some ((⟨#[115]⟩ : ByteArray), (⟨#[98]⟩ : ByteArray), y199)) = some (r1, r2, r3) := by first | (rw [hy199]; with_reducible exact H) | (have H2_ := (Option.bind_some _ _).symm.trans H; rw [hy199]; with_reducible exact H2_) | (have H2_ := (Option.bind_some _ _).symm.trans H; with_reducible exact H2_) | with_reducible exact H | (rw [hy199]; exact H) | exact H
  have Ny199 := Aside0.mk hy199
  clear hy199
  simp only [Option.some.injEq, Prod.mk.injEq] at H
  obtain ⟨rfl, rfl, rfl⟩ := H
  go_enter Tryd.func21, Tryd.ntmps21
  go_wp2_with (first | ((with_reducible refine gate_dst (N := 0) rfl ?_); refine box_event ?hg (N := 0) ?hd (cs := #[.string (⟨#[]⟩ : ByteArray), .string (⟨#[]⟩ : ByteArray), .slice none 0 0]) (t := 24) ?hr ?_; (case hd => rfl); (case hg => rfl); (case hr => first | (go_simp; done) | (go_simp; rfl)); intro gb195 hg w1 hbox hb; have n0_ := Aside0.mk (below_step (by repeat (first | (with_reducible first | exact HB.out | apply below_alloc | apply pw_below_drewN | apply below_drew1) | exact HB.out)) hb); have n1_ := Aside0.mk (hbox); have n2_ := Aside0.mk ((by rw [hg]; exact (below_size (by repeat (first | (with_reducible first | exact HB.out | apply below_alloc | apply pw_below_drewN | apply below_drew1) | exact HB.out))) : w.heap.size ≤ gb195)); have n3_ := Aside0.mk ((by rw [hg]; exact (below_size (by repeat (first | (with_reducible first | exact HB.out | apply below_alloc | apply pw_below_drewN | apply below_drew1) | exact HB.out))) : w.heap.size ≤ gb195)); clear HB; have HB := n0_; have BK195 := n1_; have GW195 := n2_; have GE195 := n3_; clear n0_ n1_ n2_ n3_; clear hb hbox hg) | ((with_reducible refine gate_dst (N := 2) rfl ?_); refine Kd.R_lit k49 _ 49 ?hg (N := 2) ?hd (xs := ([(⟨(⟨#[116]⟩ : ByteArray), 1⟩ : S49)] : List (S49))) (inner := [.string (⟨#[116]⟩ : ByteArray), .int .i64 1]) (ok := fun _ => True) (okp := fun _ => True) ?hr ?hp (fun _ hk => hk) trivial (Below.refl _ _) (Nat.le_refl _) (by simp) ?_; (case hd => rfl); (case hg => rfl); (case hr => first | (go_simp; done) | (go_simp; rfl)); (case hp => exact (Reps.c2 (show Kd.M k49 _ _ _ (⟨(⟨#[116]⟩ : ByteArray), 1⟩ : S49) [.string (⟨#[116]⟩ : ByteArray), .int .i64 1] from (k49_mkM _ _ _ (⟨(⟨#[116]⟩ : ByteArray), 1⟩ : S49) )) (Reps.none _ _))); intro v197 w2 ho3 hb hg_ hnew_; clear hg_ hnew_; (first | rw [← Ny196.out] at ho3 | (simp only [Int.reduceToNat] at ho3; rw [← Ny196.out] at ho3)); have n0_ := Aside0.mk (Kd.R_lower (Kd.R_newM (M := fun k_ => (w.heap.size ≤ k_)) ho3 (below_size (by repeat (first | (with_reducible first | exact HB.out | apply below_alloc | apply pw_below_drewN | apply below_drew1 | refine below_set ?_ GE195.out) | exact HB.out))) (fun k_ h_ => h_)) (below_size (by repeat (first | (with_reducible first | exact HB.out | apply below_alloc | apply pw_below_drewN | apply below_drew1 | refine below_set ?_ GE195.out) | exact HB.out)))); have n1_ := Aside0.mk (blk_below (g := gb195) (o := .cells #[.string (⟨#[]⟩ : ByteArray), .string (⟨#[]⟩ : ByteArray), .slice none 0 0] 24 (0, 0)) (by (with_reducible repeat (first | refine blk_drewN ?_ _ | refine blk_drew ?_ | refine blk_alloc ?_ _)); exact BK195.out) hb); have n2_ := Aside0.mk (below_step (by repeat (first | (with_reducible first | exact HB.out | apply below_alloc | apply pw_below_drewN | apply below_drew1 | refine below_set ?_ GE195.out) | exact HB.out)) hb); clear BK195; clear HB; have HO198 := n0_; have BK195 := n1_; have HB := n2_; clear n0_ n1_ n2_; clear hb ho3; obtain ⟨Ao4, co4, eo4⟩ := Kd.R_slice HO198.out; subst eo4) | ((with_reducible refine gate_dst (N := 4) rfl ?_); refine Kd.N_lit k46 _ 46 ?hg (N' := 4) ?hd (xs := ([(⟨(⟨#[103]⟩ : ByteArray), y196⟩ : S46)] : List (S46))) (inner := [.string (⟨#[103]⟩ : ByteArray), .slice Ao4 y196.length co4]) (ok := (fun k_ => (w.heap.size ≤ k_) ∧ k_ ≠ gb195)) (okp := (fun k_ => (w.heap.size ≤ k_) ∧ k_ ≠ gb195)) ?hr ?hp (fun _ hk => hk) ((show ∀ k_, w2.heap.size ≤ k_ → (fun k_ => (w.heap.size ≤ k_) ∧ k_ ≠ gb195) k_ from fun k_ hk => ⟨(Nat.le_trans (below_size (by repeat (first | (with_reducible first | exact HB.out | apply below_alloc | apply pw_below_drewN | apply below_drew1 | refine below_set ?_ GE195.out) | exact HB.out))) hk), Kd.freshB (g := gb195) (o := .cells #[.string (⟨#[]⟩ : ByteArray), .string (⟨#[]⟩ : ByteArray), .slice none 0 0] 24 (0, 0)) (by (with_reducible repeat (first | refine blk_drewN ?_ _ | refine blk_drew ?_ | refine blk_alloc ?_ _)); exact BK195.out) k_ hk⟩) _ (Nat.le_refl _)) (Below.refl _ _) (Nat.le_refl _) (by simp) ?_; (case hd => rfl); (case hg => rfl); (case hr => first | (go_simp; done) | (go_simp; rfl)); (case hp => exact (Reps.c2 (show Kd.FK k46 _ _ (⟨(⟨#[103]⟩ : ByteArray), y196⟩ : S46) [.string (⟨#[103]⟩ : ByteArray), .slice Ao4 y196.length co4] from (k46_mkF _ _ (⟨(⟨#[103]⟩ : ByteArray), y196⟩ : S46) (Kd.R_reads' (Kd.R_mono (ok' := (fun k_ => (w.heap.size ≤ k_) ∧ k_ ≠ gb195)) (Kd.R_types (HO198.out) BK195.out (by decide)) (fun k_ hk => ⟨hk.1.1, hk.2⟩))).2.1 (Kd.R_F (Kd.R_mono (ok' := (fun k_ => (w.heap.size ≤ k_) ∧ k_ ≠ gb195)) (Kd.R_types (HO198.out) BK195.out (by decide)) (fun k_ hk => ⟨hk.1.1, hk.2⟩))))) (Reps.none _ _))); intro v200 w5 ho6 hb hg_ hnew_; clear hg_ hnew_; (first | rw [← Ny199.out] at ho6 | (simp only [Int.reduceToNat] at ho6; rw [← Ny199.out] at ho6)); have n0_ := Aside0.mk (Kd.N_lower ho6 (below_size (by repeat (first | (with_reducible first | exact HB.out | apply below_alloc | apply pw_below_drewN | apply below_drew1 | refine below_set ?_ GE195.out) | exact HB.out)))); have n1_ := Aside0.mk (blk_below (g := gb195) (o := .cells #[.string (⟨#[]⟩ : ByteArray), .string (⟨#[]⟩ : ByteArray), .slice none 0 0] 24 (0, 0)) (by (with_reducible repeat (first | refine blk_drewN ?_ _ | refine blk_drew ?_ | refine blk_alloc ?_ _)); exact BK195.out) hb); have n2_ := Aside0.mk (below_step (by repeat (first | (with_reducible first | exact HB.out | apply below_alloc | apply pw_below_drewN | apply below_drew1 | refine below_set ?_ GE195.out) | exact HB.out)) hb); clear BK195; clear HB; clear HO198; have HO201 := n0_; have BK195 := n1_; have HB := n2_; clear n0_ n1_ n2_; clear hb ho6; obtain ⟨Ao7, co7, eo7⟩ := Kd.N_slice HO201.out; subst eo7; have hcz8_0 : w5.cell? ⟨gb195, 0, none⟩ = some (.string (⟨#[]⟩ : ByteArray)) := (blk_cell BK195.out 0).trans rfl; have hcz8_1 : w5.cell? ⟨gb195, 1, none⟩ = some (.string (⟨#[]⟩ : ByteArray)) := (blk_cell BK195.out 1).trans rfl; have hcz8_2 : w5.cell? ⟨gb195, 2, none⟩ = some (.slice none 0 0) := (blk_cell BK195.out 2).trans rfl; have hfz8_0 := blk_frozen BK195.out 0; have hfz8_1 := blk_frozen BK195.out 1; have hfz8_2 := blk_frozen BK195.out 2))
  refine bodyPost_ret (results_cell_row rfl _ _ gb195 24 #[.string (⟨#[115]⟩ : ByteArray), .string (⟨#[98]⟩ : ByteArray), .slice Ao7 y199.length co7] (0, 0) _ rfl (by (with_reducible repeat (first | refine blk_drewN ?_ _ | refine blk_drew ?_ | refine blk_alloc ?_ _)); refine blk_put (cs := #[.string (⟨#[115]⟩ : ByteArray), .string (⟨#[98]⟩ : ByteArray), .slice none 0 0]) ?_ 2 _ rfl; (with_reducible repeat (first | refine blk_drewN ?_ _ | refine blk_drew ?_ | refine blk_alloc ?_ _)); refine blk_put (cs := #[.string (⟨#[115]⟩ : ByteArray), .string (⟨#[]⟩ : ByteArray), .slice none 0 0]) ?_ 1 _ rfl; (with_reducible repeat (first | refine blk_drewN ?_ _ | refine blk_drew ?_ | refine blk_alloc ?_ _)); refine blk_put (cs := #[.string (⟨#[]⟩ : ByteArray), .string (⟨#[]⟩ : ByteArray), .slice none 0 0]) ?_ 0 _ rfl; (with_reducible repeat (first | refine blk_drewN ?_ _ | refine blk_drew ?_ | refine blk_alloc ?_ _)); exact BK195.out) Tryd.underlying24 rfl (by kernel_rfl)) rfl ?_
  exact ⟨_, by first | rfl | (simp [errW_none, errW_some] <;> rfl) | (simp [*, errW_none, errW_some] <;> rfl), by (with_reducible repeat (first | apply Kd.N_alloc | apply Kd.N_drewN | apply Kd.N_drew)); exact Kd.N_mono (Kd.N_far (p := ⟨gb195, 2, none⟩) (Kd.N_far (p := ⟨gb195, 1, none⟩) (Kd.N_far (p := ⟨gb195, 0, none⟩) (Kd.N_mono HO201.out (fun k_ hk => (⟨hk, hk.2⟩ : _ ∧ k_ ≠ gb195))) (fun _ hk => hk.2) (.string (⟨#[115]⟩ : ByteArray))) (fun _ hk => hk.2) (.string (⟨#[98]⟩ : ByteArray))) (fun _ hk => hk.2) (.slice Ao7 y199.length co7)) (fun _ hk => hk.1.1), by repeat (first | (with_reducible first | exact HB.out | apply below_alloc | apply pw_below_drewN | apply below_drew1 | refine below_set ?_ GE195.out) | exact HB.out)⟩
end
section
attribute [local go_sem] max2_int min2_int max_two min_two max_three min_three max_four min_four   -- for this text's walks alone
theorem eqA49 (d : Nat) (w : World) (x0 y0 : ByteArray) (x1 y1 : Int) :
    (Op.equalIn (d + 2) 49 (.agg #[.string x0, .int .i64 x1]) (.agg #[.string y0, .int .i64 y1])).run Tryd.prog w = .ok (x0.toList == y0.toList && (x1 == y1)) w := by
  refine eqA_of Tryd.underlying49 (by kernel_rfl) ?_
  refine eqf_cons (by rfl) (by go_simp; rfl) (by go_simp; rfl) (by go_simp) ?_
  exact eqf_last (by rfl) (by go_simp; rfl) (by go_simp; rfl) (by go_simp)
end
end Go.Proofs.YtljmbgilcngfgaaDoor.PA
