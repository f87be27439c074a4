/- What this claim uses of this session's own texts, put together by a program: HSumP PAx8 PAx72 PAx73 PAx78 PAx79 PAx80 HSumE HSumF HSumB HFz. -/
import Derived.Test.YtljmbgilcngfgaaDoorKSumParses1
import Derived.Test.YtljmbgilcngfgaaDoorProg
import Derived.Test.YtljmbgilcngfgaaDoorRows
import Derived.Test.YtljmbgilcngfgaaDoorCards
import Derived.Test.YtljmbgilcngfgaaDoorTie
namespace Go.Proofs.YtljmbgilcngfgaaDoor.PA
open Go.RowKit Go.Proofs.YtljmbgilcngfgaaDoorW.PrintWords Go.Proofs.YtljmbgilcngfgaaDoorW.PrintLast Go.Proofs.YtljmbgilcngfgaaDoorW.PrintMore
set_option linter.unusedVariables false
set_option linter.unusedSimpArgs false
set_option maxRecDepth 100000
set_option maxHeartbeats 8000000
section
theorem part_le (ps : List PP) (p : PP) (h : p ∈ ps) : p.f1.length ≤ sumL ps := by
  induction ps with
  | nil => cases h
  | cons x xs ih =>
    simp only [sumL]
    rcases List.mem_cons.1 h with rfl | h
    · omega
    · have := ih h; omega
theorem line_own (w0 : World) (R : Chunk) (gs : Nat) (su bo l : ByteArray) (A : Option Addr) (c : Nat) (S : Nat → Prop) (ps : List PP) (w : World) (hl : l.size ≤ 1000000000) (hL : LaidW w0) (hps : ps.length + sumL ps ≤ 1000000000)
    (HO : Own w0 w [R, Chunk.blk gs (.cells #[.string su, .string bo, .slice A ps.length c] 24 (0, 0)), Chunk.sp w0.heap.size S A c ps]) :
    Calls Tryd.prog 34 #[.pointer (some ⟨gs, 0, none⟩), .string l] w fun e w' => ∃ A' c' S', e = .returned (.bool (lineO ps l)) ∧ Own w0 w' [R, Chunk.blk gs (.cells #[.string su, .string bo, .slice A' (lineS ps l).length c'] 24 (0, 0)), Chunk.sp w0.heap.size S' A' c' (lineS ps l)] := by
  obtain ⟨X, ⟨hA, hc, hX⟩, hok, hlen, HO2⟩ := (HO.sel [2, 0, 1] (by decide)).sp_open
  have fin : ∀ (e : Ending) (w' : World), (∃ X : SmX, e = .returned (.bool (lineO ps l)) ∧ X.ok ∧ X.ps = lineS ps l ∧ Own w0 w' (R :: smL w0.heap.size gs su bo X)) → ∃ A' c' S', e = .returned (.bool (lineO ps l)) ∧ Own w0 w' [R, Chunk.blk gs (.cells #[.string su, .string bo, .slice A' (lineS ps l).length c'] 24 (0, 0)), Chunk.sp w0.heap.size S' A' c' (lineS ps l)] := by
    rintro e w' ⟨X', he, hok', hps', HO'⟩
    have h3 : Own w0 w' (spL w0.heap.size X' ++ [R, Chunk.blk gs (.cells #[.string su, .string bo, .slice X'.A X'.W.length X'.c] 24 (0, 0))]) := HO'.perm (by
      show List.Perm ([_, _] ++ spL w0.heap.size X') _
      exact List.perm_append_comm)
    have hl' : X'.W.length = X'.ps.length := (spL_F ((Own.bundle h3).get 0 rfl)).1
    rw [hl', hps'] at h3
    refine ⟨X'.A, X'.c, (Chunk.all (spL w0.heap.size X')).S, he, ?_⟩
    have h4 := (h3.sp_close hok').sel [1, 2, 0] (by decide)
    rw [hps'] at h4
    exact h4
  subst hA hc hX
  obtain ⟨A, c, Wd, qs, lg, xs, A2, c2, Sr, Sd, Sl⟩ := X
  have hpl : (SmX.ps ⟨A, c, Wd, qs, lg, xs, A2, c2, Sr, Sd, Sl⟩).length ≤ 1000000000 := by omega
  cases lg with
  | none =>
    obtain ⟨e1, e2, e3⟩ := hok rfl
    dsimp only at e1 e2 e3
    subst e1 e2 e3
    exact (line_0 w0 R gs su bo l A c Sr Sd w hl hL (Nat.zero_le _) (HO2.sel [3, 4, 0, 1] (by decide))).mono fin
  | some g0 =>
    have hx : xs.length ≤ 1000000000 := by
      have := part_le (SmX.ps ⟨A, c, Wd, qs, some g0, xs, A2, c2, Sr, Sd, Sl⟩) ⟨g0, xs⟩ (List.mem_append_right _ (List.mem_cons_self ..))
      dsimp only at this
      omega
    have hW : (SmX.W ⟨A, c, Wd, qs, some g0, xs, A2, c2, Sr, Sd, Sl⟩).length ≤ 1000000000 := by rw [hlen]; exact hpl
    rw [← hlen] at HO2
    exact (line_1 w0 R gs su bo l A c Sr Sd w Wd qs g0 xs A2 c2 Sl hl hL hW hx (HO2.sel [3, 4, 0, 1, 2] (by decide))).mono fin
theorem ssn_eq {A : Option Addr} {n c : Nat} {w : World} {P : Program} {ty et : TypeId} (ht : P.underlying ty = some (.slice et)) {x0 y0 : Operand} : (do eqGuard .eql ty x0 y0 (.slice A n c) (.slice none 0 0); binOp .eql ty (.slice A n c) (.slice none 0 0) : Sem Value).run P w = .ok (.bool (Option.isNone A)) w := by
  cases A <;> simp [eqGuard, binOp, go_sem, run_equal_slice_nil _ _ _ _ _ _ ht]
theorem cut_loN {P : Program} {α : Type} {d : Kd α} {t e : TypeId} (ht : P.underlying t = some (.slice e)) (hS : ∀ w, (sizeOf e).run P w = .ok d.sz w) (A : Option Addr) (c : Nat) (xs : List α) (hc : xs.length ≤ c) (j : Int) (h0 : 0 ≤ j) (hj : j ≤ xs.length) :
    ∃ A' c', (∀ W : World, (Instr.slice t (.slice A xs.length c) (some (.int .i64 j)) none none).run P W = .ok (.slice A' (xs.drop j.toNat).length c') W) ∧ (xs.drop j.toNat).length ≤ c' ∧ (∀ W, d.C W A xs.length xs → d.C W A' (xs.drop j.toNat).length (xs.drop j.toNat)) ∧ (∀ ad, A' = some ad → ∃ ad0, A = some ad0 ∧ ad.block = ad0.block) ∧ A'.isNone = A.isNone := by
  obtain ⟨A', c', h1, h2, h3, h4⟩ := cut_lo (P := P) (d := d) ht hS A c xs hc j h0 hj
  refine ⟨A', c', h1, h2, h3, h4, ?_⟩
  have h5 := h1 default
  have hl : (xs.drop j.toNat).length = xs.length - j.toNat := List.length_drop
  obtain ⟨i, hi, hz⟩ : ∃ i : TypeInfo, P.info? e = some i ∧ i.size = d.sz := by
    have := hS default
    cases h : P.info? e with
    | none => simp [sizeOf, typeInfo, h] at this
    | some i => exact ⟨i, rfl, by simpa [sizeOf, typeInfo, h] using this⟩
  have h6 := cut_from t e .i64 ht hi d.sz hz A xs.length c j h0 hj default
  rw [h5] at h6
  injection h6 with h6 _
  injection h6 with h6 _ _
  rw [h6]
  split
  · rfl
  · cases A <;> rfl
abbrev w1B : ByteArray := ⟨#[84, 101, 115, 116, 32, 114, 117, 110, 32, 111, 102, 32]⟩
abbrev w2B : ByteArray := ⟨#[66, 111, 97, 114, 100, 32]⟩
abbrev hashB : ByteArray := ⟨#[35]⟩
abbrev eB : ByteArray := ⟨#[]⟩
abbrev lfB : ByteArray := ⟨#[10]⟩
def allL (s : ByteArray) : List ByteArray := if (pcs s).getD ((pcs s).length - 1) eB = eB then (pcs s).take ((pcs s).length - 1) else pcs s
theorem allL_yes (s : ByteArray) (h : ((pcs s).getD (((pcs s).length : Int) - 1).toNat eB).toList = eB.toList) : (pcs s).take (((pcs s).length : Int) - 1).toNat = allL s := by
  rw [show (((pcs s).length : Int) - 1).toNat = (pcs s).length - 1 by omega] at h ⊢
  unfold allL
  rw [if_pos (Pure.bytes_eq h)]
theorem allL_no (s : ByteArray) (h : ¬ ((pcs s).getD (((pcs s).length : Int) - 1).toNat eB).toList = eB.toList) : pcs s = allL s := by
  rw [show (((pcs s).length : Int) - 1).toNat = (pcs s).length - 1 by omega] at h
  unfold allL
  rw [if_neg (fun e => h (by rw [e]))]
theorem allL_len (s : ByteArray) : (allL s).length ≤ s.size + 1 := by
  have := pcs_le s
  unfold allL
  split
  · rw [List.length_take]; omega
  · exact this
theorem allL_at (s : ByteArray) (i : Int) : ((allL s).getD i.toNat eB).size ≤ s.size := by
  unfold allL
  split
  · by_cases h : i.toNat < ((pcs s).take ((pcs s).length - 1)).length
    · rw [List.getD_eq_getElem?_getD, List.getElem?_eq_getElem h]
      exact pcs_size s _ (List.mem_of_mem_take (List.getElem_mem h))
    · rw [List.getD_eq_getElem?_getD, List.getElem?_eq_none (by omega)]
      exact Nat.zero_le _
  · exact pcs_at s i
noncomputable def parsL : List ByteArray → Int → ByteArray → ByteArray → List PP → Bool → List ByteArray → Option (ByteArray × ByteArray × List PP) × Int
  | [], i, su, bo, ps, b, TL => if (b || decide (0 < (TL.length : Int))) = true then (none, i) else (some (su, bo, ps), 0)
  | r :: rs, i, su, bo, ps, b, TL =>
    if hsB r lfB = false then (none, i) else
    if i = 0 then (if nmO (tsB r lfB) w1B = true then parsL rs (i + 1) (nmB (tsB r lfB) w1B) bo ps b TL else (none, i)) else
    if i = 1 then (if nmO (tsB r lfB) w2B = true then parsL rs (i + 1) su (nmB (tsB r lfB) w2B) ps b TL else (none, i)) else
    if (b && !(hpB (tsB r lfB) hashB)) = true then (if lineO ps (tsB r lfB) = true then parsL rs (i + 1) su bo (lineS ps (tsB r lfB)) b TL else (none, i)) else
    let TL' := if b = true then (linesL su bo ps).drop i.toNat else TL
    if 0 < (TL'.length : Int) ∧ TL'.getD 0 eB = tsB r lfB then parsL rs (i + 1) su bo ps false (TL'.drop 1) else (none, i)
noncomputable def parseP (s : ByteArray) : Option (ByteArray × ByteArray × List PP) × Int := parsL (allL s) 0 eB eB [] true []
noncomputable def outS (s : ByteArray) : ByteArray × ByteArray × List PP := (parseP s).1.getD (eB, eB, [])
noncomputable def codeP (s : ByteArray) : Int := if (parseP s).1.isSome = true then 0 else 80
theorem drop_at (xs : List ByteArray) (i : Int) (h0 : 0 ≤ i) (h1 : i < xs.length) : xs.drop i.toNat = xs.getD i.toNat eB :: xs.drop (i + 1).toNat := by
  rw [show (i + 1).toNat = i.toNat + 1 by omega, List.drop_eq_getElem_cons (by omega), List.getD_eq_getElem?_getD, List.getElem?_eq_getElem (by omega)]
  rfl
section
variable {r : ByteArray} {rs : List ByteArray} {i : Int} {su bo : ByteArray} {ps : List PP} {b : Bool} {TL : List ByteArray}
theorem pl_bad (h : hsB r lfB = false) : parsL (r :: rs) i su bo ps b TL = (none, i) := by unfold parsL; rw [if_pos h]
theorem pl_0 (h : hsB r lfB = true) (hi : i = 0) (hn : nmO (tsB r lfB) w1B = true) : parsL (r :: rs) i su bo ps b TL = parsL rs (i + 1) (nmB (tsB r lfB) w1B) bo ps b TL := by
  rw [parsL, if_neg (by rw [h]; decide), if_pos hi, if_pos hn]
theorem pl_0x (h : hsB r lfB = true) (hi : i = 0) (hn : nmO (tsB r lfB) w1B = false) : parsL (r :: rs) i su bo ps b TL = (none, i) := by
  rw [parsL, if_neg (by rw [h]; decide), if_pos hi, if_neg (by rw [hn]; decide)]
theorem pl_1 (h : hsB r lfB = true) (hi : i = 1) (hn : nmO (tsB r lfB) w2B = true) : parsL (r :: rs) i su bo ps b TL = parsL rs (i + 1) su (nmB (tsB r lfB) w2B) ps b TL := by
  rw [parsL, if_neg (by rw [h]; decide), if_neg (by omega), if_pos hi, if_pos hn]
theorem pl_1x (h : hsB r lfB = true) (hi : i = 1) (hn : nmO (tsB r lfB) w2B = false) : parsL (r :: rs) i su bo ps b TL = (none, i) := by
  rw [parsL, if_neg (by rw [h]; decide), if_neg (by omega), if_pos hi, if_neg (by rw [hn]; decide)]
theorem pl_l (h : hsB r lfB = true) (hi : i ≠ 0) (h1 : i ≠ 1) (hb : (b && !(hpB (tsB r lfB) hashB)) = true) (hn : lineO ps (tsB r lfB) = true) : parsL (r :: rs) i su bo ps b TL = parsL rs (i + 1) su bo (lineS ps (tsB r lfB)) b TL := by
  rw [parsL, if_neg (by rw [h]; decide), if_neg hi, if_neg h1, if_pos hb, if_pos hn]
theorem pl_lx (h : hsB r lfB = true) (hi : i ≠ 0) (h1 : i ≠ 1) (hb : (b && !(hpB (tsB r lfB) hashB)) = true) (hn : lineO ps (tsB r lfB) = false) : parsL (r :: rs) i su bo ps b TL = (none, i) := by
  rw [parsL, if_neg (by rw [h]; decide), if_neg hi, if_neg h1, if_pos hb, if_neg (by rw [hn]; decide)]
theorem pl_t (TL' : List ByteArray) (hT : TL' = if b = true then (linesL su bo ps).drop i.toNat else TL) (h : hsB r lfB = true) (hi : i ≠ 0) (h1 : i ≠ 1) (hb : (b && !(hpB (tsB r lfB) hashB)) = false) (hn : 0 < (TL'.length : Int) ∧ TL'.getD 0 eB = tsB r lfB) : parsL (r :: rs) i su bo ps b TL = parsL rs (i + 1) su bo ps false (TL'.drop 1) := by
  subst hT
  rw [parsL, if_neg (by rw [h]; decide), if_neg hi, if_neg h1, if_neg (by rw [hb]; decide)]
  exact if_pos hn
theorem pl_tx (TL' : List ByteArray) (hT : TL' = if b = true then (linesL su bo ps).drop i.toNat else TL) (h : hsB r lfB = true) (hi : i ≠ 0) (h1 : i ≠ 1) (hb : (b && !(hpB (tsB r lfB) hashB)) = false) (hn : ¬ (0 < (TL'.length : Int) ∧ TL'.getD 0 eB = tsB r lfB)) : parsL (r :: rs) i su bo ps b TL = (none, i) := by
  subst hT
  rw [parsL, if_neg (by rw [h]; decide), if_neg hi, if_neg h1, if_neg (by rw [hb]; decide)]
  exact if_neg hn
end
theorem sumL_add (ps : List PP) (r : RS) (h : ps ≠ []) : sumL (addL ps r) = sumL ps + 1 ∧ (addL ps r).length = ps.length := by
  rcases List.eq_nil_or_concat ps with e | ⟨qs, p, rfl⟩
  · exact absurd e h
  · obtain ⟨g, xs⟩ := p
    rw [List.concat_eq_append, addL_snoc, sum_snoc, sum_snoc]
    simp
    omega
theorem line_count (ps : List PP) (l : ByteArray) (h : lineO ps l = true) : (lineS ps l).length + sumL (lineS ps l) = ps.length + sumL ps + 1 := by
  unfold lineO at h
  unfold lineS
  split
  · rw [sum_snoc, List.length_append]; simp; omega
  · rename_i hg
    rw [if_neg hg] at h
    rw [if_pos h]
    have hp : ps ≠ [] := by
      intro e
      subst e
      unfold resO at h
      simp at h
    have := sumL_add ps ⟨(readN (cuB l sepB)).1, vpB (cuA l sepB)⟩ hp
    omega
theorem lines_len (su bo : ByteArray) (ps : List PP) : 3 + ps.length + sumL ps ≤ (linesL su bo ps).length ∧ (linesL su bo ps).length ≤ 11 + ps.length + sumL ps := by
  unfold linesL
  have h1 := body_len su bo ps
  have h2 := tots_len ps 8
  rw [List.length_append, List.length_append, h1]
  simp
  omega
theorem str_openF {W : World} {ok : Nat → Prop} {x : ByteArray} {cs : List Value} (h : Kd.FK Kd.string W ok x cs) : cs = [.string x] := Kd.FK_now h
theorem some_of_C {α : Type} {d : Kd α} {w : World} {A : Option Addr} {n : Nat} {xs : List α} (h : Kd.C d w A n xs) (hn : 0 < n) : Option.isNone A = false := by
  obtain ⟨ad, rfl, _⟩ := h.2.2 hn
  rfl
end
section
attribute [local go_sem] max2_int min2_int max_two min_two max_three min_three max_four min_four   -- for this text's walks alone
mutual
def sum_Right.j0 : Nat → Bool → ByteArray → ByteArray → List (S46) → Option (Bool)
  | 0, _, _, _, _ => none
  | k + 1, x16, x110000, x110001, x110002 => if x16 = true then (some false) else (sum_Right.l0 k x110002 (x110002.length : Int) 0)
def sum_Right.l0 : Nat → List (S46) → Int → Int → Option (Bool)
  | 0, _, _, _ => none
  | k + 1, x18, x19, x20 => if x20 < x19 then (if 0 ≤ x20 then (if x20 < (x18.length : Int) then ((name_Right.f ((rd_T46 x18 x20).f0)).bind fun t114 => (if t114 = true then (sum_Right.l1 k x18 x19 x20 ((rd_T46 x18 x20).f1) (((rd_T46 x18 x20).f1).length : Int) 0) else (some false))) else (none)) else (none)) else (some true)
def sum_Right.l1 : Nat → List (S46) → Int → Int → List (S49) → Int → Int → Option (Bool)
  | 0, _, _, _, _, _, _ => none
  | k + 1, x18, x19, x20, x29, x30, x31 => if x31 < x30 then (if 0 ≤ x31 then (if x31 < (x29.length : Int) then ((name_Right.f ((rd_T49 x29 x31).f0)).bind fun t117 => (if t117 = true then ((trace_Text.f ((rd_T49 x29 x31).f1)).bind fun t118 => (if t118.toList = ([] : List UInt8) then (some false) else (sum_Right.l1 k x18 x19 x20 x29 x30 (wrap64 (x31 + 1))))) else (some false))) else (none)) else (none)) else (sum_Right.l0 k x18 x19 (wrap64 (x20 + 1)))
end
def sum_Right.f (k : Nat) (a0_0 : ByteArray) (a0_1 : ByteArray) (l0_2 : List (S46)) : Option (Bool) := (name_Right.f a0_0).bind fun t110 => (if t110 = true then ((name_Right.f a0_1).bind fun t111 => (sum_Right.j0 k (!t111) a0_0 a0_1 l0_2)) else (sum_Right.j0 k true a0_0 a0_1 l0_2))
theorem sum_Right.mono_l : ∀ k, (∀ y0 y1 y2 y3, LeO (sum_Right.j0 k y0 y1 y2 y3) (sum_Right.j0 (k + 1) y0 y1 y2 y3)) ∧ (∀ y0 y1 y2, LeO (sum_Right.l0 k y0 y1 y2) (sum_Right.l0 (k + 1) y0 y1 y2)) ∧ (∀ y0 y1 y2 y3 y4 y5, LeO (sum_Right.l1 k y0 y1 y2 y3 y4 y5) (sum_Right.l1 (k + 1) y0 y1 y2 y3 y4 y5))
  | 0 => ⟨fun _ _ _ _ r h => by simp [sum_Right.j0] at h, fun _ _ _ r h => by simp [sum_Right.l0] at h, fun _ _ _ _ _ _ r h => by simp [sum_Right.l1] at h⟩
  | k + 1 => by
    obtain ⟨ih0, ih1, ih2⟩ := sum_Right.mono_l k
    refine ⟨?_, ?_, ?_⟩
    · intro y0 y1 y2 y3
      unfold sum_Right.j0
      repeat' first
      | (with_reducible exact ih0 _ _ _ _)
      | (with_reducible exact ih1 _ _ _)
      | (with_reducible exact ih2 _ _ _ _ _ _)
      | (with_reducible exact LeO.refl _)
      | (with_reducible exact LeO.none _)
      | (with_reducible refine LeO.ite ?_ ?_)
      | (with_reducible refine LeO.bind ?_ (fun _ => ?_))
      | exact ih0 _ _ _ _
      | exact ih1 _ _ _
      | exact ih2 _ _ _ _ _ _
      | exact LeO.none _
      | refine LeO.ite ?_ ?_
      | refine LeO.bind ?_ (fun _ => ?_)
    · intro y0 y1 y2
      unfold sum_Right.l0
      repeat' first
      | (with_reducible exact ih0 _ _ _ _)
      | (with_reducible exact ih1 _ _ _)
      | (with_reducible exact ih2 _ _ _ _ _ _)
      | (with_reducible exact LeO.refl _)
      | (with_reducible exact LeO.none _)
      | (with_reducible refine LeO.ite ?_ ?_)
      | (with_reducible refine LeO.bind ?_ (fun _ => ?_))
      | exact ih0 _ _ _ _
      | exact ih1 _ _ _
      | exact ih2 _ _ _ _ _ _
      | exact LeO.none _
      | refine LeO.ite ?_ ?_
      | refine LeO.bind ?_ (fun _ => ?_)
    · intro y0 y1 y2 y3 y4 y5
      unfold sum_Right.l1
      repeat' first
      | (with_reducible exact ih0 _ _ _ _)
      | (with_reducible exact ih1 _ _ _)
      | (with_reducible exact ih2 _ _ _ _ _ _)
      | (with_reducible exact LeO.refl _)
      | (with_reducible exact LeO.none _)
      | (with_reducible refine LeO.ite ?_ ?_)
      | (with_reducible refine LeO.bind ?_ (fun _ => ?_))
      | exact ih0 _ _ _ _
      | exact ih1 _ _ _
      | exact ih2 _ _ _ _ _ _
      | exact LeO.none _
      | refine LeO.ite ?_ ?_
      | refine LeO.bind ?_ (fun _ => ?_)
theorem sum_Right.mono : ∀ a0 a1 a2 k, LeO (sum_Right.f k a0 a1 a2) (sum_Right.f (k + 1) a0 a1 a2) := by
  intro a0 a1 a2 k
  obtain ⟨ih0, ih1, ih2⟩ := sum_Right.mono_l k
  unfold sum_Right.f
  repeat' first
      | (with_reducible exact ih0 _ _ _ _)
      | (with_reducible exact ih1 _ _ _)
      | (with_reducible exact ih2 _ _ _ _ _ _)
      | (with_reducible exact LeO.refl _)
      | (with_reducible exact LeO.none _)
      | (with_reducible refine LeO.ite ?_ ?_)
      | (with_reducible refine LeO.bind ?_ (fun _ => ?_))
      | exact ih0 _ _ _ _
      | exact ih1 _ _ _
      | exact ih2 _ _ _ _ _ _
      | exact LeO.none _
      | refine LeO.ite ?_ ?_
      | refine LeO.bind ?_ (fun _ => ?_)
theorem sum_Right.calls (k : Nat) (a0_0 : ByteArray) (a0_1 : ByteArray) (A0_2 : Option Addr) (c0_2 : Nat) (l0_2 : List (S46)) (r : Bool) (w : World) (hr0_2 : Kd.C k46 w A0_2 l0_2.length l0_2) (hc0_2 : l0_2.length ≤ c0_2) (h : sum_Right.f k a0_0 a0_1 l0_2 = some r) :
    Calls Tryd.prog 14 #[.agg #[.string a0_0, .string a0_1, .slice A0_2 l0_2.length c0_2]] w fun e w' => e = .returned (.bool r) ∧ Below w.heap.size w w' := by
  have hu24 := Tryd.underlying24
  have hu46 := Tryd.underlying46
  have hu49 := Tryd.underlying49
  have HR0_2 := Aside0.mk hr0_2
  have HC0_2 := Aside0.mk hc0_2
  clear hr0_2 hc0_2
  have HB := Aside0.mk (Below.refl w.heap.size w)
  have H : ((name_Right.f a0_0).bind fun t110 => (if t110 = true then ((name_Right.f a0_1).bind fun t111 => (sum_Right.j0 k (!t111) a0_0 a0_1 l0_2)) else (sum_Right.j0 k true a0_0 a0_1 l0_2))) = some r := h
  clear h
  have HC2 := Aside0.mk H
  clear H
  go_enter Tryd.func14, Tryd.ntmps14
  go_upto_region 1 with (first | ((with_reducible refine gate_dst (N := 1) rfl ?_); refine box_event ?hg (N := 1) ?hd (cs := #[.string a0_0, .string a0_1, .slice A0_2 l0_2.length c0_2]) (t := 24) ?hr ?_; (case hd => rfl); (case hg => rfl); (case hr => first | (go_simp; done) | (go_simp; rfl)); intro gb109 hg w3 hbox hb; have n0_ := Aside0.mk (below_step (by repeat (first | (with_reducible first | exact HB.out | apply below_alloc | apply pw_below_drewN | apply below_drew1) | exact HB.out)) hb); have n1_ := Aside0.mk (hbox); have n2_ := Aside0.mk ((by rw [hg]; exact (below_size (by repeat (first | (with_reducible first | exact HB.out | apply below_alloc | apply pw_below_drewN | apply below_drew1) | exact HB.out))) : w.heap.size ≤ gb109)); have n3_ := Aside0.mk ((by rw [hg]; exact (below_size (by repeat (first | (with_reducible first | exact HB.out | apply below_alloc | apply pw_below_drewN | apply below_drew1) | exact HB.out))) : w.heap.size ≤ gb109)); clear HB; have HB := n0_; have BK109 := n1_; have GW109 := n2_; have GE109 := n3_; clear n0_ n1_ n2_ n3_; clear hb hbox hg))
  (try simp only [Act.put, List.setIfInBounds_toArray, List.set_cons_zero, List.set_cons_succ])
  go_cut [16] (fun v16 wc => ∃ (kq : Nat) (x16_1 : Bool), v16 = .bool x16_1 ∧ Aside0 (sum_Right.j0 kq x16_1 a0_0 a0_1 l0_2 = some r) ∧ Aside0 (kq ≤ k) ∧ Aside0 (wc.heap[gb109]? = some (.cells #[.string a0_0, .string a0_1, (.slice A0_2 l0_2.length c0_2)] 24 (0, 0))) ∧ Aside0 (Below w.heap.size w wc))
  case first =>
    have H := HC2.out
    clear HC2
    replace H := Option.bind_eq_some_iff.mp H
    obtain ⟨t110, A40, H⟩ := H
    replace H : (if t110 = true then ((name_Right.f a0_1).bind fun t111 => (sum_Right.j0 k (!t111) a0_0 a0_1 l0_2)) else (sum_Right.j0 k true a0_0 a0_1 l0_2)) = some r := H
    have A4 := Aside0.mk A40
    clear A40
    by_cases c5 : t110 = true
    · subst c5
      have H1 : ((name_Right.f a0_1).bind fun t111 => (sum_Right.j0 k (!t111) a0_0 a0_1 l0_2)) = some r := by rw [if_pos rfl] at H; exact H
      clear H
      have H := H1
      clear H1
      replace H := Option.bind_eq_some_iff.mp H
      obtain ⟨t111, A60, H⟩ := H
      replace H : (sum_Right.j0 k (!t111) a0_0 a0_1 l0_2) = some r := H
      have A6 := Aside0.mk A60
      clear A60
      have H' := Aside0.mk H
      clear H
      have hcz7_0 : w3.cell? ⟨gb109, 0, none⟩ = some (.string a0_0) := (blk_cell BK109.out 0).trans rfl
      have hcz7_1 : w3.cell? ⟨gb109, 1, none⟩ = some (.string a0_1) := (blk_cell BK109.out 1).trans rfl
      have hcz7_2 : w3.cell? ⟨gb109, 2, none⟩ = some (.slice A0_2 l0_2.length c0_2) := (blk_cell BK109.out 2).trans rfl
      have hfz7_0 := blk_frozen BK109.out 0
      have hfz7_1 := blk_frozen BK109.out 1
      have hfz7_2 := blk_frozen BK109.out 2
      go_wp2_with (first | ((with_reducible refine gate_callee (f := 24) rfl ?_); refine goesL_ (some 9) rfl rfl Tryd.func24 (by kernel_rfl) rfl #[.string a0_0] rfl (by (try simp only [List.map_toArray, List.map_cons, List.map_nil]); first | done | rfl | (simp only [List.length_drop, List.length_take]; rfl)) ?_; (with_reducible refine (name_Right.calls a0_0 true _ A4.out).mono ?_); rintro e w' ⟨rfl, ⟨nd, rfl⟩⟩; refine ⟨_, rfl, ?_⟩) | (go_at_call 24; (with_reducible refine (name_Right.calls a0_1 t111 _ A6.out).mono ?_); rintro e w' ⟨rfl, ⟨nd, rfl⟩⟩))
      go_meet
      case rel => exact ⟨_, (!t111), (by first | rfl | (simp; done) | (simp [*]; done)), H', ⟨by first | omega | exact Nat.le_refl _⟩, ⟨by (with_reducible repeat (first | refine blk_drewN ?_ _ | refine blk_drew ?_ | refine blk_alloc ?_ _)); exact BK109.out⟩, ⟨by repeat (first | (with_reducible first | exact HB.out | apply below_alloc | apply pw_below_drewN | apply below_drew1 | refine below_set ?_ GE109.out) | exact HB.out)⟩⟩
    · replace c5 := Bool.eq_false_iff.mpr c5
      subst c5
      have H1 : (sum_Right.j0 k true a0_0 a0_1 l0_2) = some r := by rw [if_neg (show ¬ (false = true) by decide)] at H; exact H
      clear H
      have H := H1
      clear H1
      have H' := Aside0.mk H
      clear H
      have hcz8_0 : w3.cell? ⟨gb109, 0, none⟩ = some (.string a0_0) := (blk_cell BK109.out 0).trans rfl
      have hcz8_1 : w3.cell? ⟨gb109, 1, none⟩ = some (.string a0_1) := (blk_cell BK109.out 1).trans rfl
      have hcz8_2 : w3.cell? ⟨gb109, 2, none⟩ = some (.slice A0_2 l0_2.length c0_2) := (blk_cell BK109.out 2).trans rfl
      have hfz8_0 := blk_frozen BK109.out 0
      have hfz8_1 := blk_frozen BK109.out 1
      have hfz8_2 := blk_frozen BK109.out 2
      go_wp2_with (first | ((with_reducible refine gate_callee (f := 24) rfl ?_); refine goesL_ (some 9) rfl rfl Tryd.func24 (by kernel_rfl) rfl #[.string a0_0] rfl (by (try simp only [List.map_toArray, List.map_cons, List.map_nil]); first | done | rfl | (simp only [List.length_drop, List.length_take]; rfl)) ?_; (with_reducible refine (name_Right.calls a0_0 false _ A4.out).mono ?_); rintro e w' ⟨rfl, ⟨nd, rfl⟩⟩; refine ⟨_, rfl, ?_⟩))
      go_meet
      case rel => exact ⟨_, (true), (by first | rfl | (simp; done) | (simp [*]; done)), H', ⟨by first | omega | exact Nat.le_refl _⟩, ⟨by (with_reducible repeat (first | refine blk_drewN ?_ _ | refine blk_drew ?_ | refine blk_alloc ?_ _)); exact BK109.out⟩, ⟨by repeat (first | (with_reducible first | exact HB.out | apply below_alloc | apply pw_below_drewN | apply below_drew1 | refine below_set ?_ GE109.out) | exact HB.out)⟩⟩
  case rest =>
    clear HC2
    try clear c1
    try clear c2
    try clear p2
    try clear c5
    try clear hcz7_0
    try clear hcz7_1
    try clear hcz7_2
    try clear hcz8_0
    try clear hcz8_1
    try clear hcz8_2
    try clear hfz7_0
    try clear hfz7_1
    try clear hfz7_2
    try clear hfz8_0
    try clear hfz8_1
    try clear hfz8_2
    obtain ⟨kq, x16_1, rfl, HA, HJ1, BK109, HB⟩ := hcut
    cases kq with
    | zero => exact absurd HA.out (by simp [sum_Right.j0])
    | succ kj1 =>
      have H := HA.out
      clear HA
      simp only [sum_Right.j0] at H
      by_cases c9 : x16_1 = true
      · subst c9
        have H1 : (some false) = some r := by rw [if_pos rfl] at H; exact H
        clear H
        have H := H1
        clear H1
        obtain rfl := Option.some.inj H
        go_wp2
        go_ret
        exact ⟨by first | rfl | (simp [errW_none, errW_some] <;> rfl) | (simp [*, errW_none, errW_some] <;> rfl), by repeat (first | (with_reducible first | exact HB.out | apply below_alloc | apply pw_below_drewN | apply below_drew1 | refine below_set ?_ GE109.out) | exact HB.out)⟩
      · replace c9 := Bool.eq_false_iff.mpr c9
        subst c9
        have H1 : (sum_Right.l0 kj1 l0_2 (l0_2.length : Int) 0) = some r := by rw [if_neg (show ¬ (false = true) by decide)] at H; exact H
        clear H
        have H := H1
        clear H1
        have H' := Aside0.mk H
        clear H
        have hcz10_0 : wc.cell? ⟨gb109, 0, none⟩ = some (.string a0_0) := (blk_cell BK109.out 0).trans rfl
        have hcz10_1 : wc.cell? ⟨gb109, 1, none⟩ = some (.string a0_1) := (blk_cell BK109.out 1).trans rfl
        have hcz10_2 : wc.cell? ⟨gb109, 2, none⟩ = some (.slice A0_2 l0_2.length c0_2) := (blk_cell BK109.out 2).trans rfl
        have hfz10_0 := blk_frozen BK109.out 0
        have hfz10_1 := blk_frozen BK109.out 1
        have hfz10_2 := blk_frozen BK109.out 2
        go_wp2
        go_loopg [20] kj1 (fun kq v20 w' => ∃ (x20_2 : Int), v20 = .int .i64 x20_2 ∧ Aside0 (sum_Right.l0 kq l0_2 (l0_2.length : Int) x20_2 = some r) ∧ Aside0 (kq ≤ kj1) ∧ Aside0 (w'.heap[gb109]? = some (.cells #[.string a0_0, .string a0_1, (.slice A0_2 l0_2.length c0_2)] 24 (0, 0))) ∧ Aside0 (Below w.heap.size w w'))
        case atStart => exact ⟨(0), (by first | rfl | (simp; done) | (simp [*]; done)), H', ⟨Nat.le_refl _⟩, ⟨by (with_reducible repeat (first | refine blk_drewN ?_ _ | refine blk_drew ?_ | refine blk_alloc ?_ _)); exact BK109.out⟩, ⟨by repeat (first | (with_reducible first | exact HB.out | apply below_alloc | apply pw_below_drewN | apply below_drew1 | refine below_set ?_ GE109.out) | exact HB.out)⟩⟩
        case round =>
          clear H'
          try clear c1
          try clear c2
          try clear p2
          try clear c5
          try clear c9
          try clear hcz10_0
          try clear hcz10_1
          try clear hcz10_2
          try clear hcz7_0
          try clear hcz7_1
          try clear hcz7_2
          try clear hcz8_0
          try clear hcz8_1
          try clear hcz8_2
          try clear hfz10_0
          try clear hfz10_1
          try clear hfz10_2
          try clear hfz7_0
          try clear hfz7_1
          try clear hfz7_2
          try clear hfz8_0
          try clear hfz8_1
          try clear hfz8_2
          try clear p2
          obtain ⟨x20_2, rfl, HA, HK2, BK109, HB⟩ := hrel
          cases gk with
          | zero => exact absurd HA.out (by simp [sum_Right.l0])
          | succ k2 =>
            have H := HA.out
            clear HA
            simp only [sum_Right.l0] at H
            by_cases c11 : x20_2 < (l0_2.length : Int)
            · rw [if_pos c11] at H
              have c11b0 : decide (x20_2 < (l0_2.length : Int)) = true := decide_eq_true c11
              clear c11
              by_cases c12 : 0 ≤ x20_2
              · rw [if_pos c12] at H
                have c12b0 : decide (0 ≤ x20_2) = true := decide_eq_true c12
                clear c12
                by_cases c13 : x20_2 < (l0_2.length : Int)
                · rw [if_pos c13] at H
                  have c13b0 : decide (x20_2 < (l0_2.length : Int)) = true := decide_eq_true c13
                  clear c13
                  replace H := Option.bind_eq_some_iff.mp H
                  obtain ⟨t114, A140, H⟩ := H
                  replace H : (if t114 = true then (sum_Right.l1 k2 l0_2 (l0_2.length : Int) x20_2 ((rd_T46 l0_2 x20_2).f1) (((rd_T46 l0_2 x20_2).f1).length : Int) 0) else (some false)) = some r := H
                  have A14 := Aside0.mk A140
                  clear A140
                  by_cases c15 : t114 = true
                  · subst c15
                    have H1 : (sum_Right.l1 k2 l0_2 (l0_2.length : Int) x20_2 ((rd_T46 l0_2 x20_2).f1) (((rd_T46 l0_2 x20_2).f1).length : Int) 0) = some r := by rw [if_pos rfl] at H; exact H
                    clear H
                    have H := H1
                    clear H1
                    have H' := Aside0.mk H
                    clear H
                    have p112 : 0 ≤ (x20_2 : Int) := of_decide_eq_true (by first | (with_reducible assumption) | assumption)
                    have q112 : x20_2 < (l0_2.length : Int) := of_decide_eq_true (by first | (with_reducible assumption) | assumption)
                    obtain ⟨ad112, A112_1, c112_1, e112, hx112_0, hx112_1, hl112_1, hi112_1⟩ := at_T46 HR0_2.out x20_2 p112 q112
                    cases e112
                    replace hx112_0 := (HB.out.cell (World.block_lt_of_cell? w _ hx112_0)).trans hx112_0
                    replace hx112_1 := (HB.out.cell (World.block_lt_of_cell? w _ hx112_1)).trans hx112_1
                    have HR112_1 := Aside0.mk hi112_1
                    have HC112_1 := Aside0.mk hl112_1
                    clear hi112_1 hl112_1
                    replace p112 := eq_true p112
                    replace q112 := eq_true q112
                    go_wp2_with (first | ((with_reducible refine gate_dst (N := 4) rfl ?_); refine box_event ?hg (N := 4) ?hd (cs := #[.string (⟨#[]⟩ : ByteArray), .slice none 0 0]) (t := 46) ?hr ?_; (case hd => rfl); (case hg => rfl); (case hr => first | (go_simp; done) | (go_simp; rfl)); intro gb113 hg w16 hbox hb; have n0_ := Aside0.mk (blk_below (g := gb109) (o := .cells #[.string a0_0, .string a0_1, .slice (some ad112) l0_2.length c0_2] 24 (0, 0)) (by (with_reducible repeat (first | refine blk_drewN ?_ _ | refine blk_drew ?_ | refine blk_alloc ?_ _)); exact BK109.out) hb); have n1_ := Aside0.mk (below_step (by repeat (first | (with_reducible first | exact HB.out | apply below_alloc | apply pw_below_drewN | apply below_drew1 | refine below_set ?_ GE109.out) | exact HB.out)) hb); have n2_ := Aside0.mk (hbox); have n3_ := Aside0.mk ((by rw [hg]; exact (below_size (by repeat (first | (with_reducible first | exact HB.out | apply below_alloc | apply pw_below_drewN | apply below_drew1 | refine below_set ?_ GE109.out) | exact HB.out))) : w.heap.size ≤ gb113)); have n4_ := Aside0.mk ((by rw [hg]; exact (below_size (by repeat (first | (with_reducible first | exact HB.out | apply below_alloc | apply pw_below_drewN | apply below_drew1 | refine below_set ?_ GE109.out) | exact HB.out))) : w.heap.size ≤ gb113)); have n5_ := Aside0.mk ((by rw [hg]; exact Nat.ne_of_lt (blk_lt (g := gb109) (o := .cells #[.string a0_0, .string a0_1, .slice (some ad112) l0_2.length c0_2] 24 (0, 0)) (by (with_reducible repeat (first | refine blk_drewN ?_ _ | refine blk_drew ?_ | refine blk_alloc ?_ _)); exact BK109.out)) : gb109 ≠ gb113)); have n6_ := Aside0.mk ((by rw [hg]; exact Nat.ne_of_gt (blk_lt (g := gb109) (o := .cells #[.string a0_0, .string a0_1, .slice (some ad112) l0_2.length c0_2] 24 (0, 0)) (by (with_reducible repeat (first | refine blk_drewN ?_ _ | refine blk_drew ?_ | refine blk_alloc ?_ _)); exact BK109.out)) : gb113 ≠ gb109)); clear BK109; clear HB; have BK109 := n0_; have HB := n1_; have BK113 := n2_; have GW113 := n3_; have GE113 := n4_; have NB109_113 := n5_; have NB113_109 := n6_; clear n0_ n1_ n2_ n3_ n4_ n5_ n6_; clear hb hbox hg; have hnb17 := NB113_109.out; have hnc17 := NB109_113.out; have hcz18_0 : w16.cell? ⟨gb113, 0, none⟩ = some (.string (⟨#[]⟩ : ByteArray)) := (blk_cell BK113.out 0).trans rfl; have hcz18_1 : w16.cell? ⟨gb113, 1, none⟩ = some (.slice none 0 0) := (blk_cell BK113.out 1).trans rfl; have hfz18_0 := blk_frozen BK113.out 0; have hfz18_1 := blk_frozen BK113.out 1) | ((with_reducible refine gate_callee (f := 24) rfl ?_); refine goesL_ (some 26) rfl rfl Tryd.func24 (by kernel_rfl) rfl #[.string ((rd_T46 l0_2 x20_2).f0)] rfl (by (try simp only [List.map_toArray, List.map_cons, List.map_nil]); first | done | rfl | (simp only [List.length_drop, List.length_take]; rfl)) ?_; (with_reducible refine (name_Right.calls ((rd_T46 l0_2 x20_2).f0) true _ A14.out).mono ?_); rintro e w' ⟨rfl, ⟨nd, rfl⟩⟩; refine ⟨_, rfl, ?_⟩))
                    go_loopg [31] k2 (fun kq v31 w' => ∃ (x31_3 : Int), v31 = .int .i64 x31_3 ∧ Aside0 (sum_Right.l1 kq l0_2 (l0_2.length : Int) x20_2 ((rd_T46 l0_2 x20_2).f1) (((rd_T46 l0_2 x20_2).f1).length : Int) x31_3 = some r) ∧ Aside0 (kq ≤ k2) ∧ Aside0 (w'.heap[gb109]? = some (.cells #[.string a0_0, .string a0_1, (.slice (some ad112) l0_2.length c0_2)] 24 (0, 0))) ∧ Aside0 (w'.heap[gb113]? = some (.cells #[.string ((rd_T46 l0_2 x20_2).f0), (.slice A112_1 ((rd_T46 l0_2 x20_2).f1).length c112_1)] 46 (0, 0))) ∧ Aside0 (Below w.heap.size w w'))
                    case atStart => exact ⟨(0), (by first | rfl | (simp; done) | (simp [*]; done)), H', ⟨Nat.le_refl _⟩, ⟨by (with_reducible repeat (first | refine blk_drewN ?_ _ | refine blk_drew ?_ | refine blk_alloc ?_ _)); refine blk_far ?_ NB109_113.out _; (with_reducible repeat (first | refine blk_drewN ?_ _ | refine blk_drew ?_ | refine blk_alloc ?_ _)); refine blk_far ?_ NB109_113.out _; (with_reducible repeat (first | refine blk_drewN ?_ _ | refine blk_drew ?_ | refine blk_alloc ?_ _)); exact BK109.out⟩, ⟨by (with_reducible repeat (first | refine blk_drewN ?_ _ | refine blk_drew ?_ | refine blk_alloc ?_ _)); refine blk_put (cs := #[.string ((rd_T46 l0_2 x20_2).f0), .slice none 0 0]) ?_ 1 _ rfl; (with_reducible repeat (first | refine blk_drewN ?_ _ | refine blk_drew ?_ | refine blk_alloc ?_ _)); refine blk_put (cs := #[.string (⟨#[]⟩ : ByteArray), .slice none 0 0]) ?_ 0 _ rfl; (with_reducible repeat (first | refine blk_drewN ?_ _ | refine blk_drew ?_ | refine blk_alloc ?_ _)); exact BK113.out⟩, ⟨by repeat (first | (with_reducible first | exact HB.out | apply below_alloc | apply pw_below_drewN | apply below_drew1 | refine below_set ?_ GE109.out | refine below_set ?_ GE113.out) | exact HB.out)⟩⟩
                    case round =>
                      clear H'
                      try clear c1
                      try clear p1
                      try clear q1
                      try clear hx1
                      try clear c2
                      try clear p2
                      try clear c5
                      try clear c9
                      try clear c11
                      try clear c11b0
                      try clear p11
                      try clear q11
                      try clear hx11
                      try clear c12
                      try clear c12b0
                      try clear c13
                      try clear c13b0
                      try clear c14
                      try clear c15
                      try clear c17
                      try clear hcz10_0
                      try clear hcz10_1
                      try clear hcz10_2
                      try clear hcz18_0
                      try clear hcz18_1
                      try clear hcz7_0
                      try clear hcz7_1
                      try clear hcz7_2
                      try clear hcz8_0
                      try clear hcz8_1
                      try clear hcz8_2
                      try clear hfz10_0
                      try clear hfz10_1
                      try clear hfz10_2
                      try clear hfz18_0
                      try clear hfz18_1
                      try clear hfz7_0
                      try clear hfz7_1
                      try clear hfz7_2
                      try clear hfz8_0
                      try clear hfz8_1
                      try clear hfz8_2
                      try clear hx112_0
                      try clear hx112_1
                      try clear p112
                      try clear p2
                      try clear q112
                      obtain ⟨x31_3, rfl, HA, HK3, BK109, BK113, HB⟩ := hrel
                      cases gk with
                      | zero => exact absurd HA.out (by simp [sum_Right.l1])
                      | succ k3 =>
                        have H := HA.out
                        clear HA
                        simp only [sum_Right.l1] at H
                        by_cases c19 : x31_3 < (((rd_T46 l0_2 x20_2).f1).length : Int)
                        · rw [if_pos c19] at H
                          have c19b0 : decide (x31_3 < (((rd_T46 l0_2 x20_2).f1).length : Int)) = true := decide_eq_true c19
                          clear c19
                          by_cases c20 : 0 ≤ x31_3
                          · rw [if_pos c20] at H
                            have c20b0 : decide (0 ≤ x31_3) = true := decide_eq_true c20
                            clear c20
                            by_cases c21 : x31_3 < (((rd_T46 l0_2 x20_2).f1).length : Int)
                            · rw [if_pos c21] at H
                              have c21b0 : decide (x31_3 < (((rd_T46 l0_2 x20_2).f1).length : Int)) = true := decide_eq_true c21
                              clear c21
                              replace H := Option.bind_eq_some_iff.mp H
                              obtain ⟨t117, A220, H⟩ := H
                              replace H : (if t117 = true then ((trace_Text.f ((rd_T49 ((rd_T46 l0_2 x20_2).f1) x31_3).f1)).bind fun t118 => (if t118.toList = ([] : List UInt8) then (some false) else (sum_Right.l1 k3 l0_2 (l0_2.length : Int) x20_2 ((rd_T46 l0_2 x20_2).f1) (((rd_T46 l0_2 x20_2).f1).length : Int) (wrap64 (x31_3 + 1))))) else (some false)) = some r := H
                              have A22 := Aside0.mk A220
                              clear A220
                              by_cases c23 : t117 = true
                              · subst c23
                                have H1 : ((trace_Text.f ((rd_T49 ((rd_T46 l0_2 x20_2).f1) x31_3).f1)).bind fun t118 => (if t118.toList = ([] : List UInt8) then (some false) else (sum_Right.l1 k3 l0_2 (l0_2.length : Int) x20_2 ((rd_T46 l0_2 x20_2).f1) (((rd_T46 l0_2 x20_2).f1).length : Int) (wrap64 (x31_3 + 1))))) = some r := by rw [if_pos rfl] at H; exact H
                                clear H
                                have H := H1
                                clear H1
                                replace H := Option.bind_eq_some_iff.mp H
                                obtain ⟨t118, A240, H⟩ := H
                                replace H : (if t118.toList = ([] : List UInt8) then (some false) else (sum_Right.l1 k3 l0_2 (l0_2.length : Int) x20_2 ((rd_T46 l0_2 x20_2).f1) (((rd_T46 l0_2 x20_2).f1).length : Int) (wrap64 (x31_3 + 1)))) = some r := H
                                have A24 := Aside0.mk A240
                                clear A240
                                by_cases c25 : t118.toList = ([] : List UInt8)
                                · rw [if_pos c25] at H
                                  have c25b0 : (t118.toList == ([] : List UInt8)) = true := beq_iff_eq.mpr c25
                                  have c25b1 : (t118.toList != ([] : List UInt8)) = false := bne_eq_false_iff_eq.mpr c25
                                  clear c25
                                  obtain rfl := Option.some.inj H
                                  have p115 : 0 ≤ (x31_3 : Int) := of_decide_eq_true (by first | (with_reducible assumption) | assumption)
                                  have q115 : x31_3 < (((rd_T46 l0_2 x20_2).f1).length : Int) := of_decide_eq_true (by first | (with_reducible assumption) | assumption)
                                  obtain ⟨ad115, e115, hx115_0, hx115_1⟩ := at_T49 HR112_1.out x31_3 p115 q115
                                  cases e115
                                  replace hx115_0 := (HB.out.cell (World.block_lt_of_cell? w _ hx115_0)).trans hx115_0
                                  replace hx115_1 := (HB.out.cell (World.block_lt_of_cell? w _ hx115_1)).trans hx115_1
                                  replace p115 := eq_true p115
                                  replace q115 := eq_true q115
                                  go_wp2_with (first | ((with_reducible refine gate_dst (N := 6) rfl ?_); refine box_event ?hg (N := 6) ?hd (cs := #[.string (⟨#[]⟩ : ByteArray), .int .i64 0]) (t := 49) ?hr ?_; (case hd => rfl); (case hg => rfl); (case hr => first | (go_simp; done) | (go_simp; rfl)); intro gb116 hg w26 hbox hb; have n0_ := Aside0.mk (blk_below (g := gb109) (o := .cells #[.string a0_0, .string a0_1, .slice (some ad112) l0_2.length c0_2] 24 (0, 0)) (by (with_reducible repeat (first | refine blk_drewN ?_ _ | refine blk_drew ?_ | refine blk_alloc ?_ _)); exact BK109.out) hb); have n1_ := Aside0.mk (blk_below (g := gb113) (o := .cells #[.string ((rd_T46 l0_2 x20_2).f0), .slice (some ad115) ((rd_T46 l0_2 x20_2).f1).length c112_1] 46 (0, 0)) (by (with_reducible repeat (first | refine blk_drewN ?_ _ | refine blk_drew ?_ | refine blk_alloc ?_ _)); exact BK113.out) hb); have n2_ := Aside0.mk (below_step (by repeat (first | (with_reducible first | exact HB.out | apply below_alloc | apply pw_below_drewN | apply below_drew1 | refine below_set ?_ GE109.out | refine below_set ?_ GE113.out) | exact HB.out)) hb); have n3_ := Aside0.mk (hbox); have n4_ := Aside0.mk ((by rw [hg]; exact (below_size (by repeat (first | (with_reducible first | exact HB.out | apply below_alloc | apply pw_below_drewN | apply below_drew1 | refine below_set ?_ GE109.out | refine below_set ?_ GE113.out) | exact HB.out))) : w.heap.size ≤ gb116)); have n5_ := Aside0.mk ((by rw [hg]; exact (below_size (by repeat (first | (with_reducible first | exact HB.out | apply below_alloc | apply pw_below_drewN | apply below_drew1 | refine below_set ?_ GE109.out | refine below_set ?_ GE113.out) | exact HB.out))) : w.heap.size ≤ gb116)); have n6_ := Aside0.mk ((by rw [hg]; exact Nat.ne_of_lt (blk_lt (g := gb109) (o := .cells #[.string a0_0, .string a0_1, .slice (some ad112) l0_2.length c0_2] 24 (0, 0)) (by (with_reducible repeat (first | refine blk_drewN ?_ _ | refine blk_drew ?_ | refine blk_alloc ?_ _)); exact BK109.out)) : gb109 ≠ gb116)); have n7_ := Aside0.mk ((by rw [hg]; exact Nat.ne_of_gt (blk_lt (g := gb109) (o := .cells #[.string a0_0, .string a0_1, .slice (some ad112) l0_2.length c0_2] 24 (0, 0)) (by (with_reducible repeat (first | refine blk_drewN ?_ _ | refine blk_drew ?_ | refine blk_alloc ?_ _)); exact BK109.out)) : gb116 ≠ gb109)); have n8_ := Aside0.mk ((by rw [hg]; exact Nat.ne_of_lt (blk_lt (g := gb113) (o := .cells #[.string ((rd_T46 l0_2 x20_2).f0), .slice (some ad115) ((rd_T46 l0_2 x20_2).f1).length c112_1] 46 (0, 0)) (by (with_reducible repeat (first | refine blk_drewN ?_ _ | refine blk_drew ?_ | refine blk_alloc ?_ _)); exact BK113.out)) : gb113 ≠ gb116)); have n9_ := Aside0.mk ((by rw [hg]; exact Nat.ne_of_gt (blk_lt (g := gb113) (o := .cells #[.string ((rd_T46 l0_2 x20_2).f0), .slice (some ad115) ((rd_T46 l0_2 x20_2).f1).length c112_1] 46 (0, 0)) (by (with_reducible repeat (first | refine blk_drewN ?_ _ | refine blk_drew ?_ | refine blk_alloc ?_ _)); exact BK113.out)) : gb116 ≠ gb113)); clear BK109; clear BK113; clear HB; have BK109 := n0_; have BK113 := n1_; have HB := n2_; have BK116 := n3_; have GW116 := n4_; have GE116 := n5_; have NB109_116 := n6_; have NB116_109 := n7_; have NB113_116 := n8_; have NB116_113 := n9_; clear n0_ n1_ n2_ n3_ n4_ n5_ n6_ n7_ n8_ n9_; clear hb hbox hg; have hnb27 := NB116_109.out; have hnc27 := NB109_116.out; have hnb28 := NB116_113.out; have hnc28 := NB113_116.out; have hcz29_0 : w26.cell? ⟨gb116, 0, none⟩ = some (.string (⟨#[]⟩ : ByteArray)) := (blk_cell BK116.out 0).trans rfl; have hcz29_1 : w26.cell? ⟨gb116, 1, none⟩ = some (.int .i64 0) := (blk_cell BK116.out 1).trans rfl; have hfz29_0 := blk_frozen BK116.out 0; have hfz29_1 := blk_frozen BK116.out 1) | ((with_reducible refine gate_callee (f := 24) rfl ?_); refine goesL_ (some 37) rfl rfl Tryd.func24 (by kernel_rfl) rfl #[.string ((rd_T49 ((rd_T46 l0_2 x20_2).f1) x31_3).f0)] rfl (by (try simp only [List.map_toArray, List.map_cons, List.map_nil]); first | done | rfl | (simp only [List.length_drop, List.length_take]; rfl)) ?_; (with_reducible refine (name_Right.calls ((rd_T49 ((rd_T46 l0_2 x20_2).f1) x31_3).f0) true _ A22.out).mono ?_); rintro e w' ⟨rfl, ⟨nd, rfl⟩⟩; refine ⟨_, rfl, ?_⟩) | (go_at_call 25; (with_reducible refine (trace_Text.calls ((rd_T49 ((rd_T46 l0_2 x20_2).f1) x31_3).f1) t118 _ A24.out).mono ?_); rintro e w30 ⟨rfl, hb⟩; have n0_ := Aside0.mk (blk_below (g := gb109) (o := .cells #[.string a0_0, .string a0_1, .slice (some ad112) l0_2.length c0_2] 24 (0, 0)) (by (with_reducible repeat (first | refine blk_drewN ?_ _ | refine blk_drew ?_ | refine blk_alloc ?_ _)); refine blk_far ?_ NB109_116.out _; (with_reducible repeat (first | refine blk_drewN ?_ _ | refine blk_drew ?_ | refine blk_alloc ?_ _)); refine blk_far ?_ NB109_116.out _; (with_reducible repeat (first | refine blk_drewN ?_ _ | refine blk_drew ?_ | refine blk_alloc ?_ _)); exact BK109.out) hb); have n1_ := Aside0.mk (blk_below (g := gb113) (o := .cells #[.string ((rd_T46 l0_2 x20_2).f0), .slice (some ad115) ((rd_T46 l0_2 x20_2).f1).length c112_1] 46 (0, 0)) (by (with_reducible repeat (first | refine blk_drewN ?_ _ | refine blk_drew ?_ | refine blk_alloc ?_ _)); refine blk_far ?_ NB113_116.out _; (with_reducible repeat (first | refine blk_drewN ?_ _ | refine blk_drew ?_ | refine blk_alloc ?_ _)); refine blk_far ?_ NB113_116.out _; (with_reducible repeat (first | refine blk_drewN ?_ _ | refine blk_drew ?_ | refine blk_alloc ?_ _)); exact BK113.out) hb); have n2_ := Aside0.mk (blk_below (g := gb116) (o := .cells #[.string ((rd_T49 ((rd_T46 l0_2 x20_2).f1) x31_3).f0), .int .i64 ((rd_T49 ((rd_T46 l0_2 x20_2).f1) x31_3).f1)] 49 (0, 0)) (by (with_reducible repeat (first | refine blk_drewN ?_ _ | refine blk_drew ?_ | refine blk_alloc ?_ _)); refine blk_put (cs := #[.string ((rd_T49 ((rd_T46 l0_2 x20_2).f1) x31_3).f0), .int .i64 0]) ?_ 1 _ rfl; (with_reducible repeat (first | refine blk_drewN ?_ _ | refine blk_drew ?_ | refine blk_alloc ?_ _)); refine blk_put (cs := #[.string (⟨#[]⟩ : ByteArray), .int .i64 0]) ?_ 0 _ rfl; (with_reducible repeat (first | refine blk_drewN ?_ _ | refine blk_drew ?_ | refine blk_alloc ?_ _)); exact BK116.out) hb); have n3_ := Aside0.mk (below_step (by repeat (first | (with_reducible first | exact HB.out | apply below_alloc | apply pw_below_drewN | apply below_drew1 | refine below_set ?_ GE109.out | refine below_set ?_ GE113.out | refine below_set ?_ GE116.out) | exact HB.out)) hb); clear BK109; clear BK113; clear BK116; clear HB; have BK109 := n0_; have BK113 := n1_; have BK116 := n2_; have HB := n3_; clear n0_ n1_ n2_ n3_; (try clear hb); (try clear hb2); (try clear hk); (try clear hi)))
                                  go_ret
                                  exact ⟨by first | rfl | (simp [errW_none, errW_some] <;> rfl) | (simp [*, errW_none, errW_some] <;> rfl), by repeat (first | (with_reducible first | exact HB.out | apply below_alloc | apply pw_below_drewN | apply below_drew1 | refine below_set ?_ GE109.out | refine below_set ?_ GE113.out | refine below_set ?_ GE116.out) | exact HB.out)⟩
                                · rw [if_neg c25] at H
                                  have c25b0 : (t118.toList == ([] : List UInt8)) = false := beq_eq_false_iff_ne.mpr c25
                                  have c25b1 : (t118.toList != ([] : List UInt8)) = true := bne_iff_ne.mpr c25
                                  have H' := Aside0.mk H
                                  clear H
                                  have p115 : 0 ≤ (x31_3 : Int) := of_decide_eq_true (by first | (with_reducible assumption) | assumption)
                                  have q115 : x31_3 < (((rd_T46 l0_2 x20_2).f1).length : Int) := of_decide_eq_true (by first | (with_reducible assumption) | assumption)
                                  obtain ⟨ad115, e115, hx115_0, hx115_1⟩ := at_T49 HR112_1.out x31_3 p115 q115
                                  cases e115
                                  replace hx115_0 := (HB.out.cell (World.block_lt_of_cell? w _ hx115_0)).trans hx115_0
                                  replace hx115_1 := (HB.out.cell (World.block_lt_of_cell? w _ hx115_1)).trans hx115_1
                                  replace p115 := eq_true p115
                                  replace q115 := eq_true q115
                                  go_wp2_with (first | ((with_reducible refine gate_dst (N := 6) rfl ?_); refine box_event ?hg (N := 6) ?hd (cs := #[.string (⟨#[]⟩ : ByteArray), .int .i64 0]) (t := 49) ?hr ?_; (case hd => rfl); (case hg => rfl); (case hr => first | (go_simp; done) | (go_simp; rfl)); intro gb116 hg w31 hbox hb; have n0_ := Aside0.mk (blk_below (g := gb109) (o := .cells #[.string a0_0, .string a0_1, .slice (some ad112) l0_2.length c0_2] 24 (0, 0)) (by (with_reducible repeat (first | refine blk_drewN ?_ _ | refine blk_drew ?_ | refine blk_alloc ?_ _)); exact BK109.out) hb); have n1_ := Aside0.mk (blk_below (g := gb113) (o := .cells #[.string ((rd_T46 l0_2 x20_2).f0), .slice (some ad115) ((rd_T46 l0_2 x20_2).f1).length c112_1] 46 (0, 0)) (by (with_reducible repeat (first | refine blk_drewN ?_ _ | refine blk_drew ?_ | refine blk_alloc ?_ _)); exact BK113.out) hb); have n2_ := Aside0.mk (below_step (by repeat (first | (with_reducible first | exact HB.out | apply below_alloc | apply pw_below_drewN | apply below_drew1 | refine below_set ?_ GE109.out | refine below_set ?_ GE113.out) | exact HB.out)) hb); have n3_ := Aside0.mk (hbox); have n4_ := Aside0.mk ((by rw [hg]; exact (below_size (by repeat (first | (with_reducible first | exact HB.out | apply below_alloc | apply pw_below_drewN | apply below_drew1 | refine below_set ?_ GE109.out | refine below_set ?_ GE113.out) | exact HB.out))) : w.heap.size ≤ gb116)); have n5_ := Aside0.mk ((by rw [hg]; exact (below_size (by repeat (first | (with_reducible first | exact HB.out | apply below_alloc | apply pw_below_drewN | apply below_drew1 | refine below_set ?_ GE109.out | refine below_set ?_ GE113.out) | exact HB.out))) : w.heap.size ≤ gb116)); have n6_ := Aside0.mk ((by rw [hg]; exact Nat.ne_of_lt (blk_lt (g := gb109) (o := .cells #[.string a0_0, .string a0_1, .slice (some ad112) l0_2.length c0_2] 24 (0, 0)) (by (with_reducible repeat (first | refine blk_drewN ?_ _ | refine blk_drew ?_ | refine blk_alloc ?_ _)); exact BK109.out)) : gb109 ≠ gb116)); have n7_ := Aside0.mk ((by rw [hg]; exact Nat.ne_of_gt (blk_lt (g := gb109) (o := .cells #[.string a0_0, .string a0_1, .slice (some ad112) l0_2.length c0_2] 24 (0, 0)) (by (with_reducible repeat (first | refine blk_drewN ?_ _ | refine blk_drew ?_ | refine blk_alloc ?_ _)); exact BK109.out)) : gb116 ≠ gb109)); have n8_ := Aside0.mk ((by rw [hg]; exact Nat.ne_of_lt (blk_lt (g := gb113) (o := .cells #[.string ((rd_T46 l0_2 x20_2).f0), .slice (some ad115) ((rd_T46 l0_2 x20_2).f1).length c112_1] 46 (0, 0)) (by (with_reducible repeat (first | refine blk_drewN ?_ _ | refine blk_drew ?_ | refine blk_alloc ?_ _)); exact BK113.out)) : gb113 ≠ gb116)); have n9_ := Aside0.mk ((by rw [hg]; exact Nat.ne_of_gt (blk_lt (g := gb113) (o := .cells #[.string ((rd_T46 l0_2 x20_2).f0), .slice (some ad115) ((rd_T46 l0_2 x20_2).f1).length c112_1] 46 (0, 0)) (by (with_reducible repeat (first | refine blk_drewN ?_ _ | refine blk_drew ?_ | refine blk_alloc ?_ _)); exact BK113.out)) : gb116 ≠ gb113)); clear BK109; clear BK113; clear HB; have BK109 := n0_; have BK113 := n1_; have HB := n2_; have BK116 := n3_; have GW116 := n4_; have GE116 := n5_; have NB109_116 := n6_; have NB116_109 := n7_; have NB113_116 := n8_; have NB116_113 := n9_; clear n0_ n1_ n2_ n3_ n4_ n5_ n6_ n7_ n8_ n9_; clear hb hbox hg; have hnb32 := NB116_109.out; have hnc32 := NB109_116.out; have hnb33 := NB116_113.out; have hnc33 := NB113_116.out; have hcz34_0 : w31.cell? ⟨gb116, 0, none⟩ = some (.string (⟨#[]⟩ : ByteArray)) := (blk_cell BK116.out 0).trans rfl; have hcz34_1 : w31.cell? ⟨gb116, 1, none⟩ = some (.int .i64 0) := (blk_cell BK116.out 1).trans rfl; have hfz34_0 := blk_frozen BK116.out 0; have hfz34_1 := blk_frozen BK116.out 1) | ((with_reducible refine gate_callee (f := 24) rfl ?_); refine goesL_ (some 37) rfl rfl Tryd.func24 (by kernel_rfl) rfl #[.string ((rd_T49 ((rd_T46 l0_2 x20_2).f1) x31_3).f0)] rfl (by (try simp only [List.map_toArray, List.map_cons, List.map_nil]); first | done | rfl | (simp only [List.length_drop, List.length_take]; rfl)) ?_; (with_reducible refine (name_Right.calls ((rd_T49 ((rd_T46 l0_2 x20_2).f1) x31_3).f0) true _ A22.out).mono ?_); rintro e w' ⟨rfl, ⟨nd, rfl⟩⟩; refine ⟨_, rfl, ?_⟩) | (go_at_call 25; (with_reducible refine (trace_Text.calls ((rd_T49 ((rd_T46 l0_2 x20_2).f1) x31_3).f1) t118 _ A24.out).mono ?_); rintro e w35 ⟨rfl, hb⟩; have n0_ := Aside0.mk (blk_below (g := gb109) (o := .cells #[.string a0_0, .string a0_1, .slice (some ad112) l0_2.length c0_2] 24 (0, 0)) (by (with_reducible repeat (first | refine blk_drewN ?_ _ | refine blk_drew ?_ | refine blk_alloc ?_ _)); refine blk_far ?_ NB109_116.out _; (with_reducible repeat (first | refine blk_drewN ?_ _ | refine blk_drew ?_ | refine blk_alloc ?_ _)); refine blk_far ?_ NB109_116.out _; (with_reducible repeat (first | refine blk_drewN ?_ _ | refine blk_drew ?_ | refine blk_alloc ?_ _)); exact BK109.out) hb); have n1_ := Aside0.mk (blk_below (g := gb113) (o := .cells #[.string ((rd_T46 l0_2 x20_2).f0), .slice (some ad115) ((rd_T46 l0_2 x20_2).f1).length c112_1] 46 (0, 0)) (by (with_reducible repeat (first | refine blk_drewN ?_ _ | refine blk_drew ?_ | refine blk_alloc ?_ _)); refine blk_far ?_ NB113_116.out _; (with_reducible repeat (first | refine blk_drewN ?_ _ | refine blk_drew ?_ | refine blk_alloc ?_ _)); refine blk_far ?_ NB113_116.out _; (with_reducible repeat (first | refine blk_drewN ?_ _ | refine blk_drew ?_ | refine blk_alloc ?_ _)); exact BK113.out) hb); have n2_ := Aside0.mk (blk_below (g := gb116) (o := .cells #[.string ((rd_T49 ((rd_T46 l0_2 x20_2).f1) x31_3).f0), .int .i64 ((rd_T49 ((rd_T46 l0_2 x20_2).f1) x31_3).f1)] 49 (0, 0)) (by (with_reducible repeat (first | refine blk_drewN ?_ _ | refine blk_drew ?_ | refine blk_alloc ?_ _)); refine blk_put (cs := #[.string ((rd_T49 ((rd_T46 l0_2 x20_2).f1) x31_3).f0), .int .i64 0]) ?_ 1 _ rfl; (with_reducible repeat (first | refine blk_drewN ?_ _ | refine blk_drew ?_ | refine blk_alloc ?_ _)); refine blk_put (cs := #[.string (⟨#[]⟩ : ByteArray), .int .i64 0]) ?_ 0 _ rfl; (with_reducible repeat (first | refine blk_drewN ?_ _ | refine blk_drew ?_ | refine blk_alloc ?_ _)); exact BK116.out) hb); have n3_ := Aside0.mk (below_step (by repeat (first | (with_reducible first | exact HB.out | apply below_alloc | apply pw_below_drewN | apply below_drew1 | refine below_set ?_ GE109.out | refine below_set ?_ GE113.out | refine below_set ?_ GE116.out) | exact HB.out)) hb); clear BK109; clear BK113; clear BK116; clear HB; have BK109 := n0_; have BK113 := n1_; have BK116 := n2_; have HB := n3_; clear n0_ n1_ n2_ n3_; (try clear hb); (try clear hb2); (try clear hk); (try clear hi)))
                                  go_roundg k3
                                  case measure => have := HJ1.out; have := HK2.out; have := HK3.out; omega
                                  case rel => exact ⟨(wrap64 (x31_3 + 1)), (by first | rfl | (simp; done) | (simp [*]; done)), H', ⟨by have := HJ1.out; have := HK2.out; have := HK3.out; omega⟩, ⟨by (with_reducible repeat (first | refine blk_drewN ?_ _ | refine blk_drew ?_ | refine blk_alloc ?_ _)); exact BK109.out⟩, ⟨by (with_reducible repeat (first | refine blk_drewN ?_ _ | refine blk_drew ?_ | refine blk_alloc ?_ _)); exact BK113.out⟩, ⟨by repeat (first | (with_reducible first | exact HB.out | apply below_alloc | apply pw_below_drewN | apply below_drew1 | refine below_set ?_ GE109.out | refine below_set ?_ GE113.out | refine below_set ?_ GE116.out) | exact HB.out)⟩⟩
                              · replace c23 := Bool.eq_false_iff.mpr c23
                                subst c23
                                have H1 : (some false) = some r := by rw [if_neg (show ¬ (false = true) by decide)] at H; exact H
                                clear H
                                have H := H1
                                clear H1
                                obtain rfl := Option.some.inj H
                                have p115 : 0 ≤ (x31_3 : Int) := of_decide_eq_true (by first | (with_reducible assumption) | assumption)
                                have q115 : x31_3 < (((rd_T46 l0_2 x20_2).f1).length : Int) := of_decide_eq_true (by first | (with_reducible assumption) | assumption)
                                obtain ⟨ad115, e115, hx115_0, hx115_1⟩ := at_T49 HR112_1.out x31_3 p115 q115
                                cases e115
                                replace hx115_0 := (HB.out.cell (World.block_lt_of_cell? w _ hx115_0)).trans hx115_0
                                replace hx115_1 := (HB.out.cell (World.block_lt_of_cell? w _ hx115_1)).trans hx115_1
                                replace p115 := eq_true p115
                                replace q115 := eq_true q115
                                go_wp2_with (first | ((with_reducible refine gate_dst (N := 6) rfl ?_); refine box_event ?hg (N := 6) ?hd (cs := #[.string (⟨#[]⟩ : ByteArray), .int .i64 0]) (t := 49) ?hr ?_; (case hd => rfl); (case hg => rfl); (case hr => first | (go_simp; done) | (go_simp; rfl)); intro gb116 hg w36 hbox hb; have n0_ := Aside0.mk (blk_below (g := gb109) (o := .cells #[.string a0_0, .string a0_1, .slice (some ad112) l0_2.length c0_2] 24 (0, 0)) (by (with_reducible repeat (first | refine blk_drewN ?_ _ | refine blk_drew ?_ | refine blk_alloc ?_ _)); exact BK109.out) hb); have n1_ := Aside0.mk (blk_below (g := gb113) (o := .cells #[.string ((rd_T46 l0_2 x20_2).f0), .slice (some ad115) ((rd_T46 l0_2 x20_2).f1).length c112_1] 46 (0, 0)) (by (with_reducible repeat (first | refine blk_drewN ?_ _ | refine blk_drew ?_ | refine blk_alloc ?_ _)); exact BK113.out) hb); have n2_ := Aside0.mk (below_step (by repeat (first | (with_reducible first | exact HB.out | apply below_alloc | apply pw_below_drewN | apply below_drew1 | refine below_set ?_ GE109.out | refine below_set ?_ GE113.out) | exact HB.out)) hb); have n3_ := Aside0.mk (hbox); have n4_ := Aside0.mk ((by rw [hg]; exact (below_size (by repeat (first | (with_reducible first | exact HB.out | apply below_alloc | apply pw_below_drewN | apply below_drew1 | refine below_set ?_ GE109.out | refine below_set ?_ GE113.out) | exact HB.out))) : w.heap.size ≤ gb116)); have n5_ := Aside0.mk ((by rw [hg]; exact (below_size (by repeat (first | (with_reducible first | exact HB.out | apply below_alloc | apply pw_below_drewN | apply below_drew1 | refine below_set ?_ GE109.out | refine below_set ?_ GE113.out) | exact HB.out))) : w.heap.size ≤ gb116)); have n6_ := Aside0.mk ((by rw [hg]; exact Nat.ne_of_lt (blk_lt (g := gb109) (o := .cells #[.string a0_0, .string a0_1, .slice (some ad112) l0_2.length c0_2] 24 (0, 0)) (by (with_reducible repeat (first | refine blk_drewN ?_ _ | refine blk_drew ?_ | refine blk_alloc ?_ _)); exact BK109.out)) : gb109 ≠ gb116)); have n7_ := Aside0.mk ((by rw [hg]; exact Nat.ne_of_gt (blk_lt (g := gb109) (o := .cells #[.string a0_0, .string a0_1, .slice (some ad112) l0_2.length c0_2] 24 (0, 0)) (by (with_reducible repeat (first | refine blk_drewN ?_ _ | refine blk_drew ?_ | refine blk_alloc ?_ _)); exact BK109.out)) : gb116 ≠ gb109)); have n8_ := Aside0.mk ((by rw [hg]; exact Nat.ne_of_lt (blk_lt (g := gb113) (o := .cells #[.string ((rd_T46 l0_2 x20_2).f0), .slice (some ad115) ((rd_T46 l0_2 x20_2).f1).length c112_1] 46 (0, 0)) (by (with_reducible repeat (first | refine blk_drewN ?_ _ | refine blk_drew ?_ | refine blk_alloc ?_ _)); exact BK113.out)) : gb113 ≠ gb116)); have n9_ := Aside0.mk ((by rw [hg]; exact Nat.ne_of_gt (blk_lt (g := gb113) (o := .cells #[.string ((rd_T46 l0_2 x20_2).f0), .slice (some ad115) ((rd_T46 l0_2 x20_2).f1).length c112_1] 46 (0, 0)) (by (with_reducible repeat (first | refine blk_drewN ?_ _ | refine blk_drew ?_ | refine blk_alloc ?_ _)); exact BK113.out)) : gb116 ≠ gb113)); clear BK109; clear BK113; clear HB; have BK109 := n0_; have BK113 := n1_; have HB := n2_; have BK116 := n3_; have GW116 := n4_; have GE116 := n5_; have NB109_116 := n6_; have NB116_109 := n7_; have NB113_116 := n8_; have NB116_113 := n9_; clear n0_ n1_ n2_ n3_ n4_ n5_ n6_ n7_ n8_ n9_; clear hb hbox hg; have hnb37 := NB116_109.out; have hnc37 := NB109_116.out; have hnb38 := NB116_113.out; have hnc38 := NB113_116.out; have hcz39_0 : w36.cell? ⟨gb116, 0, none⟩ = some (.string (⟨#[]⟩ : ByteArray)) := (blk_cell BK116.out 0).trans rfl; have hcz39_1 : w36.cell? ⟨gb116, 1, none⟩ = some (.int .i64 0) := (blk_cell BK116.out 1).trans rfl; have hfz39_0 := blk_frozen BK116.out 0; have hfz39_1 := blk_frozen BK116.out 1) | ((with_reducible refine gate_callee (f := 24) rfl ?_); refine goesL_ (some 37) rfl rfl Tryd.func24 (by kernel_rfl) rfl #[.string ((rd_T49 ((rd_T46 l0_2 x20_2).f1) x31_3).f0)] rfl (by (try simp only [List.map_toArray, List.map_cons, List.map_nil]); first | done | rfl | (simp only [List.length_drop, List.length_take]; rfl)) ?_; (with_reducible refine (name_Right.calls ((rd_T49 ((rd_T46 l0_2 x20_2).f1) x31_3).f0) false _ A22.out).mono ?_); rintro e w' ⟨rfl, ⟨nd, rfl⟩⟩; refine ⟨_, rfl, ?_⟩))
                                go_ret
                                exact ⟨by first | rfl | (simp [errW_none, errW_some] <;> rfl) | (simp [*, errW_none, errW_some] <;> rfl), by repeat (first | (with_reducible first | exact HB.out | apply below_alloc | apply pw_below_drewN | apply below_drew1 | refine below_set ?_ GE109.out | refine below_set ?_ GE113.out | refine below_set ?_ GE116.out) | exact HB.out)⟩
                            · rw [if_neg c21] at H
                              exact absurd H (by simp)
                          · rw [if_neg c20] at H
                            exact absurd H (by simp)
                        · rw [if_neg c19] at H
                          have c19b0 : decide (x31_3 < (((rd_T46 l0_2 x20_2).f1).length : Int)) = false := decide_eq_false c19
                          clear c19
                          have H' := Aside0.mk H
                          clear H
                          go_wp2
                          go_roundg k3
                          case measure => have := HJ1.out; have := HK2.out; have := HK3.out; omega
                          case rel => exact ⟨(wrap64 (x20_2 + 1)), (by first | rfl | (simp; done) | (simp [*]; done)), H', ⟨by have := HJ1.out; have := HK2.out; have := HK3.out; omega⟩, ⟨by (with_reducible repeat (first | refine blk_drewN ?_ _ | refine blk_drew ?_ | refine blk_alloc ?_ _)); exact BK109.out⟩, ⟨by repeat (first | (with_reducible first | exact HB.out | apply below_alloc | apply pw_below_drewN | apply below_drew1 | refine below_set ?_ GE109.out | refine below_set ?_ GE113.out) | exact HB.out)⟩⟩
                  · replace c15 := Bool.eq_false_iff.mpr c15
                    subst c15
                    have H1 : (some false) = some r := by rw [if_neg (show ¬ (false = true) by decide)] at H; exact H
                    clear H
                    have H := H1
                    clear H1
                    obtain rfl := Option.some.inj H
                    have p112 : 0 ≤ (x20_2 : Int) := of_decide_eq_true (by first | (with_reducible assumption) | assumption)
                    have q112 : x20_2 < (l0_2.length : Int) := of_decide_eq_true (by first | (with_reducible assumption) | assumption)
                    obtain ⟨ad112, A112_1, c112_1, e112, hx112_0, hx112_1, hl112_1, hi112_1⟩ := at_T46 HR0_2.out x20_2 p112 q112
                    cases e112
                    replace hx112_0 := (HB.out.cell (World.block_lt_of_cell? w _ hx112_0)).trans hx112_0
                    replace hx112_1 := (HB.out.cell (World.block_lt_of_cell? w _ hx112_1)).trans hx112_1
                    have HR112_1 := Aside0.mk hi112_1
                    have HC112_1 := Aside0.mk hl112_1
                    clear hi112_1 hl112_1
                    replace p112 := eq_true p112
                    replace q112 := eq_true q112
                    go_wp2_with (first | ((with_reducible refine gate_dst (N := 4) rfl ?_); refine box_event ?hg (N := 4) ?hd (cs := #[.string (⟨#[]⟩ : ByteArray), .slice none 0 0]) (t := 46) ?hr ?_; (case hd => rfl); (case hg => rfl); (case hr => first | (go_simp; done) | (go_simp; rfl)); intro gb113 hg w40 hbox hb; have n0_ := Aside0.mk (blk_below (g := gb109) (o := .cells #[.string a0_0, .string a0_1, .slice (some ad112) l0_2.length c0_2] 24 (0, 0)) (by (with_reducible repeat (first | refine blk_drewN ?_ _ | refine blk_drew ?_ | refine blk_alloc ?_ _)); exact BK109.out) hb); have n1_ := Aside0.mk (below_step (by repeat (first | (with_reducible first | exact HB.out | apply below_alloc | apply pw_below_drewN | apply below_drew1 | refine below_set ?_ GE109.out) | exact HB.out)) hb); have n2_ := Aside0.mk (hbox); have n3_ := Aside0.mk ((by rw [hg]; exact (below_size (by repeat (first | (with_reducible first | exact HB.out | apply below_alloc | apply pw_below_drewN | apply below_drew1 | refine below_set ?_ GE109.out) | exact HB.out))) : w.heap.size ≤ gb113)); have n4_ := Aside0.mk ((by rw [hg]; exact (below_size (by repeat (first | (with_reducible first | exact HB.out | apply below_alloc | apply pw_below_drewN | apply below_drew1 | refine below_set ?_ GE109.out) | exact HB.out))) : w.heap.size ≤ gb113)); have n5_ := Aside0.mk ((by rw [hg]; exact Nat.ne_of_lt (blk_lt (g := gb109) (o := .cells #[.string a0_0, .string a0_1, .slice (some ad112) l0_2.length c0_2] 24 (0, 0)) (by (with_reducible repeat (first | refine blk_drewN ?_ _ | refine blk_drew ?_ | refine blk_alloc ?_ _)); exact BK109.out)) : gb109 ≠ gb113)); have n6_ := Aside0.mk ((by rw [hg]; exact Nat.ne_of_gt (blk_lt (g := gb109) (o := .cells #[.string a0_0, .string a0_1, .slice (some ad112) l0_2.length c0_2] 24 (0, 0)) (by (with_reducible repeat (first | refine blk_drewN ?_ _ | refine blk_drew ?_ | refine blk_alloc ?_ _)); exact BK109.out)) : gb113 ≠ gb109)); clear BK109; clear HB; have BK109 := n0_; have HB := n1_; have BK113 := n2_; have GW113 := n3_; have GE113 := n4_; have NB109_113 := n5_; have NB113_109 := n6_; clear n0_ n1_ n2_ n3_ n4_ n5_ n6_; clear hb hbox hg; have hnb41 := NB113_109.out; have hnc41 := NB109_113.out; have hcz42_0 : w40.cell? ⟨gb113, 0, none⟩ = some (.string (⟨#[]⟩ : ByteArray)) := (blk_cell BK113.out 0).trans rfl; have hcz42_1 : w40.cell? ⟨gb113, 1, none⟩ = some (.slice none 0 0) := (blk_cell BK113.out 1).trans rfl; have hfz42_0 := blk_frozen BK113.out 0; have hfz42_1 := blk_frozen BK113.out 1) | ((with_reducible refine gate_callee (f := 24) rfl ?_); refine goesL_ (some 26) rfl rfl Tryd.func24 (by kernel_rfl) rfl #[.string ((rd_T46 l0_2 x20_2).f0)] rfl (by (try simp only [List.map_toArray, List.map_cons, List.map_nil]); first | done | rfl | (simp only [List.length_drop, List.length_take]; rfl)) ?_; (with_reducible refine (name_Right.calls ((rd_T46 l0_2 x20_2).f0) false _ A14.out).mono ?_); rintro e w' ⟨rfl, ⟨nd, rfl⟩⟩; refine ⟨_, rfl, ?_⟩))
                    go_ret
                    exact ⟨by first | rfl | (simp [errW_none, errW_some] <;> rfl) | (simp [*, errW_none, errW_some] <;> rfl), by repeat (first | (with_reducible first | exact HB.out | apply below_alloc | apply pw_below_drewN | apply below_drew1 | refine below_set ?_ GE109.out | refine below_set ?_ GE113.out) | exact HB.out)⟩
                · rw [if_neg c13] at H
                  exact absurd H (by simp)
              · rw [if_neg c12] at H
                exact absurd H (by simp)
            · rw [if_neg c11] at H
              have c11b0 : decide (x20_2 < (l0_2.length : Int)) = false := decide_eq_false c11
              clear c11
              obtain rfl := Option.some.inj H
              go_wp2
              go_ret
              exact ⟨by first | rfl | (simp [errW_none, errW_some] <;> rfl) | (simp [*, errW_none, errW_some] <;> rfl), by repeat (first | (with_reducible first | exact HB.out | apply below_alloc | apply pw_below_drewN | apply below_drew1 | refine below_set ?_ GE109.out) | exact HB.out)⟩
end
section
attribute [local go_sem] max2_int min2_int max_two min_two max_three min_three max_four min_four   -- for this text's walks alone
def colloquyref18_Count.l0 : Nat → List (S49) → Int → Int → Int → Option (Int)
  | 0, _, _, _, _ => none
  | k + 1, x0, x1, x5, x6 => if x6 < (x0.length : Int) then (if 0 ≤ x6 then (if ((rd_T49 x0 x6).f1) = x1 then (colloquyref18_Count.l0 k x0 x1 (wrap64 (x5 + 1)) (wrap64 (x6 + 1))) else (if x1 = 0 then (if ((rd_T49 x0 x6).f1) < 0 then (colloquyref18_Count.l0 k x0 x1 (wrap64 (x5 + 1)) (wrap64 (x6 + 1))) else (if ((rd_T49 x0 x6).f1) > 7 then (colloquyref18_Count.l0 k x0 x1 (wrap64 (x5 + 1)) (wrap64 (x6 + 1))) else (colloquyref18_Count.l0 k x0 x1 x5 (wrap64 (x6 + 1))))) else (colloquyref18_Count.l0 k x0 x1 x5 (wrap64 (x6 + 1))))) else (none)) else (some x5)
def colloquyref18_Count.f (k : Nat) (l0 : List (S49)) (a1 : Int) : Option (Int) := colloquyref18_Count.l0 k l0 a1 0 0
theorem colloquyref18_Count.mono_l : ∀ k, (∀ y0 y1 y2 y3, LeO (colloquyref18_Count.l0 k y0 y1 y2 y3) (colloquyref18_Count.l0 (k + 1) y0 y1 y2 y3))
  | 0 => fun _ _ _ _ r h => by simp [colloquyref18_Count.l0] at h
  | k + 1 => by
    have ih0 := colloquyref18_Count.mono_l k
    · intro y0 y1 y2 y3
      unfold colloquyref18_Count.l0
      repeat' first
      | (with_reducible exact ih0 _ _ _ _)
      | (with_reducible exact LeO.refl _)
      | (with_reducible exact LeO.none _)
      | (with_reducible refine LeO.ite ?_ ?_)
      | (with_reducible refine LeO.bind ?_ (fun _ => ?_))
      | exact ih0 _ _ _ _
      | exact LeO.none _
      | refine LeO.ite ?_ ?_
      | refine LeO.bind ?_ (fun _ => ?_)
theorem colloquyref18_Count.mono : ∀ a0 a1 k, LeO (colloquyref18_Count.f k a0 a1) (colloquyref18_Count.f (k + 1) a0 a1) := by
  intro a0 a1 k
  have ih0 := colloquyref18_Count.mono_l k
  unfold colloquyref18_Count.f
  repeat' first
      | (with_reducible exact ih0 _ _ _ _)
      | (with_reducible exact LeO.refl _)
      | (with_reducible exact LeO.none _)
      | (with_reducible refine LeO.ite ?_ ?_)
      | (with_reducible refine LeO.bind ?_ (fun _ => ?_))
      | exact ih0 _ _ _ _
      | exact LeO.none _
      | refine LeO.ite ?_ ?_
      | refine LeO.bind ?_ (fun _ => ?_)
theorem colloquyref18_Count.calls (k : Nat) (A0 : Option Addr) (c0 : Nat) (l0 : List (S49)) (a1 : Int) (r : Int) (w : World) (hr0 : Kd.C k49 w A0 l0.length l0) (hc0 : l0.length ≤ c0) (h : colloquyref18_Count.f k l0 a1 = some r) :
    Calls Tryd.prog 23 #[.slice A0 l0.length c0, .int .i64 a1] w fun e w' => e = .returned (.int .i64 r) ∧ Drawn0 w w' := by
  have HR0 := Aside0.mk hr0
  have HC0 := Aside0.mk hc0
  clear hr0 hc0
  have H : (colloquyref18_Count.l0 k l0 a1 0 0) = some r := h
  clear h
  have H' := Aside0.mk H
  clear H
  go_enter Tryd.func23, Tryd.ntmps23
  go_wp2
  go_loopg [5, 6] k (fun kq v5 v6 w' => ∃ (x5_1 : Int) (x6_1 : Int), v5 = .int .i64 x5_1 ∧ v6 = .int .i64 x6_1 ∧ Aside0 (colloquyref18_Count.l0 kq l0 a1 x5_1 x6_1 = some r) ∧ Aside0 (kq ≤ k) ∧ Drawn0 w w')
  case atStart => exact ⟨(0), (0), (by first | rfl | (simp; done) | (simp [*]; done)), (by first | rfl | (simp; done) | (simp [*]; done)), H', ⟨Nat.le_refl _⟩, by repeat (first | exact Drawn0.refl _ | apply Drawn0.step)⟩
  case round =>
    clear H'
    try clear c2
    try clear p2
    obtain ⟨x5_1, x6_1, rfl, rfl, HA, HK1, ⟨m1, rfl⟩⟩ := hrel
    cases gk with
    | zero => exact absurd HA.out (by simp [colloquyref18_Count.l0])
    | succ k1 =>
      have H := HA.out
      clear HA
      simp only [colloquyref18_Count.l0] at H
      by_cases c3 : x6_1 < (l0.length : Int)
      · rw [if_pos c3] at H
        have c3b0 : decide (x6_1 < (l0.length : Int)) = true := decide_eq_true c3
        clear c3
        by_cases c4 : 0 ≤ x6_1
        · rw [if_pos c4] at H
          have c4b0 : decide (0 ≤ x6_1) = true := decide_eq_true c4
          clear c4
          by_cases c5 : ((rd_T49 l0 x6_1).f1) = a1
          · rw [if_pos c5] at H
            have c5b0 : (((rd_T49 l0 x6_1).f1) == a1) = true := beq_iff_eq.mpr c5
            have c5b1 : (((rd_T49 l0 x6_1).f1) != a1) = false := bne_eq_false_iff_eq.mpr c5
            clear c5
            have H' := Aside0.mk H
            clear H
            have p209 : 0 ≤ (x6_1 : Int) := of_decide_eq_true (by first | (with_reducible assumption) | assumption)
            have q209 : x6_1 < (l0.length : Int) := of_decide_eq_true (by first | (with_reducible assumption) | assumption)
            obtain ⟨ad209, e209, hx209_0, hx209_1⟩ := at_T49 HR0.out x6_1 p209 q209
            cases e209
            replace p209 := eq_true p209
            replace q209 := eq_true q209
            go_wp2
            go_roundg k1
            case measure => have := HK1.out; omega
            case rel => exact ⟨(wrap64 (x5_1 + 1)), (wrap64 (x6_1 + 1)), (by first | rfl | (simp; done) | (simp [*]; done)), (by first | rfl | (simp; done) | (simp [*]; done)), H', ⟨by have := HK1.out; omega⟩, by repeat (first | exact Drawn0.refl _ | apply Drawn0.step)⟩
          · rw [if_neg c5] at H
            have c5b0 : (((rd_T49 l0 x6_1).f1) == a1) = false := beq_eq_false_iff_ne.mpr c5
            have c5b1 : (((rd_T49 l0 x6_1).f1) != a1) = true := bne_iff_ne.mpr c5
            by_cases c6 : a1 = 0
            · rw [if_pos c6] at H
              have c6b0 : (a1 == 0) = true := beq_iff_eq.mpr c6
              have c6b1 : (a1 != 0) = false := bne_eq_false_iff_eq.mpr c6
              clear c6
              by_cases c7 : ((rd_T49 l0 x6_1).f1) < 0
              · rw [if_pos c7] at H
                have c7b0 : decide (((rd_T49 l0 x6_1).f1) < 0) = true := decide_eq_true c7
                clear c7
                have H' := Aside0.mk H
                clear H
                have p209 : 0 ≤ (x6_1 : Int) := of_decide_eq_true (by first | (with_reducible assumption) | assumption)
                have q209 : x6_1 < (l0.length : Int) := of_decide_eq_true (by first | (with_reducible assumption) | assumption)
                obtain ⟨ad209, e209, hx209_0, hx209_1⟩ := at_T49 HR0.out x6_1 p209 q209
                cases e209
                replace p209 := eq_true p209
                replace q209 := eq_true q209
                go_wp2
                go_roundg k1
                case measure => have := HK1.out; omega
                case rel => exact ⟨(wrap64 (x5_1 + 1)), (wrap64 (x6_1 + 1)), (by first | rfl | (simp; done) | (simp [*]; done)), (by first | rfl | (simp; done) | (simp [*]; done)), H', ⟨by have := HK1.out; omega⟩, by repeat (first | exact Drawn0.refl _ | apply Drawn0.step)⟩
              · rw [if_neg c7] at H
                have c7b0 : decide (((rd_T49 l0 x6_1).f1) < 0) = false := decide_eq_false c7
                clear c7
                by_cases c8 : ((rd_T49 l0 x6_1).f1) > 7
                · rw [if_pos c8] at H
                  have c8b0 : decide (7 < ((rd_T49 l0 x6_1).f1)) = true := decide_eq_true c8
                  clear c8
                  have H' := Aside0.mk H
                  clear H
                  have p209 : 0 ≤ (x6_1 : Int) := of_decide_eq_true (by first | (with_reducible assumption) | assumption)
                  have q209 : x6_1 < (l0.length : Int) := of_decide_eq_true (by first | (with_reducible assumption) | assumption)
                  obtain ⟨ad209, e209, hx209_0, hx209_1⟩ := at_T49 HR0.out x6_1 p209 q209
                  cases e209
                  replace p209 := eq_true p209
                  replace q209 := eq_true q209
                  go_wp2
                  go_roundg k1
                  case measure => have := HK1.out; omega
                  case rel => exact ⟨(wrap64 (x5_1 + 1)), (wrap64 (x6_1 + 1)), (by first | rfl | (simp; done) | (simp [*]; done)), (by first | rfl | (simp; done) | (simp [*]; done)), H', ⟨by have := HK1.out; omega⟩, by repeat (first | exact Drawn0.refl _ | apply Drawn0.step)⟩
                · rw [if_neg c8] at H
                  have c8b0 : decide (7 < ((rd_T49 l0 x6_1).f1)) = false := decide_eq_false c8
                  clear c8
                  have H' := Aside0.mk H
                  clear H
                  have p209 : 0 ≤ (x6_1 : Int) := of_decide_eq_true (by first | (with_reducible assumption) | assumption)
                  have q209 : x6_1 < (l0.length : Int) := of_decide_eq_true (by first | (with_reducible assumption) | assumption)
                  obtain ⟨ad209, e209, hx209_0, hx209_1⟩ := at_T49 HR0.out x6_1 p209 q209
                  cases e209
                  replace p209 := eq_true p209
                  replace q209 := eq_true q209
                  go_wp2
                  go_roundg k1
                  case measure => have := HK1.out; omega
                  case rel => exact ⟨(x5_1), (wrap64 (x6_1 + 1)), (by first | rfl | (simp; done) | (simp [*]; done)), (by first | rfl | (simp; done) | (simp [*]; done)), H', ⟨by have := HK1.out; omega⟩, by repeat (first | exact Drawn0.refl _ | apply Drawn0.step)⟩
            · rw [if_neg c6] at H
              have c6b0 : (a1 == 0) = false := beq_eq_false_iff_ne.mpr c6
              have c6b1 : (a1 != 0) = true := bne_iff_ne.mpr c6
              have H' := Aside0.mk H
              clear H
              have p209 : 0 ≤ (x6_1 : Int) := of_decide_eq_true (by first | (with_reducible assumption) | assumption)
              have q209 : x6_1 < (l0.length : Int) := of_decide_eq_true (by first | (with_reducible assumption) | assumption)
              obtain ⟨ad209, e209, hx209_0, hx209_1⟩ := at_T49 HR0.out x6_1 p209 q209
              cases e209
              replace p209 := eq_true p209
              replace q209 := eq_true q209
              go_wp2
              go_roundg k1
              case measure => have := HK1.out; omega
              case rel => exact ⟨(x5_1), (wrap64 (x6_1 + 1)), (by first | rfl | (simp; done) | (simp [*]; done)), (by first | rfl | (simp; done) | (simp [*]; done)), H', ⟨by have := HK1.out; omega⟩, by repeat (first | exact Drawn0.refl _ | apply Drawn0.step)⟩
        · rw [if_neg c4] at H
          exact absurd H (by simp)
      · rw [if_neg c3] at H
        have c3b0 : decide (x6_1 < (l0.length : Int)) = false := decide_eq_false c3
        clear c3
        obtain rfl := Option.some.inj H
        go_wp2
        go_ret
        exact ⟨by first | rfl | (simp; done) | (simp [*]; done), by repeat (first | exact Drawn0.refl _ | apply Drawn0.step)⟩
end
section
attribute [local go_sem] max2_int min2_int max_two min_two max_three min_three max_four min_four   -- for this text's walks alone
def colloquyref20_Total.l0 : Nat → Int → Int → Int → ByteArray → ByteArray → List (S53) → Option (Int)
  | 0, _, _, _, _, _, _ => none
  | k + 1, x1, x5, x6, x211000, x211001, x211002 => if x6 < (x211002.length : Int) then (if 0 ≤ x6 then ((colloquyref18_Count.f k ((rd_T53 x211002 x6).f1) x1).bind fun t212 => (colloquyref20_Total.l0 k x1 (wrap64 (x5 + t212)) (wrap64 (x6 + 1)) x211000 x211001 x211002)) else (none)) else (some x5)
def colloquyref20_Total.f (k : Nat) (a0_0 : ByteArray) (a0_1 : ByteArray) (l0_2 : List (S53)) (a1 : Int) : Option (Int) := colloquyref20_Total.l0 k a1 0 0 a0_0 a0_1 l0_2
theorem colloquyref20_Total.mono_l : ∀ k, (∀ y0 y1 y2 y3 y4 y5, LeO (colloquyref20_Total.l0 k y0 y1 y2 y3 y4 y5) (colloquyref20_Total.l0 (k + 1) y0 y1 y2 y3 y4 y5))
  | 0 => fun _ _ _ _ _ _ r h => by simp [colloquyref20_Total.l0] at h
  | k + 1 => by
    have ih0 := colloquyref20_Total.mono_l k
    · intro y0 y1 y2 y3 y4 y5
      unfold colloquyref20_Total.l0
      repeat' first
      | (with_reducible exact ih0 _ _ _ _ _ _)
      | (with_reducible exact colloquyref18_Count.mono _ _ _)
      | (with_reducible exact LeO.refl _)
      | (with_reducible exact LeO.none _)
      | (with_reducible refine LeO.ite ?_ ?_)
      | (with_reducible refine LeO.bind ?_ (fun _ => ?_))
      | exact ih0 _ _ _ _ _ _
      | exact colloquyref18_Count.mono _ _ _
      | exact LeO.none _
      | refine LeO.ite ?_ ?_
      | refine LeO.bind ?_ (fun _ => ?_)
theorem colloquyref20_Total.mono : ∀ a0 a1 a2 a3 k, LeO (colloquyref20_Total.f k a0 a1 a2 a3) (colloquyref20_Total.f (k + 1) a0 a1 a2 a3) := by
  intro a0 a1 a2 a3 k
  have ih0 := colloquyref20_Total.mono_l k
  unfold colloquyref20_Total.f
  repeat' first
      | (with_reducible exact ih0 _ _ _ _ _ _)
      | (with_reducible exact colloquyref18_Count.mono _ _ _)
      | (with_reducible exact LeO.refl _)
      | (with_reducible exact LeO.none _)
      | (with_reducible refine LeO.ite ?_ ?_)
      | (with_reducible refine LeO.bind ?_ (fun _ => ?_))
      | exact ih0 _ _ _ _ _ _
      | exact colloquyref18_Count.mono _ _ _
      | exact LeO.none _
      | refine LeO.ite ?_ ?_
      | refine LeO.bind ?_ (fun _ => ?_)
theorem colloquyref20_Total.calls (k : Nat) (a0_0 : ByteArray) (a0_1 : ByteArray) (A0_2 : Option Addr) (c0_2 : Nat) (l0_2 : List (S53)) (a1 : Int) (r : Int) (w : World) (hr0_2 : Kd.C k53 w A0_2 l0_2.length l0_2) (hc0_2 : l0_2.length ≤ c0_2) (h : colloquyref20_Total.f k a0_0 a0_1 l0_2 a1 = some r) :
    Calls Tryd.prog 13 #[.agg #[.string a0_0, .string a0_1, .slice A0_2 l0_2.length c0_2], .int .i64 a1] w fun e w' => e = .returned (.int .i64 r) ∧ Below w.heap.size w w' := by
  have hu29 := Tryd.underlying29
  have HR0_2 := Aside0.mk hr0_2
  have HC0_2 := Aside0.mk hc0_2
  clear hr0_2 hc0_2
  have HB := Aside0.mk (Below.refl w.heap.size w)
  have H : (colloquyref20_Total.l0 k a1 0 0 a0_0 a0_1 l0_2) = some r := h
  clear h
  have H' := Aside0.mk H
  clear H
  go_enter Tryd.func13, Tryd.ntmps13
  go_wp2_with (first | ((with_reducible refine gate_dst (N := 2) rfl ?_); refine box_event ?hg (N := 2) ?hd (cs := #[.string a0_0, .string a0_1, .slice A0_2 l0_2.length c0_2]) (t := 29) ?hr ?_; (case hd => rfl); (case hg => rfl); (case hr => first | (go_simp; done) | (go_simp; rfl)); intro gb210 hg w3 hbox hb; have n0_ := Aside0.mk (below_step (by repeat (first | (with_reducible first | exact HB.out | apply below_alloc | apply pw_below_drewN | apply below_drew1) | exact HB.out)) hb); have n1_ := Aside0.mk (hbox); have n2_ := Aside0.mk ((by rw [hg]; exact (below_size (by repeat (first | (with_reducible first | exact HB.out | apply below_alloc | apply pw_below_drewN | apply below_drew1) | exact HB.out))) : w.heap.size ≤ gb210)); have n3_ := Aside0.mk ((by rw [hg]; exact (below_size (by repeat (first | (with_reducible first | exact HB.out | apply below_alloc | apply pw_below_drewN | apply below_drew1) | exact HB.out))) : w.heap.size ≤ gb210)); clear HB; have HB := n0_; have BK210 := n1_; have GW210 := n2_; have GE210 := n3_; clear n0_ n1_ n2_ n3_; clear hb hbox hg))
  go_loopg [5, 6] k (fun kq v5 v6 w' => ∃ (x5_1 : Int) (x6_1 : Int), v5 = .int .i64 x5_1 ∧ v6 = .int .i64 x6_1 ∧ Aside0 (colloquyref20_Total.l0 kq a1 x5_1 x6_1 a0_0 a0_1 l0_2 = some r) ∧ Aside0 (kq ≤ k) ∧ Aside0 (w'.heap[gb210]? = some (.cells #[.string a0_0, .string a0_1, (.slice A0_2 l0_2.length c0_2)] 29 (0, 0))) ∧ Aside0 (Below w.heap.size w w'))
  case atStart => exact ⟨(0), (0), (by first | rfl | (simp; done) | (simp [*]; done)), (by first | rfl | (simp; done) | (simp [*]; done)), H', ⟨Nat.le_refl _⟩, ⟨by (with_reducible repeat (first | refine blk_drewN ?_ _ | refine blk_drew ?_ | refine blk_alloc ?_ _)); exact BK210.out⟩, ⟨by repeat (first | (with_reducible first | exact HB.out | apply below_alloc | apply pw_below_drewN | apply below_drew1 | refine below_set ?_ GE210.out) | exact HB.out)⟩⟩
  case round =>
    clear H'
    try clear c1
    try clear p2
    obtain ⟨x5_1, x6_1, rfl, rfl, HA, HK1, BK210, HB⟩ := hrel
    cases gk with
    | zero => exact absurd HA.out (by simp [colloquyref20_Total.l0])
    | succ k1 =>
      have H := HA.out
      clear HA
      simp only [colloquyref20_Total.l0] at H
      by_cases c4 : x6_1 < (l0_2.length : Int)
      · rw [if_pos c4] at H
        have c4b0 : decide (x6_1 < (l0_2.length : Int)) = true := decide_eq_true c4
        clear c4
        by_cases c5 : 0 ≤ x6_1
        · rw [if_pos c5] at H
          have c5b0 : decide (0 ≤ x6_1) = true := decide_eq_true c5
          clear c5
          replace H := Option.bind_eq_some_iff.mp H
          obtain ⟨t212, A60, H⟩ := H
          replace H : (colloquyref20_Total.l0 k1 a1 (wrap64 (x5_1 + t212)) (wrap64 (x6_1 + 1)) a0_0 a0_1 l0_2) = some r := H
          have A6 := Aside0.mk A60
          clear A60
          have H' := Aside0.mk H
          clear H
          have hcz7_0 : wr.cell? ⟨gb210, 0, none⟩ = some (.string a0_0) := (blk_cell BK210.out 0).trans rfl
          have hcz7_1 : wr.cell? ⟨gb210, 1, none⟩ = some (.string a0_1) := (blk_cell BK210.out 1).trans rfl
          have hcz7_2 : wr.cell? ⟨gb210, 2, none⟩ = some (.slice A0_2 l0_2.length c0_2) := (blk_cell BK210.out 2).trans rfl
          have hfz7_0 := blk_frozen BK210.out 0
          have hfz7_1 := blk_frozen BK210.out 1
          have hfz7_2 := blk_frozen BK210.out 2
          have p211 : 0 ≤ (x6_1 : Int) := of_decide_eq_true (by first | (with_reducible assumption) | assumption)
          have q211 : x6_1 < (l0_2.length : Int) := of_decide_eq_true (by first | (with_reducible assumption) | assumption)
          obtain ⟨ad211, A211_1, c211_1, e211, hx211_0, hx211_1, hl211_1, hi211_1⟩ := at_T53 HR0_2.out x6_1 p211 q211
          cases e211
          replace hx211_0 := (HB.out.cell (World.block_lt_of_cell? w _ hx211_0)).trans hx211_0
          replace hx211_1 := (HB.out.cell (World.block_lt_of_cell? w _ hx211_1)).trans hx211_1
          have HR211_1 := Aside0.mk hi211_1
          have HC211_1 := Aside0.mk hl211_1
          clear hi211_1 hl211_1
          replace p211 := eq_true p211
          replace q211 := eq_true q211
          go_wp2_with (first | ((with_reducible refine gate_callee (f := 23) rfl ?_); refine goesL_ (some 22) rfl rfl Tryd.func23 (by kernel_rfl) rfl #[.slice A211_1 ((rd_T53 l0_2 x6_1).f1).length c211_1, .int .i64 a1] rfl (by (try simp only [List.map_toArray, List.map_cons, List.map_nil]); first | done | rfl | (simp only [List.length_drop, List.length_take]; rfl)) ?_; (with_reducible refine (colloquyref18_Count.calls k1 _ _ ((rd_T53 l0_2 x6_1).f1) a1 t212 _ ?side1 ?side2 A6.out).mono ?_); (case side1 => repeat (first | exact (Kd.C_below HR211_1.out HB.out) | (with_reducible refine Kd.C_alloc ?_ _) | (with_reducible refine Kd.C_drewN ?_ _) | (with_reducible refine Kd.C_drew ?_))); (case side2 => exact HC211_1.out); rintro e w' ⟨rfl, ⟨nd, rfl⟩⟩; refine ⟨_, rfl, ?_⟩))
          go_roundg k1
          case measure => have := HK1.out; omega
          case rel => exact ⟨(wrap64 (x5_1 + t212)), (wrap64 (x6_1 + 1)), (by first | rfl | (simp; done) | (simp [*]; done)), (by first | rfl | (simp; done) | (simp [*]; done)), H', ⟨by have := HK1.out; omega⟩, ⟨by (with_reducible repeat (first | refine blk_drewN ?_ _ | refine blk_drew ?_ | refine blk_alloc ?_ _)); exact BK210.out⟩, ⟨by repeat (first | (with_reducible first | exact HB.out | apply below_alloc | apply pw_below_drewN | apply below_drew1 | refine below_set ?_ GE210.out) | exact HB.out)⟩⟩
        · rw [if_neg c5] at H
          exact absurd H (by simp)
      · rw [if_neg c4] at H
        have c4b0 : decide (x6_1 < (l0_2.length : Int)) = false := decide_eq_false c4
        clear c4
        obtain rfl := Option.some.inj H
        have hcz8_0 : wr.cell? ⟨gb210, 0, none⟩ = some (.string a0_0) := (blk_cell BK210.out 0).trans rfl
        have hcz8_1 : wr.cell? ⟨gb210, 1, none⟩ = some (.string a0_1) := (blk_cell BK210.out 1).trans rfl
        have hcz8_2 : wr.cell? ⟨gb210, 2, none⟩ = some (.slice A0_2 l0_2.length c0_2) := (blk_cell BK210.out 2).trans rfl
        have hfz8_0 := blk_frozen BK210.out 0
        have hfz8_1 := blk_frozen BK210.out 1
        have hfz8_2 := blk_frozen BK210.out 2
        go_wp2
        go_ret
        exact ⟨by first | rfl | (simp [errW_none, errW_some] <;> rfl) | (simp [*, errW_none, errW_some] <;> rfl), by repeat (first | (with_reducible first | exact HB.out | apply below_alloc | apply pw_below_drewN | apply below_drew1 | refine below_set ?_ GE210.out) | exact HB.out)⟩
end
section
attribute [local go_sem] max2_int min2_int max_two min_two max_three min_three max_four min_four   -- for this text's walks alone
def colloquyref18_Text.f (a0 : Int) : Option (ByteArray) := if a0 = 1 then (some (⟨#[80, 65, 83, 83]⟩ : ByteArray)) else (if a0 = 2 then (some (⟨#[70, 65, 73, 76]⟩ : ByteArray)) else (if a0 = 3 then (some (⟨#[88, 80, 65, 83, 83]⟩ : ByteArray)) else (if a0 = 4 then (some (⟨#[88, 70, 65, 73, 76]⟩ : ByteArray)) else (if a0 = 5 then (some (⟨#[85, 78, 82, 69, 83, 79, 76, 86, 69, 68]⟩ : ByteArray)) else (if a0 = 6 then (some (⟨#[85, 78, 84, 69, 83, 84, 69, 68]⟩ : ByteArray)) else (if a0 = 7 then (some (⟨#[85, 78, 83, 85, 80, 80, 79, 82, 84, 69, 68]⟩ : ByteArray)) else (some (⟨#[]⟩ : ByteArray))))))))
theorem colloquyref18_Text.calls (a0 : Int) (r : ByteArray) (w : World) (h : colloquyref18_Text.f a0 = some r) :
    Calls Tryd.prog 45 #[.int .i64 a0] w fun e w' => e = .returned (.string r) ∧ Drawn0 w w' := by
  have H : (if a0 = 1 then (some (⟨#[80, 65, 83, 83]⟩ : ByteArray)) else (if a0 = 2 then (some (⟨#[70, 65, 73, 76]⟩ : ByteArray)) else (if a0 = 3 then (some (⟨#[88, 80, 65, 83, 83]⟩ : ByteArray)) else (if a0 = 4 then (some (⟨#[88, 70, 65, 73, 76]⟩ : ByteArray)) else (if a0 = 5 then (some (⟨#[85, 78, 82, 69, 83, 79, 76, 86, 69, 68]⟩ : ByteArray)) else (if a0 = 6 then (some (⟨#[85, 78, 84, 69, 83, 84, 69, 68]⟩ : ByteArray)) else (if a0 = 7 then (some (⟨#[85, 78, 83, 85, 80, 80, 79, 82, 84, 69, 68]⟩ : ByteArray)) else (some (⟨#[]⟩ : ByteArray))))))))) = some r := h
  clear h
  by_cases c2 : a0 = 1
  · rw [if_pos c2] at H
    have c2b0 : (a0 == 1) = true := beq_iff_eq.mpr c2
    have c2b1 : (a0 != 1) = false := bne_eq_false_iff_eq.mpr c2
    clear c2
    obtain rfl := Option.some.inj H
    go_enter Tryd.func45, Tryd.ntmps45
    go_wp2
    go_ret
    exact ⟨by first | rfl | (simp; done) | (simp [*]; done), by repeat (first | exact Drawn0.refl _ | apply Drawn0.step)⟩
  · rw [if_neg c2] at H
    have c2b0 : (a0 == 1) = false := beq_eq_false_iff_ne.mpr c2
    have c2b1 : (a0 != 1) = true := bne_iff_ne.mpr c2
    by_cases c3 : a0 = 2
    · rw [if_pos c3] at H
      have c3b0 : (a0 == 2) = true := beq_iff_eq.mpr c3
      have c3b1 : (a0 != 2) = false := bne_eq_false_iff_eq.mpr c3
      clear c3
      obtain rfl := Option.some.inj H
      go_enter Tryd.func45, Tryd.ntmps45
      go_wp2
      go_ret
      exact ⟨by first | rfl | (simp; done) | (simp [*]; done), by repeat (first | exact Drawn0.refl _ | apply Drawn0.step)⟩
    · rw [if_neg c3] at H
      have c3b0 : (a0 == 2) = false := beq_eq_false_iff_ne.mpr c3
      have c3b1 : (a0 != 2) = true := bne_iff_ne.mpr c3
      by_cases c4 : a0 = 3
      · rw [if_pos c4] at H
        have c4b0 : (a0 == 3) = true := beq_iff_eq.mpr c4
        have c4b1 : (a0 != 3) = false := bne_eq_false_iff_eq.mpr c4
        clear c4
        obtain rfl := Option.some.inj H
        go_enter Tryd.func45, Tryd.ntmps45
        go_wp2
        go_ret
        exact ⟨by first | rfl | (simp; done) | (simp [*]; done), by repeat (first | exact Drawn0.refl _ | apply Drawn0.step)⟩
      · rw [if_neg c4] at H
        have c4b0 : (a0 == 3) = false := beq_eq_false_iff_ne.mpr c4
        have c4b1 : (a0 != 3) = true := bne_iff_ne.mpr c4
        by_cases c5 : a0 = 4
        · rw [if_pos c5] at H
          have c5b0 : (a0 == 4) = true := beq_iff_eq.mpr c5
          have c5b1 : (a0 != 4) = false := bne_eq_false_iff_eq.mpr c5
          clear c5
          obtain rfl := Option.some.inj H
          go_enter Tryd.func45, Tryd.ntmps45
          go_wp2
          go_ret
          exact ⟨by first | rfl | (simp; done) | (simp [*]; done), by repeat (first | exact Drawn0.refl _ | apply Drawn0.step)⟩
        · rw [if_neg c5] at H
          have c5b0 : (a0 == 4) = false := beq_eq_false_iff_ne.mpr c5
          have c5b1 : (a0 != 4) = true := bne_iff_ne.mpr c5
          by_cases c6 : a0 = 5
          · rw [if_pos c6] at H
            have c6b0 : (a0 == 5) = true := beq_iff_eq.mpr c6
            have c6b1 : (a0 != 5) = false := bne_eq_false_iff_eq.mpr c6
            clear c6
            obtain rfl := Option.some.inj H
            go_enter Tryd.func45, Tryd.ntmps45
            go_wp2
            go_ret
            exact ⟨by first | rfl | (simp; done) | (simp [*]; done), by repeat (first | exact Drawn0.refl _ | apply Drawn0.step)⟩
          · rw [if_neg c6] at H
            have c6b0 : (a0 == 5) = false := beq_eq_false_iff_ne.mpr c6
            have c6b1 : (a0 != 5) = true := bne_iff_ne.mpr c6
            by_cases c7 : a0 = 6
            · rw [if_pos c7] at H
              have c7b0 : (a0 == 6) = true := beq_iff_eq.mpr c7
              have c7b1 : (a0 != 6) = false := bne_eq_false_iff_eq.mpr c7
              clear c7
              obtain rfl := Option.some.inj H
              go_enter Tryd.func45, Tryd.ntmps45
              go_wp2
              go_ret
              exact ⟨by first | rfl | (simp; done) | (simp [*]; done), by repeat (first | exact Drawn0.refl _ | apply Drawn0.step)⟩
            · rw [if_neg c7] at H
              have c7b0 : (a0 == 6) = false := beq_eq_false_iff_ne.mpr c7
              have c7b1 : (a0 != 6) = true := bne_iff_ne.mpr c7
              by_cases c8 : a0 = 7
              · rw [if_pos c8] at H
                have c8b0 : (a0 == 7) = true := beq_iff_eq.mpr c8
                have c8b1 : (a0 != 7) = false := bne_eq_false_iff_eq.mpr c8
                clear c8
                obtain rfl := Option.some.inj H
                go_enter Tryd.func45, Tryd.ntmps45
                go_wp2
                go_ret
                exact ⟨by first | rfl | (simp; done) | (simp [*]; done), by repeat (first | exact Drawn0.refl _ | apply Drawn0.step)⟩
              · rw [if_neg c8] at H
                have c8b0 : (a0 == 7) = false := beq_eq_false_iff_ne.mpr c8
                have c8b1 : (a0 != 7) = true := bne_iff_ne.mpr c8
                obtain rfl := Option.some.inj H
                go_enter Tryd.func45, Tryd.ntmps45
                go_wp2
                go_ret
                exact ⟨by first | rfl | (simp; done) | (simp [*]; done), by repeat (first | exact Drawn0.refl _ | apply Drawn0.step)⟩
end
section
attribute [local go_sem] max2_int min2_int max_two min_two max_three min_three max_four min_four   -- for this text's walks alone
def colloquyref01_Decimal.l0 : Nat → Int → ByteArray → Option (ByteArray)
  | 0, _, _ => none
  | k + 1, x0, x3 => if x3.toList = ([] : List UInt8) then ((some (([(wrap64 (48 + (Int.tmod x0 10))) % 256] : List Int) : List Int)).bind fun y238 => (if (strOfNums y238).size + x3.size ≤ 9223372036854775807 then (colloquyref01_Decimal.l0 k (wrap64 (Int.tdiv x0 10)) ((strOfNums y238) ++ x3)) else (none))) else (if x0 > 0 then ((some (([(wrap64 (48 + (Int.tmod x0 10))) % 256] : List Int) : List Int)).bind fun y241 => (if (strOfNums y241).size + x3.size ≤ 9223372036854775807 then (colloquyref01_Decimal.l0 k (wrap64 (Int.tdiv x0 10)) ((strOfNums y241) ++ x3)) else (none))) else (some x3))
def colloquyref01_Decimal.f (k : Nat) (a0 : Int) : Option (ByteArray) := colloquyref01_Decimal.l0 k a0 (⟨#[]⟩ : ByteArray)
theorem colloquyref01_Decimal.mono_l : ∀ k, (∀ y0 y1, LeO (colloquyref01_Decimal.l0 k y0 y1) (colloquyref01_Decimal.l0 (k + 1) y0 y1))
  | 0 => fun _ _ r h => by simp [colloquyref01_Decimal.l0] at h
  | k + 1 => by
    have ih0 := colloquyref01_Decimal.mono_l k
    · intro y0 y1
      unfold colloquyref01_Decimal.l0
      repeat' first
      | (with_reducible exact ih0 _ _)
      | (with_reducible exact LeO.refl _)
      | (with_reducible exact LeO.none _)
      | (with_reducible refine LeO.ite ?_ ?_)
      | (with_reducible refine LeO.bind ?_ (fun _ => ?_))
      | exact ih0 _ _
      | exact LeO.none _
      | refine LeO.ite ?_ ?_
      | refine LeO.bind ?_ (fun _ => ?_)
theorem colloquyref01_Decimal.mono : ∀ a0 k, LeO (colloquyref01_Decimal.f k a0) (colloquyref01_Decimal.f (k + 1) a0) := by
  intro a0 k
  have ih0 := colloquyref01_Decimal.mono_l k
  unfold colloquyref01_Decimal.f
  repeat' first
      | (with_reducible exact ih0 _ _)
      | (with_reducible exact LeO.refl _)
      | (with_reducible exact LeO.none _)
      | (with_reducible refine LeO.ite ?_ ?_)
      | (with_reducible refine LeO.bind ?_ (fun _ => ?_))
      | exact ih0 _ _
      | exact LeO.none _
      | refine LeO.ite ?_ ?_
      | refine LeO.bind ?_ (fun _ => ?_)
theorem colloquyref01_Decimal.calls (k : Nat) (a0 : Int) (r : ByteArray) (w : World) (h : colloquyref01_Decimal.f k a0 = some r) :
    Calls Tryd.prog 46 #[.int .i64 a0] w fun e w' => e = .returned (.string r) ∧ Below w.heap.size w w' := by
  have HB := Aside0.mk (Below.refl w.heap.size w)
  have H : (colloquyref01_Decimal.l0 k a0 (⟨#[]⟩ : ByteArray)) = some r := h
  clear h
  have H' := Aside0.mk H
  clear H
  go_enter Tryd.func46, Tryd.ntmps46
  go_wp2
  go_loopg [0, 3] k (fun kq v0 v3 w' => ∃ (x0_1 : Int) (x3_1 : ByteArray), v0 = .int .i64 x0_1 ∧ v3 = .string x3_1 ∧ Aside0 (colloquyref01_Decimal.l0 kq x0_1 x3_1 = some r) ∧ Aside0 (kq ≤ k) ∧ Aside0 (Below w.heap.size w w'))
  case atStart => exact ⟨(a0), ((⟨#[]⟩ : ByteArray)), (by first | rfl | (simp; done) | (simp [*]; done)), (by first | rfl | (simp; done) | (simp [*]; done)), H', ⟨Nat.le_refl _⟩, ⟨by repeat (first | (with_reducible first | exact HB.out | apply below_alloc | apply pw_below_drewN | apply below_drew1) | exact HB.out)⟩⟩
  case round =>
    clear H'
    obtain ⟨x0_1, x3_1, rfl, rfl, HA, HK1, HB⟩ := hrel
    cases gk with
    | zero => exact absurd HA.out (by simp [colloquyref01_Decimal.l0])
    | succ k1 =>
      have H := HA.out
      clear HA
      simp only [colloquyref01_Decimal.l0] at H
      by_cases c2 : x3_1.toList = ([] : List UInt8)
      · rw [if_pos c2] at H
        have c2b0 : (x3_1.toList == ([] : List UInt8)) = true := beq_iff_eq.mpr c2
        have c2b1 : (x3_1.toList != ([] : List UInt8)) = false := bne_eq_false_iff_eq.mpr c2
        clear c2
        obtain ⟨y238, hy238⟩ : ∃ y_ : List Int, y_ = (([(wrap64 (48 + (Int.tmod x0_1 10))) % 256] : List Int)) := ⟨_, rfl⟩
        replace H : (if (strOfNums y238).size + x3_1.size ≤ 9223372036854775807 then (colloquyref01_Decimal.l0 k1 (wrap64 (Int.tdiv x0_1 10)) ((strOfNums y238) ++ x3_1)) else (none)) = some r := by first | (rw [hy238]; with_reducible exact H) | (have H2_ := (Option.bind_some _ _).symm.trans H; rw [hy238]; with_reducible exact H2_) | (have H2_ := (Option.bind_some _ _).symm.trans H; with_reducible exact H2_) | with_reducible exact H | (rw [hy238]; exact H) | exact H
        have Ny238 := Aside0.mk hy238
        clear hy238
        by_cases c3 : (strOfNums y238).size + x3_1.size ≤ 9223372036854775807
        · rw [if_pos c3] at H
          have c3b0 := eq_true c3
          have c3b1 : decide ((strOfNums y238).size + x3_1.size ≤ 9223372036854775807) = true := decide_eq_true c3
          try have c3b2 : (9223372036854775807 < (strOfNums y238).size + x3_1.size) = False := eq_false (Nat.not_lt.2 c3)
          try (have c3b3 := c3; simp only [ByteArray.size_append] at c3b3; replace c3b3 := eq_false (Nat.not_lt.2 c3b3))
          have H' := Aside0.mk H
          clear H
          go_wp2_with (first | ((with_reducible refine gate_dst (N := 14) rfl ?_); refine Kd.R_lit (Kd.int .u8) _ 5 ?hg (N := 14) ?hd (xs := ([(wrap64 (48 + (Int.tmod x0_1 10))) % 256] : List Int)) (inner := [.int .u8 ((wrap64 (48 + (Int.tmod x0_1 10))) % 256)]) (ok := fun _ => True) (okp := fun _ => True) ?hr ?hp (fun _ hk => hk) trivial (Below.refl _ _) (Nat.le_refl _) (by simp) ?_; (case hd => rfl); (case hg => rfl); (case hr => first | (go_simp; done) | (go_simp; rfl)); (case hp => exact (Reps.one (show Kd.M (Kd.int .u8) _ _ _ ((wrap64 (48 + (Int.tmod x0_1 10))) % 256) [.int .u8 ((wrap64 (48 + (Int.tmod x0_1 10))) % 256)] from rfl) (Reps.none _ _))); intro v239 w4 ho5 hb hg_ hnew_; clear hg_ hnew_; (first | rw [← Ny238.out] at ho5 | (simp only [Int.reduceToNat] at ho5; rw [← Ny238.out] at ho5)); have n0_ := Aside0.mk (Kd.R_lower ho5 (below_size (by repeat (first | (with_reducible first | exact HB.out | apply below_alloc | apply pw_below_drewN | apply below_drew1) | exact HB.out)))); have n1_ := Aside0.mk (below_step (by repeat (first | (with_reducible first | exact HB.out | apply below_alloc | apply pw_below_drewN | apply below_drew1) | exact HB.out)) hb); clear HB; have HO240 := n0_; have HB := n1_; clear n0_ n1_; clear hb ho5; have hcv6 := own_string (P := Tryd.prog) Tryd.underlying74 Tryd.underlying5 Tryd.underlying9 (Kd.own_of_R HO240.out); have hcv7 := fun (nq : Nat) => own_string (P := Tryd.prog) Tryd.underlying74 Tryd.underlying5 Tryd.underlying9 (Kd.own_of_R (Kd.R_drewN HO240.out nq))))
          go_roundg k1
          case measure => have := HK1.out; omega
          case rel => exact ⟨(wrap64 (Int.tdiv x0_1 10)), ((strOfNums y238) ++ x3_1), (by first | rfl | (simp; done) | (simp [*]; done)), (by first | rfl | (simp; done) | (simp [*]; done)), H', ⟨by have := HK1.out; omega⟩, ⟨by repeat (first | (with_reducible first | exact HB.out | apply below_alloc | apply pw_below_drewN | apply below_drew1) | exact HB.out)⟩⟩
        · rw [if_neg c3] at H
          exact absurd H (by simp)
      · rw [if_neg c2] at H
        have c2b0 : (x3_1.toList == ([] : List UInt8)) = false := beq_eq_false_iff_ne.mpr c2
        have c2b1 : (x3_1.toList != ([] : List UInt8)) = true := bne_iff_ne.mpr c2
        by_cases c8 : x0_1 > 0
        · rw [if_pos c8] at H
          have c8b0 : decide (0 < x0_1) = true := decide_eq_true c8
          clear c8
          obtain ⟨y241, hy241⟩ : ∃ y_ : List Int, y_ = (([(wrap64 (48 + (Int.tmod x0_1 10))) % 256] : List Int)) := ⟨_, rfl⟩
          replace H : (if (strOfNums y241).size + x3_1.size ≤ 9223372036854775807 then (colloquyref01_Decimal.l0 k1 (wrap64 (Int.tdiv x0_1 10)) ((strOfNums y241) ++ x3_1)) else (none)) = some r := by first | (rw [hy241]; with_reducible exact H) | (have H2_ := (Option.bind_some _ _).symm.trans H; rw [hy241]; with_reducible exact H2_) | (have H2_ := (Option.bind_some _ _).symm.trans H; with_reducible exact H2_) | with_reducible exact H | (rw [hy241]; exact H) | exact H
          have Ny241 := Aside0.mk hy241
          clear hy241
          by_cases c9 : (strOfNums y241).size + x3_1.size ≤ 9223372036854775807
          · rw [if_pos c9] at H
            have c9b0 := eq_true c9
            have c9b1 : decide ((strOfNums y241).size + x3_1.size ≤ 9223372036854775807) = true := decide_eq_true c9
            try have c9b2 : (9223372036854775807 < (strOfNums y241).size + x3_1.size) = False := eq_false (Nat.not_lt.2 c9)
            try (have c9b3 := c9; simp only [ByteArray.size_append] at c9b3; replace c9b3 := eq_false (Nat.not_lt.2 c9b3))
            have H' := Aside0.mk H
            clear H
            go_wp2_with (first | ((with_reducible refine gate_dst (N := 14) rfl ?_); refine Kd.R_lit (Kd.int .u8) _ 5 ?hg (N := 14) ?hd (xs := ([(wrap64 (48 + (Int.tmod x0_1 10))) % 256] : List Int)) (inner := [.int .u8 ((wrap64 (48 + (Int.tmod x0_1 10))) % 256)]) (ok := fun _ => True) (okp := fun _ => True) ?hr ?hp (fun _ hk => hk) trivial (Below.refl _ _) (Nat.le_refl _) (by simp) ?_; (case hd => rfl); (case hg => rfl); (case hr => first | (go_simp; done) | (go_simp; rfl)); (case hp => exact (Reps.one (show Kd.M (Kd.int .u8) _ _ _ ((wrap64 (48 + (Int.tmod x0_1 10))) % 256) [.int .u8 ((wrap64 (48 + (Int.tmod x0_1 10))) % 256)] from rfl) (Reps.none _ _))); intro v242 w10 ho11 hb hg_ hnew_; clear hg_ hnew_; (first | rw [← Ny241.out] at ho11 | (simp only [Int.reduceToNat] at ho11; rw [← Ny241.out] at ho11)); have n0_ := Aside0.mk (Kd.R_lower ho11 (below_size (by repeat (first | (with_reducible first | exact HB.out | apply below_alloc | apply pw_below_drewN | apply below_drew1) | exact HB.out)))); have n1_ := Aside0.mk (below_step (by repeat (first | (with_reducible first | exact HB.out | apply below_alloc | apply pw_below_drewN | apply below_drew1) | exact HB.out)) hb); clear HB; have HO243 := n0_; have HB := n1_; clear n0_ n1_; clear hb ho11; have hcv12 := own_string (P := Tryd.prog) Tryd.underlying74 Tryd.underlying5 Tryd.underlying9 (Kd.own_of_R HO243.out); have hcv13 := fun (nq : Nat) => own_string (P := Tryd.prog) Tryd.underlying74 Tryd.underlying5 Tryd.underlying9 (Kd.own_of_R (Kd.R_drewN HO243.out nq))))
            go_roundg k1
            case measure => have := HK1.out; omega
            case rel => exact ⟨(wrap64 (Int.tdiv x0_1 10)), ((strOfNums y241) ++ x3_1), (by first | rfl | (simp; done) | (simp [*]; done)), (by first | rfl | (simp; done) | (simp [*]; done)), H', ⟨by have := HK1.out; omega⟩, ⟨by repeat (first | (with_reducible first | exact HB.out | apply below_alloc | apply pw_below_drewN | apply below_drew1) | exact HB.out)⟩⟩
          · rw [if_neg c9] at H
            exact absurd H (by simp)
        · rw [if_neg c8] at H
          have c8b0 : decide (0 < x0_1) = false := decide_eq_false c8
          clear c8
          obtain rfl := Option.some.inj H
          go_wp2
          go_ret
          exact ⟨by first | rfl | (simp [errW_none, errW_some] <;> rfl) | (simp [*, errW_none, errW_some] <;> rfl), by repeat (first | (with_reducible first | exact HB.out | apply below_alloc | apply pw_below_drewN | apply below_drew1) | exact HB.out)⟩
end
section
attribute [local go_sem] max2_int min2_int max_two min_two max_three min_three max_four min_four   -- for this text's walks alone
mutual
def colloquyref20_Lines.l0 : Nat → List ByteArray → Int → ByteArray → ByteArray → List (S53) → Option (List ByteArray)
  | 0, _, _, _, _, _ => none
  | k + 1, x3, x4, x245000, x245001, x245002 => if x4 < (x245002.length : Int) then (if 0 ≤ x4 then ((colloquyref02_Write.f k ((rd_T53 x245002 x4).f0)).bind fun t251 => (if 6 + t251.size ≤ 9223372036854775807 then (if x3.length < 8796093022208 then (colloquyref20_Lines.l1 k (x3 ++ [(⟨#[103, 114, 111, 117, 112, 32]⟩ : ByteArray) ++ t251]) x4 0 x245000 x245001 x245002) else (none)) else (none))) else (none)) else (colloquyref20_Lines.l2 k x3 1 x245000 x245001 x245002)
def colloquyref20_Lines.l1 : Nat → List ByteArray → Int → Int → ByteArray → ByteArray → List (S53) → Option (List ByteArray)
  | 0, _, _, _, _, _, _ => none
  | k + 1, x3, x4, x5, x245000, x245001, x245002 => if 0 ≤ x4 then (if x4 < (x245002.length : Int) then (if x5 < (((rd_T53 x245002 x4).f1).length : Int) then (if 0 ≤ x5 then ((colloquyref18_Text.f ((rd_T49 ((rd_T53 x245002 x4).f1) x5).f1)).bind fun t259 => (if t259.size + 2 ≤ 9223372036854775807 then ((colloquyref02_Write.f k ((rd_T49 ((rd_T53 x245002 x4).f1) x5).f0)).bind fun t260 => (if (t259 ++ (⟨#[58, 32]⟩ : ByteArray)).size + t260.size ≤ 9223372036854775807 then (if x3.length < 8796093022208 then (colloquyref20_Lines.l1 k (x3 ++ [(t259 ++ (⟨#[58, 32]⟩ : ByteArray)) ++ t260]) x4 (wrap64 (x5 + 1)) x245000 x245001 x245002) else (none)) else (none))) else (none))) else (none)) else (colloquyref20_Lines.l0 k x3 (wrap64 (x4 + 1)) x245000 x245001 x245002)) else (none)) else (none)
def colloquyref20_Lines.l2 : Nat → List ByteArray → Int → ByteArray → ByteArray → List (S53) → Option (List ByteArray)
  | 0, _, _, _, _, _ => none
  | k + 1, x3, x7, x245000, x245001, x245002 => if x7 ≤ 7 then ((colloquyref20_Total.f k x245000 x245001 x245002 x7).bind fun t267 => (if t267 > 0 then ((colloquyref18_Text.f x7).bind fun t268 => (if 2 + t268.size ≤ 9223372036854775807 then (if ((⟨#[35, 32]⟩ : ByteArray) ++ t268).size + 1 ≤ 9223372036854775807 then ((colloquyref20_Total.f k x245000 x245001 x245002 x7).bind fun t269 => ((colloquyref01_Decimal.f k t269).bind fun t270 => (if (((⟨#[35, 32]⟩ : ByteArray) ++ t268) ++ (⟨#[32]⟩ : ByteArray)).size + t270.size ≤ 9223372036854775807 then (if x3.length < 8796093022208 then (colloquyref20_Lines.l2 k (x3 ++ [(((⟨#[35, 32]⟩ : ByteArray) ++ t268) ++ (⟨#[32]⟩ : ByteArray)) ++ t270]) (wrap64 (x7 + 1)) x245000 x245001 x245002) else (none)) else (none)))) else (none)) else (none))) else (colloquyref20_Lines.l2 k x3 (wrap64 (x7 + 1)) x245000 x245001 x245002))) else (if x3.length < 8796093022208 then (some (x3 ++ [(⟨#[35, 32, 101, 110, 100]⟩ : ByteArray)])) else (none))
end
def colloquyref20_Lines.f (k : Nat) (a0_0 : ByteArray) (a0_1 : ByteArray) (l0_2 : List (S53)) : Option (List ByteArray) := (colloquyref02_Write.f k a0_0).bind fun t245 => (if 12 + t245.size ≤ 9223372036854775807 then ((colloquyref02_Write.f k a0_1).bind fun t246 => (if 6 + t246.size ≤ 9223372036854775807 then (colloquyref20_Lines.l0 k (([(⟨#[84, 101, 115, 116, 32, 114, 117, 110, 32, 111, 102, 32]⟩ : ByteArray) ++ t245, (⟨#[66, 111, 97, 114, 100, 32]⟩ : ByteArray) ++ t246] : List ByteArray)) 0 a0_0 a0_1 l0_2) else (none))) else (none))
theorem colloquyref20_Lines.mono_l : ∀ k, (∀ y0 y1 y2 y3 y4, LeO (colloquyref20_Lines.l0 k y0 y1 y2 y3 y4) (colloquyref20_Lines.l0 (k + 1) y0 y1 y2 y3 y4)) ∧ (∀ y0 y1 y2 y3 y4 y5, LeO (colloquyref20_Lines.l1 k y0 y1 y2 y3 y4 y5) (colloquyref20_Lines.l1 (k + 1) y0 y1 y2 y3 y4 y5)) ∧ (∀ y0 y1 y2 y3 y4, LeO (colloquyref20_Lines.l2 k y0 y1 y2 y3 y4) (colloquyref20_Lines.l2 (k + 1) y0 y1 y2 y3 y4))
  | 0 => ⟨fun _ _ _ _ _ r h => by simp [colloquyref20_Lines.l0] at h, fun _ _ _ _ _ _ r h => by simp [colloquyref20_Lines.l1] at h, fun _ _ _ _ _ r h => by simp [colloquyref20_Lines.l2] at h⟩
  | k + 1 => by
    obtain ⟨ih0, ih1, ih2⟩ := colloquyref20_Lines.mono_l k
    refine ⟨?_, ?_, ?_⟩
    · intro y0 y1 y2 y3 y4
      unfold colloquyref20_Lines.l0
      repeat' first
      | (with_reducible exact ih0 _ _ _ _ _)
      | (with_reducible exact ih1 _ _ _ _ _ _)
      | (with_reducible exact ih2 _ _ _ _ _)
      | (with_reducible exact colloquyref01_Decimal.mono _ _)
      | (with_reducible exact colloquyref02_Write.mono _ _)
      | (with_reducible exact colloquyref20_Total.mono _ _ _ _ _)
      | (with_reducible exact LeO.refl _)
      | (with_reducible exact LeO.none _)
      | (with_reducible refine LeO.ite ?_ ?_)
      | (with_reducible refine LeO.bind ?_ (fun _ => ?_))
      | exact ih0 _ _ _ _ _
      | exact ih1 _ _ _ _ _ _
      | exact ih2 _ _ _ _ _
      | exact colloquyref01_Decimal.mono _ _
      | exact colloquyref02_Write.mono _ _
      | exact colloquyref20_Total.mono _ _ _ _ _
      | exact LeO.none _
      | refine LeO.ite ?_ ?_
      | refine LeO.bind ?_ (fun _ => ?_)
    · intro y0 y1 y2 y3 y4 y5
      unfold colloquyref20_Lines.l1
      repeat' first
      | (with_reducible exact ih0 _ _ _ _ _)
      | (with_reducible exact ih1 _ _ _ _ _ _)
      | (with_reducible exact ih2 _ _ _ _ _)
      | (with_reducible exact colloquyref01_Decimal.mono _ _)
      | (with_reducible exact colloquyref02_Write.mono _ _)
      | (with_reducible exact colloquyref20_Total.mono _ _ _ _ _)
      | (with_reducible exact LeO.refl _)
      | (with_reducible exact LeO.none _)
      | (with_reducible refine LeO.ite ?_ ?_)
      | (with_reducible refine LeO.bind ?_ (fun _ => ?_))
      | exact ih0 _ _ _ _ _
      | exact ih1 _ _ _ _ _ _
      | exact ih2 _ _ _ _ _
      | exact colloquyref01_Decimal.mono _ _
      | exact colloquyref02_Write.mono _ _
      | exact colloquyref20_Total.mono _ _ _ _ _
      | exact LeO.none _
      | refine LeO.ite ?_ ?_
      | refine LeO.bind ?_ (fun _ => ?_)
    · intro y0 y1 y2 y3 y4
      unfold colloquyref20_Lines.l2
      repeat' first
      | (with_reducible exact ih0 _ _ _ _ _)
      | (with_reducible exact ih1 _ _ _ _ _ _)
      | (with_reducible exact ih2 _ _ _ _ _)
      | (with_reducible exact colloquyref01_Decimal.mono _ _)
      | (with_reducible exact colloquyref02_Write.mono _ _)
      | (with_reducible exact colloquyref20_Total.mono _ _ _ _ _)
      | (with_reducible exact LeO.refl _)
      | (with_reducible exact LeO.none _)
      | (with_reducible refine LeO.ite ?_ ?_)
      | (with_reducible refine LeO.bind ?_ (fun _ => ?_))
      | exact ih0 _ _ _ _ _
      | exact ih1 _ _ _ _ _ _
      | exact ih2 _ _ _ _ _
      | exact colloquyref01_Decimal.mono _ _
      | exact colloquyref02_Write.mono _ _
      | exact colloquyref20_Total.mono _ _ _ _ _
      | exact LeO.none _
      | refine LeO.ite ?_ ?_
      | refine LeO.bind ?_ (fun _ => ?_)
theorem colloquyref20_Lines.mono : ∀ a0 a1 a2 k, LeO (colloquyref20_Lines.f k a0 a1 a2) (colloquyref20_Lines.f (k + 1) a0 a1 a2) := by
  intro a0 a1 a2 k
  obtain ⟨ih0, ih1, ih2⟩ := colloquyref20_Lines.mono_l k
  unfold colloquyref20_Lines.f
  repeat' first
      | (with_reducible exact ih0 _ _ _ _ _)
      | (with_reducible exact ih1 _ _ _ _ _ _)
      | (with_reducible exact ih2 _ _ _ _ _)
      | (with_reducible exact colloquyref01_Decimal.mono _ _)
      | (with_reducible exact colloquyref02_Write.mono _ _)
      | (with_reducible exact colloquyref20_Total.mono _ _ _ _ _)
      | (with_reducible exact LeO.refl _)
      | (with_reducible exact LeO.none _)
      | (with_reducible refine LeO.ite ?_ ?_)
      | (with_reducible refine LeO.bind ?_ (fun _ => ?_))
      | exact ih0 _ _ _ _ _
      | exact ih1 _ _ _ _ _ _
      | exact ih2 _ _ _ _ _
      | exact colloquyref01_Decimal.mono _ _
      | exact colloquyref02_Write.mono _ _
      | exact colloquyref20_Total.mono _ _ _ _ _
      | exact LeO.none _
      | refine LeO.ite ?_ ?_
      | refine LeO.bind ?_ (fun _ => ?_)
def colloquyref20_Lines.T1 : Bool × List (List Nat × List Nat) := (true, [([], []), ([0], [0]), ([1], [1]), ([2], [2]), ([], []), ([4], [4]), ([5, 2], [5]), ([6], [6]), ([3, 7], [3, 7]), ([8, 6, 0, 1, 2, 3, 4, 5, 6, 7, 8], [8])])
def colloquyref20_Lines.B1 : List Nat := [0, 1, 3, 7, 0, 16, 55, 119, 255, 511]
theorem colloquyref20_Lines.tab1 : rtab .any (opsOf Tryd.f29 1) = colloquyref20_Lines.T1 := by kernel_rfl
theorem colloquyref20_Lines.bits1 : waitsOk colloquyref20_Lines.T1.2 colloquyref20_Lines.B1 = true := by kernel_rfl
def colloquyref20_Lines.T10 : Bool × List (List Nat × List Nat) := (true, [([], []), ([], []), ([1], [1]), ([2], [2]), ([3], [3]), ([], []), ([5], [5]), ([6, 3], [6]), ([4, 7], [4, 7]), ([8], [8]), ([0, 9, 7], [0, 9]), ([10, 10, 0, 1, 2, 3, 4, 5, 6, 7, 8, 9, 10], [0, 10])])
def colloquyref20_Lines.B10 : List Nat := [0, 0, 2, 6, 14, 0, 32, 110, 254, 510, 1023, 2047]
theorem colloquyref20_Lines.tab10 : rtab .any (opsOf Tryd.f29 10) = colloquyref20_Lines.T10 := by kernel_rfl
theorem colloquyref20_Lines.bits10 : waitsOk colloquyref20_Lines.T10.2 colloquyref20_Lines.B10 = true := by kernel_rfl
def colloquyref20_Lines.T15 : Bool × List (List Nat × List Nat) := (true, [([], []), ([], []), ([1], [1]), ([2], [2]), ([3], [3]), ([], []), ([], []), ([5, 6, 2], [5, 6]), ([7, 7], [7]), ([4, 8], [4, 8]), ([9], [9]), ([0, 10, 8], [0, 10]), ([11, 11, 0, 1, 2, 3, 4, 5, 6, 7, 8, 9, 10, 11], [0, 11])])
def colloquyref20_Lines.B15 : List Nat := [0, 0, 2, 6, 14, 0, 0, 102, 230, 510, 1022, 2047, 4095]
theorem colloquyref20_Lines.tab15 : rtab .any (opsOf Tryd.f29 15) = colloquyref20_Lines.T15 := by kernel_rfl
theorem colloquyref20_Lines.bits15 : waitsOk colloquyref20_Lines.T15.2 colloquyref20_Lines.B15 = true := by kernel_rfl
theorem colloquyref20_Lines.calls (k : Nat) (a0_0 : ByteArray) (a0_1 : ByteArray) (A0_2 : Option Addr) (c0_2 : Nat) (l0_2 : List (S53)) (r : List ByteArray) (w : World) (hr0_2 : Kd.C k53 w A0_2 l0_2.length l0_2) (hc0_2 : l0_2.length ≤ c0_2) (h : colloquyref20_Lines.f k a0_0 a0_1 l0_2 = some r) :
    Calls Tryd.prog 29 #[.agg #[.string a0_0, .string a0_1, .slice A0_2 l0_2.length c0_2]] w fun e w' => ∃ v0_ : Value, e = .returned (v0_) ∧ Kd.R Kd.string 9 w' w.heap.size (fun _ => True) v0_ r ∧ Below w.heap.size w w' := by
  have hu29 := Tryd.underlying29
  have hu49 := Tryd.underlying49
  have HR0_2 := Aside0.mk hr0_2
  have HC0_2 := Aside0.mk hc0_2
  clear hr0_2 hc0_2
  have HB := Aside0.mk (Below.refl w.heap.size w)
  have H : ((colloquyref02_Write.f k a0_0).bind fun t245 => (if 12 + t245.size ≤ 9223372036854775807 then ((colloquyref02_Write.f k a0_1).bind fun t246 => (if 6 + t246.size ≤ 9223372036854775807 then (colloquyref20_Lines.l0 k (([(⟨#[84, 101, 115, 116, 32, 114, 117, 110, 32, 111, 102, 32]⟩ : ByteArray) ++ t245, (⟨#[66, 111, 97, 114, 100, 32]⟩ : ByteArray) ++ t246] : List ByteArray)) 0 a0_0 a0_1 l0_2) else (none))) else (none))) = some r := h
  clear h
  replace H := Option.bind_eq_some_iff.mp H
  obtain ⟨t245, A20, H⟩ := H
  replace H : (if 12 + t245.size ≤ 9223372036854775807 then ((colloquyref02_Write.f k a0_1).bind fun t246 => (if 6 + t246.size ≤ 9223372036854775807 then (colloquyref20_Lines.l0 k (([(⟨#[84, 101, 115, 116, 32, 114, 117, 110, 32, 111, 102, 32]⟩ : ByteArray) ++ t245, (⟨#[66, 111, 97, 114, 100, 32]⟩ : ByteArray) ++ t246] : List ByteArray)) 0 a0_0 a0_1 l0_2) else (none))) else (none)) = some r := H
  have A2 := Aside0.mk A20
  clear A20
  by_cases c3 : 12 + t245.size ≤ 9223372036854775807
  · rw [if_pos c3] at H
    have c3b0 := eq_true c3
    have c3b1 : decide (12 + t245.size ≤ 9223372036854775807) = true := decide_eq_true c3
    try have c3b2 : (9223372036854775807 < 12 + t245.size) = False := eq_false (Nat.not_lt.2 c3)
    try (have c3b3 := c3; simp only [ByteArray.size_append] at c3b3; replace c3b3 := eq_false (Nat.not_lt.2 c3b3))
    replace H := Option.bind_eq_some_iff.mp H
    obtain ⟨t246, A40, H⟩ := H
    replace H : (if 6 + t246.size ≤ 9223372036854775807 then (colloquyref20_Lines.l0 k (([(⟨#[84, 101, 115, 116, 32, 114, 117, 110, 32, 111, 102, 32]⟩ : ByteArray) ++ t245, (⟨#[66, 111, 97, 114, 100, 32]⟩ : ByteArray) ++ t246] : List ByteArray)) 0 a0_0 a0_1 l0_2) else (none)) = some r := H
    have A4 := Aside0.mk A40
    clear A40
    by_cases c5 : 6 + t246.size ≤ 9223372036854775807
    · rw [if_pos c5] at H
      have c5b0 := eq_true c5
      have c5b1 : decide (6 + t246.size ≤ 9223372036854775807) = true := decide_eq_true c5
      try have c5b2 : (9223372036854775807 < 6 + t246.size) = False := eq_false (Nat.not_lt.2 c5)
      try (have c5b3 := c5; simp only [ByteArray.size_append] at c5b3; replace c5b3 := eq_false (Nat.not_lt.2 c5b3))
      obtain ⟨y247, hy247⟩ : ∃ y_ : List ByteArray, y_ = (([(⟨#[84, 101, 115, 116, 32, 114, 117, 110, 32, 111, 102, 32]⟩ : ByteArray) ++ t245, (⟨#[66, 111, 97, 114, 100, 32]⟩ : ByteArray) ++ t246] : List ByteArray)) := ⟨_, rfl⟩
      replace H : (colloquyref20_Lines.l0 k y247 0 a0_0 a0_1 l0_2) = some r := by first | (rw [hy247]; with_reducible exact H) | (have H2_ := (Option.bind_some _ _).symm.trans H; rw [hy247]; with_reducible exact H2_) | (have H2_ := (Option.bind_some _ _).symm.trans H; with_reducible exact H2_) | with_reducible exact H | (rw [hy247]; exact H) | exact H
      have Ny247 := Aside0.mk hy247
      clear hy247
      have H' := Aside0.mk H
      clear H
      go_enter Tryd.func29, Tryd.ntmps29
      try go_wp2_with (first | ((with_reducible refine gate_dst (N := 1) rfl ?_); refine box_event ?hg (N := 1) ?hd (cs := #[.string a0_0, .string a0_1, .slice A0_2 l0_2.length c0_2]) (t := 29) ?hr ?_; (case hd => rfl); (case hg => rfl); (case hr => first | (go_simp; done) | (go_simp; rfl)); intro gb244 hg w6 hbox hb; have n0_ := Aside0.mk (below_step (by repeat (first | (with_reducible first | exact HB.out | apply below_alloc | apply pw_below_drewN | apply below_drew1) | exact HB.out)) hb); have n1_ := Aside0.mk (hbox); have n2_ := Aside0.mk ((by rw [hg]; exact (below_size (by repeat (first | (with_reducible first | exact HB.out | apply below_alloc | apply pw_below_drewN | apply below_drew1) | exact HB.out))) : w.heap.size ≤ gb244)); have n3_ := Aside0.mk ((by rw [hg]; exact (below_size (by repeat (first | (with_reducible first | exact HB.out | apply below_alloc | apply pw_below_drewN | apply below_drew1) | exact HB.out))) : w.heap.size ≤ gb244)); clear HB; have HB := n0_; have BK244 := n1_; have GW244 := n2_; have GE244 := n3_; clear n0_ n1_ n2_ n3_; clear hb hbox hg))
      have n0_ := Aside0.mk (blk_drew BK244.out)
      have n1_ := Aside0.mk (below_drew1 HB.out)
      clear BK244
      clear HB
      have BK244 := n0_
      have HB := n1_
      clear n0_ n1_
      refine start_ (n := 10) (S := fun w' => w'.cell? ⟨gb244, 0, none⟩ = some (.string a0_0) ∧ w'.cell? ⟨gb244, 1, none⟩ = some (.string a0_1) ∧ w'.cell? ⟨gb244, 2, none⟩ = some (.slice A0_2 l0_2.length c0_2)) (ds := []) #[false, false, false, false, false, false, false, false, false, false] (by kernel_rfl) rfl rfl ⟨(blk_cell BK244.out 0).trans rfl, (blk_cell BK244.out 1).trans rfl, (blk_cell BK244.out 2).trans rfl⟩ (fun hHeld => ?_); refine with_tabW colloquyref20_Lines.tab1 colloquyref20_Lines.bits1 (fun HT_ HW_ => ?_)
      generalize w6.drew = w7 at BK244 HB hHeld ⊢
      refine pure_ (i := 0) (N := some 8) (v := ?_) (a' := ?_) #[true, false, false, false, false, false, false, false, false, false] rfl rfl (any_of HT_.out (by kernel_rfl)) (fun _ _ _ h => h) (Or.inl ⟨by rfl, ?_⟩) ?_ ?_
      rotate_left
      · intro w'
        go_simp
        with_reducible rfl
      rotate_left
      · simp only [Act.put, List.setIfInBounds_toArray, List.set_cons_zero, List.set_cons_succ, i64_w, i32_w]
        rfl
      refine pure_ (i := 4) (N := some 12) (v := ?_) (a' := ?_) #[true, false, false, false, true, false, false, false, false, false] rfl rfl (any_of HT_.out (by kernel_rfl)) (fun _ _ _ h => h) (Or.inl ⟨by rfl, ?_⟩) ?_ ?_
      rotate_left
      · intro w'
        go_simp
        with_reducible rfl
      rotate_left
      · simp only [Act.put, List.setIfInBounds_toArray, List.set_cons_zero, List.set_cons_succ, i64_w, i32_w]
        rfl
      refine take_ (i := 1) (N := some 9) (v := ?_) (a' := ?_) #[true, true, false, false, true, false, false, false, false, false] rfl rfl (take_ofW HT_.out HW_.out (by kernel_rfl)) (fun _ _ _ h => h) (Or.inl ⟨by rfl, ?_⟩) hHeld ?_ ?_
      rotate_left
      · rintro w' ⟨s0, s1, s2⟩
        go_simp
        with_reducible rfl
      rotate_left
      · simp only [Act.put, List.setIfInBounds_toArray, List.set_cons_zero, List.set_cons_succ, i64_w, i32_w]
        rfl
      refine take_ (i := 5) (N := some 13) (v := ?_) (a' := ?_) #[true, true, false, false, true, true, false, false, false, false] rfl rfl (take_ofW HT_.out HW_.out (by kernel_rfl)) (fun _ _ _ h => h) (Or.inl ⟨by rfl, ?_⟩) hHeld ?_ ?_
      rotate_left
      · rintro w' ⟨s0, s1, s2⟩
        go_simp
        with_reducible rfl
      rotate_left
      · simp only [Act.put, List.setIfInBounds_toArray, List.set_cons_zero, List.set_cons_succ, i64_w, i32_w]
        rfl
      refine one_ (i := 2) (N := some 10) #[true, true, true, false, true, true, false, false, false, false] rfl rfl (one_of HT_.out (by kernel_rfl)) (by decide) (fun K hK => ?_)
      refine goes_ Tryd.func44 (by kernel_rfl) rfl #[.string a0_0] (by rfl) rfl rfl (by (try simp only [List.map_toArray, List.map_cons, List.map_nil]); first | done | rfl | (simp only [List.length_drop, List.length_take]; rfl)) ?_
      with_reducible refine (colloquyref02_Write.calls k a0_0 t245 _ A2.out).mono ?_
      rintro e w8 ⟨rfl, hb⟩
      refine ⟨_, rfl, ?_⟩
      have n0_ := Aside0.mk (blk_below (g := gb244) (o := .cells #[.string a0_0, .string a0_1, .slice A0_2 l0_2.length c0_2] 29 (0, 0)) (by (with_reducible repeat (first | refine blk_drewN ?_ _ | refine blk_drew ?_ | refine blk_alloc ?_ _)); exact BK244.out) hb)
      have n1_ := Aside0.mk (below_step (by repeat (first | (with_reducible first | exact HB.out | apply below_alloc | apply pw_below_drewN | apply below_drew1 | refine below_set ?_ GE244.out) | exact HB.out)) hb)
      clear BK244
      clear HB
      have BK244 := n0_
      have HB := n1_
      clear n0_ n1_
      (try clear hb)
      (try clear hb2)
      (try clear hk)
      (try clear hi)
      refine hK.out _ _ ⟨(blk_cell BK244.out 0).trans rfl, (blk_cell BK244.out 1).trans rfl, (blk_cell BK244.out 2).trans rfl⟩ (fun hHeld => ?_)
      clear hK K
      refine norm_ (a' := ?_) ?_ ?_
      rotate_left
      · show Act.put _ (some 10) _ = _
        simp only [Act.put, List.setIfInBounds_toArray, List.set_cons_zero, List.set_cons_succ, i64_w, i32_w]
        rfl
      refine pure_ (i := 3) (N := some 11) (v := ?_) (a' := ?_) #[true, true, true, true, true, true, false, false, false, false] rfl rfl (any_of HT_.out (by kernel_rfl)) (fun _ _ _ h => h) (Or.inl ⟨by rfl, ?_⟩) ?_ ?_
      rotate_left
      · intro w'
        go_simp
        with_reducible rfl
      rotate_left
      · simp only [Act.put, List.setIfInBounds_toArray, List.set_cons_zero, List.set_cons_succ, i64_w, i32_w]
        rfl
      refine one_ (i := 6) (N := some 14) #[true, true, true, true, true, true, true, false, false, false] rfl rfl (one_of HT_.out (by kernel_rfl)) (by decide) (fun K hK => ?_)
      refine goes_ Tryd.func44 (by kernel_rfl) rfl #[.string a0_1] (by rfl) rfl rfl (by (try simp only [List.map_toArray, List.map_cons, List.map_nil]); first | done | rfl | (simp only [List.length_drop, List.length_take]; rfl)) ?_
      with_reducible refine (colloquyref02_Write.calls k a0_1 t246 _ A4.out).mono ?_
      rintro e w9 ⟨rfl, hb⟩
      refine ⟨_, rfl, ?_⟩
      have n0_ := Aside0.mk (blk_below (g := gb244) (o := .cells #[.string a0_0, .string a0_1, .slice A0_2 l0_2.length c0_2] 29 (0, 0)) (by (with_reducible repeat (first | refine blk_drewN ?_ _ | refine blk_drew ?_ | refine blk_alloc ?_ _)); exact BK244.out) hb)
      have n1_ := Aside0.mk (below_step (by repeat (first | (with_reducible first | exact HB.out | apply below_alloc | apply pw_below_drewN | apply below_drew1 | refine below_set ?_ GE244.out) | exact HB.out)) hb)
      clear BK244
      clear HB
      have BK244 := n0_
      have HB := n1_
      clear n0_ n1_
      (try clear hb)
      (try clear hb2)
      (try clear hk)
      (try clear hi)
      refine hK.out _ _ ⟨(blk_cell BK244.out 0).trans rfl, (blk_cell BK244.out 1).trans rfl, (blk_cell BK244.out 2).trans rfl⟩ (fun hHeld => ?_)
      clear hK K
      refine norm_ (a' := ?_) ?_ ?_
      rotate_left
      · show Act.put _ (some 14) _ = _
        simp only [Act.put, List.setIfInBounds_toArray, List.set_cons_zero, List.set_cons_succ, i64_w, i32_w]
        rfl
      refine pure_ (i := 7) (N := some 15) (v := ?_) (a' := ?_) #[true, true, true, true, true, true, true, true, false, false] rfl rfl (any_of HT_.out (by kernel_rfl)) (fun _ _ _ h => h) (Or.inl ⟨by rfl, ?_⟩) ?_ ?_
      rotate_left
      · intro w'
        go_simp
        with_reducible rfl
      rotate_left
      · simp only [Act.put, List.setIfInBounds_toArray, List.set_cons_zero, List.set_cons_succ, i64_w, i32_w]
        rfl
      refine one_ (i := 8) (N := some 16) #[true, true, true, true, true, true, true, true, true, false] rfl rfl (one_of HT_.out (by kernel_rfl)) (by decide) (fun K hK => ?_)
      refine Kd.R_lit_step Kd.string _ 9 ?hg (N := 16) ?hd (xs := ([(⟨#[84, 101, 115, 116, 32, 114, 117, 110, 32, 111, 102, 32]⟩ : ByteArray) ++ t245, (⟨#[66, 111, 97, 114, 100, 32]⟩ : ByteArray) ++ t246] : List ByteArray)) (inner := [.string ((⟨#[84, 101, 115, 116, 32, 114, 117, 110, 32, 111, 102, 32]⟩ : ByteArray) ++ t245), .string ((⟨#[66, 111, 97, 114, 100, 32]⟩ : ByteArray) ++ t246)]) (ok := fun _ => True) (okp := fun _ => True) ?hr ?hp (fun _ hk => hk) trivial (Below.refl _ _) (Nat.le_refl _) (by simp) ?_; (case hd => rfl); (case hg => rfl); (case hr => first | (go_simp; done) | (go_simp; rfl)); (case hp => exact (Reps.one (show Kd.M Kd.string _ _ _ ((⟨#[84, 101, 115, 116, 32, 114, 117, 110, 32, 111, 102, 32]⟩ : ByteArray) ++ t245) [.string ((⟨#[84, 101, 115, 116, 32, 114, 117, 110, 32, 111, 102, 32]⟩ : ByteArray) ++ t245)] from rfl) (Reps.one (show Kd.M Kd.string _ _ _ ((⟨#[66, 111, 97, 114, 100, 32]⟩ : ByteArray) ++ t246) [.string ((⟨#[66, 111, 97, 114, 100, 32]⟩ : ByteArray) ++ t246)] from rfl) (Reps.none _ _))))
      intro v248 w10 ho11 hb hg_ hnew_
      clear hg_ hnew_
      (first | rw [← Ny247.out] at ho11 | (simp only [Int.reduceToNat] at ho11; rw [← Ny247.out] at ho11))
      have n0_ := Aside0.mk (Kd.R_lower ho11 (below_size (by repeat (first | (with_reducible first | exact HB.out | apply below_alloc | apply pw_below_drewN | apply below_drew1 | refine below_set ?_ GE244.out) | exact HB.out))))
      have n1_ := Aside0.mk (blk_below (g := gb244) (o := .cells #[.string a0_0, .string a0_1, .slice A0_2 l0_2.length c0_2] 29 (0, 0)) (by (with_reducible repeat (first | refine blk_drewN ?_ _ | refine blk_drew ?_ | refine blk_alloc ?_ _)); exact BK244.out) hb)
      have n2_ := Aside0.mk (below_step (by repeat (first | (with_reducible first | exact HB.out | apply below_alloc | apply pw_below_drewN | apply below_drew1 | refine below_set ?_ GE244.out) | exact HB.out)) hb)
      clear BK244
      clear HB
      have HO249 := n0_
      have BK244 := n1_
      have HB := n2_
      clear n0_ n1_ n2_
      clear hb ho11
      refine hK.out _ _ ⟨(blk_cell BK244.out 0).trans rfl, (blk_cell BK244.out 1).trans rfl, (blk_cell BK244.out 2).trans rfl⟩ (fun hHeld => ?_)
      clear hK K
      refine norm_ (a' := ?_) ?_ ?_
      rotate_left
      · show Act.put _ (some 16) _ = _
        simp only [Act.put, List.setIfInBounds_toArray, List.set_cons_zero, List.set_cons_succ, i64_w, i32_w]
        rfl
      refine pure_ (i := 9) (N := some 3) (v := ?_) (a' := ?_) #[true, true, true, true, true, true, true, true, true, true] rfl rfl (any_of HT_.out (by kernel_rfl)) (fun _ _ _ h => h) (Or.inl ⟨by rfl, ?_⟩) ?_ ?_
      rotate_left
      · intro w'
        go_simp
        with_reducible rfl
      rotate_left
      · simp only [Act.put, List.setIfInBounds_toArray, List.set_cons_zero, List.set_cons_succ, i64_w, i32_w]
        rfl
      refine done_ (done_of HT_.out (by kernel_rfl)) ?_
      try go_wp2
      go_loopg [3, 4] k (fun kq v3 v4 w' => ∃ (x3_1 : List ByteArray) (x4_1 : Int), v4 = .int .i64 x4_1 ∧ Aside0 (colloquyref20_Lines.l0 kq x3_1 x4_1 a0_0 a0_1 l0_2 = some r) ∧ Aside0 (kq ≤ k) ∧ Aside0 (Kd.R Kd.string 9 w' w.heap.size (fun _ => True) v3 x3_1) ∧ Aside0 (w'.heap[gb244]? = some (.cells #[.string a0_0, .string a0_1, (.slice A0_2 l0_2.length c0_2)] 29 (0, 0))) ∧ Aside0 (Below w.heap.size w w'))
      case atStart => exact ⟨(y247), (0), (by first | rfl | (simp; done) | (simp [*]; done)), H', ⟨Nat.le_refl _⟩, ⟨by (with_reducible repeat (first | apply Kd.R_alloc | apply Kd.R_drewN | apply Kd.R_drew)); exact HO249.out⟩, ⟨by (with_reducible repeat (first | refine blk_drewN ?_ _ | refine blk_drew ?_ | refine blk_alloc ?_ _)); exact BK244.out⟩, ⟨by repeat (first | (with_reducible first | exact HB.out | apply below_alloc | apply pw_below_drewN | apply below_drew1 | refine below_set ?_ GE244.out) | exact HB.out)⟩⟩
      case round =>
        clear H'
        try clear c2
        try clear p2
        try clear c3
        try clear c3b0
        try clear c3b1
        try clear c3b2
        try clear c4
        try clear c5
        try clear c5b0
        try clear c5b1
        try clear c5b2
        obtain ⟨x3_1, x4_1, rfl, HA, HK1, HO_3, BK244, HB⟩ := hrel
        cases gk with
        | zero => exact absurd HA.out (by simp [colloquyref20_Lines.l0])
        | succ k1 =>
          have H := HA.out
          clear HA
          simp only [colloquyref20_Lines.l0] at H
          by_cases c12 : x4_1 < (l0_2.length : Int)
          · rw [if_pos c12] at H
            have c12b0 : decide (x4_1 < (l0_2.length : Int)) = true := decide_eq_true c12
            clear c12
            by_cases c13 : 0 ≤ x4_1
            · rw [if_pos c13] at H
              have c13b0 : decide (0 ≤ x4_1) = true := decide_eq_true c13
              clear c13
              replace H := Option.bind_eq_some_iff.mp H
              obtain ⟨t251, A140, H⟩ := H
              replace H : (if 6 + t251.size ≤ 9223372036854775807 then (if x3_1.length < 8796093022208 then (colloquyref20_Lines.l1 k1 (x3_1 ++ [(⟨#[103, 114, 111, 117, 112, 32]⟩ : ByteArray) ++ t251]) x4_1 0 a0_0 a0_1 l0_2) else (none)) else (none)) = some r := H
              have A14 := Aside0.mk A140
              clear A140
              by_cases c15 : 6 + t251.size ≤ 9223372036854775807
              · rw [if_pos c15] at H
                have c15b0 := eq_true c15
                have c15b1 : decide (6 + t251.size ≤ 9223372036854775807) = true := decide_eq_true c15
                try have c15b2 : (9223372036854775807 < 6 + t251.size) = False := eq_false (Nat.not_lt.2 c15)
                try (have c15b3 := c15; simp only [ByteArray.size_append] at c15b3; replace c15b3 := eq_false (Nat.not_lt.2 c15b3))
                by_cases c16 : x3_1.length < 8796093022208
                · rw [if_pos c16] at H
                  have LMc16 := Aside0.mk c16
                  clear c16
                  obtain ⟨y252, hy252⟩ : ∃ y_ : List ByteArray, y_ = (x3_1 ++ [(⟨#[103, 114, 111, 117, 112, 32]⟩ : ByteArray) ++ t251]) := ⟨_, rfl⟩
                  replace H : (colloquyref20_Lines.l1 k1 y252 x4_1 0 a0_0 a0_1 l0_2) = some r := by first | (rw [hy252]; with_reducible exact H) | (have H2_ := (Option.bind_some _ _).symm.trans H; rw [hy252]; with_reducible exact H2_) | (have H2_ := (Option.bind_some _ _).symm.trans H; with_reducible exact H2_) | with_reducible exact H | (rw [hy252]; exact H) | exact H
                  have Ny252 := Aside0.mk hy252
                  clear hy252
                  have H' := Aside0.mk H
                  clear H
                  have hcz17_0 : wr.cell? ⟨gb244, 0, none⟩ = some (.string a0_0) := (blk_cell BK244.out 0).trans rfl
                  have hcz17_1 : wr.cell? ⟨gb244, 1, none⟩ = some (.string a0_1) := (blk_cell BK244.out 1).trans rfl
                  have hcz17_2 : wr.cell? ⟨gb244, 2, none⟩ = some (.slice A0_2 l0_2.length c0_2) := (blk_cell BK244.out 2).trans rfl
                  have hfz17_0 := blk_frozen BK244.out 0
                  have hfz17_1 := blk_frozen BK244.out 1
                  have hfz17_2 := blk_frozen BK244.out 2
                  have p250 : 0 ≤ (x4_1 : Int) := of_decide_eq_true (by first | (with_reducible assumption) | assumption)
                  have q250 : x4_1 < (l0_2.length : Int) := of_decide_eq_true (by first | (with_reducible assumption) | assumption)
                  obtain ⟨ad250, A250_1, c250_1, e250, hx250_0, hx250_1, hl250_1, hi250_1⟩ := at_T53 HR0_2.out x4_1 p250 q250
                  cases e250
                  replace hx250_0 := (HB.out.cell (World.block_lt_of_cell? w _ hx250_0)).trans hx250_0
                  replace hx250_1 := (HB.out.cell (World.block_lt_of_cell? w _ hx250_1)).trans hx250_1
                  have HR250_1 := Aside0.mk hi250_1
                  have HC250_1 := Aside0.mk hl250_1
                  clear hi250_1 hl250_1
                  replace p250 := eq_true p250
                  replace q250 := eq_true q250
                  go_wp2_with (first | ((with_reducible refine gate_callee (f := 44) rfl ?_); refine goesL_ (some 31) rfl rfl Tryd.func44 (by kernel_rfl) rfl #[.string ((rd_T53 l0_2 x4_1).f0)] rfl (by (try simp only [List.map_toArray, List.map_cons, List.map_nil]); first | done | rfl | (simp only [List.length_drop, List.length_take]; rfl)) ?_; (with_reducible refine (colloquyref02_Write.calls k1 ((rd_T53 l0_2 x4_1).f0) t251 _ A14.out).mono ?_); rintro e w18 ⟨rfl, hb⟩; refine ⟨_, rfl, ?_⟩; have n0_ := Aside0.mk (Kd.R_below (by (with_reducible repeat (first | apply Kd.R_alloc | apply Kd.R_drewN | apply Kd.R_drew)); exact HO_3.out) hb); have n1_ := Aside0.mk (blk_below (g := gb244) (o := .cells #[.string a0_0, .string a0_1, .slice (some ad250) l0_2.length c0_2] 29 (0, 0)) (by (with_reducible repeat (first | refine blk_drewN ?_ _ | refine blk_drew ?_ | refine blk_alloc ?_ _)); exact BK244.out) hb); have n2_ := Aside0.mk (below_step (by repeat (first | (with_reducible first | exact HB.out | apply below_alloc | apply pw_below_drewN | apply below_drew1 | refine below_set ?_ GE244.out) | exact HB.out)) hb); clear HO_3; clear BK244; clear HB; have HO_3 := n0_; have BK244 := n1_; have HB := n2_; clear n0_ n1_ n2_; (try clear hb); (try clear hb2); (try clear hk); (try clear hi)) | ((with_reducible refine gate_builtin (b := .append) (xs := #[.tmp 24, .tmp 33]) rfl ?_); at_builtin; refine Kd.R_append Kd.string (w0 := w) w.heap.size rfl (.tmp 24) (.tmp 33) 58 9 (.string ⟨#[]⟩) 16 rfl Tryd.underlying58 info9 rfl (by decide) (by omega) u3 x3_1 ((⟨#[103, 114, 111, 117, 112, 32]⟩ : ByteArray) ++ t251) [.string ((⟨#[103, 114, 111, 117, 112, 32]⟩ : ByteArray) ++ t251)] (fun _ => True) (fun _ => False) rfl rfl ?aP (fun _ hk => hk.elim) ?aF ?aO ?aB ?aS ?aL ?_; (case aP => exact rfl); (case aB => exact (by repeat (first | (with_reducible first | exact HB.out | apply below_alloc | apply pw_below_drewN | apply below_drew1 | refine below_set ?_ GE244.out) | exact HB.out))); (case aF => exact (fun _ _ => trivial)); (case aO => exact (by (with_reducible repeat (first | apply Kd.R_alloc | apply Kd.R_drewN | apply Kd.R_drew)); exact HO_3.out)); (case aS => exact (below_size (by repeat (first | (with_reducible first | exact HB.out | apply below_alloc | apply pw_below_drewN | apply below_drew1 | refine below_set ?_ GE244.out) | exact HB.out)))); (case aL => have := LMc16.out; omega); intro v253 w19 ho hb hg hat; rw [← Ny252.out] at ho; have n0_ := Aside0.mk (blk_grown (g := gb244) (o := .cells #[.string a0_0, .string a0_1, .slice (some ad250) l0_2.length c0_2] 29 (0, 0)) (by (with_reducible repeat (first | refine blk_drewN ?_ _ | refine blk_drew ?_ | refine blk_alloc ?_ _)); exact BK244.out) hg (Kd.R_ne HO_3.out BK244.out (by decide))); have n1_ := Aside0.mk (hb); have n2_ := Aside0.mk (ho); clear BK244; clear HB; clear HO_3; have BK244 := n0_; have HB := n1_; have HO254 := n2_; clear n0_ n1_ n2_; clear ho hb hg hat))
                  go_loopg [3, 5] k1 (fun kq v3 v5 w' => ∃ (x3_2 : List ByteArray) (x5_2 : Int), v5 = .int .i64 x5_2 ∧ Aside0 (colloquyref20_Lines.l1 kq x3_2 x4_1 x5_2 a0_0 a0_1 l0_2 = some r) ∧ Aside0 (kq ≤ k1) ∧ Aside0 (Kd.R Kd.string 9 w' w.heap.size (fun _ => True) v3 x3_2) ∧ Aside0 (w'.heap[gb244]? = some (.cells #[.string a0_0, .string a0_1, (.slice (some ad250) l0_2.length c0_2)] 29 (0, 0))) ∧ Aside0 (Below w.heap.size w w'))
                  case atStart => exact ⟨(y252), (0), (by first | rfl | (simp; done) | (simp [*]; done)), H', ⟨Nat.le_refl _⟩, ⟨by (with_reducible repeat (first | apply Kd.R_alloc | apply Kd.R_drewN | apply Kd.R_drew)); exact HO254.out⟩, ⟨by (with_reducible repeat (first | refine blk_drewN ?_ _ | refine blk_drew ?_ | refine blk_alloc ?_ _)); exact BK244.out⟩, ⟨by repeat (first | (with_reducible first | exact HB.out | apply below_alloc | apply pw_below_drewN | apply below_drew1 | refine below_set ?_ GE244.out) | exact HB.out)⟩⟩
                  case round =>
                    clear H'
                    try clear c1
                    try clear c2
                    try clear p2
                    try clear q2
                    try clear hx2
                    try clear c3
                    try clear c3b0
                    try clear c3b1
                    try clear c3b2
                    try clear c4
                    try clear c5
                    try clear c5b0
                    try clear c5b1
                    try clear c5b2
                    try clear c12
                    try clear c12b0
                    try clear c13
                    try clear c13b0
                    try clear c15
                    try clear c15b0
                    try clear c15b1
                    try clear c15b2
                    try clear c16
                    try clear hcz17_0
                    try clear hcz17_1
                    try clear hcz17_2
                    try clear hfz17_0
                    try clear hfz17_1
                    try clear hfz17_2
                    try clear hx250_0
                    try clear hx250_1
                    try clear p2
                    try clear p250
                    try clear q250
                    obtain ⟨x3_2, x5_2, rfl, HA, HK2, HO_3, BK244, HB⟩ := hrel
                    cases gk with
                    | zero => exact absurd HA.out (by simp [colloquyref20_Lines.l1])
                    | succ k2 =>
                      have H := HA.out
                      clear HA
                      simp only [colloquyref20_Lines.l1] at H
                      by_cases c20 : 0 ≤ x4_1
                      · rw [if_pos c20] at H
                        have c20b0 : decide (0 ≤ x4_1) = true := decide_eq_true c20
                        clear c20
                        by_cases c21 : x4_1 < (l0_2.length : Int)
                        · rw [if_pos c21] at H
                          have c21b0 : decide (x4_1 < (l0_2.length : Int)) = true := decide_eq_true c21
                          clear c21
                          by_cases c22 : x5_2 < (((rd_T53 l0_2 x4_1).f1).length : Int)
                          · rw [if_pos c22] at H
                            have c22b0 : decide (x5_2 < (((rd_T53 l0_2 x4_1).f1).length : Int)) = true := decide_eq_true c22
                            clear c22
                            by_cases c23 : 0 ≤ x5_2
                            · rw [if_pos c23] at H
                              have c23b0 : decide (0 ≤ x5_2) = true := decide_eq_true c23
                              clear c23
                              replace H := Option.bind_eq_some_iff.mp H
                              obtain ⟨t259, A240, H⟩ := H
                              replace H : (if t259.size + 2 ≤ 9223372036854775807 then ((colloquyref02_Write.f k2 ((rd_T49 ((rd_T53 l0_2 x4_1).f1) x5_2).f0)).bind fun t260 => (if (t259 ++ (⟨#[58, 32]⟩ : ByteArray)).size + t260.size ≤ 9223372036854775807 then (if x3_2.length < 8796093022208 then (colloquyref20_Lines.l1 k2 (x3_2 ++ [(t259 ++ (⟨#[58, 32]⟩ : ByteArray)) ++ t260]) x4_1 (wrap64 (x5_2 + 1)) a0_0 a0_1 l0_2) else (none)) else (none))) else (none)) = some r := H
                              have A24 := Aside0.mk A240
                              clear A240
                              by_cases c25 : t259.size + 2 ≤ 9223372036854775807
                              · rw [if_pos c25] at H
                                have c25b0 := eq_true c25
                                have c25b1 : decide (t259.size + 2 ≤ 9223372036854775807) = true := decide_eq_true c25
                                try have c25b2 : (9223372036854775807 < t259.size + 2) = False := eq_false (Nat.not_lt.2 c25)
                                try (have c25b3 := c25; simp only [ByteArray.size_append] at c25b3; replace c25b3 := eq_false (Nat.not_lt.2 c25b3))
                                replace H := Option.bind_eq_some_iff.mp H
                                obtain ⟨t260, A260, H⟩ := H
                                replace H : (if (t259 ++ (⟨#[58, 32]⟩ : ByteArray)).size + t260.size ≤ 9223372036854775807 then (if x3_2.length < 8796093022208 then (colloquyref20_Lines.l1 k2 (x3_2 ++ [(t259 ++ (⟨#[58, 32]⟩ : ByteArray)) ++ t260]) x4_1 (wrap64 (x5_2 + 1)) a0_0 a0_1 l0_2) else (none)) else (none)) = some r := H
                                have A26 := Aside0.mk A260
                                clear A260
                                by_cases c27 : (t259 ++ (⟨#[58, 32]⟩ : ByteArray)).size + t260.size ≤ 9223372036854775807
                                · rw [if_pos c27] at H
                                  have c27b0 := eq_true c27
                                  have c27b1 : decide ((t259 ++ (⟨#[58, 32]⟩ : ByteArray)).size + t260.size ≤ 9223372036854775807) = true := decide_eq_true c27
                                  try have c27b2 : (9223372036854775807 < (t259 ++ (⟨#[58, 32]⟩ : ByteArray)).size + t260.size) = False := eq_false (Nat.not_lt.2 c27)
                                  try (have c27b3 := c27; simp only [ByteArray.size_append, show (⟨#[58, 32]⟩ : ByteArray).size = 2 from rfl] at c27b3; replace c27b3 := eq_false (Nat.not_lt.2 c27b3))
                                  by_cases c28 : x3_2.length < 8796093022208
                                  · rw [if_pos c28] at H
                                    have LMc28 := Aside0.mk c28
                                    clear c28
                                    obtain ⟨y261, hy261⟩ : ∃ y_ : List ByteArray, y_ = (x3_2 ++ [(t259 ++ (⟨#[58, 32]⟩ : ByteArray)) ++ t260]) := ⟨_, rfl⟩
                                    replace H : (colloquyref20_Lines.l1 k2 y261 x4_1 (wrap64 (x5_2 + 1)) a0_0 a0_1 l0_2) = some r := by first | (rw [hy261]; with_reducible exact H) | (have H2_ := (Option.bind_some _ _).symm.trans H; rw [hy261]; with_reducible exact H2_) | (have H2_ := (Option.bind_some _ _).symm.trans H; with_reducible exact H2_) | with_reducible exact H | (rw [hy261]; exact H) | exact H
                                    have Ny261 := Aside0.mk hy261
                                    clear hy261
                                    have H' := Aside0.mk H
                                    clear H
                                    have hcz29_0 : wr.cell? ⟨gb244, 0, none⟩ = some (.string a0_0) := (blk_cell BK244.out 0).trans rfl
                                    have hcz29_1 : wr.cell? ⟨gb244, 1, none⟩ = some (.string a0_1) := (blk_cell BK244.out 1).trans rfl
                                    have hcz29_2 : wr.cell? ⟨gb244, 2, none⟩ = some (.slice (some ad250) l0_2.length c0_2) := (blk_cell BK244.out 2).trans rfl
                                    have hfz29_0 := blk_frozen BK244.out 0
                                    have hfz29_1 := blk_frozen BK244.out 1
                                    have hfz29_2 := blk_frozen BK244.out 2
                                    have p255 : 0 ≤ (x4_1 : Int) := of_decide_eq_true (by first | (with_reducible assumption) | assumption)
                                    have q255 : x4_1 < (l0_2.length : Int) := of_decide_eq_true (by first | (with_reducible assumption) | assumption)
                                    obtain ⟨ad255, A255_1, c255_1, e255, hx255_0, hx255_1, hl255_1, hi255_1⟩ := at_T53 HR0_2.out x4_1 p255 q255
                                    obtain rfl : ad250 = ad255 := (by injection e255)
                                    replace hx255_0 := (HB.out.cell (World.block_lt_of_cell? w _ hx255_0)).trans hx255_0
                                    replace hx255_1 := (HB.out.cell (World.block_lt_of_cell? w _ hx255_1)).trans hx255_1
                                    have HR255_1 := Aside0.mk hi255_1
                                    have HC255_1 := Aside0.mk hl255_1
                                    clear hi255_1 hl255_1
                                    replace p255 := eq_true p255
                                    replace q255 := eq_true q255
                                    have p256 : 0 ≤ (x4_1 : Int) := of_decide_eq_true (by first | (with_reducible assumption) | assumption)
                                    have q256 : x4_1 < (l0_2.length : Int) := of_decide_eq_true (by first | (with_reducible assumption) | assumption)
                                    obtain ⟨ad256, A256_1, c256_1, e256, hx256_0, hx256_1, hl256_1, hi256_1⟩ := at_T53 HR0_2.out x4_1 p256 q256
                                    obtain rfl : ad250 = ad256 := (by injection e256)
                                    replace hx256_0 := (HB.out.cell (World.block_lt_of_cell? w _ hx256_0)).trans hx256_0
                                    replace hx256_1 := (HB.out.cell (World.block_lt_of_cell? w _ hx256_1)).trans hx256_1
                                    have HR256_1 := Aside0.mk hi256_1
                                    have HC256_1 := Aside0.mk hl256_1
                                    clear hi256_1 hl256_1
                                    replace p256 := eq_true p256
                                    replace q256 := eq_true q256
                                    have ea_ := Option.some.inj (hx255_1.symm.trans hx256_1)
                                    injection ea_ with ea_ en_ ec_
                                    subst ea_
                                    subst ec_
                                    clear en_
                                    have p257 : 0 ≤ (x5_2 : Int) := of_decide_eq_true (by first | (with_reducible assumption) | assumption)
                                    have q257 : x5_2 < (((rd_T53 l0_2 x4_1).f1).length : Int) := of_decide_eq_true (by first | (with_reducible assumption) | assumption)
                                    obtain ⟨ad257, e257, hx257_0, hx257_1⟩ := at_T49 HR256_1.out x5_2 p257 q257
                                    cases e257
                                    replace hx257_0 := (HB.out.cell (World.block_lt_of_cell? w _ hx257_0)).trans hx257_0
                                    replace hx257_1 := (HB.out.cell (World.block_lt_of_cell? w _ hx257_1)).trans hx257_1
                                    replace p257 := eq_true p257
                                    replace q257 := eq_true q257
                                    try go_wp2_with (first | ((with_reducible refine gate_dst (N := 6) rfl ?_); refine box_event ?hg (N := 6) ?hd (cs := #[.string (⟨#[]⟩ : ByteArray), .int .i64 0]) (t := 49) ?hr ?_; (case hd => rfl); (case hg => rfl); (case hr => first | (go_simp; done) | (go_simp; rfl)); intro gb258 hg w30 hbox hb; have n0_ := Aside0.mk (Kd.R_below (by (with_reducible repeat (first | apply Kd.R_alloc | apply Kd.R_drewN | apply Kd.R_drew)); exact HO_3.out) hb); have n1_ := Aside0.mk (blk_below (g := gb244) (o := .cells #[.string a0_0, .string a0_1, .slice (some ad250) l0_2.length c0_2] 29 (0, 0)) (by (with_reducible repeat (first | refine blk_drewN ?_ _ | refine blk_drew ?_ | refine blk_alloc ?_ _)); exact BK244.out) hb); have n2_ := Aside0.mk (below_step (by repeat (first | (with_reducible first | exact HB.out | apply below_alloc | apply pw_below_drewN | apply below_drew1 | refine below_set ?_ GE244.out) | exact HB.out)) hb); have n3_ := Aside0.mk (hbox); have n4_ := Aside0.mk ((by rw [hg]; exact (below_size (by repeat (first | (with_reducible first | exact HB.out | apply below_alloc | apply pw_below_drewN | apply below_drew1 | refine below_set ?_ GE244.out) | exact HB.out))) : w.heap.size ≤ gb258)); have n5_ := Aside0.mk ((by rw [hg]; exact (below_size (by repeat (first | (with_reducible first | exact HB.out | apply below_alloc | apply pw_below_drewN | apply below_drew1 | refine below_set ?_ GE244.out) | exact HB.out))) : w.heap.size ≤ gb258)); have n6_ := Aside0.mk ((by rw [hg]; exact Nat.ne_of_lt (blk_lt (g := gb244) (o := .cells #[.string a0_0, .string a0_1, .slice (some ad250) l0_2.length c0_2] 29 (0, 0)) (by (with_reducible repeat (first | refine blk_drewN ?_ _ | refine blk_drew ?_ | refine blk_alloc ?_ _)); exact BK244.out)) : gb244 ≠ gb258)); have n7_ := Aside0.mk ((by rw [hg]; exact Nat.ne_of_gt (blk_lt (g := gb244) (o := .cells #[.string a0_0, .string a0_1, .slice (some ad250) l0_2.length c0_2] 29 (0, 0)) (by (with_reducible repeat (first | refine blk_drewN ?_ _ | refine blk_drew ?_ | refine blk_alloc ?_ _)); exact BK244.out)) : gb258 ≠ gb244)); clear HO_3; clear BK244; clear HB; have HO_3 := n0_; have BK244 := n1_; have HB := n2_; have BK258 := n3_; have GW258 := n4_; have GE258 := n5_; have NB244_258 := n6_; have NB258_244 := n7_; clear n0_ n1_ n2_ n3_ n4_ n5_ n6_ n7_; clear hb hbox hg; have hnb31 := NB258_244.out; have hnc31 := NB244_258.out; have hcz32_0 : w30.cell? ⟨gb258, 0, none⟩ = some (.string (⟨#[]⟩ : ByteArray)) := (blk_cell BK258.out 0).trans rfl; have hcz32_1 : w30.cell? ⟨gb258, 1, none⟩ = some (.int .i64 0) := (blk_cell BK258.out 1).trans rfl; have hfz32_0 := blk_frozen BK258.out 0; have hfz32_1 := blk_frozen BK258.out 1))
                                    have n0_ : Aside0 (Kd.R Kd.string 9 ((w30.setCell ⟨gb258, 0, none⟩ (.string ((rd_T49 ((rd_T53 l0_2 x4_1).f1) x5_2).f0))).setCell ⟨gb258, 1, none⟩ (.int .i64 ((rd_T49 ((rd_T53 l0_2 x4_1).f1) x5_2).f1))) w.heap.size (fun _ => True) u3 x3_2) := ⟨by (with_reducible repeat (first | apply Kd.R_alloc | apply Kd.R_drewN | apply Kd.R_drew)); exact Kd.R_mono (Kd.R_far (p := ⟨gb258, 1, none⟩) (Kd.R_far (p := ⟨gb258, 0, none⟩) (Kd.R_types HO_3.out BK258.out (by decide)) (fun _ hk => hk.2) (.string ((rd_T49 ((rd_T53 l0_2 x4_1).f1) x5_2).f0))) (fun _ hk => hk.2) (.int .i64 ((rd_T49 ((rd_T53 l0_2 x4_1).f1) x5_2).f1))) (fun _ hk => trivial)⟩
                                    have n1_ : Aside0 (((w30.setCell ⟨gb258, 0, none⟩ (.string ((rd_T49 ((rd_T53 l0_2 x4_1).f1) x5_2).f0))).setCell ⟨gb258, 1, none⟩ (.int .i64 ((rd_T49 ((rd_T53 l0_2 x4_1).f1) x5_2).f1))).heap[gb244]? = some (.cells #[.string a0_0, .string a0_1, .slice (some ad250) l0_2.length c0_2] 29 (0, 0))) := ⟨by (with_reducible repeat (first | refine blk_drewN ?_ _ | refine blk_drew ?_ | refine blk_alloc ?_ _)); refine blk_far ?_ NB244_258.out _; (with_reducible repeat (first | refine blk_drewN ?_ _ | refine blk_drew ?_ | refine blk_alloc ?_ _)); refine blk_far ?_ NB244_258.out _; (with_reducible repeat (first | refine blk_drewN ?_ _ | refine blk_drew ?_ | refine blk_alloc ?_ _)); exact BK244.out⟩
                                    have n2_ : Aside0 (((w30.setCell ⟨gb258, 0, none⟩ (.string ((rd_T49 ((rd_T53 l0_2 x4_1).f1) x5_2).f0))).setCell ⟨gb258, 1, none⟩ (.int .i64 ((rd_T49 ((rd_T53 l0_2 x4_1).f1) x5_2).f1))).heap[gb258]? = some (.cells #[.string ((rd_T49 ((rd_T53 l0_2 x4_1).f1) x5_2).f0), .int .i64 ((rd_T49 ((rd_T53 l0_2 x4_1).f1) x5_2).f1)] 49 (0, 0))) := ⟨by (with_reducible repeat (first | refine blk_drewN ?_ _ | refine blk_drew ?_ | refine blk_alloc ?_ _)); refine blk_put (cs := #[.string ((rd_T49 ((rd_T53 l0_2 x4_1).f1) x5_2).f0), .int .i64 0]) ?_ 1 _ rfl; (with_reducible repeat (first | refine blk_drewN ?_ _ | refine blk_drew ?_ | refine blk_alloc ?_ _)); refine blk_put (cs := #[.string (⟨#[]⟩ : ByteArray), .int .i64 0]) ?_ 0 _ rfl; (with_reducible repeat (first | refine blk_drewN ?_ _ | refine blk_drew ?_ | refine blk_alloc ?_ _)); exact BK258.out⟩
                                    have n3_ : Aside0 (Below w.heap.size w ((w30.setCell ⟨gb258, 0, none⟩ (.string ((rd_T49 ((rd_T53 l0_2 x4_1).f1) x5_2).f0))).setCell ⟨gb258, 1, none⟩ (.int .i64 ((rd_T49 ((rd_T53 l0_2 x4_1).f1) x5_2).f1)))) := ⟨by repeat (first | (with_reducible first | exact HB.out | apply below_alloc | apply pw_below_drewN | apply below_drew1 | refine below_set ?_ GE244.out | refine below_set ?_ GE258.out) | exact HB.out)⟩
                                    (try clear HO_3)
                                    (try clear BK244)
                                    (try clear BK258)
                                    (try clear HB)
                                    generalize ((w30.setCell ⟨gb258, 0, none⟩ (.string ((rd_T49 ((rd_T53 l0_2 x4_1).f1) x5_2).f0))).setCell ⟨gb258, 1, none⟩ (.int .i64 ((rd_T49 ((rd_T53 l0_2 x4_1).f1) x5_2).f1))) = w33 at n0_ n1_ n2_ n3_ ⊢
                                    have HO_3 := n0_
                                    have BK244 := n1_
                                    have BK258 := n2_
                                    have HB := n3_
                                    clear n0_ n1_ n2_ n3_
                                    have n0_ := Aside0.mk (Kd.R_drew HO_3.out)
                                    have n1_ := Aside0.mk (blk_drew BK244.out)
                                    have n2_ := Aside0.mk (blk_drew BK258.out)
                                    have n3_ := Aside0.mk (below_drew1 HB.out)
                                    clear HO_3
                                    clear BK244
                                    clear BK258
                                    clear HB
                                    have HO_3 := n0_
                                    have BK244 := n1_
                                    have BK258 := n2_
                                    have HB := n3_
                                    clear n0_ n1_ n2_ n3_
                                    refine start_ (n := 12) (S := fun w' => w'.cell? ⟨gb258, 0, none⟩ = some (.string ((rd_T49 ((rd_T53 l0_2 x4_1).f1) x5_2).f0)) ∧ w'.cell? ⟨gb258, 1, none⟩ = some (.int .i64 ((rd_T49 ((rd_T53 l0_2 x4_1).f1) x5_2).f1))) (ds := []) #[false, false, false, false, false, false, false, false, false, false, false, false] (by kernel_rfl) rfl rfl ⟨(blk_cell BK258.out 0).trans rfl, (blk_cell BK258.out 1).trans rfl⟩ (fun hHeld => ?_); refine with_tabW colloquyref20_Lines.tab10 colloquyref20_Lines.bits10 (fun HT_ HW_ => ?_)
                                    generalize w33.drew = w34 at HO_3 BK244 BK258 HB hHeld ⊢
                                    refine pure_ (i := 0) (N := some 55) (v := ?_) (a' := ?_) #[true, false, false, false, false, false, false, false, false, false, false, false] rfl rfl (any_of HT_.out (by kernel_rfl)) (fun _ _ _ h => h) (Or.inl ⟨by rfl, ?_⟩) ?_ ?_
                                    rotate_left
                                    · intro w'
                                      go_simp
                                      with_reducible rfl
                                    rotate_left
                                    · simp only [Act.put, List.setIfInBounds_toArray, List.set_cons_zero, List.set_cons_succ, i64_w, i32_w]
                                      rfl
                                    refine pure_ (i := 1) (N := some 56) (v := ?_) (a' := ?_) #[true, true, false, false, false, false, false, false, false, false, false, false] rfl rfl (any_of HT_.out (by kernel_rfl)) (fun _ _ _ h => h) (Or.inl ⟨by rfl, ?_⟩) ?_ ?_
                                    rotate_left
                                    · intro w'
                                      go_simp
                                      with_reducible rfl
                                    rotate_left
                                    · simp only [Act.put, List.setIfInBounds_toArray, List.set_cons_zero, List.set_cons_succ, i64_w, i32_w]
                                      rfl
                                    refine pure_ (i := 5) (N := some 60) (v := ?_) (a' := ?_) #[true, true, false, false, false, true, false, false, false, false, false, false] rfl rfl (any_of HT_.out (by kernel_rfl)) (fun _ _ _ h => h) (Or.inl ⟨by rfl, ?_⟩) ?_ ?_
                                    rotate_left
                                    · intro w'
                                      go_simp
                                      with_reducible rfl
                                    rotate_left
                                    · simp only [Act.put, List.setIfInBounds_toArray, List.set_cons_zero, List.set_cons_succ, i64_w, i32_w]
                                      rfl
                                    refine take_ (i := 2) (N := some 57) (v := ?_) (a' := ?_) #[true, true, true, false, false, true, false, false, false, false, false, false] rfl rfl (take_ofW HT_.out HW_.out (by kernel_rfl)) (fun _ _ _ h => h) (Or.inl ⟨by rfl, ?_⟩) hHeld ?_ ?_
                                    rotate_left
                                    · rintro w' ⟨s0, s1⟩
                                      go_simp
                                      with_reducible rfl
                                    rotate_left
                                    · simp only [Act.put, List.setIfInBounds_toArray, List.set_cons_zero, List.set_cons_succ, i64_w, i32_w]
                                      rfl
                                    refine take_ (i := 6) (N := some 61) (v := ?_) (a' := ?_) #[true, true, true, false, false, true, true, false, false, false, false, false] rfl rfl (take_ofW HT_.out HW_.out (by kernel_rfl)) (fun _ _ _ h => h) (Or.inl ⟨by rfl, ?_⟩) hHeld ?_ ?_
                                    rotate_left
                                    · rintro w' ⟨s0, s1⟩
                                      go_simp
                                      with_reducible rfl
                                    rotate_left
                                    · simp only [Act.put, List.setIfInBounds_toArray, List.set_cons_zero, List.set_cons_succ, i64_w, i32_w]
                                      rfl
                                    refine one_ (i := 3) (N := some 58) #[true, true, true, true, false, true, true, false, false, false, false, false] rfl rfl (one_of HT_.out (by kernel_rfl)) (by decide) (fun K hK => ?_)
                                    refine goes_ Tryd.func45 (by kernel_rfl) rfl #[.int .i64 ((rd_T49 ((rd_T53 l0_2 x4_1).f1) x5_2).f1)] (by rfl) rfl rfl (by (try simp only [List.map_toArray, List.map_cons, List.map_nil]); first | done | rfl | (simp only [List.length_drop, List.length_take]; rfl)) ?_
                                    with_reducible refine (colloquyref18_Text.calls ((rd_T49 ((rd_T53 l0_2 x4_1).f1) x5_2).f1) t259 _ A24.out).mono ?_
                                    rintro e w' ⟨rfl, ⟨nd, rfl⟩⟩
                                    refine ⟨_, rfl, ?_⟩
                                    refine hK.out _ _ ⟨(blk_cell BK258.out 0).trans rfl, (blk_cell BK258.out 1).trans rfl⟩ (fun hHeld => ?_)
                                    clear hK K
                                    refine norm_ (a' := ?_) ?_ ?_
                                    rotate_left
                                    · show Act.put _ (some 58) _ = _
                                      simp only [Act.put, List.setIfInBounds_toArray, List.set_cons_zero, List.set_cons_succ, i64_w, i32_w]
                                      rfl
                                    refine pure_ (i := 4) (N := some 59) (v := ?_) (a' := ?_) #[true, true, true, true, true, true, true, false, false, false, false, false] rfl rfl (any_of HT_.out (by kernel_rfl)) (fun _ _ _ h => h) (Or.inl ⟨by rfl, ?_⟩) ?_ ?_
                                    rotate_left
                                    · intro w'
                                      go_simp
                                      with_reducible rfl
                                    rotate_left
                                    · simp only [Act.put, List.setIfInBounds_toArray, List.set_cons_zero, List.set_cons_succ, i64_w, i32_w]
                                      rfl
                                    refine one_ (i := 7) (N := some 62) #[true, true, true, true, true, true, true, true, false, false, false, false] rfl rfl (one_of HT_.out (by kernel_rfl)) (by decide) (fun K hK => ?_)
                                    refine goes_ Tryd.func44 (by kernel_rfl) rfl #[.string ((rd_T49 ((rd_T53 l0_2 x4_1).f1) x5_2).f0)] (by rfl) rfl rfl (by (try simp only [List.map_toArray, List.map_cons, List.map_nil]); first | done | rfl | (simp only [List.length_drop, List.length_take]; rfl)) ?_
                                    with_reducible refine (colloquyref02_Write.calls k2 ((rd_T49 ((rd_T53 l0_2 x4_1).f1) x5_2).f0) t260 _ A26.out).mono ?_
                                    rintro e w35 ⟨rfl, hb⟩
                                    refine ⟨_, rfl, ?_⟩
                                    have n0_ := Aside0.mk (Kd.R_below (by (with_reducible repeat (first | apply Kd.R_alloc | apply Kd.R_drewN | apply Kd.R_drew)); exact HO_3.out) hb)
                                    have n1_ := Aside0.mk (blk_below (g := gb244) (o := .cells #[.string a0_0, .string a0_1, .slice (some ad250) l0_2.length c0_2] 29 (0, 0)) (by (with_reducible repeat (first | refine blk_drewN ?_ _ | refine blk_drew ?_ | refine blk_alloc ?_ _)); exact BK244.out) hb)
                                    have n2_ := Aside0.mk (blk_below (g := gb258) (o := .cells #[.string ((rd_T49 ((rd_T53 l0_2 x4_1).f1) x5_2).f0), .int .i64 ((rd_T49 ((rd_T53 l0_2 x4_1).f1) x5_2).f1)] 49 (0, 0)) (by (with_reducible repeat (first | refine blk_drewN ?_ _ | refine blk_drew ?_ | refine blk_alloc ?_ _)); exact BK258.out) hb)
                                    have n3_ := Aside0.mk (below_step (by repeat (first | (with_reducible first | exact HB.out | apply below_alloc | apply pw_below_drewN | apply below_drew1 | refine below_set ?_ GE244.out | refine below_set ?_ GE258.out) | exact HB.out)) hb)
                                    clear HO_3
                                    clear BK244
                                    clear BK258
                                    clear HB
                                    have HO_3 := n0_
                                    have BK244 := n1_
                                    have BK258 := n2_
                                    have HB := n3_
                                    clear n0_ n1_ n2_ n3_
                                    (try clear hb)
                                    (try clear hb2)
                                    (try clear hk)
                                    (try clear hi)
                                    refine hK.out _ _ ⟨(blk_cell BK258.out 0).trans rfl, (blk_cell BK258.out 1).trans rfl⟩ (fun hHeld => ?_)
                                    clear hK K
                                    refine norm_ (a' := ?_) ?_ ?_
                                    rotate_left
                                    · show Act.put _ (some 62) _ = _
                                      simp only [Act.put, List.setIfInBounds_toArray, List.set_cons_zero, List.set_cons_succ, i64_w, i32_w]
                                      rfl
                                    refine pure_ (i := 8) (N := some 63) (v := ?_) (a' := ?_) #[true, true, true, true, true, true, true, true, true, false, false, false] rfl rfl (any_of HT_.out (by kernel_rfl)) (fun _ _ _ h => h) (Or.inl ⟨by rfl, ?_⟩) ?_ ?_
                                    rotate_left
                                    · intro w'
                                      go_simp
                                      with_reducible rfl
                                    rotate_left
                                    · simp only [Act.put, List.setIfInBounds_toArray, List.set_cons_zero, List.set_cons_succ, i64_w, i32_w]
                                      rfl
                                    refine one_ (i := 9) (N := some 64) #[true, true, true, true, true, true, true, true, true, true, false, false] rfl rfl (one_of HT_.out (by kernel_rfl)) (by decide) (fun K hK => ?_)
                                    refine value_ (w1 := ?_) (v := ?_) (by rfl) rfl ?_ ?_
                                    rotate_left 2
                                    · go_simp
                                      constructor
                                      · rfl
                                      · rfl
                                    refine hK.out _ _ ⟨(blk_cell (blk_alloc BK258.out _) 0).trans rfl, (blk_cell (blk_alloc BK258.out _) 1).trans rfl⟩ (fun hHeld => ?_)
                                    clear hK K
                                    refine norm_ (a' := ?_) ?_ ?_
                                    rotate_left
                                    · show Act.put _ (some 64) _ = _
                                      simp only [Act.put, List.setIfInBounds_toArray, List.set_cons_zero, List.set_cons_succ, i64_w, i32_w]
                                      rfl
                                    refine one_ (i := 10) (N := some 65) #[true, true, true, true, true, true, true, true, true, true, true, false] rfl rfl (one_of HT_.out (by kernel_rfl)) (by decide) (fun K hK => ?_)
                                    refine Kd.R_append_step Kd.string (w0 := w) w.heap.size (by rfl) (.tmp 55) (.tmp 64) 58 9 (.string ⟨#[]⟩) 16 rfl Tryd.underlying58 info9 rfl (by decide) (by omega) u3 x3_2 ((t259 ++ (⟨#[58, 32]⟩ : ByteArray)) ++ t260) [.string ((t259 ++ (⟨#[58, 32]⟩ : ByteArray)) ++ t260)] (fun _ => True) (fun _ => False) rfl rfl ?aP (fun _ hk => hk.elim) ?aF ?aO ?aB ?aS ?aL ?_
                                    (case aP => exact rfl)
                                    (case aB => exact (by repeat (first | (with_reducible first | exact HB.out | apply below_alloc | apply pw_below_drewN | apply below_drew1 | refine below_set ?_ GE244.out | refine below_set ?_ GE258.out) | exact HB.out)))
                                    (case aF => exact (fun _ _ => trivial))
                                    (case aO => exact (by (with_reducible repeat (first | apply Kd.R_alloc | apply Kd.R_drewN | apply Kd.R_drew)); exact HO_3.out))
                                    (case aS => exact (below_size (by repeat (first | (with_reducible first | exact HB.out | apply below_alloc | apply pw_below_drewN | apply below_drew1 | refine below_set ?_ GE244.out | refine below_set ?_ GE258.out) | exact HB.out))))
                                    (case aL => have := LMc28.out; omega)
                                    intro v262 w36 ho hb hg hat
                                    rw [← Ny261.out] at ho
                                    have n0_ := Aside0.mk (blk_grown (g := gb244) (o := .cells #[.string a0_0, .string a0_1, .slice (some ad250) l0_2.length c0_2] 29 (0, 0)) (by (with_reducible repeat (first | refine blk_drewN ?_ _ | refine blk_drew ?_ | refine blk_alloc ?_ _)); exact BK244.out) hg (Kd.R_ne HO_3.out BK244.out (by decide)))
                                    have n1_ := Aside0.mk (blk_grown (g := gb258) (o := .cells #[.string ((rd_T49 ((rd_T53 l0_2 x4_1).f1) x5_2).f0), .int .i64 ((rd_T49 ((rd_T53 l0_2 x4_1).f1) x5_2).f1)] 49 (0, 0)) (by (with_reducible repeat (first | refine blk_drewN ?_ _ | refine blk_drew ?_ | refine blk_alloc ?_ _)); exact BK258.out) hg (Kd.R_ne HO_3.out BK258.out (by decide)))
                                    have n2_ := Aside0.mk (hb)
                                    have n3_ := Aside0.mk (ho)
                                    clear BK244
                                    clear BK258
                                    clear HB
                                    clear HO_3
                                    have BK244 := n0_
                                    have BK258 := n1_
                                    have HB := n2_
                                    have HO263 := n3_
                                    clear n0_ n1_ n2_ n3_
                                    clear ho hb hg hat
                                    refine hK.out _ _ ⟨(blk_cell BK258.out 0).trans rfl, (blk_cell BK258.out 1).trans rfl⟩ (fun hHeld => ?_)
                                    clear hK K
                                    refine norm_ (a' := ?_) ?_ ?_
                                    rotate_left
                                    · show Act.put _ (some 65) _ = _
                                      simp only [Act.put, List.setIfInBounds_toArray, List.set_cons_zero, List.set_cons_succ, i64_w, i32_w]
                                      rfl
                                    refine pure_ (i := 11) (N := some 3) (v := ?_) (a' := ?_) #[true, true, true, true, true, true, true, true, true, true, true, true] rfl rfl (any_of HT_.out (by kernel_rfl)) (fun _ _ _ h => h) (Or.inl ⟨by rfl, ?_⟩) ?_ ?_
                                    rotate_left
                                    · intro w'
                                      go_simp
                                      with_reducible rfl
                                    rotate_left
                                    · simp only [Act.put, List.setIfInBounds_toArray, List.set_cons_zero, List.set_cons_succ, i64_w, i32_w]
                                      rfl
                                    refine done_ (done_of HT_.out (by kernel_rfl)) ?_
                                    try go_wp2
                                    go_roundg k2
                                    case measure => have := HK1.out; have := HK2.out; omega
                                    case rel => exact ⟨(y261), (wrap64 (x5_2 + 1)), (by first | rfl | (simp; done) | (simp [*]; done)), H', ⟨by have := HK1.out; have := HK2.out; omega⟩, ⟨by (with_reducible repeat (first | apply Kd.R_alloc | apply Kd.R_drewN | apply Kd.R_drew)); exact HO263.out⟩, ⟨by (with_reducible repeat (first | refine blk_drewN ?_ _ | refine blk_drew ?_ | refine blk_alloc ?_ _)); exact BK244.out⟩, ⟨by repeat (first | (with_reducible first | exact HB.out | apply below_alloc | apply pw_below_drewN | apply below_drew1 | refine below_set ?_ GE244.out | refine below_set ?_ GE258.out) | exact HB.out)⟩⟩
                                  · rw [if_neg c28] at H
                                    exact absurd H (by simp)
                                · rw [if_neg c27] at H
                                  exact absurd H (by simp)
                              · rw [if_neg c25] at H
                                exact absurd H (by simp)
                            · rw [if_neg c23] at H
                              exact absurd H (by simp)
                          · rw [if_neg c22] at H
                            have c22b0 : decide (x5_2 < (((rd_T53 l0_2 x4_1).f1).length : Int)) = false := decide_eq_false c22
                            clear c22
                            have H' := Aside0.mk H
                            clear H
                            have hcz37_0 : wr.cell? ⟨gb244, 0, none⟩ = some (.string a0_0) := (blk_cell BK244.out 0).trans rfl
                            have hcz37_1 : wr.cell? ⟨gb244, 1, none⟩ = some (.string a0_1) := (blk_cell BK244.out 1).trans rfl
                            have hcz37_2 : wr.cell? ⟨gb244, 2, none⟩ = some (.slice (some ad250) l0_2.length c0_2) := (blk_cell BK244.out 2).trans rfl
                            have hfz37_0 := blk_frozen BK244.out 0
                            have hfz37_1 := blk_frozen BK244.out 1
                            have hfz37_2 := blk_frozen BK244.out 2
                            have p255 : 0 ≤ (x4_1 : Int) := of_decide_eq_true (by first | (with_reducible assumption) | assumption)
                            have q255 : x4_1 < (l0_2.length : Int) := of_decide_eq_true (by first | (with_reducible assumption) | assumption)
                            obtain ⟨ad255, A255_1, c255_1, e255, hx255_0, hx255_1, hl255_1, hi255_1⟩ := at_T53 HR0_2.out x4_1 p255 q255
                            obtain rfl : ad250 = ad255 := (by injection e255)
                            replace hx255_0 := (HB.out.cell (World.block_lt_of_cell? w _ hx255_0)).trans hx255_0
                            replace hx255_1 := (HB.out.cell (World.block_lt_of_cell? w _ hx255_1)).trans hx255_1
                            have HR255_1 := Aside0.mk hi255_1
                            have HC255_1 := Aside0.mk hl255_1
                            clear hi255_1 hl255_1
                            replace p255 := eq_true p255
                            replace q255 := eq_true q255
                            go_wp2
                            go_roundg k2
                            case measure => have := HK1.out; have := HK2.out; omega
                            case rel => exact ⟨(x3_2), (wrap64 (x4_1 + 1)), (by first | rfl | (simp; done) | (simp [*]; done)), H', ⟨by have := HK1.out; have := HK2.out; omega⟩, ⟨by (with_reducible repeat (first | apply Kd.R_alloc | apply Kd.R_drewN | apply Kd.R_drew)); exact HO_3.out⟩, ⟨by (with_reducible repeat (first | refine blk_drewN ?_ _ | refine blk_drew ?_ | refine blk_alloc ?_ _)); exact BK244.out⟩, ⟨by repeat (first | (with_reducible first | exact HB.out | apply below_alloc | apply pw_below_drewN | apply below_drew1 | refine below_set ?_ GE244.out) | exact HB.out)⟩⟩
                        · rw [if_neg c21] at H
                          exact absurd H (by simp)
                      · rw [if_neg c20] at H
                        exact absurd H (by simp)
                · rw [if_neg c16] at H
                  exact absurd H (by simp)
              · rw [if_neg c15] at H
                exact absurd H (by simp)
            · rw [if_neg c13] at H
              exact absurd H (by simp)
          · rw [if_neg c12] at H
            have c12b0 : decide (x4_1 < (l0_2.length : Int)) = false := decide_eq_false c12
            clear c12
            have H' := Aside0.mk H
            clear H
            have hcz38_0 : wr.cell? ⟨gb244, 0, none⟩ = some (.string a0_0) := (blk_cell BK244.out 0).trans rfl
            have hcz38_1 : wr.cell? ⟨gb244, 1, none⟩ = some (.string a0_1) := (blk_cell BK244.out 1).trans rfl
            have hcz38_2 : wr.cell? ⟨gb244, 2, none⟩ = some (.slice A0_2 l0_2.length c0_2) := (blk_cell BK244.out 2).trans rfl
            have hfz38_0 := blk_frozen BK244.out 0
            have hfz38_1 := blk_frozen BK244.out 1
            have hfz38_2 := blk_frozen BK244.out 2
            go_wp2
            go_loopg [3, 7] k1 (fun kq v3 v7 w' => ∃ (x3_2 : List ByteArray) (x7_2 : Int), v7 = .int .i64 x7_2 ∧ Aside0 (colloquyref20_Lines.l2 kq x3_2 x7_2 a0_0 a0_1 l0_2 = some r) ∧ Aside0 (kq ≤ k1) ∧ Aside0 (Kd.R Kd.string 9 w' w.heap.size (fun _ => True) v3 x3_2) ∧ Aside0 (w'.heap[gb244]? = some (.cells #[.string a0_0, .string a0_1, (.slice A0_2 l0_2.length c0_2)] 29 (0, 0))) ∧ Aside0 (Below w.heap.size w w'))
            case atStart => exact ⟨(x3_1), (1), (by first | rfl | (simp; done) | (simp [*]; done)), H', ⟨Nat.le_refl _⟩, ⟨by (with_reducible repeat (first | apply Kd.R_alloc | apply Kd.R_drewN | apply Kd.R_drew)); exact HO_3.out⟩, ⟨by (with_reducible repeat (first | refine blk_drewN ?_ _ | refine blk_drew ?_ | refine blk_alloc ?_ _)); exact BK244.out⟩, ⟨by repeat (first | (with_reducible first | exact HB.out | apply below_alloc | apply pw_below_drewN | apply below_drew1 | refine below_set ?_ GE244.out) | exact HB.out)⟩⟩
            case round =>
              clear H'
              try clear c1
              try clear c2
              try clear p2
              try clear q2
              try clear hx2
              try clear c3
              try clear c3b0
              try clear c3b1
              try clear c3b2
              try clear c4
              try clear c5
              try clear c5b0
              try clear c5b1
              try clear c5b2
              try clear p6
              try clear c12
              try clear c12b0
              try clear c13
              try clear c13b0
              try clear c15
              try clear c15b0
              try clear c15b1
              try clear c15b2
              try clear c16
              try clear c20
              try clear c20b0
              try clear c21
              try clear c21b0
              try clear c22
              try clear c22b0
              try clear c23
              try clear c23b0
              try clear c25
              try clear c25b0
              try clear c25b1
              try clear c25b2
              try clear p25
              try clear q25
              try clear hx25
              try clear c27
              try clear c27b0
              try clear c27b1
              try clear c27b2
              try clear c28
              try clear c29
              try clear c31
              try clear hcz17_0
              try clear hcz17_1
              try clear hcz17_2
              try clear hcz29_0
              try clear hcz29_1
              try clear hcz29_2
              try clear hcz32_0
              try clear hcz32_1
              try clear hcz37_0
              try clear hcz37_1
              try clear hcz37_2
              try clear hcz38_0
              try clear hcz38_1
              try clear hcz38_2
              try clear hfz17_0
              try clear hfz17_1
              try clear hfz17_2
              try clear hfz29_0
              try clear hfz29_1
              try clear hfz29_2
              try clear hfz32_0
              try clear hfz32_1
              try clear hfz37_0
              try clear hfz37_1
              try clear hfz37_2
              try clear hfz38_0
              try clear hfz38_1
              try clear hfz38_2
              try clear hx250_0
              try clear hx250_1
              try clear hx255_0
              try clear hx255_1
              try clear hx256_0
              try clear hx256_1
              try clear hx257_0
              try clear hx257_1
              try clear p2
              try clear p250
              try clear p255
              try clear p256
              try clear p257
              try clear q2
              try clear q250
              try clear q255
              try clear q256
              try clear q257
              obtain ⟨x3_2, x7_2, rfl, HA, HK2, HO_3, BK244, HB⟩ := hrel
              cases gk with
              | zero => exact absurd HA.out (by simp [colloquyref20_Lines.l2])
              | succ k2 =>
                have H := HA.out
                clear HA
                simp only [colloquyref20_Lines.l2] at H
                by_cases c39 : x7_2 ≤ 7
                · rw [if_pos c39] at H
                  have c39b0 : decide (x7_2 ≤ 7) = true := decide_eq_true c39
                  clear c39
                  replace H := Option.bind_eq_some_iff.mp H
                  obtain ⟨t267, A400, H⟩ := H
                  replace H : (if t267 > 0 then ((colloquyref18_Text.f x7_2).bind fun t268 => (if 2 + t268.size ≤ 9223372036854775807 then (if ((⟨#[35, 32]⟩ : ByteArray) ++ t268).size + 1 ≤ 9223372036854775807 then ((colloquyref20_Total.f k2 a0_0 a0_1 l0_2 x7_2).bind fun t269 => ((colloquyref01_Decimal.f k2 t269).bind fun t270 => (if (((⟨#[35, 32]⟩ : ByteArray) ++ t268) ++ (⟨#[32]⟩ : ByteArray)).size + t270.size ≤ 9223372036854775807 then (if x3_2.length < 8796093022208 then (colloquyref20_Lines.l2 k2 (x3_2 ++ [(((⟨#[35, 32]⟩ : ByteArray) ++ t268) ++ (⟨#[32]⟩ : ByteArray)) ++ t270]) (wrap64 (x7_2 + 1)) a0_0 a0_1 l0_2) else (none)) else (none)))) else (none)) else (none))) else (colloquyref20_Lines.l2 k2 x3_2 (wrap64 (x7_2 + 1)) a0_0 a0_1 l0_2)) = some r := H
                  have A40 := Aside0.mk A400
                  clear A400
                  by_cases c41 : t267 > 0
                  · rw [if_pos c41] at H
                    have c41b0 : decide (0 < t267) = true := decide_eq_true c41
                    clear c41
                    replace H := Option.bind_eq_some_iff.mp H
                    obtain ⟨t268, A420, H⟩ := H
                    replace H : (if 2 + t268.size ≤ 9223372036854775807 then (if ((⟨#[35, 32]⟩ : ByteArray) ++ t268).size + 1 ≤ 9223372036854775807 then ((colloquyref20_Total.f k2 a0_0 a0_1 l0_2 x7_2).bind fun t269 => ((colloquyref01_Decimal.f k2 t269).bind fun t270 => (if (((⟨#[35, 32]⟩ : ByteArray) ++ t268) ++ (⟨#[32]⟩ : ByteArray)).size + t270.size ≤ 9223372036854775807 then (if x3_2.length < 8796093022208 then (colloquyref20_Lines.l2 k2 (x3_2 ++ [(((⟨#[35, 32]⟩ : ByteArray) ++ t268) ++ (⟨#[32]⟩ : ByteArray)) ++ t270]) (wrap64 (x7_2 + 1)) a0_0 a0_1 l0_2) else (none)) else (none)))) else (none)) else (none)) = some r := H
                    have A42 := Aside0.mk A420
                    clear A420
                    by_cases c43 : 2 + t268.size ≤ 9223372036854775807
                    · rw [if_pos c43] at H
                      have c43b0 := eq_true c43
                      have c43b1 : decide (2 + t268.size ≤ 9223372036854775807) = true := decide_eq_true c43
                      try have c43b2 : (9223372036854775807 < 2 + t268.size) = False := eq_false (Nat.not_lt.2 c43)
                      try (have c43b3 := c43; simp only [ByteArray.size_append] at c43b3; replace c43b3 := eq_false (Nat.not_lt.2 c43b3))
                      by_cases c44 : ((⟨#[35, 32]⟩ : ByteArray) ++ t268).size + 1 ≤ 9223372036854775807
                      · rw [if_pos c44] at H
                        have c44b0 := eq_true c44
                        have c44b1 : decide (((⟨#[35, 32]⟩ : ByteArray) ++ t268).size + 1 ≤ 9223372036854775807) = true := decide_eq_true c44
                        try have c44b2 : (9223372036854775807 < ((⟨#[35, 32]⟩ : ByteArray) ++ t268).size + 1) = False := eq_false (Nat.not_lt.2 c44)
                        try (have c44b3 := c44; simp only [ByteArray.size_append, show (⟨#[35, 32]⟩ : ByteArray).size = 2 from rfl] at c44b3; replace c44b3 := eq_false (Nat.not_lt.2 c44b3))
                        replace H := Option.bind_eq_some_iff.mp H
                        obtain ⟨t269, A450, H⟩ := H
                        replace H : ((colloquyref01_Decimal.f k2 t269).bind fun t270 => (if (((⟨#[35, 32]⟩ : ByteArray) ++ t268) ++ (⟨#[32]⟩ : ByteArray)).size + t270.size ≤ 9223372036854775807 then (if x3_2.length < 8796093022208 then (colloquyref20_Lines.l2 k2 (x3_2 ++ [(((⟨#[35, 32]⟩ : ByteArray) ++ t268) ++ (⟨#[32]⟩ : ByteArray)) ++ t270]) (wrap64 (x7_2 + 1)) a0_0 a0_1 l0_2) else (none)) else (none))) = some r := H
                        have A45 := Aside0.mk A450
                        clear A450
                        obtain rfl : t269 = t267 := Option.some.inj (A45.out.symm.trans A40.out)
                        replace H := Option.bind_eq_some_iff.mp H
                        obtain ⟨t270, A460, H⟩ := H
                        replace H : (if (((⟨#[35, 32]⟩ : ByteArray) ++ t268) ++ (⟨#[32]⟩ : ByteArray)).size + t270.size ≤ 9223372036854775807 then (if x3_2.length < 8796093022208 then (colloquyref20_Lines.l2 k2 (x3_2 ++ [(((⟨#[35, 32]⟩ : ByteArray) ++ t268) ++ (⟨#[32]⟩ : ByteArray)) ++ t270]) (wrap64 (x7_2 + 1)) a0_0 a0_1 l0_2) else (none)) else (none)) = some r := H
                        have A46 := Aside0.mk A460
                        clear A460
                        by_cases c47 : (((⟨#[35, 32]⟩ : ByteArray) ++ t268) ++ (⟨#[32]⟩ : ByteArray)).size + t270.size ≤ 9223372036854775807
                        · rw [if_pos c47] at H
                          have c47b0 := eq_true c47
                          have c47b1 : decide ((((⟨#[35, 32]⟩ : ByteArray) ++ t268) ++ (⟨#[32]⟩ : ByteArray)).size + t270.size ≤ 9223372036854775807) = true := decide_eq_true c47
                          try have c47b2 : (9223372036854775807 < (((⟨#[35, 32]⟩ : ByteArray) ++ t268) ++ (⟨#[32]⟩ : ByteArray)).size + t270.size) = False := eq_false (Nat.not_lt.2 c47)
                          try (have c47b3 := c47; simp only [ByteArray.size_append, show (⟨#[32]⟩ : ByteArray).size = 1 from rfl, show (⟨#[35, 32]⟩ : ByteArray).size = 2 from rfl] at c47b3; replace c47b3 := eq_false (Nat.not_lt.2 c47b3))
                          by_cases c48 : x3_2.length < 8796093022208
                          · rw [if_pos c48] at H
                            have LMc48 := Aside0.mk c48
                            clear c48
                            obtain ⟨y271, hy271⟩ : ∃ y_ : List ByteArray, y_ = (x3_2 ++ [(((⟨#[35, 32]⟩ : ByteArray) ++ t268) ++ (⟨#[32]⟩ : ByteArray)) ++ t270]) := ⟨_, rfl⟩
                            replace H : (colloquyref20_Lines.l2 k2 y271 (wrap64 (x7_2 + 1)) a0_0 a0_1 l0_2) = some r := by first | (rw [hy271]; with_reducible exact H) | (have H2_ := (Option.bind_some _ _).symm.trans H; rw [hy271]; with_reducible exact H2_) | (have H2_ := (Option.bind_some _ _).symm.trans H; with_reducible exact H2_) | with_reducible exact H | (rw [hy271]; exact H) | exact H
                            have Ny271 := Aside0.mk hy271
                            clear hy271
                            have H' := Aside0.mk H
                            clear H
                            have hcz49_0 : wr.cell? ⟨gb244, 0, none⟩ = some (.string a0_0) := (blk_cell BK244.out 0).trans rfl
                            have hcz49_1 : wr.cell? ⟨gb244, 1, none⟩ = some (.string a0_1) := (blk_cell BK244.out 1).trans rfl
                            have hcz49_2 : wr.cell? ⟨gb244, 2, none⟩ = some (.slice A0_2 l0_2.length c0_2) := (blk_cell BK244.out 2).trans rfl
                            have hfz49_0 := blk_frozen BK244.out 0
                            have hfz49_1 := blk_frozen BK244.out 1
                            have hfz49_2 := blk_frozen BK244.out 2
                            try go_wp2_with (first | ((with_reducible refine gate_callee (f := 13) rfl ?_); refine goesL_ (some 72) rfl rfl Tryd.func13 (by kernel_rfl) rfl #[.agg #[.string a0_0, .string a0_1, .slice A0_2 l0_2.length c0_2], .int .i64 x7_2] rfl (by (try simp only [List.map_toArray, List.map_cons, List.map_nil]); first | done | rfl | (simp only [List.length_drop, List.length_take]; rfl)) ?_; (with_reducible refine (colloquyref20_Total.calls k2 a0_0 a0_1 _ _ l0_2 x7_2 t269 _ ?side1 ?side2 A40.out).mono ?_); (case side1 => repeat (first | exact (Kd.C_below HR0_2.out HB.out) | (with_reducible refine Kd.C_alloc ?_ _) | (with_reducible refine Kd.C_drewN ?_ _) | (with_reducible refine Kd.C_drew ?_))); (case side2 => exact HC0_2.out); rintro e w50 ⟨rfl, hb⟩; refine ⟨_, rfl, ?_⟩; have n0_ := Aside0.mk (Kd.R_below (by (with_reducible repeat (first | apply Kd.R_alloc | apply Kd.R_drewN | apply Kd.R_drew)); exact HO_3.out) hb); have n1_ := Aside0.mk (blk_below (g := gb244) (o := .cells #[.string a0_0, .string a0_1, .slice A0_2 l0_2.length c0_2] 29 (0, 0)) (by (with_reducible repeat (first | refine blk_drewN ?_ _ | refine blk_drew ?_ | refine blk_alloc ?_ _)); exact BK244.out) hb); have n2_ := Aside0.mk (below_step (by repeat (first | (with_reducible first | exact HB.out | apply below_alloc | apply pw_below_drewN | apply below_drew1 | refine below_set ?_ GE244.out) | exact HB.out)) hb); clear HO_3; clear BK244; clear HB; have HO_3 := n0_; have BK244 := n1_; have HB := n2_; clear n0_ n1_ n2_; (try clear hb); (try clear hb2); (try clear hk); (try clear hi)))
                            have n0_ := Aside0.mk (Kd.R_drew HO_3.out)
                            have n1_ := Aside0.mk (blk_drew BK244.out)
                            have n2_ := Aside0.mk (below_drew1 HB.out)
                            clear HO_3
                            clear BK244
                            clear HB
                            have HO_3 := n0_
                            have BK244 := n1_
                            have HB := n2_
                            clear n0_ n1_ n2_
                            refine start_ (n := 13) (S := fun w' => w'.cell? ⟨gb244, 0, none⟩ = some (.string a0_0) ∧ w'.cell? ⟨gb244, 1, none⟩ = some (.string a0_1) ∧ w'.cell? ⟨gb244, 2, none⟩ = some (.slice A0_2 l0_2.length c0_2)) (ds := []) #[false, false, false, false, false, false, false, false, false, false, false, false, false] (by kernel_rfl) rfl rfl ⟨(blk_cell BK244.out 0).trans rfl, (blk_cell BK244.out 1).trans rfl, (blk_cell BK244.out 2).trans rfl⟩ (fun hHeld => ?_); refine with_tabW colloquyref20_Lines.tab15 colloquyref20_Lines.bits15 (fun HT_ HW_ => ?_)
                            generalize w50.drew = w51 at HO_3 BK244 HB hHeld ⊢
                            refine pure_ (i := 0) (N := some 74) (v := ?_) (a' := ?_) #[true, false, false, false, false, false, false, false, false, false, false, false, false] rfl rfl (any_of HT_.out (by kernel_rfl)) (fun _ _ _ h => h) (Or.inl ⟨by rfl, ?_⟩) ?_ ?_
                            rotate_left
                            · intro w'
                              go_simp
                              with_reducible rfl
                            rotate_left
                            · simp only [Act.put, List.setIfInBounds_toArray, List.set_cons_zero, List.set_cons_succ, i64_w, i32_w]
                              rfl
                            refine pure_ (i := 1) (N := some 75) (v := ?_) (a' := ?_) #[true, true, false, false, false, false, false, false, false, false, false, false, false] rfl rfl (any_of HT_.out (by kernel_rfl)) (fun _ _ _ h => h) (Or.inl ⟨by rfl, ?_⟩) ?_ ?_
                            rotate_left
                            · intro w'
                              go_simp
                              with_reducible rfl
                            rotate_left
                            · simp only [Act.put, List.setIfInBounds_toArray, List.set_cons_zero, List.set_cons_succ, i64_w, i32_w]
                              rfl
                            refine pure_ (i := 6) (N := some 80) (v := ?_) (a' := ?_) #[true, true, false, false, false, false, true, false, false, false, false, false, false] rfl rfl (any_of HT_.out (by kernel_rfl)) (fun _ _ _ h => h) (Or.inl ⟨by rfl, ?_⟩) ?_ ?_
                            rotate_left
                            · intro w'
                              go_simp
                              with_reducible rfl
                            rotate_left
                            · simp only [Act.put, List.setIfInBounds_toArray, List.set_cons_zero, List.set_cons_succ, i64_w, i32_w]
                              rfl
                            refine take_ (i := 5) (N := some 79) (v := ?_) (a' := ?_) #[true, true, false, false, false, true, true, false, false, false, false, false, false] rfl rfl (take_ofW HT_.out HW_.out (by kernel_rfl)) (fun _ _ _ h => h) (Or.inl ⟨by rfl, ?_⟩) hHeld ?_ ?_
                            rotate_left
                            · rintro w' ⟨s0, s1, s2⟩
                              go_simp
                              with_reducible rfl
                            rotate_left
                            · simp only [Act.put, List.setIfInBounds_toArray, List.set_cons_zero, List.set_cons_succ, i64_w, i32_w]
                              rfl
                            refine one_ (i := 2) (N := some 76) #[true, true, true, false, false, true, true, false, false, false, false, false, false] rfl rfl (one_of HT_.out (by kernel_rfl)) (by decide) (fun K hK => ?_)
                            refine goes_ Tryd.func45 (by kernel_rfl) rfl #[.int .i64 x7_2] (by rfl) rfl rfl (by (try simp only [List.map_toArray, List.map_cons, List.map_nil]); first | done | rfl | (simp only [List.length_drop, List.length_take]; rfl)) ?_
                            with_reducible refine (colloquyref18_Text.calls x7_2 t268 _ A42.out).mono ?_
                            rintro e w' ⟨rfl, ⟨nd, rfl⟩⟩
                            refine ⟨_, rfl, ?_⟩
                            refine hK.out _ _ ⟨(blk_cell BK244.out 0).trans rfl, (blk_cell BK244.out 1).trans rfl, (blk_cell BK244.out 2).trans rfl⟩ (fun hHeld => ?_)
                            clear hK K
                            refine norm_ (a' := ?_) ?_ ?_
                            rotate_left
                            · show Act.put _ (some 76) _ = _
                              simp only [Act.put, List.setIfInBounds_toArray, List.set_cons_zero, List.set_cons_succ, i64_w, i32_w]
                              rfl
                            refine pure_ (i := 3) (N := some 77) (v := ?_) (a' := ?_) #[true, true, true, true, false, true, true, false, false, false, false, false, false] rfl rfl (any_of HT_.out (by kernel_rfl)) (fun _ _ _ h => h) (Or.inl ⟨by rfl, ?_⟩) ?_ ?_
                            rotate_left
                            · intro w'
                              go_simp
                              with_reducible rfl
                            rotate_left
                            · simp only [Act.put, List.setIfInBounds_toArray, List.set_cons_zero, List.set_cons_succ, i64_w, i32_w]
                              rfl
                            refine pure_ (i := 4) (N := some 78) (v := ?_) (a' := ?_) #[true, true, true, true, true, true, true, false, false, false, false, false, false] rfl rfl (any_of HT_.out (by kernel_rfl)) (fun _ _ _ h => h) (Or.inl ⟨by rfl, ?_⟩) ?_ ?_
                            rotate_left
                            · intro w'
                              go_simp
                              with_reducible rfl
                            rotate_left
                            · simp only [Act.put, List.setIfInBounds_toArray, List.set_cons_zero, List.set_cons_succ, i64_w, i32_w]
                              rfl
                            refine one_ (i := 7) (N := some 81) #[true, true, true, true, true, true, true, true, false, false, false, false, false] rfl rfl (one_of HT_.out (by kernel_rfl)) (by decide) (fun K hK => ?_)
                            refine goes_ Tryd.func13 (by kernel_rfl) rfl #[.agg #[.string a0_0, .string a0_1, .slice A0_2 l0_2.length c0_2], .int .i64 x7_2] (by rfl) rfl rfl (by (try simp only [List.map_toArray, List.map_cons, List.map_nil]); first | done | rfl | (simp only [List.length_drop, List.length_take]; rfl)) ?_
                            with_reducible refine (colloquyref20_Total.calls k2 a0_0 a0_1 _ _ l0_2 x7_2 t269 _ ?side1 ?side2 A45.out).mono ?_
                            (case side1 => repeat (first | exact (Kd.C_below HR0_2.out (by repeat (first | (with_reducible first | exact HB.out | apply below_alloc | apply pw_below_drewN | apply below_drew1 | refine below_set ?_ GE244.out) | exact HB.out))) | (with_reducible refine Kd.C_alloc ?_ _) | (with_reducible refine Kd.C_drewN ?_ _) | (with_reducible refine Kd.C_drew ?_)))
                            (case side2 => exact HC0_2.out)
                            rintro e w52 ⟨rfl, hb⟩
                            refine ⟨_, rfl, ?_⟩
                            have n0_ := Aside0.mk (Kd.R_below (by (with_reducible repeat (first | apply Kd.R_alloc | apply Kd.R_drewN | apply Kd.R_drew)); exact HO_3.out) hb)
                            have n1_ := Aside0.mk (blk_below (g := gb244) (o := .cells #[.string a0_0, .string a0_1, .slice A0_2 l0_2.length c0_2] 29 (0, 0)) (by (with_reducible repeat (first | refine blk_drewN ?_ _ | refine blk_drew ?_ | refine blk_alloc ?_ _)); exact BK244.out) hb)
                            have n2_ := Aside0.mk (below_step (by repeat (first | (with_reducible first | exact HB.out | apply below_alloc | apply pw_below_drewN | apply below_drew1 | refine below_set ?_ GE244.out) | exact HB.out)) hb)
                            clear HO_3
                            clear BK244
                            clear HB
                            have HO_3 := n0_
                            have BK244 := n1_
                            have HB := n2_
                            clear n0_ n1_ n2_
                            (try clear hb)
                            (try clear hb2)
                            (try clear hk)
                            (try clear hi)
                            refine hK.out _ _ ⟨(blk_cell BK244.out 0).trans rfl, (blk_cell BK244.out 1).trans rfl, (blk_cell BK244.out 2).trans rfl⟩ (fun hHeld => ?_)
                            clear hK K
                            refine norm_ (a' := ?_) ?_ ?_
                            rotate_left
                            · show Act.put _ (some 81) _ = _
                              simp only [Act.put, List.setIfInBounds_toArray, List.set_cons_zero, List.set_cons_succ, i64_w, i32_w]
                              rfl
                            refine one_ (i := 8) (N := some 82) #[true, true, true, true, true, true, true, true, true, false, false, false, false] rfl rfl (one_of HT_.out (by kernel_rfl)) (by decide) (fun K hK => ?_)
                            refine goes_ Tryd.func46 (by kernel_rfl) rfl #[.int .i64 t269] (by rfl) rfl rfl (by (try simp only [List.map_toArray, List.map_cons, List.map_nil]); first | done | rfl | (simp only [List.length_drop, List.length_take]; rfl)) ?_
                            with_reducible refine (colloquyref01_Decimal.calls k2 t269 t270 _ A46.out).mono ?_
                            rintro e w53 ⟨rfl, hb⟩
                            refine ⟨_, rfl, ?_⟩
                            have n0_ := Aside0.mk (Kd.R_below (by (with_reducible repeat (first | apply Kd.R_alloc | apply Kd.R_drewN | apply Kd.R_drew)); exact HO_3.out) hb)
                            have n1_ := Aside0.mk (blk_below (g := gb244) (o := .cells #[.string a0_0, .string a0_1, .slice A0_2 l0_2.length c0_2] 29 (0, 0)) (by (with_reducible repeat (first | refine blk_drewN ?_ _ | refine blk_drew ?_ | refine blk_alloc ?_ _)); exact BK244.out) hb)
                            have n2_ := Aside0.mk (below_step (by repeat (first | (with_reducible first | exact HB.out | apply below_alloc | apply pw_below_drewN | apply below_drew1 | refine below_set ?_ GE244.out) | exact HB.out)) hb)
                            clear HO_3
                            clear BK244
                            clear HB
                            have HO_3 := n0_
                            have BK244 := n1_
                            have HB := n2_
                            clear n0_ n1_ n2_
                            (try clear hb)
                            (try clear hb2)
                            (try clear hk)
                            (try clear hi)
                            refine hK.out _ _ ⟨(blk_cell BK244.out 0).trans rfl, (blk_cell BK244.out 1).trans rfl, (blk_cell BK244.out 2).trans rfl⟩ (fun hHeld => ?_)
                            clear hK K
                            refine norm_ (a' := ?_) ?_ ?_
                            rotate_left
                            · show Act.put _ (some 82) _ = _
                              simp only [Act.put, List.setIfInBounds_toArray, List.set_cons_zero, List.set_cons_succ, i64_w, i32_w]
                              rfl
                            refine pure_ (i := 9) (N := some 83) (v := ?_) (a' := ?_) #[true, true, true, true, true, true, true, true, true, true, false, false, false] rfl rfl (any_of HT_.out (by kernel_rfl)) (fun _ _ _ h => h) (Or.inl ⟨by rfl, ?_⟩) ?_ ?_
                            rotate_left
                            · intro w'
                              go_simp
                              with_reducible rfl
                            rotate_left
                            · simp only [Act.put, List.setIfInBounds_toArray, List.set_cons_zero, List.set_cons_succ, i64_w, i32_w]
                              rfl
                            refine one_ (i := 10) (N := some 84) #[true, true, true, true, true, true, true, true, true, true, true, false, false] rfl rfl (one_of HT_.out (by kernel_rfl)) (by decide) (fun K hK => ?_)
                            refine value_ (w1 := ?_) (v := ?_) (by rfl) rfl ?_ ?_
                            rotate_left 2
                            · go_simp
                              constructor
                              · rfl
                              · rfl
                            refine hK.out _ _ ⟨(blk_cell (blk_alloc BK244.out _) 0).trans rfl, (blk_cell (blk_alloc BK244.out _) 1).trans rfl, (blk_cell (blk_alloc BK244.out _) 2).trans rfl⟩ (fun hHeld => ?_)
                            clear hK K
                            refine norm_ (a' := ?_) ?_ ?_
                            rotate_left
                            · show Act.put _ (some 84) _ = _
                              simp only [Act.put, List.setIfInBounds_toArray, List.set_cons_zero, List.set_cons_succ, i64_w, i32_w]
                              rfl
                            refine one_ (i := 11) (N := some 85) #[true, true, true, true, true, true, true, true, true, true, true, true, false] rfl rfl (one_of HT_.out (by kernel_rfl)) (by decide) (fun K hK => ?_)
                            refine Kd.R_append_step Kd.string (w0 := w) w.heap.size (by rfl) (.tmp 74) (.tmp 84) 58 9 (.string ⟨#[]⟩) 16 rfl Tryd.underlying58 info9 rfl (by decide) (by omega) u3 x3_2 ((((⟨#[35, 32]⟩ : ByteArray) ++ t268) ++ (⟨#[32]⟩ : ByteArray)) ++ t270) [.string ((((⟨#[35, 32]⟩ : ByteArray) ++ t268) ++ (⟨#[32]⟩ : ByteArray)) ++ t270)] (fun _ => True) (fun _ => False) rfl rfl ?aP (fun _ hk => hk.elim) ?aF ?aO ?aB ?aS ?aL ?_
                            (case aP => exact rfl)
                            (case aB => exact (by repeat (first | (with_reducible first | exact HB.out | apply below_alloc | apply pw_below_drewN | apply below_drew1 | refine below_set ?_ GE244.out) | exact HB.out)))
                            (case aF => exact (fun _ _ => trivial))
                            (case aO => exact (by (with_reducible repeat (first | apply Kd.R_alloc | apply Kd.R_drewN | apply Kd.R_drew)); exact HO_3.out))
                            (case aS => exact (below_size (by repeat (first | (with_reducible first | exact HB.out | apply below_alloc | apply pw_below_drewN | apply below_drew1 | refine below_set ?_ GE244.out) | exact HB.out))))
                            (case aL => have := LMc48.out; omega)
                            intro v272 w54 ho hb hg hat
                            rw [← Ny271.out] at ho
                            have n0_ := Aside0.mk (blk_grown (g := gb244) (o := .cells #[.string a0_0, .string a0_1, .slice A0_2 l0_2.length c0_2] 29 (0, 0)) (by (with_reducible repeat (first | refine blk_drewN ?_ _ | refine blk_drew ?_ | refine blk_alloc ?_ _)); exact BK244.out) hg (Kd.R_ne HO_3.out BK244.out (by decide)))
                            have n1_ := Aside0.mk (hb)
                            have n2_ := Aside0.mk (ho)
                            clear BK244
                            clear HB
                            clear HO_3
                            have BK244 := n0_
                            have HB := n1_
                            have HO273 := n2_
                            clear n0_ n1_ n2_
                            clear ho hb hg hat
                            refine hK.out _ _ ⟨(blk_cell BK244.out 0).trans rfl, (blk_cell BK244.out 1).trans rfl, (blk_cell BK244.out 2).trans rfl⟩ (fun hHeld => ?_)
                            clear hK K
                            refine norm_ (a' := ?_) ?_ ?_
                            rotate_left
                            · show Act.put _ (some 85) _ = _
                              simp only [Act.put, List.setIfInBounds_toArray, List.set_cons_zero, List.set_cons_succ, i64_w, i32_w]
                              rfl
                            refine pure_ (i := 12) (N := some 3) (v := ?_) (a' := ?_) #[true, true, true, true, true, true, true, true, true, true, true, true, true] rfl rfl (any_of HT_.out (by kernel_rfl)) (fun _ _ _ h => h) (Or.inl ⟨by rfl, ?_⟩) ?_ ?_
                            rotate_left
                            · intro w'
                              go_simp
                              with_reducible rfl
                            rotate_left
                            · simp only [Act.put, List.setIfInBounds_toArray, List.set_cons_zero, List.set_cons_succ, i64_w, i32_w]
                              rfl
                            refine done_ (done_of HT_.out (by kernel_rfl)) ?_
                            try go_wp2
                            go_roundg k2
                            case measure => have := HK1.out; have := HK2.out; omega
                            case rel => exact ⟨(y271), (wrap64 (x7_2 + 1)), (by first | rfl | (simp; done) | (simp [*]; done)), H', ⟨by have := HK1.out; have := HK2.out; omega⟩, ⟨by (with_reducible repeat (first | apply Kd.R_alloc | apply Kd.R_drewN | apply Kd.R_drew)); exact HO273.out⟩, ⟨by (with_reducible repeat (first | refine blk_drewN ?_ _ | refine blk_drew ?_ | refine blk_alloc ?_ _)); exact BK244.out⟩, ⟨by repeat (first | (with_reducible first | exact HB.out | apply below_alloc | apply pw_below_drewN | apply below_drew1 | refine below_set ?_ GE244.out) | exact HB.out)⟩⟩
                          · rw [if_neg c48] at H
                            exact absurd H (by simp)
                        · rw [if_neg c47] at H
                          exact absurd H (by simp)
                      · rw [if_neg c44] at H
                        exact absurd H (by simp)
                    · rw [if_neg c43] at H
                      exact absurd H (by simp)
                  · rw [if_neg c41] at H
                    have c41b0 : decide (0 < t267) = false := decide_eq_false c41
                    clear c41
                    have H' := Aside0.mk H
                    clear H
                    have hcz55_0 : wr.cell? ⟨gb244, 0, none⟩ = some (.string a0_0) := (blk_cell BK244.out 0).trans rfl
                    have hcz55_1 : wr.cell? ⟨gb244, 1, none⟩ = some (.string a0_1) := (blk_cell BK244.out 1).trans rfl
                    have hcz55_2 : wr.cell? ⟨gb244, 2, none⟩ = some (.slice A0_2 l0_2.length c0_2) := (blk_cell BK244.out 2).trans rfl
                    have hfz55_0 := blk_frozen BK244.out 0
                    have hfz55_1 := blk_frozen BK244.out 1
                    have hfz55_2 := blk_frozen BK244.out 2
                    go_wp2_with (first | ((with_reducible refine gate_callee (f := 13) rfl ?_); refine goesL_ (some 72) rfl rfl Tryd.func13 (by kernel_rfl) rfl #[.agg #[.string a0_0, .string a0_1, .slice A0_2 l0_2.length c0_2], .int .i64 x7_2] rfl (by (try simp only [List.map_toArray, List.map_cons, List.map_nil]); first | done | rfl | (simp only [List.length_drop, List.length_take]; rfl)) ?_; (with_reducible refine (colloquyref20_Total.calls k2 a0_0 a0_1 _ _ l0_2 x7_2 t267 _ ?side1 ?side2 A40.out).mono ?_); (case side1 => repeat (first | exact (Kd.C_below HR0_2.out HB.out) | (with_reducible refine Kd.C_alloc ?_ _) | (with_reducible refine Kd.C_drewN ?_ _) | (with_reducible refine Kd.C_drew ?_))); (case side2 => exact HC0_2.out); rintro e w56 ⟨rfl, hb⟩; refine ⟨_, rfl, ?_⟩; have n0_ := Aside0.mk (Kd.R_below (by (with_reducible repeat (first | apply Kd.R_alloc | apply Kd.R_drewN | apply Kd.R_drew)); exact HO_3.out) hb); have n1_ := Aside0.mk (blk_below (g := gb244) (o := .cells #[.string a0_0, .string a0_1, .slice A0_2 l0_2.length c0_2] 29 (0, 0)) (by (with_reducible repeat (first | refine blk_drewN ?_ _ | refine blk_drew ?_ | refine blk_alloc ?_ _)); exact BK244.out) hb); have n2_ := Aside0.mk (below_step (by repeat (first | (with_reducible first | exact HB.out | apply below_alloc | apply pw_below_drewN | apply below_drew1 | refine below_set ?_ GE244.out) | exact HB.out)) hb); clear HO_3; clear BK244; clear HB; have HO_3 := n0_; have BK244 := n1_; have HB := n2_; clear n0_ n1_ n2_; (try clear hb); (try clear hb2); (try clear hk); (try clear hi)))
                    go_roundg k2
                    case measure => have := HK1.out; have := HK2.out; omega
                    case rel => exact ⟨(x3_2), (wrap64 (x7_2 + 1)), (by first | rfl | (simp; done) | (simp [*]; done)), H', ⟨by have := HK1.out; have := HK2.out; omega⟩, ⟨by (with_reducible repeat (first | apply Kd.R_alloc | apply Kd.R_drewN | apply Kd.R_drew)); exact HO_3.out⟩, ⟨by (with_reducible repeat (first | refine blk_drewN ?_ _ | refine blk_drew ?_ | refine blk_alloc ?_ _)); exact BK244.out⟩, ⟨by repeat (first | (with_reducible first | exact HB.out | apply below_alloc | apply pw_below_drewN | apply below_drew1 | refine below_set ?_ GE244.out) | exact HB.out)⟩⟩
                · rw [if_neg c39] at H
                  have c39b0 : decide (x7_2 ≤ 7) = false := decide_eq_false c39
                  clear c39
                  by_cases c57 : x3_2.length < 8796093022208
                  · rw [if_pos c57] at H
                    have LMc57 := Aside0.mk c57
                    clear c57
                    obtain ⟨y264, hy264⟩ : ∃ y_ : List ByteArray, y_ = (x3_2 ++ [(⟨#[35, 32, 101, 110, 100]⟩ : ByteArray)]) := ⟨_, rfl⟩
                    replace H : (some y264) = some r := by first | (rw [hy264]; with_reducible exact H) | (have H2_ := (Option.bind_some _ _).symm.trans H; rw [hy264]; with_reducible exact H2_) | (have H2_ := (Option.bind_some _ _).symm.trans H; with_reducible exact H2_) | with_reducible exact H | (rw [hy264]; exact H) | exact H
                    have Ny264 := Aside0.mk hy264
                    clear hy264
                    obtain rfl := Option.some.inj H
                    go_wp2_with (first | ((with_reducible refine gate_builtin (b := .append) (xs := #[.tmp 86, .tmp 87]) rfl ?_); at_builtin; refine Kd.R_append Kd.string (w0 := w) w.heap.size rfl (.tmp 86) (.tmp 87) 58 9 (.string ⟨#[]⟩) 16 rfl Tryd.underlying58 info9 rfl (by decide) (by omega) u3 x3_2 (⟨#[35, 32, 101, 110, 100]⟩ : ByteArray) [.string (⟨#[35, 32, 101, 110, 100]⟩ : ByteArray)] (fun _ => True) (fun _ => False) rfl rfl ?aP (fun _ hk => hk.elim) ?aF ?aO ?aB ?aS ?aL ?_; (case aP => exact rfl); (case aB => exact (by repeat (first | (with_reducible first | exact HB.out | apply below_alloc | apply pw_below_drewN | apply below_drew1 | refine below_set ?_ GE244.out) | exact HB.out))); (case aF => exact (fun _ _ => trivial)); (case aO => exact (by (with_reducible repeat (first | apply Kd.R_alloc | apply Kd.R_drewN | apply Kd.R_drew)); exact HO_3.out)); (case aS => exact (below_size (by repeat (first | (with_reducible first | exact HB.out | apply below_alloc | apply pw_below_drewN | apply below_drew1 | refine below_set ?_ GE244.out) | exact HB.out)))); (case aL => have := LMc57.out; omega); intro v265 w58 ho hb hg hat; rw [← Ny264.out] at ho; have n0_ := Aside0.mk (blk_grown (g := gb244) (o := .cells #[.string a0_0, .string a0_1, .slice A0_2 l0_2.length c0_2] 29 (0, 0)) (by (with_reducible repeat (first | refine blk_drewN ?_ _ | refine blk_drew ?_ | refine blk_alloc ?_ _)); exact BK244.out) hg (Kd.R_ne HO_3.out BK244.out (by decide))); have n1_ := Aside0.mk (hb); have n2_ := Aside0.mk (ho); clear BK244; clear HB; clear HO_3; have BK244 := n0_; have HB := n1_; have HO266 := n2_; clear n0_ n1_ n2_; clear ho hb hg hat))
                    go_ret
                    exact ⟨_, by first | rfl | (simp [errW_none, errW_some] <;> rfl) | (simp [*, errW_none, errW_some] <;> rfl), by (with_reducible repeat (first | apply Kd.R_alloc | apply Kd.R_drewN | apply Kd.R_drew)); exact HO266.out, by repeat (first | (with_reducible first | exact HB.out | apply below_alloc | apply pw_below_drewN | apply below_drew1 | refine below_set ?_ GE244.out) | exact HB.out)⟩
                  · rw [if_neg c57] at H
                    exact absurd H (by simp)
    · rw [if_neg c5] at H
      exact absurd H (by simp)
  · rw [if_neg c3] at H
    exact absurd H (by simp)
end
abbrev QQ := S53
abbrev KQ := k53
def cv (p : PP) : QQ := ⟨p.f0, p.f1⟩
theorem rdP (pre suf : List PP) (p : PP) : rd_T46 (pre ++ p :: suf) (pre.length : Int) = p := by
  unfold rd_T46
  simp
theorem rdQ (pre suf : List PP) (p : PP) : rd_T53 ((pre ++ p :: suf).map cv) (pre.length : Int) = cv p := by
  unfold rd_T53
  simp
theorem rdR (pre suf : List RS) (p : RS) : rd_T49 (pre ++ p :: suf) (pre.length : Int) = p := by
  unfold rd_T49
  simp
theorem wr1 {α : Type} (pre : List α) (x : α) (h : pre.length < 9223372036854775807) : wrap64 ((pre.length : Int) + 1) = ((pre ++ [x]).length : Int) := by
  rw [Pure.wrap_id (by omega) (by omega), List.length_append, List.length_singleton]
  omega
theorem app1 {α : Type} (pre suf : List α) (x : α) : pre ++ x :: suf = (pre ++ [x]) ++ suf := by simp
theorem ltA {α : Type} (pre suf : List α) (x : α) : (pre.length : Int) < ((pre ++ x :: suf).length : Int) := by simp; omega
theorem nltA {α : Type} (pre : List α) : ¬ (pre.length : Int) < ((pre ++ []).length : Int) := by simp
def resOK (r : RS) : Bool := Pure.rightB r.f0 && decide (1 ≤ r.f1 ∧ r.f1 ≤ 7)
def partOK (p : PP) : Bool := Pure.rightB p.f0 && p.f1.all resOK
def rightS (su bo : ByteArray) (ps : List PP) : Bool := Pure.rightB su && Pure.rightB bo && ps.all partOK
theorem vt_f (v : Int) : trace_Text.f v = some (vtB v) := rfl
theorem vt_nil (v : Int) : (vtB v).toList = [] ↔ ¬ (1 ≤ v ∧ v ≤ 7) := by
  by_cases h : v < 0 ∨ 7 < v
  · have e : vtB v = ⟨#[]⟩ := by unfold vtB trace_Text.f; rw [Option.getD_some, if_pos h]
    rw [e]
    constructor
    · intro _; omega
    · intro _; decide +kernel
  · have : v = 0 ∨ v = 1 ∨ v = 2 ∨ v = 3 ∨ v = 4 ∨ v = 5 ∨ v = 6 ∨ v = 7 := by omega
    rcases this with rfl | rfl | rfl | rfl | rfl | rfl | rfl | rfl <;> decide +kernel
theorem right_l1 (ps : List PP) (n i : Int) (hi : wrap64 (i + 1) = i + 1) (b : Bool) (hb : Ev (fun k => sum_Right.l0 k ps n (i + 1)) b) : ∀ (rsuf rpre : List RS), (rpre ++ rsuf).length ≤ 9223372036854775807 → Ev (fun k => sum_Right.l1 k ps n i (rpre ++ rsuf) ((rpre ++ rsuf).length : Int) (rpre.length : Int)) (rsuf.all resOK && b)
  | [], rpre, _ => Ev.step (f := fun k => sum_Right.l0 k ps n (i + 1)) (fun k => by rw [sum_Right.l1, if_neg (nltA _), hi]) hb
  | r :: rs, rpre, h => by
    have ih := right_l1 ps n i hi b hb rs (rpre ++ [r]) (by rw [← app1]; exact h)
    rw [← app1] at ih
    have hl : rpre.length < 9223372036854775807 := by simp at h; omega
    have e0 : ∀ k, sum_Right.l1 (k + 1) ps n i (rpre ++ r :: rs) ((rpre ++ r :: rs).length : Int) (rpre.length : Int) = if Pure.rightB r.f0 = true then (if (vtB r.f1).toList = [] then some false else sum_Right.l1 k ps n i (rpre ++ r :: rs) ((rpre ++ r :: rs).length : Int) ((rpre ++ [r]).length : Int)) else some false := fun k => by
      rw [sum_Right.l1, if_pos (ltA _ _ _), if_pos (by omega), if_pos (ltA _ _ _), rdR, Pure.right_eq, Option.bind_some, vt_f, Option.bind_some, wr1 rpre r hl]
    by_cases h1 : Pure.rightB r.f0 = true
    · by_cases h2 : (vtB r.f1).toList = []
      · have e : ((r :: rs).all resOK && b) = false := by rw [List.all_cons, resOK, decide_eq_false ((vt_nil _).1 h2), Bool.and_false, Bool.false_and, Bool.false_and]
        rw [e]
        exact Ev.step (f := fun _ => some false) (fun k => by rw [e0, if_pos h1, if_pos h2]) (Ev.now _)
      · have e : ((r :: rs).all resOK && b) = (rs.all resOK && b) := by rw [List.all_cons, resOK, h1, decide_eq_true (Decidable.not_not.1 fun h3 => h2 ((vt_nil _).2 h3)), Bool.true_and, Bool.true_and]
        rw [e]
        exact Ev.step (fun k => by rw [e0, if_pos h1, if_neg h2]) ih
    · have e : ((r :: rs).all resOK && b) = false := by rw [List.all_cons, resOK, Bool.eq_false_iff.2 h1, Bool.false_and, Bool.false_and, Bool.false_and]
      rw [e]
      exact Ev.step (f := fun _ => some false) (fun k => by rw [e0, if_neg h1]) (Ev.now _)
def szP (ps : List PP) : Prop := ps.length ≤ 3518437208883 ∧ ∀ p ∈ ps, p.f1.length ≤ 8796093022208
theorem right_l0 (ps : List PP) (hs : szP ps) : ∀ suf pre, pre ++ suf = ps → Ev (fun k => sum_Right.l0 k ps (ps.length : Int) (pre.length : Int)) (suf.all partOK)
  | [], pre, h => by
    subst h
    exact Ev.step (f := fun _ => some true) (fun k => by rw [sum_Right.l0, if_neg (nltA _)]) (Ev.now _)
  | p :: suf, pre, h => by
    have ih := right_l0 ps hs suf (pre ++ [p]) (by rw [← app1]; exact h)
    subst h
    have hl : pre.length < 9223372036854775807 := by have h_ := hs.1; simp at h_; omega
    have hw := wr1 pre p hl
    rw [show ((pre ++ [p]).length : Int) = (pre.length : Int) + 1 by simp] at ih hw
    have h1 := right_l1 (pre ++ p :: suf) ((pre ++ p :: suf).length : Int) (pre.length : Int) hw _ ih p.f1 [] (by have := hs.2 p (by simp); rw [List.nil_append]; omega)
    have e0 : ∀ k, sum_Right.l0 (k + 1) (pre ++ p :: suf) ((pre ++ p :: suf).length : Int) (pre.length : Int) = if Pure.rightB p.f0 = true then sum_Right.l1 k (pre ++ p :: suf) ((pre ++ p :: suf).length : Int) (pre.length : Int) p.f1 (p.f1.length : Int) 0 else some false := fun k => by
      rw [sum_Right.l0, if_pos (ltA _ _ _), if_pos (by omega), if_pos (ltA _ _ _), rdP, Pure.right_eq, Option.bind_some]
    by_cases hp : Pure.rightB p.f0 = true
    · have e : (p :: suf).all partOK = (p.f1.all resOK && suf.all partOK) := by rw [List.all_cons, partOK, hp, Bool.true_and]
      rw [e]
      exact Ev.step (fun k => by rw [e0, if_pos hp]; rfl) h1
    · have e : (p :: suf).all partOK = false := by rw [List.all_cons, partOK, Bool.eq_false_iff.2 hp, Bool.false_and, Bool.false_and]
      rw [e]
      exact Ev.step (f := fun _ => some false) (fun k => by rw [e0, if_neg hp]) (Ev.now _)
theorem right_ev (su bo : ByteArray) (ps : List PP) (hs : szP ps) : Ev (fun k => sum_Right.f k su bo ps) (rightS su bo ps) := by
  have h0 := right_l0 ps hs ps [] rfl
  unfold rightS
  by_cases h1 : Pure.rightB su = true
  · by_cases h2 : Pure.rightB bo = true
    · rw [h1, h2, Bool.true_and, Bool.true_and]
      refine Ev.congr (f := fun k => sum_Right.j0 k false su bo ps) (fun k => ?_) (Ev.step (fun k => ?_) h0)
      · rw [sum_Right.f, Pure.right_eq, Option.bind_some, if_pos h1, Pure.right_eq, Option.bind_some, h2]; rfl
      · rw [sum_Right.j0, if_neg (by decide)]; rfl
    · rw [h1, Bool.eq_false_iff.2 h2, Bool.true_and, Bool.false_and]
      refine Ev.congr (f := fun k => sum_Right.j0 k true su bo ps) (fun k => ?_) (Ev.step (f := fun _ => some false) (fun k => ?_) (Ev.now _))
      · rw [sum_Right.f, Pure.right_eq, Option.bind_some, if_pos h1, Pure.right_eq, Option.bind_some, Bool.eq_false_iff.2 h2]; rfl
      · rw [sum_Right.j0, if_pos rfl]
  · rw [Bool.eq_false_iff.2 h1, Bool.false_and, Bool.false_and]
    refine Ev.congr (f := fun k => sum_Right.j0 k true su bo ps) (fun k => ?_) (Ev.step (f := fun _ => some false) (fun k => ?_) (Ev.now _))
    · rw [sum_Right.f, Pure.right_eq, Option.bind_some, if_neg h1]
    · rw [sum_Right.j0, if_pos rfl]
theorem count_l0 (v : Int) (hv : 0 ≤ v ∧ v ≤ 7) : ∀ (rsuf rpre : List RS) (n : Int), (rpre ++ rsuf).length ≤ 9223372036854775807 → 0 ≤ n → n ≤ rpre.length → Ev (fun k => colloquyref18_Count.l0 k (rpre ++ rsuf) v n (rpre.length : Int)) (n + cntL rsuf v)
  | [], rpre, n, _, _, _ => by
    have e : n + cntL [] v = n := by simp [cntL]
    rw [e]
    exact Ev.step (f := fun _ => some n) (fun k => by rw [colloquyref18_Count.l0, if_neg (nltA _)]) (Ev.now _)
  | r :: rs, rpre, n, h, h0, hn => by
    have hl : rpre.length < 9223372036854775807 := by simp at h; omega
    have hlen : ((rpre ++ [r]).length : Int) = rpre.length + 1 := by simp
    by_cases hc : clsL r.f1 = v
    · have ih := count_l0 v hv rs (rpre ++ [r]) (n + 1) (by rw [← app1]; exact h) (by omega) (by omega)
      rw [← app1] at ih
      have e : n + cntL (r :: rs) v = n + 1 + cntL rs v := by simp only [cntL]; rw [if_pos hc]; omega
      rw [e]
      refine Ev.step (fun k => ?_) ih
      rw [colloquyref18_Count.l0, if_pos (ltA _ _ _), if_pos (by omega), rdR, wr1 rpre r hl, Pure.wrap_id (by omega) (by omega)]
      unfold clsL at hc
      (repeat' split at hc) <;> (repeat' split) <;> first | rfl | omega
    · have ih := count_l0 v hv rs (rpre ++ [r]) n (by rw [← app1]; exact h) h0 (by omega)
      rw [← app1] at ih
      have e : n + cntL (r :: rs) v = n + cntL rs v := by simp only [cntL]; rw [if_neg hc]; omega
      rw [e]
      refine Ev.step (fun k => ?_) ih
      rw [colloquyref18_Count.l0, if_pos (ltA _ _ _), if_pos (by omega), rdR, wr1 rpre r hl, Pure.wrap_id (by omega) (by omega)]
      unfold clsL at hc
      (repeat' split at hc) <;> (repeat' split) <;> first | rfl | omega
theorem count_ev (rs : List RS) (v : Int) (hv : 0 ≤ v ∧ v ≤ 7) (h : rs.length ≤ 9223372036854775807) : Ev (fun k => colloquyref18_Count.f k rs v) (cntL rs v) := by
  have := count_l0 v hv rs [] 0 h (by omega) (by simp)
  rw [Int.zero_add] at this
  exact this
theorem ltQ (pre suf : List PP) (p : PP) : (pre.length : Int) < (((pre ++ p :: suf).map cv).length : Int) := by simp; omega
theorem nltQ (pre : List PP) : ¬ (pre.length : Int) < (((pre ++ []).map cv).length : Int) := by simp
theorem total_l0 (su bo : ByteArray) (ps : List PP) (v : Int) (hv : 0 ≤ v ∧ v ≤ 7) (hs : szP ps) (hsm : sumL ps ≤ 1000000000) : ∀ (suf pre : List PP) (n : Int), pre ++ suf = ps → 0 ≤ n → n ≤ sumL pre → Ev (fun k => colloquyref20_Total.l0 k v n (pre.length : Int) su bo (ps.map cv)) (n + totL suf v)
  | [], pre, n, h, _, _ => by
    subst h
    have e : n + totL [] v = n := by simp [totL]
    rw [e]
    exact Ev.step (f := fun _ => some n) (fun k => by rw [colloquyref20_Total.l0, if_neg (nltQ _)]) (Ev.now _)
  | p :: suf, pre, n, h, h0, hn => by
    subst h
    have hl : pre.length < 9223372036854775807 := by have h_ := hs.1; simp at h_; omega
    have hc := cnt_b p.f1 v
    have hsum : sumL (pre ++ [p]) ≤ sumL (pre ++ p :: suf) := by rw [sum_app, sum_app]; simp [sumL]
    have hsn := sum_snoc pre p
    have ih := total_l0 su bo (pre ++ p :: suf) v hv hs hsm suf (pre ++ [p]) (n + cntL p.f1 v) (by rw [← app1]) (by omega) (by omega)
    have e : n + totL (p :: suf) v = n + cntL p.f1 v + totL suf v := by simp only [totL]; omega
    rw [e]
    refine Ev.step (f := fun k => (colloquyref18_Count.f k p.f1 v).bind fun t => colloquyref20_Total.l0 k v (wrap64 (n + t)) ((pre ++ [p]).length : Int) su bo ((pre ++ p :: suf).map cv)) (fun k => ?_) (Ev.bind (count_ev p.f1 v hv (by have := hs.2 p (by simp); omega)) ?_)
    · rw [colloquyref20_Total.l0, if_pos (ltQ _ _ _), if_pos (by omega), rdQ, wr1 pre p hl]
      rfl
    · rw [Pure.wrap_id (by omega) (by omega)]
      exact ih
theorem total_ev (su bo : ByteArray) (ps : List PP) (v : Int) (hv : 0 ≤ v ∧ v ≤ 7) (hs : szP ps) (hsm : sumL ps ≤ 1000000000) : Ev (fun k => colloquyref20_Total.f k su bo (ps.map cv) v) (totL ps v) := by
  have := total_l0 su bo ps v hv hs hsm ps [] 0 rfl (by omega) (by simp)
  rw [Int.zero_add] at this
  exact this
theorem toList_ne (s : ByteArray) (h : 0 < s.size) : ¬ s.toList = ([] : List UInt8) := by
  rw [ByteArray.toList_eq]
  intro e
  have h2 : s.data.toList.length = 0 := by rw [e]; rfl
  rw [Array.length_toList] at h2
  have h3 : s.data.size = s.size := rfl
  omega
theorem digit_eq (u : Nat) : strOfNums [(wrap64 (48 + Int.tmod (u : Int) 10)) % 256] = (⟨#[UInt8.ofNat (48 + u % 10)]⟩ : ByteArray) := by
  have e1 : Int.tmod (u : Int) 10 = ((u % 10 : Nat) : Int) := by rw [Int.tmod_eq_emod_of_nonneg (by omega)]; omega
  rw [e1, Pure.wrap_id (by omega) (by omega)]
  have e2 : (48 + ((u % 10 : Nat) : Int)) % 256 = ((48 + u % 10 : Nat) : Int) := by omega
  rw [e2]
  rfl
theorem dec_step (k : Nat) (u : Nat) (out : ByteArray) (h : out.toList = ([] : List UInt8) ∨ 0 < u) (hs : out.size + u ≤ 10000000000) : colloquyref01_Decimal.l0 (k + 1) (u : Int) out = colloquyref01_Decimal.l0 k ((u / 10 : Nat) : Int) ((⟨#[UInt8.ofNat (48 + u % 10)]⟩ : ByteArray) ++ out) := by
  have e3 : wrap64 (Int.tdiv (u : Int) 10) = ((u / 10 : Nat) : Int) := by
    have : Int.tdiv (u : Int) 10 = ((u / 10 : Nat) : Int) := by rw [Int.tdiv_eq_ediv_of_nonneg (by omega)]; omega
    rw [this]
    exact Pure.wrap_id (by omega) (by omega)
  rw [colloquyref01_Decimal.l0]
  by_cases ho : out.toList = ([] : List UInt8)
  · rw [if_pos ho, Option.bind_some, digit_eq, if_pos (by show 1 + _ ≤ _; omega), e3]
  · have hu := h.resolve_left ho
    rw [if_neg ho, if_pos (by omega), Option.bind_some, digit_eq, if_pos (by show 1 + _ ≤ _; omega), e3]
theorem dec_l0 (u : Nat) : ∀ (out : ByteArray), out.size + u ≤ 10000000000 → (out.toList = ([] : List UInt8) ∨ 0 < u) → Ev (fun k => colloquyref01_Decimal.l0 k (u : Int) out) ((⟨(Lib.decDigits u).toArray⟩ : ByteArray) ++ out) := by
  induction u using Nat.strongRecOn with
  | ind u ih =>
    intro out hs h
    have hsz : ((⟨#[UInt8.ofNat (48 + u % 10)]⟩ : ByteArray) ++ out).size = 1 + out.size := size_cat _ _
    by_cases hu : u < 10
    · have e : Lib.decDigits u = [UInt8.ofNat (48 + u)] := by rw [Lib.decDigits, dif_pos hu]
      rw [e]
      refine Ev.step (fun k => dec_step k u out h (by omega)) ?_
      rw [show u / 10 = 0 by omega, show u % 10 = u by omega]
      refine Ev.step (f := fun _ => some _) (fun k => ?_) (Ev.now _)
      rw [colloquyref01_Decimal.l0, if_neg (toList_ne _ (by rw [show u % 10 = u by omega] at hsz; omega)), if_neg (by decide)]
    · have e : Lib.decDigits u = Lib.decDigits (u / 10) ++ [UInt8.ofNat (48 + u % 10)] := by rw [Lib.decDigits, dif_neg hu]
      have h2 := ih (u / 10) (by omega) ((⟨#[UInt8.ofNat (48 + u % 10)]⟩ : ByteArray) ++ out) (by omega) (.inr (by omega))
      have e2 : (⟨(Lib.decDigits u).toArray⟩ : ByteArray) ++ out = (⟨(Lib.decDigits (u / 10)).toArray⟩ : ByteArray) ++ ((⟨#[UInt8.ofNat (48 + u % 10)]⟩ : ByteArray) ++ out) := by
        rw [← ByteArray.append_assoc, e]
        congr 1
      rw [e2]
      exact Ev.step (fun k => dec_step k u out h (by omega)) h2
theorem dec_ev (n : Int) (h0 : 0 ≤ n) (h : n ≤ 1000000000) : Ev (fun k => colloquyref01_Decimal.f k n) (itB n) := by
  have h1 := dec_l0 n.toNat ⟨#[]⟩ (by show 0 + _ ≤ _; omega) (.inl (by decide +kernel))
  rw [show ((n.toNat : Nat) : Int) = n by omega] at h1
  have e : itB n = (⟨(Lib.decDigits n.toNat).toArray⟩ : ByteArray) ++ (⟨#[]⟩ : ByteArray) := by
    unfold itB Lib.itoa
    rw [if_neg (by omega)]
    apply ByteArray.ext
    rw [ByteArray.data_append]
    simp
  rw [e]
  exact h1
theorem rt_eq (v : Int) : colloquyref18_Text.f v = some (vtB v) := by
  by_cases h : v < 0 ∨ 7 < v
  · have e : vtB v = ⟨#[]⟩ := by unfold vtB trace_Text.f; rw [Option.getD_some, if_pos h]
    rw [e, colloquyref18_Text.f]
    (repeat' rw [if_neg (by omega)])
  · have : v = 0 ∨ v = 1 ∨ v = 2 ∨ v = 3 ∨ v = 4 ∨ v = 5 ∨ v = 6 ∨ v = 7 := by omega
    rcases this with rfl | rfl | rfl | rfl | rfl | rfl | rfl | rfl <;> rfl
abbrev endB : ByteArray := ⟨#[35, 32, 101, 110, 100]⟩
theorem lines_l2 (su bo : ByteArray) (ps : List PP) (hs : szP ps) (hsm : sumL ps ≤ 1000000000) (X : List ByteArray) (hX : X.length ≤ 2000000000) : ∀ (d : Nat) (v : Int), v + d = 8 → 1 ≤ v → Ev (fun k => colloquyref20_Lines.l2 k (X ++ totsL ps v.toNat) v su bo (ps.map cv)) (X ++ totsL ps 8 ++ [endB])
  | 0, v, h, h1 => by
    obtain rfl : v = 8 := by omega
    have ht := tots_len ps 8
    refine Ev.step (f := fun _ => some _) (fun k => ?_) (Ev.now _)
    rw [colloquyref20_Lines.l2, if_neg (by decide), if_pos (by rw [List.length_append]; show _ + (totsL ps 8).length < _; omega)]
    rfl
  | d + 1, v, h, h1 => by
    have ih := lines_l2 su bo ps hs hsm X hX d (v + 1) (by omega) (by omega)
    have hT := total_ev su bo ps v (by omega) hs hsm
    have hb := tot_b ps v
    have hl := tots_len ps v.toNat
    have hv := vt_size v
    have hi := it_size (totL ps v) (by omega)
    have z2 : (⟨#[35, 32]⟩ : ByteArray).size = 2 := rfl
    have z1 : (⟨#[32]⟩ : ByteArray).size = 1 := rfl
    refine Ev.step (fun k => by rw [colloquyref20_Lines.l2, if_pos (by omega)]) (Ev.bind hT ?_)
    by_cases ht : totL ps v > 0
    · refine Ev.congr (fun k => by rw [if_pos ht, rt_eq, Option.bind_some, if_pos (by omega), if_pos (by rw [size_cat]; omega)]) (Ev.bind hT (Ev.bind (dec_ev (totL ps v) (by omega) (by omega)) ?_))
      rw [tots_yes ps v (by omega) ⟨by omega, ht⟩, ← List.append_assoc] at ih
      refine Ev.congr (fun k => ?_) ih
      rw [if_pos (by simp only [size_cat]; omega), if_pos (by rw [List.length_append]; omega), Pure.wrap_id (by omega) (by omega)]
    · rw [tots_no ps v (by omega) (by omega)] at ih
      refine Ev.congr (fun k => ?_) ih
      rw [if_neg ht, Pure.wrap_id (by omega) (by omega)]
theorem lines_l1 (su bo : ByteArray) (pre suf : List PP) (p : PP) (F : List ByteArray) (hl : pre.length < 9223372036854775807) (X : List ByteArray) (hX : X.length + p.f1.length ≤ 2000000000) (hb : Ev (fun k => colloquyref20_Lines.l0 k (X ++ p.f1.map resL) ((pre ++ [p]).length : Int) su bo ((pre ++ p :: suf).map cv)) F) : ∀ (rsuf rpre : List RS), rpre ++ rsuf = p.f1 → Ev (fun k => colloquyref20_Lines.l1 k (X ++ rpre.map resL) (pre.length : Int) (rpre.length : Int) su bo ((pre ++ p :: suf).map cv)) F
  | [], rpre, h => by
    rw [List.append_nil] at h
    refine Ev.step (fun k => ?_) hb
    rw [colloquyref20_Lines.l1, if_pos (by omega), if_pos (ltQ _ _ _), rdQ, if_neg (by show ¬ (rpre.length : Int) < (p.f1.length : Int); rw [h]; omega), wr1 pre p hl, h]
  | r :: rs, rpre, h => by
    have ih := lines_l1 su bo pre suf p F hl X hX hb rs (rpre ++ [r]) (by rw [← app1]; exact h)
    have hlen := congrArg List.length h
    rw [List.length_append, List.length_cons] at hlen
    have hlt : (rpre.length : Int) < ((cv p).f1.length : Int) := by show (rpre.length : Int) < (p.f1.length : Int); omega
    have hr : rd_T49 (cv p).f1 (rpre.length : Int) = r := by show rd_T49 p.f1 _ = r; rw [← h]; exact rdR _ _ _
    have hv := vt_size r.f1
    have hn : (Pure.wr r.f0).size ≤ 240 := nw_size r.f0
    have z2 : (⟨#[58, 32]⟩ : ByteArray).size = 2 := rfl
    refine Ev.step (fun k => by rw [colloquyref20_Lines.l1, if_pos (by omega), if_pos (ltQ _ _ _), rdQ, if_pos hlt, if_pos (by omega), hr, rt_eq, Option.bind_some, if_pos (by omega)]) (Ev.bind (Pure.rwrite_ev r.f0) ?_)
    rw [List.map_append, ← List.append_assoc] at ih
    refine Ev.congr (fun k => ?_) ih
    rw [if_pos (by rw [size_cat]; omega), if_pos (by rw [List.length_append, List.length_map]; omega), wr1 rpre r (by omega)]
    rfl
theorem lines_l0 (su bo : ByteArray) (ps : List PP) (hs : szP ps) (hsm : ps.length + sumL ps ≤ 1000000000) : ∀ (suf pre : List PP), pre ++ suf = ps → Ev (fun k => colloquyref20_Lines.l0 k (bodyL su bo pre) (pre.length : Int) su bo (ps.map cv)) (linesL su bo ps)
  | [], pre, h => by
    rw [List.append_nil] at h
    subst h
    have hb := body_len su bo pre
    have h2 := lines_l2 su bo pre hs (by omega) (bodyL su bo pre) (by omega) 7 1 (by decide) (by decide)
    refine Ev.step (fun k => ?_) h2
    have e0 : totsL pre (1 : Int).toNat = [] := by
      show totsL pre 1 = []
      unfold totsL totT
      simp
    rw [e0, List.append_nil, colloquyref20_Lines.l0, if_neg (by simp)]
  | p :: suf, pre, h => by
    have ih := lines_l0 su bo ps hs hsm suf (pre ++ [p]) (by rw [← app1]; exact h)
    subst h
    have hl : pre.length < 9223372036854775807 := by have h_ := hs.1; simp at h_; omega
    have hb := body_len su bo pre
    have hsum : sumL (pre ++ [p]) ≤ sumL (pre ++ p :: suf) := by rw [sum_app, sum_app]; simp [sumL]
    have hsn := sum_snoc pre p
    have hpl : (pre ++ p :: suf).length = pre.length + 1 + suf.length := by simp; omega
    have e1 : bodyL su bo (pre ++ [p]) = bodyL su bo pre ++ [grpB ++ nwB p.f0] ++ p.f1.map resL := by
      unfold bodyL
      rw [List.flatMap_append]
      simp [partL]
    rw [e1] at ih
    have h1 := lines_l1 su bo pre suf p _ hl (bodyL su bo pre ++ [grpB ++ nwB p.f0]) (by rw [List.length_append, List.length_singleton]; omega) ih p.f1 [] rfl
    have hn : (Pure.wr p.f0).size ≤ 240 := nw_size p.f0
    refine Ev.step (fun k => by rw [colloquyref20_Lines.l0, if_pos (ltQ _ _ _), if_pos (by omega), rdQ, show (cv p).f0 = p.f0 from rfl]) (Ev.bind (Pure.rwrite_ev p.f0) ?_)
    rw [List.map_nil, List.append_nil] at h1
    refine Ev.congr (fun k => ?_) h1
    rw [if_pos (by omega), if_pos (by omega)]
    rfl
theorem lines_ev (su bo : ByteArray) (ps : List PP) (hs : szP ps) (hsm : ps.length + sumL ps ≤ 1000000000) : Ev (fun k => colloquyref20_Lines.f k su bo (ps.map cv)) (linesL su bo ps) := by
  have h0 := lines_l0 su bo ps hs hsm ps [] rfl
  have hn1 : (Pure.wr su).size ≤ 240 := nw_size su
  have hn2 : (Pure.wr bo).size ≤ 240 := nw_size bo
  refine Ev.bind (Pure.rwrite_ev su) (Ev.congr (fun k => if_pos (by omega)) (Ev.bind (Pure.rwrite_ev bo) (Ev.congr (fun k => if_pos (by omega)) ?_)))
  refine Ev.congr (fun k => ?_) h0
  unfold bodyL
  rw [List.flatMap_nil, List.append_nil]
  rfl
def catL : List ByteArray → ByteArray
  | [] => eB
  | x :: xs => (x ++ lfB) ++ catL xs
def textL (su bo : ByteArray) (ps : List PP) : ByteArray := if rightS su bo ps = true then catL (linesL su bo ps) else eB
theorem line_sz (su bo : ByteArray) (ps : List PP) (hsm : sumL ps ≤ 1000000000) : ∀ x ∈ linesL su bo ps, x.size ≤ 399 := by
  intro x hx
  have a1 : ∀ s : ByteArray, (nwB s).size ≤ 240 := nw_size
  unfold linesL bodyL headL at hx
  simp only [List.mem_append, List.mem_cons, List.mem_nil_iff, or_false, List.mem_flatMap] at hx
  rcases hx with ((((rfl | rfl) | ⟨p, _, hp⟩) | hx) | rfl)
  · rw [size_cat]; have := nw_size su; have z : (⟨#[84, 101, 115, 116, 32, 114, 117, 110, 32, 111, 102, 32]⟩ : ByteArray).size = 12 := rfl; omega
  · rw [size_cat]; have := nw_size bo; have z : (⟨#[66, 111, 97, 114, 100, 32]⟩ : ByteArray).size = 6 := rfl; omega
  · unfold partL at hp
    rcases List.mem_cons.1 hp with rfl | hp
    · rw [size_cat]; have := nw_size p.f0; have z : (⟨#[103, 114, 111, 117, 112, 32]⟩ : ByteArray).size = 6 := rfl; omega
    · obtain ⟨r, _, rfl⟩ := List.mem_map.1 hp
      unfold resL
      rw [size_cat, size_cat]
      have := nw_size r.f0
      have := vt_size r.f1
      have z : (⟨#[58, 32]⟩ : ByteArray).size = 2 := rfl
      omega
  · unfold totsL at hx
    obtain ⟨v, _, hv⟩ := List.mem_flatMap.1 hx
    unfold totT at hv
    split at hv
    · rw [List.mem_singleton.1 hv]
      simp only [size_cat]
      have := vt_size (v : Int)
      have hb := tot_b ps (v : Int)
      have := it_size (totL ps (v : Int)) (by omega)
      have z2 : (⟨#[35, 32]⟩ : ByteArray).size = 2 := rfl
      have z1 : (⟨#[32]⟩ : ByteArray).size = 1 := rfl
      omega
    · cases hv
  · decide
theorem eB_cat (s : ByteArray) : eB ++ s = s := by
  apply ByteArray.ext
  rw [ByteArray.data_append]
  simp
def joinB (xs : List ByteArray) : ByteArray := ⟨(Lib.join (xs.map (·.data.toList)) [10]).toArray⟩
theorem join_flat : ∀ (r : List ByteArray) (x : ByteArray), x.data.toList ++ Lib.joinTail [10] (r.map (·.data.toList)) ++ [10] = (catL (x :: r)).data.toList
  | [], x => by
    show x.data.toList ++ [] ++ [10] = ((x ++ lfB) ++ eB).data.toList
    rw [ByteArray.data_append, ByteArray.data_append]
    simp
  | y :: r, x => by
    have ih := join_flat r y
    show x.data.toList ++ (([10] ++ y.data.toList) ++ Lib.joinTail [10] (r.map (·.data.toList))) ++ [10] = ((x ++ lfB) ++ catL (y :: r)).data.toList
    rw [ByteArray.data_append, Array.toList_append, ← ih, ByteArray.data_append, Array.toList_append]
    simp
theorem join_cat (xs : List ByteArray) (h : xs ≠ []) : joinB xs ++ lfB = catL xs := by
  cases xs with
  | nil => exact absurd rfl h
  | cons x r =>
    apply ByteArray.ext
    apply Array.ext'
    rw [← join_flat, ByteArray.data_append, Array.toList_append]
    show Lib.join _ _ ++ _ = _
    rw [List.map_cons, Lib.join_cons]
theorem join_size (xs : List ByteArray) (h : xs ≠ []) : (Lib.join (xs.map (·.data.toList)) [10]).length + 1 = (catL xs).size := by
  have h1 := congrArg ByteArray.size (join_cat xs h)
  rw [size_cat] at h1
  have h2 : (joinB xs).size = (Lib.join (xs.map (·.data.toList)) [10]).length := List.size_toArray ..
  rw [← h1, ← h2]
  rfl
theorem cat_size (xs : List ByteArray) (h : ∀ x ∈ xs, x.size ≤ 399) : (catL xs).size ≤ 400 * xs.length := by
  induction xs with
  | nil => exact Nat.zero_le _
  | cons x xs ih =>
    have h1 := h x (List.mem_cons_self ..)
    have h2 := ih fun y hy => h y (List.mem_cons_of_mem _ hy)
    show ((x ++ lfB) ++ catL xs).size ≤ _
    have z1 : lfB.size = 1 := rfl
    rw [size_cat, size_cat, List.length_cons]
    omega
theorem join_row {w : World} {A : Option Addr} {c base : Nat} {S : Nat → Prop} {xs : List ByteArray} (h : Kd.string.R 9 w base S (.slice A xs.length c) xs) (h0 : xs ≠ []) (hN : xs.length ≤ 140737488355328) (hlen : (catL xs).size ≤ 140737488355328) :
    Calls Tryd.prog 27 #[.slice A xs.length c, .string lfB] w fun e w' => e = .returned (.string (joinB xs)) ∧ Below w.heap.size w w' := by
  have hpos : 0 < xs.length := List.length_pos_iff.2 h0
  obtain ⟨g, cap, hv, _⟩ := Kd.R_form h hpos
  injection hv with hA hn hc
  subst hA hc
  obtain ⟨_, hcap, hC⟩ := Kd.R_reads' h
  obtain ⟨ad, had, hcl⟩ := hC.2.2 hpos
  obtain rfl := Option.some.inj had
  have cells : ∀ (j : Nat) x, xs[j]? = some x → w.cell? ⟨g, 0 + j, none⟩ = some (.string x) := fun j x hj => by
    obtain ⟨cs, hl, hk, hcc⟩ := hcl j x hj
    have hk' : cs = [.string x] := hk
    have := hcc 0 (.string x) (by rw [hk']; rfl)
    rw [add_plain, show j * Kd.string.sz + 0 = j by show j * 1 + 0 = j; omega] at this
    rw [Nat.zero_add]
    exact this
  have hj := join_size xs h0
  refine Tryd.strings_Join g 0 c xs lfB w cells ?_ hN hcap ?_
  · exact World.block_lt_of_cell? _ _ (cells 0 xs[0] (List.getElem?_eq_getElem hpos))
  · show (Lib.join (xs.map (·.data.toList)) [10]).length ≤ _
    omega
section
theorem bext {a b : ByteArray} (h : a.data.toList = b.data.toList) : a = b := ByteArray.ext (Array.ext' h)
theorem dcat (a b : ByteArray) : (a ++ b).data.toList = a.data.toList ++ b.data.toList := by rw [ByteArray.data_append, Array.toList_append]
theorem index_mid (c : UInt8) (t : List UInt8) : ∀ (l r : List UInt8), c ∉ l → Lib.index (l ++ ((c :: t) ++ r)) (c :: t) = l.length
  | [], r, _ => by
    show Lib.index (c :: (t ++ r)) (c :: t) = _
    have hp : (c :: t).isPrefixOf (c :: (t ++ r)) = true := List.isPrefixOf_iff_prefix.2 ⟨r, rfl⟩
    unfold Lib.index
    rw [if_pos hp]
    rfl
  | b :: l, r, h => by
    have hb : c ≠ b := fun e => h (by rw [e]; exact List.mem_cons_self ..)
    have ih := index_mid c t l r (fun hc => h (List.mem_cons_of_mem _ hc))
    show Lib.index (b :: (l ++ ((c :: t) ++ r))) (c :: t) = _
    unfold Lib.index
    rw [ih, if_neg (by simp [List.isPrefixOf, hb]), if_neg (by simp <;> omega), List.length_cons]
    omega
theorem index_no (c : UInt8) : ∀ (l : List UInt8), c ∉ l → Lib.index l [c] = -1
  | [], _ => by unfold Lib.index; simp
  | b :: l, h => by
    have hb : c ≠ b := fun e => h (by rw [e]; exact List.mem_cons_self ..)
    have ih := index_no c l (fun hc => h (List.mem_cons_of_mem _ hc))
    unfold Lib.index
    rw [ih, if_neg (by simp [List.isPrefixOf, hb]), if_pos (by decide)]
theorem pcN_eq (s : ByteArray) : pcN s - 1 = Lib.countB s nlB := by
  have := Lib.countB_le nlB (by decide) s.size s (Nat.le_refl _)
  unfold pcN
  omega
theorem pcs_eq (s : ByteArray) : pcs s = Lib.splitB nlB 1 (Lib.countB s nlB) s := by unfold pcs; rw [pcN_eq]
theorem pcs_no (s : ByteArray) (h : (10 : UInt8) ∉ s.data.toList) : pcs s = [s] := by
  rw [pcs_eq]
  exact Lib.splitB_miss _ _ _ _ (index_no 10 _ h)
theorem pcs_hit (x r : ByteArray) (h : (10 : UInt8) ∉ x.data.toList) : pcs ((x ++ lfB) ++ r) = (x ++ lfB) :: pcs r := by
  have hi : Lib.indexB ((x ++ lfB) ++ r) nlB = (x.size : Int) := by
    show Lib.index ((x ++ lfB) ++ r).data.toList [10] = _
    rw [dcat, dcat, List.append_assoc]
    rw [show lfB.data.toList = [10] from rfl, index_mid 10 [] x.data.toList r.data.toList h]
    rfl
  have e1 : ((x ++ lfB) ++ r).extract 0 (x.size + 1) = x ++ lfB := by
    apply bext
    rw [Lib.extract_from_zero, dcat]
    have : (x ++ lfB).data.toList.length = x.size + 1 := by rw [dcat, List.length_append]; rfl
    rw [← this, List.take_left]
  have e2 : ((x ++ lfB) ++ r).extract (x.size + nlB.size) ((x ++ lfB) ++ r).size = r := by
    apply bext
    rw [Lib.extract_to_end, dcat]
    have : (x ++ lfB).data.toList.length = x.size + nlB.size := by rw [dcat, List.length_append]; rfl
    rw [← this, List.drop_left]
  rw [pcs_eq, Lib.countB_hit _ _ _ (by decide) hi, Nat.add_comm, Lib.splitB_hit _ _ _ _ _ hi, e1, e2, ← pcs_eq]
theorem pcs_cat : ∀ ls : List ByteArray, (∀ x ∈ ls, (10 : UInt8) ∉ x.data.toList) → pcs (catL ls) = ls.map (· ++ lfB) ++ [eB]
  | [], _ => pcs_no eB (by simp)
  | x :: ls, h => by
    show pcs ((x ++ lfB) ++ catL ls) = _
    rw [pcs_hit x _ (h x (List.mem_cons_self ..)), pcs_cat ls fun y hy => h y (List.mem_cons_of_mem _ hy)]
    rfl
theorem allL_cat (ls : List ByteArray) (h : ∀ x ∈ ls, (10 : UInt8) ∉ x.data.toList) : allL (catL ls) = ls.map (· ++ lfB) := by
  unfold allL
  rw [pcs_cat ls h]
  have e : (ls.map (· ++ lfB) ++ [eB]).length - 1 = (ls.map (· ++ lfB)).length := by simp
  rw [e, List.take_left, if_pos]
  rw [List.getD_eq_getElem?_getD, List.getElem?_append_right (Nat.le_refl _), Nat.sub_self]
  rfl
theorem hp_app (p y : ByteArray) : hpB (p ++ y) p = true := by
  unfold hpB Lib.hasPrefix
  rw [dcat]
  exact List.isPrefixOf_iff_prefix.2 ⟨_, rfl⟩
theorem tp_app (p y : ByteArray) : tpB (p ++ y) p = y := by
  apply bext
  unfold tpB Lib.trimPrefix
  have h : Lib.hasPrefix (p ++ y).data.toList p.data.toList = true := hp_app p y
  rw [h, if_pos rfl, dcat, List.drop_left]
theorem hs_app (x : ByteArray) : hsB (x ++ lfB) lfB = true := by
  unfold hsB Lib.hasSuffix
  rw [dcat]
  exact List.isSuffixOf_iff_suffix.2 ⟨_, rfl⟩
theorem ts_app (x : ByteArray) : tsB (x ++ lfB) lfB = x := by
  apply bext
  unfold tsB Lib.trimSuffix
  have h : Lib.hasSuffix (x ++ lfB).data.toList lfB.data.toList = true := hs_app x
  rw [h, if_pos rfl, dcat]
  show (List.take ((x.data.toList ++ [10]).length - 1) (x.data.toList ++ [10])).toArray.toList = _
  rw [List.length_append, List.length_singleton, Nat.add_sub_cancel, List.take_left]
theorem hp_ne {s p : ByteArray} {b c : UInt8} {l t : List UInt8} (hs : s.data.toList = b :: l) (hp : p.data.toList = c :: t) (h : c ≠ b) : hpB s p = false := by
  unfold hpB Lib.hasPrefix
  rw [hs, hp]
  simp [List.isPrefixOf, h]
theorem cut_app (w r : ByteArray) (h : (58 : UInt8) ∉ w.data.toList) : cuA (w ++ sepB ++ r) sepB = w ∧ cuB (w ++ sepB ++ r) sepB = r ∧ cuO (w ++ sepB ++ r) sepB = true := by
  have hd : (w ++ sepB ++ r).data.toList = w.data.toList ++ ((58 :: [32]) ++ r.data.toList) := by rw [dcat, dcat, List.append_assoc]
  have hi : Lib.index (w ++ sepB ++ r).data.toList sepB.data.toList = (w.data.toList.length : Int) := by rw [hd]; exact index_mid 58 [32] w.data.toList r.data.toList h
  have hc : Lib.cut (w ++ sepB ++ r).data.toList sepB.data.toList = (w.data.toList, r.data.toList, true) := by
    unfold Lib.cut
    rw [hi, if_pos (by omega), Int.toNat_natCast, hd, List.take_left]
    have e : w.data.toList.length + sepB.data.toList.length = (w.data.toList ++ (58 :: [32])).length := by rw [List.length_append]
    rw [e, ← List.append_assoc, List.drop_left]
  unfold cuA cuB cuO
  rw [hc]
  exact ⟨rfl, rfl, rfl⟩
theorem readN_nw (s : ByteArray) (h : Pure.rightB s = true) : readN (nwB s) = (s, true) := by
  have h' := of_decide_eq_true h
  have hz := nw_size s
  exact Pure.ev_one (read_ev (nwB s) (by omega)) (Pure.back_ev s h')
theorem nm_app (p s : ByteArray) (h : Pure.rightB s = true) : nmO (p ++ nwB s) p = true ∧ nmB (p ++ nwB s) p = s := by
  unfold nmO nmB
  rw [hp_app, tp_app, readN_nw s h]
  exact ⟨rfl, rfl⟩
def plainB (s : ByteArray) : Prop := ∀ b ∈ s.data.toList, 32 ≤ b.toNat ∧ b.toNat ≤ 126
theorem plain_app {a b : ByteArray} (ha : plainB a) (hb : plainB b) : plainB (a ++ b) := fun x hx => by
  rw [dcat] at hx
  exact (List.mem_append.1 hx).elim (ha x) (hb x)
theorem plain_nw (s : ByteArray) : plainB (nwB s) := by
  intro b hb
  have hw : nwB s = Pure.wr s := rfl
  rw [hw] at hb
  unfold Pure.wr at hb
  split at hb
  · rename_i h
    rw [strOfNums_data] at hb
    obtain ⟨x, hx, rfl⟩ := List.mem_map.1 hb
    have h2 := Pure.pre_plain s h.2 s.size (Nat.le_refl _) x hx
    have : x.toNat < 256 := by omega
    rw [UInt8.toNat_ofNat']
    omega
  · simp at hb
theorem vt_case (v : Int) : (¬ (1 ≤ v ∧ v ≤ 7) ∧ vtB v = eB) ∨ v = 1 ∨ v = 2 ∨ v = 3 ∨ v = 4 ∨ v = 5 ∨ v = 6 ∨ v = 7 := by
  by_cases h : 1 ≤ v ∧ v ≤ 7
  · omega
  · have := (vt_nil v).2 h
    exact .inl ⟨h, Pure.bytes_eq (this.trans (show ([] : List UInt8) = eB.toList by decide +kernel))⟩
theorem plain_vt (v : Int) : plainB (vtB v) := by
  rcases vt_case v with ⟨_, h⟩ | rfl | rfl | rfl | rfl | rfl | rfl | rfl
  · rw [h]; intro b hb; simp at hb
  all_goals (unfold plainB; decide +kernel)
theorem vt_no58 (v : Int) : (58 : UInt8) ∉ (vtB v).data.toList := by
  rcases vt_case v with ⟨_, h⟩ | rfl | rfl | rfl | rfl | rfl | rfl | rfl
  · rw [h]; simp
  all_goals decide +kernel
theorem vp_vt (v : Int) (h : 1 ≤ v ∧ v ≤ 7) : vpB (vtB v) = v := by
  rcases vt_case v with ⟨h2, _⟩ | rfl | rfl | rfl | rfl | rfl | rfl | rfl
  · exact absurd h h2
  all_goals decide +kernel
theorem vt_head (v : Int) (h : 1 ≤ v ∧ v ≤ 7) : ∃ b l, (vtB v).data.toList = b :: l ∧ b ≠ 103 ∧ b ≠ 35 := by
  rcases vt_case v with ⟨h2, _⟩ | rfl | rfl | rfl | rfl | rfl | rfl | rfl
  · exact absurd h h2
  all_goals exact ⟨_, _, rfl, by decide, by decide⟩
theorem plain_dec (u : Nat) : ∀ b ∈ Lib.decDigits u, 48 ≤ b.toNat ∧ b.toNat ≤ 57 := by
  induction u using Nat.strongRecOn with
  | ind u ih =>
    intro b hb
    rw [Lib.decDigits] at hb
    split at hb
    · rw [List.mem_singleton.1 hb, UInt8.toNat_ofNat']; omega
    · rcases List.mem_append.1 hb with hb | hb
      · exact ih (u / 10) (by omega) b hb
      · rw [List.mem_singleton.1 hb, UInt8.toNat_ofNat']; omega
theorem plain_it (n : Int) (h : 0 ≤ n) : plainB (itB n) := by
  intro b hb
  have hb' : b ∈ Lib.itoa n := by simpa [itB] using hb
  unfold Lib.itoa at hb'
  rw [if_neg (by omega)] at hb'
  have := plain_dec _ b hb'
  omega
theorem plain_lines (su bo : ByteArray) (ps : List PP) : ∀ x ∈ linesL su bo ps, plainB x := by
  intro x hx
  unfold linesL bodyL headL at hx
  simp only [List.mem_append, List.mem_cons, List.mem_nil_iff, or_false, List.mem_flatMap] at hx
  rcases hx with ((((rfl | rfl) | ⟨p, _, hp⟩) | hx) | rfl)
  · exact plain_app (by unfold plainB; decide +kernel) (plain_nw su)
  · exact plain_app (by unfold plainB; decide +kernel) (plain_nw bo)
  · unfold partL at hp
    rcases List.mem_cons.1 hp with rfl | hp
    · exact plain_app (by unfold plainB; decide +kernel) (plain_nw _)
    · obtain ⟨r, _, rfl⟩ := List.mem_map.1 hp
      exact plain_app (plain_app (plain_vt _) (by unfold plainB; decide +kernel)) (plain_nw _)
  · unfold totsL at hx
    obtain ⟨v, _, hv⟩ := List.mem_flatMap.1 hx
    unfold totT at hv
    split at hv
    · rw [List.mem_singleton.1 hv]
      exact plain_app (plain_app (plain_app (by unfold plainB; decide +kernel) (plain_vt _)) (by unfold plainB; decide +kernel)) (plain_it _ (tot_b _ _).1)
    · cases hv
  · unfold plainB; decide +kernel
theorem plain_no10 {s : ByteArray} (h : plainB s) : (10 : UInt8) ∉ s.data.toList := fun hb => by
  have := h 10 hb
  revert this
  decide
theorem tail_head (ps : List PP) : ∀ x ∈ totsL ps 8 ++ [endB], ∃ l, x.data.toList = 35 :: l := by
  intro x hx
  rcases List.mem_append.1 hx with hx | hx
  · unfold totsL at hx
    obtain ⟨v, _, hv⟩ := List.mem_flatMap.1 hx
    unfold totT at hv
    split at hv
    · rw [List.mem_singleton.1 hv, dcat, dcat, dcat]
      exact ⟨_, rfl⟩
    · cases hv
  · rw [List.mem_singleton.1 hx]
    exact ⟨_, rfl⟩
theorem pl_tail (su bo : ByteArray) (ps : List PP) : ∀ (xs : List ByteArray) (i : Int), 2 ≤ i → parsL (xs.map (· ++ lfB)) i su bo ps false xs = (some (su, bo, ps), 0)
  | [], i, _ => by unfold parsL; exact if_neg (by decide)
  | x :: xs, i, h => by
    show parsL ((x ++ lfB) :: xs.map (· ++ lfB)) i su bo ps false (x :: xs) = _
    rw [pl_t (x :: xs) (by rw [if_neg (by decide)]) (hs_app x) (by omega) (by omega) (by rfl) ⟨by simp <;> omega, by rw [ts_app]; rfl⟩]
    exact pl_tail su bo ps xs (i + 1) (by omega)
attribute [local irreducible] parsL
theorem pl_res (su bo : ByteArray) (qs : List PP) (g : ByteArray) (r : RS) (hr : resOK r = true) (xs : List RS) (rest : List ByteArray) (i : Int) (hi : 2 ≤ i) : parsL ((resL r ++ lfB) :: rest) i su bo (qs ++ [⟨g, xs⟩]) true [] = parsL rest (i + 1) su bo (qs ++ [⟨g, xs ++ [r]⟩]) true [] := by
  unfold resOK at hr
  obtain ⟨h1, h2⟩ := (Bool.and_eq_true _ _).mp hr
  have h2' := of_decide_eq_true h2
  obtain ⟨b, l, hb, hb1, hb2⟩ := vt_head r.f1 h2'
  have hd : (resL r).data.toList = b :: (l ++ (sepB.data.toList ++ (nwB r.f0).data.toList)) := by unfold resL; rw [dcat, dcat, hb]; simp
  have hg : hpB (resL r) grpB = false := hp_ne hd (c := 103) (t := [114, 111, 117, 112, 32]) rfl (fun e => hb1 e.symm)
  have hh : hpB (resL r) hashB = false := hp_ne hd (c := 35) (t := []) rfl (fun e => hb2 e.symm)
  have hc := cut_app (vtB r.f1) (nwB r.f0) (vt_no58 r.f1)
  have hO : resO (qs ++ [⟨g, xs⟩]) (resL r) = true := by
    unfold resO resL
    rw [hc.1, hc.2.1, hc.2.2, vp_vt _ h2', readN_nw _ h1, snoc_ne, decide_eq_false (by omega)]
    rfl
  have hl : lineO (qs ++ [⟨g, xs⟩]) (resL r) = true := by unfold lineO; rw [if_neg (by rw [hg]; decide), hO]
  have hS : lineS (qs ++ [⟨g, xs⟩]) (resL r) = qs ++ [⟨g, xs ++ [r]⟩] := by
    unfold lineS
    rw [if_neg (by rw [hg]; decide), if_pos hO, addL_snoc]
    unfold resL
    rw [hc.1, hc.2.1, vp_vt _ h2', readN_nw _ h1]
  rw [pl_l (hs_app _) (by omega) (by omega) (by rw [ts_app, hh]; rfl) (by rw [ts_app]; exact hl), ts_app, hS]
theorem pl_ress (su bo : ByteArray) (qs : List PP) (g : ByteArray) (rest : List ByteArray) : ∀ (rs xs : List RS) (i : Int), 2 ≤ i → rs.all resOK = true → parsL ((rs.map resL).map (· ++ lfB) ++ rest) i su bo (qs ++ [⟨g, xs⟩]) true [] = parsL rest (i + rs.length) su bo (qs ++ [⟨g, xs ++ rs⟩]) true []
  | [], xs, i, _, _ => by simp
  | r :: rs, xs, i, hi, h => by
    rw [List.all_cons, Bool.and_eq_true] at h
    show parsL ((resL r ++ lfB) :: ((rs.map resL).map (· ++ lfB) ++ rest)) i su bo (qs ++ [⟨g, xs⟩]) true [] = _
    have e2 : i + ((r :: rs).length : Int) = i + 1 + (rs.length : Int) := by rw [List.length_cons]; omega
    rw [e2, app1 xs rs r]
    have h2 := pl_ress su bo qs g rest rs (xs ++ [r]) (i + 1) (by omega) h.2
    rw [pl_res su bo qs g r h.1 xs _ i hi]
    exact h2
theorem pl_grp (su bo : ByteArray) (qs : List PP) (g : ByteArray) (hg : Pure.rightB g = true) (rest : List ByteArray) (i : Int) (hi : 2 ≤ i) : parsL ((grpB ++ nwB g ++ lfB) :: rest) i su bo qs true [] = parsL rest (i + 1) su bo (qs ++ [⟨g, []⟩]) true [] := by
  have hd : (grpB ++ nwB g).data.toList = 103 :: ([114, 111, 117, 112, 32] ++ (nwB g).data.toList) := by rw [dcat]; rfl
  have hh : hpB (grpB ++ nwB g) hashB = false := hp_ne hd (c := 35) (t := []) rfl (by decide)
  have hn := nm_app grpB g hg
  have hl : lineO qs (grpB ++ nwB g) = true := by unfold lineO; rw [if_pos (hp_app _ _)]; exact hn.1
  have hS : lineS qs (grpB ++ nwB g) = qs ++ [⟨g, []⟩] := by unfold lineS; rw [if_pos (hp_app _ _), hn.2]
  rw [pl_l (hs_app _) (by omega) (by omega) (by rw [ts_app, hh]; rfl) (by rw [ts_app]; exact hl), ts_app, hS]
theorem pl_parts (su bo : ByteArray) (rest : List ByteArray) : ∀ (ps qs : List PP) (i : Int), 2 ≤ i → ps.all partOK = true → parsL ((ps.flatMap partL).map (· ++ lfB) ++ rest) i su bo qs true [] = parsL rest (i + ps.length + sumL ps) su bo (qs ++ ps) true []
  | [], qs, i, _, _ => by simp [sumL]
  | p :: ps, qs, i, hi, h => by
    rw [List.all_cons, Bool.and_eq_true] at h
    have hp := h.1
    unfold partOK at hp
    rw [Bool.and_eq_true] at hp
    have e : ((p :: ps).flatMap partL).map (· ++ lfB) ++ rest = (grpB ++ nwB p.f0 ++ lfB) :: ((p.f1.map resL).map (· ++ lfB) ++ ((ps.flatMap partL).map (· ++ lfB) ++ rest)) := by
      rw [List.flatMap_cons, List.map_append, List.append_assoc]
      rfl
    have e2 : i + ((p :: ps).length : Int) + (sumL (p :: ps) : Int) = i + 1 + (p.f1.length : Int) + (ps.length : Int) + (sumL ps : Int) := by rw [List.length_cons]; simp only [sumL]; omega
    rw [e, e2, app1 qs ps p]
    exact ((pl_grp su bo qs p.f0 hp.1 _ i hi).trans (pl_ress su bo qs p.f0 _ p.f1 [] (i + 1) (by omega) hp.2)).trans (pl_parts su bo rest ps (qs ++ [p]) (i + 1 + p.f1.length) (by omega) h.2)
theorem parse_text (su bo : ByteArray) (ps : List PP) (h : rightS su bo ps = true) : parseP (textL su bo ps) = (some (su, bo, ps), 0) := by
  unfold textL
  rw [if_pos h]
  unfold rightS at h
  rw [Bool.and_eq_true, Bool.and_eq_true] at h
  unfold parseP
  rw [allL_cat _ fun x hx => plain_no10 (plain_lines su bo ps x hx)]
  have e : (linesL su bo ps).map (· ++ lfB) = (w1B ++ nwB su ++ lfB) :: (w2B ++ nwB bo ++ lfB) :: ((ps.flatMap partL).map (· ++ lfB) ++ (totsL ps 8 ++ [endB]).map (· ++ lfB)) := by
    unfold linesL bodyL headL
    simp
  have n1 := nm_app w1B su h.1.1
  have n2 := nm_app w2B bo h.1.2
  rw [e, pl_0 (hs_app _) rfl (by rw [ts_app]; exact n1.1), ts_app, n1.2, pl_1 (hs_app _) (by decide) (by rw [ts_app]; exact n2.1), ts_app, n2.2]
  show parsL _ 2 su bo [] true [] = _
  rw [pl_parts su bo _ ps [] 2 (by decide) h.2, List.nil_append]
  have hd : (linesL su bo ps).drop (2 + (ps.length : Int) + (sumL ps : Int)).toNat = totsL ps 8 ++ [endB] := by
    unfold linesL
    have hb := body_len su bo ps
    rw [show (2 + (ps.length : Int) + (sumL ps : Int)).toNat = (bodyL su bo ps).length by omega, List.append_assoc, List.drop_left]
  have hne : totsL ps 8 ++ [endB] ≠ [] := by simp
  have hth := tail_head ps
  generalize totsL ps 8 ++ [endB] = T at hd hne hth
  cases T with
  | nil => exact absurd rfl hne
  | cons x xs =>
    obtain ⟨l, hx⟩ := hth x (List.mem_cons_self ..)
    have hh : hpB x hashB = true := by
      unfold hpB Lib.hasPrefix
      rw [hx]
      rfl
    show parsL ((x ++ lfB) :: xs.map (· ++ lfB)) _ su bo ps true [] = _
    rw [pl_t (x :: xs) (by rw [if_pos rfl, hd]) (hs_app x) (by omega) (by omega) (by rw [ts_app, hh]; rfl) ⟨by simp <;> omega, by rw [ts_app]; rfl⟩]
    exact pl_tail su bo ps xs _ (by omega)
end
section
def Chunk.frz (w1 : World) (S : Nat → Prop) : Chunk := ⟨S, fun w => ∀ k, S k → w.heap[k]? = w1.heap[k]?, fun h hm k hk => (hm k hk).trans (h k hk)⟩
section
variable {α β : Type} {d : Kd α} {d' : Kd β} {e base n c i : Nat} {S S' : Nat → Prop} {A : Option Addr} {xs : List α} {w0 w w' w1 : World} {L : List Chunk}
abbrev okF (w0 : World) (S : Nat → Prop) : Nat → Prop := fun k => k < w0.heap.size ∨ S k
theorem Own.frz (h : Own w0 w L) (i : Nat) {c : Chunk} (hi : L[i]? = some c) : Own w0 w (L.set i (Chunk.frz w c.S)) :=
  h.calls (cs := []) i hi (Out.one (Out.refl w _) (c := Chunk.frz w c.S) (fun _ _ => rfl) fun k hk => ⟨.inl hk, (h.lt i hi hk).2⟩)
theorem frz_C (HO : Own w0 w L) (hi : L[i]? = some (Chunk.frz w1 S)) (hb : Below w0.heap.size w0 w1) (hF : d.F w1 (okF w0 S) A n xs) : d.C w A n xs :=
  hF w fun k hk _ => hk.elim (fun h => (HO.below.block k h).trans (hb.block k h).symm) fun h => HO.get i hi k h
theorem frz_F (HO : Own w0 w L) (hi : L[i]? = some (Chunk.frz w1 S)) (hb : Below w0.heap.size w0 w1) (hF : d.F w1 (okF w0 S) A n xs) : d.F w (okF w0 S) A n xs :=
  Kd.F_step hF fun k hk _ => hk.elim (fun h => (HO.below.block k h).trans (hb.block k h).symm) fun h => HO.get i hi k h
theorem frz_view (h : Own w0 w L) (i : Nat) (hi : L[i]? = some (Chunk.view d S A n c xs)) : Own w0 w (L.set i (Chunk.frz w S)) ∧ Kd.F d w (okF w0 S) A n xs ∧ n ≤ c ∧ Below w0.heap.size w0 w := by
  have hV := h.get i hi
  exact ⟨h.frz i hi, Kd.F_mono hV.1 (fun k hk => .inr hk), hV.2.1, h.below⟩
theorem frz_new (h : Own w0 w L) (hb : Below w.heap.size w w') : Own w0 w' (Chunk.frz w' (fun k => w.heap.size ≤ k ∧ k < w'.heap.size) :: L) :=
  h.fresh (cs := [Chunk.frz w' fun k => w.heap.size ≤ k ∧ k < w'.heap.size]) (Out.one (Out.of_below hb _) (c := Chunk.frz w' fun k => w.heap.size ≤ k ∧ k < w'.heap.size) (fun _ _ => rfl) fun k hk => ⟨.inr hk.1, hk.2⟩)
theorem frz_grow (h : Own w0 w L) (i : Nat) (hi : L[i]? = some (Chunk.frz w1 S)) (hb : Below w.heap.size w w') : Own w0 w' (L.set i (Chunk.frz w' (fun k => S k ∨ w.heap.size ≤ k ∧ k < w'.heap.size))) :=
  h.calls (cs := []) i hi (Out.one (Out.of_below hb _) (c := Chunk.frz w' fun k => S k ∨ w.heap.size ≤ k ∧ k < w'.heap.size) (fun _ _ => rfl) fun k hk => hk.elim (fun h2 => ⟨.inl h2, Nat.lt_of_lt_of_le (h.lt i hi h2).2 hb.size⟩) fun h2 => ⟨.inr h2.1, h2.2⟩)
end
end
end Go.Proofs.YtljmbgilcngfgaaDoor.PA
