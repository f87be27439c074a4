/- Reading call by call: what so many calls come to. -/
import Derived.Test.YtmlemnfleicnfaaHReadL
namespace Go.Proofs.Ytmlemnfleicnfaa.PA
open Go.RowKit Go.Proofs.YtmlemnfleicnfaaW.PrintWords Go.Proofs.YtmlemnfleicnfaaW.PrintLast Go.Proofs.YtmlemnfleicnfaaW.PrintMore
set_option linter.unusedVariables false
set_option linter.unusedSimpArgs false
structure RS where
  rest : List Int
  nums : List Int
  texts : List ByteArray
  left : List Int
def rget (c : Int) (s : RS) : Option RS :=
  if c = 0 then (match gnum s.rest with | some (n, k) => some { s with rest := s.rest.drop k, nums := s.nums ++ [n] } | none => none)
  else if c = 1 then (match gnum s.rest with | some (n, k) => if n ≤ 1000 then some { s with rest := s.rest.drop k, nums := s.nums ++ [n] } else none | none => none)
  else if c = 2 then (match gtext s.rest 40 with | some (bs, k) => some { s with rest := s.rest.drop k, texts := s.texts ++ [strOfNums bs] } | none => none)
  else some s
def rstep (c : Int) (s : RS) : Option RS := (rget c s).map fun s => { s with left := s.left ++ [(s.rest.length : Int)] }
def rrun (calls : List Int) : Nat → RS → Option RS
  | 0, s => some s
  | k + 1, s => (rrun calls k s).bind (rstep (calls.getD k 0))
theorem rrun_succ {calls : List Int} {i : Int} {s a : RS} (h0 : 0 ≤ i) (h : rrun calls i.toNat s = some a) : rrun calls (i + 1).toNat s = rstep (calls.getD i.toNat 0) a := by
  rw [show (i + 1).toNat = i.toNat + 1 by omega]
  unfold rrun
  rw [h]
  rfl
section
variable {xs ns ls : List Int} {ts : List ByteArray} {c n : Int} {k : Nat} {bs : List Int}
theorem rs_num (hc : c = 0) (hg : gnum xs = some (n, k)) : rstep c ⟨xs, ns, ts, ls⟩ = some ⟨xs.drop k, ns ++ [n], ts, ls ++ [((xs.drop k).length : Int)]⟩ := by
  unfold rstep rget
  rw [if_pos hc]
  simp only [hg]
  rfl
theorem rs_num_no (hc : c = 0) (hg : gnum xs = none) : rstep c ⟨xs, ns, ts, ls⟩ = none := by
  unfold rstep rget
  rw [if_pos hc]
  simp only [hg]
  rfl
theorem rs_int (hc : c = 1) (hg : gnum xs = some (n, k)) (hn : n ≤ 1000) : rstep c ⟨xs, ns, ts, ls⟩ = some ⟨xs.drop k, ns ++ [n], ts, ls ++ [((xs.drop k).length : Int)]⟩ := by
  unfold rstep rget
  rw [if_neg (by omega), if_pos hc]
  simp only [hg, if_pos hn]
  rfl
theorem rs_int_no (hc : c = 1) (hg : ∀ n k, gnum xs = some (n, k) → 1000 < n) : rstep c ⟨xs, ns, ts, ls⟩ = none := by
  unfold rstep rget
  rw [if_neg (by omega), if_pos hc]
  cases h : gnum xs with
  | none => simp only [h]; rfl
  | some p =>
    obtain ⟨n, k⟩ := p
    have := hg n k h
    simp only [h]
    rw [if_neg (by omega)]
    rfl
theorem rs_text (hc : c = 2) (hg : gtext xs 40 = some (bs, k)) : rstep c ⟨xs, ns, ts, ls⟩ = some ⟨xs.drop k, ns, ts ++ [strOfNums bs], ls ++ [((xs.drop k).length : Int)]⟩ := by
  unfold rstep rget
  rw [if_neg (by omega), if_neg (by omega), if_pos hc]
  simp only [hg]
  rfl
theorem rs_text_no (hc : c = 2) (hg : gtext xs 40 = none) : rstep c ⟨xs, ns, ts, ls⟩ = none := by
  unfold rstep rget
  rw [if_neg (by omega), if_neg (by omega), if_pos hc]
  simp only [hg]
  rfl
theorem rs_skip (h0 : c ≠ 0) (h1 : c ≠ 1) (h2 : c ≠ 2) : rstep c ⟨xs, ns, ts, ls⟩ = some ⟨xs, ns, ts, ls ++ [(xs.length : Int)]⟩ := by
  unfold rstep rget
  rw [if_neg h0, if_neg h1, if_neg h2]
  rfl
end
/-- One step puts behind. -/
theorem rstep_grows {c : Int} {s a : RS} (h : rstep c s = some a) : s.nums <+: a.nums ∧ s.texts <+: a.texts ∧ ∃ z, a.left = s.left ++ [z] := by
  unfold rstep at h
  cases hg : rget c s with
  | none => rw [hg] at h; cases h
  | some b =>
    rw [hg] at h
    simp only [Option.map_some, Option.some.injEq] at h
    subst h
    have key : s.nums <+: b.nums ∧ s.texts <+: b.texts ∧ b.left = s.left := by
      unfold rget at hg
      (repeat' split at hg) <;> first
        | (cases hg; done)
        | (simp only [Option.some.injEq] at hg; subst hg; exact ⟨by simp, by simp, rfl⟩)
    exact ⟨key.1, key.2.1, _, by rw [key.2.2]⟩
theorem rrun_grows {calls : List Int} {s a b : RS} {i : Nat} (ha : rrun calls i s = some a) : ∀ d, rrun calls (i + d) s = some b → a.nums <+: b.nums ∧ a.texts <+: b.texts ∧ a.left <+: b.left
  | 0, hb => by
    rw [Nat.add_zero, ha] at hb
    cases hb
    exact ⟨List.prefix_refl _, List.prefix_refl _, List.prefix_refl _⟩
  | d + 1, hb => by
    rw [← Nat.add_assoc] at hb
    unfold rrun at hb
    cases hc : rrun calls (i + d) s with
    | none => rw [hc] at hb; cases hb
    | some q =>
      rw [hc] at hb
      have ih := rrun_grows ha d hc
      obtain ⟨h1, h2, z, h3⟩ := rstep_grows hb
      exact ⟨ih.1.trans h1, ih.2.1.trans h2, ih.2.2.trans ⟨[z], h3.symm⟩⟩
theorem rrun_stop {calls : List Int} {s : RS} {i : Nat} (h : rrun calls i s = none) : ∀ d, rrun calls (i + d) s = none
  | 0 => h
  | d + 1 => by
    rw [← Nat.add_assoc]
    unfold rrun
    rw [rrun_stop h d]
    rfl
theorem rrun_left {calls xs : List Int} : ∀ (i : Nat) {s : RS}, rrun calls i ⟨xs, [], [], []⟩ = some s → s.left.length = i
  | 0, s, h => by
    simp only [rrun, Option.some.injEq] at h
    subst h
    rfl
  | i + 1, s, h => by
    unfold rrun at h
    cases hc : rrun calls i ⟨xs, [], [], []⟩ with
    | none => rw [hc] at h; cases h
    | some q =>
      rw [hc] at h
      obtain ⟨_, _, z, h3⟩ := rstep_grows h
      rw [h3, List.length_append, rrun_left i hc]
      rfl
/-- How a reading of all calls ends: fi calls came through. -/
structure Fin' (calls xs : List Int) (fi : Nat) (s : RS) (ec : Int) : Prop where
  run : rrun calls fi ⟨xs, [], [], []⟩ = some s
  le : fi ≤ calls.length
  ok : fi = calls.length → ec = if s.rest.length = 0 then 0 else 80
  bad : fi < calls.length → ec = 80 ∧ rstep (calls.getD fi 0) s = none
section
variable {calls xs : List Int} {fi : Nat} {s a a' : RS} {ec i : Int}
theorem fin_fail (F : Fin' calls xs fi s ec) (h0 : 0 ≤ i) (hi : rrun calls i.toNat ⟨xs, [], [], []⟩ = some a) (hle : i ≤ fi) (hlt : i < calls.length) (hn : rstep (calls.getD i.toNat 0) a = none) : ec = 80 ∧ (s.left.length : Int) = i := by
  have e : fi = i.toNat := by
    by_cases h : i.toNat = fi
    · exact h.symm
    · exfalso
      have h1 : rrun calls (i.toNat + 1) ⟨xs, [], [], []⟩ = none := by
        unfold rrun
        rw [hi]
        exact hn
      have h2 := rrun_stop h1 (fi - (i.toNat + 1))
      rw [show i.toNat + 1 + (fi - (i.toNat + 1)) = fi by omega, F.run] at h2
      cases h2
  have hl := rrun_left fi F.run
  have := F.bad (by omega)
  exact ⟨this.1, by omega⟩
theorem fin_ok (F : Fin' calls xs fi s ec) (h0 : 0 ≤ i) (hi : rrun calls i.toNat ⟨xs, [], [], []⟩ = some a) (hle : i ≤ fi) (hlt : i < calls.length) (hs : rstep (calls.getD i.toNat 0) a = some a') : i + 1 ≤ fi ∧ a'.nums <+: s.nums ∧ a'.texts <+: s.texts ∧ a'.left <+: s.left ∧ a.left.length = i.toNat := by
  have hl := rrun_left _ hi
  by_cases h : i.toNat = fi
  · exfalso
    have h2 := (F.bad (by omega)).2
    have h3 := F.run
    rw [← h, hi] at h3
    cases h3
    rw [← h, hs] at h2
    cases h2
  · have h1 : rrun calls (i.toNat + 1) ⟨xs, [], [], []⟩ = some a' := by
      unfold rrun
      rw [hi]
      exact hs
    have h2 := rrun_grows (b := s) h1 (fi - (i.toNat + 1)) (by rw [show i.toNat + 1 + (fi - (i.toNat + 1)) = fi by omega]; exact F.run)
    exact ⟨by omega, h2.1, h2.2.1, h2.2.2, hl⟩
theorem fin_end (F : Fin' calls xs fi s ec) (hi : rrun calls i.toNat ⟨xs, [], [], []⟩ = some a) (hle : i ≤ fi) (h0 : 0 ≤ i) (he : i = calls.length) : ec = (if a.rest.length = 0 then 0 else 80) := by
  have e : fi = i.toNat := by have := F.le; omega
  have h3 := F.run
  rw [e, hi] at h3
  cases h3
  exact F.ok (by omega)
end
theorem pre_at {α : Type} {l m : List α} {x z : α} (h : (l ++ [x]) <+: m) : l.length < m.length ∧ m.getD l.length z = x := by
  obtain ⟨t, rfl⟩ := h
  refine ⟨by simp, ?_⟩
  simp [List.getD_eq_getElem?_getD]
section
variable {xs ns ls : List Int} {ts : List ByteArray} {c : Int}
theorem law_no01 (hc : c = 0 ∨ c = 1) (h : (gnumV xs).2 = 0 ∨ c = 1 ∧ 1000 < (gnumV xs).1) : rstep c ⟨xs, ns, ts, ls⟩ = none := by
  rcases gnumV_is xs with ⟨hn, _⟩ | ⟨k, hs, h2, h3⟩
  · rcases hc with hc | hc
    · exact rs_num_no hc hn
    · exact rs_int_no hc (fun n k hh => by rw [hn] at hh; cases hh)
  · have h1 : c = 1 ∧ 1000 < (gnumV xs).1 := by omega
    exact rs_int_no h1.1 (fun n k hh => by rw [hs] at hh; simp only [Option.some.injEq, Prod.mk.injEq] at hh; omega)
theorem law_yes01 (hc : c = 0 ∨ c = 1) (h : ¬(gnumV xs).2 = 0 ∧ (¬c = 1 ∨ (gnumV xs).1 ≤ 1000)) : rstep c ⟨xs, ns, ts, ls⟩ = some ⟨xs.drop (gnumV xs).2.toNat, ns ++ [(gnumV xs).1], ts, ls ++ [((xs.drop (gnumV xs).2.toNat).length : Int)]⟩ := by
  rcases gnumV_is xs with ⟨hn, h0, _⟩ | ⟨k, hs, h2, h3⟩
  · exact absurd h0 h.1
  · rw [h2, Int.toNat_natCast]
    rcases hc with hc | hc
    · exact rs_num hc hs
    · exact rs_int hc hs (by omega)
theorem gtextV_is (xs : List Int) (m : Int) : (gtext xs m = none ∧ (gtextV xs m).2 = 0) ∨ (∃ bs k, gtext xs m = some (bs, k) ∧ (gtextV xs m).1 = strOfNums bs ∧ (gtextV xs m).2 = (k : Nat) ∧ 1 ≤ k ∧ k ≤ xs.length) := by
  cases h : gtext xs m with
  | none => rw [gtextV_none h]; exact .inl ⟨rfl, rfl⟩
  | some p =>
    obtain ⟨bs, k⟩ := p
    rw [gtextV_some h]
    have := gtext_some h
    exact .inr ⟨bs, k, rfl, rfl, rfl, this.1, this.2.1⟩
theorem gtextV_b (xs : List Int) (m : Int) : 0 ≤ (gtextV xs m).2 ∧ (gtextV xs m).2 ≤ xs.length := by
  rcases gtextV_is xs m with ⟨_, h⟩ | ⟨bs, k, _, _, h⟩ <;> omega
theorem law_no2 (hc : c = 2) (h : (gtextV xs 40).2 = 0) : rstep c ⟨xs, ns, ts, ls⟩ = none := by
  rcases gtextV_is xs 40 with ⟨hn, _⟩ | ⟨bs, k, hs, h1, h2⟩
  · exact rs_text_no hc hn
  · omega
theorem law_yes2 (hc : c = 2) (h : ¬(gtextV xs 40).2 = 0) : rstep c ⟨xs, ns, ts, ls⟩ = some ⟨xs.drop (gtextV xs 40).2.toNat, ns, ts ++ [(gtextV xs 40).1], ls ++ [((xs.drop (gtextV xs 40).2.toNat).length : Int)]⟩ := by
  rcases gtextV_is xs 40 with ⟨hn, h0⟩ | ⟨bs, k, hs, h1, h2, h3⟩
  · exact absurd h0 h
  · rw [h2, h1, Int.toNat_natCast]
    exact rs_text hc hs
end
theorem str_openF {w : World} {ok : Nat → Prop} {m : ByteArray} {cs : List Value} (h : Kd.FK Kd.string w ok m cs) : cs = [.string m] := Kd.FK_now h
end Go.Proofs.Ytmlemnfleicnfaa.PA
