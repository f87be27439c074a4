/- The row of the law MergeSpread: for every input the call returns true and leaves its arguments as they were. Printed by a program of this session. -/
/- What this claim uses of this session's own texts, put together by a program: HOpen Ty37 Ty51 Ty35 StmtMergeSpread PureMergeSpread LawMergeSpread. -/
import Derived.Test.YtmhgblhmkhoopaaKMergeSpread2
import Derived.Test.YtmhgblhmkhoopaaProg
import Derived.Test.YtmhgblhmkhoopaaRows
section
namespace Go.Proofs.Ytmhgblhmkhoopaa.PA
open Go.RowKit Go.Proofs.YtmhgblhmkhoopaaW.PrintWords Go.Proofs.YtmhgblhmkhoopaaW.PrintLast Go.Proofs.YtmhgblhmkhoopaaW.PrintMore
structure Opens {α : Type} (P : Program) (t : TypeId) (d : Kd α) (good : α → Prop) (wt : α → Nat) (sz : α → Prop) : Prop where
  run : ∀ {H : Type} (enc : TypeId × Value → H) (w : World) (spare : Nat → Bool) (held : Bool) (fuel : Nat) (cs : List Value) (x : DataW H × List MemPlace),
    DataW.trod enc P w 0 spare held fuel t cs = some x → ∃ y : α, d.K w y cs ∧ good y ∧ wt y ≤ Rows.uptoBulk x.1 ∧ ((∀ n ∈ x.1.weights P t, n ≤ reachBytes) → sz y)
structure OpensF {α : Type} (P : Program) (fs : List Field) (off : Nat) (d : Kd α) (good : α → Prop) (wt : α → Nat) (sz : α → Prop) : Prop where
  run : ∀ {H : Type} (enc : TypeId × Value → H) (w : World) (spare : Nat → Bool) (held : Bool) (fuel : Nat) (cs : List Value) (xs : List (DataW H × List MemPlace)),
    (fs.mapM fun f => DataW.trod enc P w 0 spare held fuel f.type ((cs.drop f.offset).take (P.cellsOf f.type))) = some xs →
      ∃ y : α, d.K w y ((cs.drop off).take d.sz) ∧ good y ∧ wt y ≤ Rows.uptoBulkAll (xs.map (·.1)) ∧ ((∀ n ∈ DataW.weightsEach P (fs.map (·.type)) (xs.map (·.1)), n ≤ reachBytes) → sz y)
section
variable {P : Program} {t e : TypeId}
theorem bulk_pos {H : Type} (d : DataW H) : 1 ≤ Rows.uptoBulk d := by
  cases d with
  | lit l => cases l <;> simp [Rows.uptoBulk]
  | nil => simp [Rows.uptoBulk]
  | ptr d => simp [Rows.uptoBulk]
  | slice elems spare => simp [Rows.uptoBulk]
  | agg parts => simp [Rows.uptoBulk]
  | iface t d => simp [Rows.uptoBulk]
  | map entries => simp [Rows.uptoBulk]
  | held h => simp [Rows.uptoBulk]
theorem opens_int {k : IntKind} (ht : P.underlying t = some (.int k)) : Opens P t (Kd.int k) (fun y => (Lit.int k y).wf = true) (fun _ => 1) (fun _ => True) :=
  ⟨fun enc w spare held fuel cs x h => by
    obtain ⟨n, rfl, rfl, hw⟩ := DataW.trod_int ht h
    exact ⟨n, rfl, hw, bulk_pos _, fun _ => trivial⟩⟩
theorem opens_string (ht : P.underlying t = some .string) : Opens P t Kd.string (fun s => s.size ≤ maxLen) (fun s => s.size + 1) (fun s => s.size ≤ reachBytes) :=
  ⟨fun enc w spare held fuel cs x h => by
    obtain ⟨s, rfl, rfl, hs⟩ := DataW.trod_string ht h
    have e : s.data.toList.length = s.size := by rw [Array.length_toList]; rfl
    refine ⟨s, rfl, hs, ?_, fun hn => ?_⟩
    · simp only [Rows.uptoBulk]
      omega
    · rw [← e]
      exact hn _ (by simp [DataW.weights])⟩
theorem bulkAll_map {H : Type} {α : Type} (wt : α → Nat) : ∀ (ds : List (DataW H)) (xs : List α), xs.length = ds.length → (∀ (i : Nat) (x : α) (d : DataW H), xs[i]? = some x → ds[i]? = some d → wt x ≤ Rows.uptoBulk d) → (xs.map wt).sum ≤ Rows.uptoBulkAll ds
  | [], [], _, _ => by simp
  | [], _ :: _, hl, _ => by simp at hl
  | _ :: _, [], hl, _ => by simp at hl
  | d :: ds, x :: xs, hl, h => by
    have h0 := h 0 x d rfl rfl
    have ih := bulkAll_map wt ds xs (by simpa using hl) (fun i x' d' h1 h2 => h (i + 1) x' d' (by simpa using h1) (by simpa using h2))
    simp only [List.map_cons, List.sum_cons, Rows.uptoBulkAll]
    omega
theorem cells_list {w : World} {base : Nat} {a : Addr} {n : Nat} {cs : List Value} (h : w.cells? base a n = some cs) : cs.length = n ∧ ∀ i u, cs[i]? = some u → w.cell? (a.add i) = some u := by
  unfold World.cells? at h
  split at h
  · have hl := mapM_some_length h
    rw [List.length_range] at hl
    refine ⟨hl, fun i u hu => ?_⟩
    have hi : i < n := by
      have := (List.getElem?_eq_some_iff.1 hu).1
      omega
    have := mapM_some_get h i i (by rw [List.getElem?_range hi])
    rw [this]
    exact hu
  · cases h
theorem mem_weightsAll {H : Type} {n : Nat} {d : DataW H} : ∀ {ds : List (DataW H)}, d ∈ ds → n ∈ d.weights P e → n ∈ DataW.weightsAll P e ds
  | [], h, _ => by cases h
  | c :: ds, h, hn => by
    simp only [DataW.weightsAll, List.mem_append]
    rcases List.mem_cons.1 h with rfl | h
    · exact .inl hn
    · exact .inr (mem_weightsAll h hn)
theorem opens_slice {α : Type} [Inhabited α] {d : Kd α} {good : α → Prop} {wt : α → Nat} {sz : α → Prop} {b : Nat} (hby : P.bytesOf e = b) (ht : P.underlying t = some (.slice e)) (hsz : P.cellsOf e = d.sz) (ho : Opens P e d good wt sz) :
    Opens P t (Kd.slice e d) (fun xs => xs.length ≤ maxLen ∧ ∀ x ∈ xs, good x) (fun xs => (xs.map wt).sum + 1) (fun xs => xs.length * b ≤ reachBytes ∧ ∀ x ∈ xs, sz x) :=
  ⟨fun enc w spare held fuel cs x h => by
    rcases Deep.open_slice ht h with ⟨rfl, rfl⟩ | ⟨a, len, cap, m, n, D, Pl, rfl, hb, hl, hm, hmm, rfl, hx⟩
    · refine ⟨[], ⟨none, 0, rfl, Nat.le_refl _, rfl, Nat.zero_le _, fun h => absurd h (by simp)⟩, ⟨by simp [maxLen], fun x hx => by cases hx⟩, by simpa using bulk_pos _, fun _ => ⟨by simp, fun x hx => by cases hx⟩⟩
    · have hlm : len ≤ m := by rw [hmm]; split <;> omega
      have hel : ∀ i : Nat, ∃ y : α, i < len → ∃ cs', w.cells? 0 (a.add (i * P.cellsOf e)) (P.cellsOf e) = some cs' ∧ d.K w y cs' ∧ good y ∧ wt y ≤ Rows.uptoBulk (D i) ∧ ((∀ n ∈ (D i).weights P e, n ≤ reachBytes) → sz y) := by
        intro i
        by_cases hi : i < len
        · obtain ⟨cs', h1, h2⟩ := hx i (by omega)
          obtain ⟨y, hk, hg, hw, hz⟩ := ho.run enc w spare held n cs' _ h2
          exact ⟨y, fun _ => ⟨cs', h1, hk, hg, hw, hz⟩⟩
        · exact ⟨default, fun h => absurd h hi⟩
      obtain ⟨f, hf⟩ := Classical.axiomOfChoice hel
      have hget : ∀ (j : Nat) (p : α), ((List.range len).map f)[j]? = some p → j < len ∧ f j = p := by
        intro j p hj
        have hj' := (List.getElem?_eq_some_iff.1 hj).1
        rw [List.length_map, List.length_range] at hj'
        rw [List.getElem?_map, List.getElem?_range hj'] at hj
        exact ⟨hj', by simpa using hj⟩
      have hlen : ((List.range len).map f).length = len := by rw [List.length_map, List.length_range]
      have hmax : maxLen = 9223372036854775807 := rfl
      refine ⟨(List.range len).map f, ⟨some a, cap, by rw [hlen], by rw [hlen]; exact hl, rfl, by rw [hlen]; omega, fun _ => ⟨a, rfl, fun j p hj => ?_⟩⟩, ⟨by rw [hlen]; omega, fun x hx' => ?_⟩, ?_, fun hn => ⟨?_, fun x hx' => ?_⟩⟩
      · obtain ⟨hj', rfl⟩ := hget j p hj
        obtain ⟨cs', h1, hk, _⟩ := hf j hj'
        obtain ⟨hcl, hcc⟩ := cells_list h1
        refine ⟨cs', by rw [hcl, hsz], hk, fun i u hu => ?_⟩
        have := hcc i u hu
        rwa [Addr.add_add, hsz] at this
      · obtain ⟨i, hi, rfl⟩ := List.mem_map.1 hx'
        obtain ⟨_, _, _, hg, _⟩ := hf i (List.mem_range.1 hi)
        exact hg
      · simp only [Rows.uptoBulk]
        have := bulkAll_map wt ((List.range len).map D) ((List.range len).map f) (by simp) (fun i x' d' h1 h2 => by
          obtain ⟨hi, rfl⟩ := hget i x' h1
          have hd : D i = d' := by
            rw [List.getElem?_map, List.getElem?_range hi] at h2
            simpa using h2
          subst hd
          obtain ⟨_, _, _, _, hw, _⟩ := hf i hi
          exact hw)
        omega
      · simp only [DataW.weights, ht] at hn
        have h1 := hn _ (List.mem_cons_self ..)
        rw [List.length_map, List.length_range, hby] at h1
        rw [hlen]
        exact Nat.le_trans (Nat.mul_le_mul_right b (Nat.le_add_right _ _)) h1
      · simp only [DataW.weights, ht] at hn
        obtain ⟨i, hi, rfl⟩ := List.mem_map.1 hx'
        obtain ⟨_, _, _, _, _, hz⟩ := hf i (List.mem_range.1 hi)
        exact hz fun n hn' => hn n (List.mem_cons_of_mem _ (List.mem_append_left _ (mem_weightsAll (List.mem_map.2 ⟨i, hi, rfl⟩) hn')))⟩
theorem opensF_one {α : Type} {d : Kd α} {good : α → Prop} {wt : α → Nat} {sz : α → Prop} {f : Field} (hsz : P.cellsOf f.type = d.sz) (ho : Opens P f.type d good wt sz) : OpensF P [f] f.offset d good wt sz :=
  ⟨fun enc w spare held fuel cs xs h => by
    simp only [List.mapM_cons, List.mapM_nil] at h
    obtain ⟨x, hx, h2⟩ := Option.bind_eq_some_iff.1 h
    obtain ⟨ys, hys, h3⟩ := Option.bind_eq_some_iff.1 h2
    obtain rfl : [] = ys := by simpa using hys
    obtain rfl : [x] = xs := by simpa using h3
    obtain ⟨y, hk, hg, hw, hz⟩ := ho.run enc w spare held fuel _ x hx
    refine ⟨y, by rw [← hsz]; exact hk, hg, ?_, fun hn => hz fun n h' => hn n ?_⟩
    · simp only [List.map_cons, List.map_nil, Rows.uptoBulkAll]
      omega
    · simp only [List.map_cons, List.map_nil, DataW.weightsEach, List.append_nil]
      exact h'⟩
theorem opensF_cons {α β : Type} {d : Kd α} {d2 : Kd β} {good : α → Prop} {good2 : β → Prop} {wt : α → Nat} {wt2 : β → Nat} {sz : α → Prop} {sz2 : β → Prop} {f : Field} {fs : List Field} {off2 : Nat} (hsz : P.cellsOf f.type = d.sz) (hoff : f.offset + d.sz = off2)
    (ho : Opens P f.type d good wt sz) (h2 : OpensF P fs off2 d2 good2 wt2 sz2) : OpensF P (f :: fs) f.offset (Kd.pair d d2) (fun x => good x.1 ∧ good2 x.2) (fun x => wt x.1 + wt2 x.2) (fun x => sz x.1 ∧ sz2 x.2) :=
  ⟨fun enc w spare held fuel cs xs h => by
    simp only [List.mapM_cons] at h
    obtain ⟨x, hx, h3⟩ := Option.bind_eq_some_iff.1 h
    obtain ⟨ys, hys, h4⟩ := Option.bind_eq_some_iff.1 h3
    obtain rfl : x :: ys = xs := by simpa using h4
    obtain ⟨y, hk, hg, hw, hz⟩ := ho.run enc w spare held fuel _ x hx
    obtain ⟨z, hk2, hg2, hw2, hz2⟩ := h2.run enc w spare held fuel cs ys hys
    refine ⟨(y, z), ⟨(cs.drop f.offset).take d.sz, (cs.drop off2).take d2.sz, ?_, by rw [← hsz]; exact hk, hk2⟩, ⟨hg, hg2⟩, ?_, fun hn => ?_⟩
    · show (cs.drop f.offset).take (d.sz + d2.sz) = _
      rw [List.take_add, List.drop_drop, hoff]
    · simp only [List.map_cons, Rows.uptoBulkAll]
      omega
    · simp only [List.map_cons, DataW.weightsEach] at hn
      exact ⟨hz fun n h' => hn n (List.mem_append_left _ h'), hz2 fun n h' => hn n (List.mem_append_right _ h')⟩⟩
theorem opens_struct {α β : Type} {d : Kd α} {good : α → Prop} {wt : α → Nat} {sz : α → Prop} {fs : Array Field} (f : β → α) (g : α → β) (hfg : ∀ a, f (g a) = a) (ht : P.underlying t = some (.struct fs)) (hsz : P.cellsOf t = d.sz) (ho : OpensF P fs.toList 0 d good wt sz) :
    Opens P t (Kd.iso d f) (fun x => good (f x)) (fun x => wt (f x) + 1) (fun x => sz (f x)) :=
  ⟨fun enc w spare held fuel cs x h => by
    cases fuel with
    | zero => simp [DataW.trod] at h
    | succ n =>
      unfold DataW.trod at h
      rw [ht] at h
      have h' : (if cs.length = P.cellsOf t then (fs.toList.mapM fun f => DataW.trod enc P w 0 spare held n f.type ((cs.drop f.offset).take (P.cellsOf f.type))).map fun xs => (DataW.agg (xs.map (·.1)), xs.flatMap (·.2)) else none) = some x := by
        cases cs with
        | nil => exact h
        | cons c cs => cases cs <;> cases c <;> exact h
      clear h
      split at h'
      · rename_i hl
        obtain ⟨xs, hxs, rfl⟩ := Option.map_eq_some_iff.1 h'
        obtain ⟨y, hk, hg, hw, hz⟩ := ho.run enc w spare held n cs xs hxs
        refine ⟨g y, ?_, by show good (f (g y)); rw [hfg]; exact hg, ?_, fun hn => ?_⟩
        · show d.K w (f (g y)) cs
          rw [hfg]
          rw [List.drop_zero, List.take_of_length_le (by omega)] at hk
          exact hk
        · show wt (f (g y)) + 1 ≤ Rows.uptoBulk (DataW.agg (xs.map (·.1)))
          rw [hfg]
          simp only [Rows.uptoBulk]
          omega
        · show sz (f (g y))
          rw [hfg]
          simp only [DataW.weights, ht] at hn
          exact hz hn
      · cases h'⟩
end
end Go.Proofs.Ytmhgblhmkhoopaa.PA
end
section
namespace Go.Proofs.Ytmhgblhmkhoopaa.PA
open Go.RowKit Go.Proofs.YtmhgblhmkhoopaaW.PrintWords Go.Proofs.YtmhgblhmkhoopaaW.PrintLast Go.Proofs.YtmhgblhmkhoopaaW.PrintMore
set_option linter.unusedVariables false
instance : Inhabited S37 := ⟨z37⟩
def good37 (x : S37) : Prop := (x.f0).size ≤ maxLen ∧ (Lit.int .i64 (x.f1)).wf = true
def wt37 (x : S37) : Nat := (((x.f0).size + 1) + (1)) + 1
def sz37 (x : S37) : Prop := ((x.f0).size ≤ reachBytes) ∧ True
theorem opens37 : Opens Try.prog 37 k37 good37 wt37 sz37 :=
  opens_struct (fun x : S37 => (x.f0, x.f1)) (fun p => ⟨p.1, p.2⟩) (fun _ => rfl) Try.underlying37 (by kernel_rfl) (opensF_cons (by kernel_rfl) rfl (opens_string Try.underlying9) (opensF_one (by kernel_rfl) (opens_int Try.underlying3)))
end Go.Proofs.Ytmhgblhmkhoopaa.PA
end
section
namespace Go.Proofs.Ytmhgblhmkhoopaa.PA
open Go.RowKit Go.Proofs.YtmhgblhmkhoopaaW.PrintWords Go.Proofs.YtmhgblhmkhoopaaW.PrintLast Go.Proofs.YtmhgblhmkhoopaaW.PrintMore
set_option linter.unusedVariables false
instance : Inhabited S51 := ⟨z51⟩
def good51 (x : S51) : Prop := (Lit.int .i64 (x.f0)).wf = true ∧ (Lit.int .i64 (x.f1)).wf = true ∧ (x.f2).size ≤ maxLen ∧ (Lit.int .i64 (x.f3)).wf = true
def wt51 (x : S51) : Nat := (1 + (1 + (((x.f2).size + 1) + (1)))) + 1
def sz51 (x : S51) : Prop := True ∧ True ∧ ((x.f2).size ≤ reachBytes) ∧ True
theorem opens51 : Opens Try.prog 51 k51 good51 wt51 sz51 :=
  opens_struct (fun x : S51 => (x.f0, x.f1, x.f2, x.f3)) (fun p => ⟨p.1, p.2.1, p.2.2.1, p.2.2.2⟩) (fun _ => rfl) Try.underlying51 (by kernel_rfl) (opensF_cons (by kernel_rfl) rfl (opens_int Try.underlying3) (opensF_cons (by kernel_rfl) rfl (opens_int Try.underlying3) (opensF_cons (by kernel_rfl) rfl (opens_string Try.underlying9) (opensF_one (by kernel_rfl) (opens_int Try.underlying2)))))
end Go.Proofs.Ytmhgblhmkhoopaa.PA
end
section
namespace Go.Proofs.Ytmhgblhmkhoopaa.PA
open Go.RowKit Go.Proofs.YtmhgblhmkhoopaaW.PrintWords Go.Proofs.YtmhgblhmkhoopaaW.PrintLast Go.Proofs.YtmhgblhmkhoopaaW.PrintMore
set_option linter.unusedVariables false
instance : Inhabited S35 := ⟨z35⟩
def good35 (x : S35) : Prop := (Lit.int .i64 (x.f0)).wf = true ∧ ((x.f1).length ≤ maxLen ∧ ∀ y ∈ x.f1, good37 (y)) ∧ ((x.f2).length ≤ maxLen ∧ ∀ y ∈ x.f2, ((y).length ≤ maxLen ∧ ∀ z ∈ y, good51 (z)))
def wt35 (x : S35) : Nat := (1 + ((((x.f1).map (fun x => wt37 (x))).sum + 1) + ((((x.f2).map (fun x => (((x).map (fun x => wt51 (x))).sum + 1))).sum + 1)))) + 1
def sz35 (x : S35) : Prop := True ∧ ((x.f1).length * 24 ≤ reachBytes ∧ ∀ y ∈ x.f1, sz37 (y)) ∧ ((x.f2).length * 24 ≤ reachBytes ∧ ∀ y ∈ x.f2, ((y).length * 40 ≤ reachBytes ∧ ∀ z ∈ y, sz51 (z)))
theorem opens35 : Opens Try.prog 35 k35 good35 wt35 sz35 :=
  opens_struct (fun x : S35 => (x.f0, x.f1, x.f2)) (fun p => ⟨p.1, p.2.1, p.2.2⟩) (fun _ => rfl) Try.underlying35 (by kernel_rfl) (opensF_cons (by kernel_rfl) rfl (opens_int Try.underlying3) (opensF_cons (by kernel_rfl) rfl (opens_slice (b := 24) (by kernel_rfl) Try.underlying32 (by kernel_rfl) opens37) (opensF_one (by kernel_rfl) (opens_slice (b := 24) (by kernel_rfl) Try.underlying33 (by kernel_rfl) (opens_slice (b := 40) (by kernel_rfl) Try.underlying42 (by kernel_rfl) opens51)))))
end Go.Proofs.Ytmhgblhmkhoopaa.PA
end
section
namespace Go.Proofs.Ytmhgblhmkhoopaa.PA
open Go.RowKit Go.Proofs.YtmhgblhmkhoopaaW.PrintWords Go.Proofs.YtmhgblhmkhoopaaW.PrintLast Go.Proofs.YtmhgblhmkhoopaaW.PrintMore
set_option linter.unusedVariables false
def colloquylaw22_MergeSpread.PureU : Prop := ∀ (x0 : List (S35)) (x1 : List (Int)) (x2 : List (Int)), ((x0).length ≤ maxLen ∧ ∀ y ∈ x0, good35 (y)) → ((x1).length ≤ maxLen ∧ ∀ y ∈ x1, (Lit.int .i64 (y)).wf = true) → ((x2).length ≤ maxLen ∧ ∀ y ∈ x2, (Lit.int .i64 (y)).wf = true) → ((x0).length * 56 ≤ reachBytes ∧ ∀ y ∈ x0, sz35 (y)) → ((x1).length * 8 ≤ reachBytes ∧ ∀ y ∈ x1, True) → ((x2).length * 8 ≤ reachBytes ∧ ∀ y ∈ x2, True) → ∃ _ : Nat, colloquylaw22_MergeSpread.f (x0) (x1) (x2) = some true
end Go.Proofs.Ytmhgblhmkhoopaa.PA
end
section
namespace Go.Proofs.Ytmhgblhmkhoopaa.Pure
open Go.RowKit Go.Proofs.Ytmhgblhmkhoopaa.PA
set_option linter.unusedVariables false in
theorem MergeSpread : colloquylaw22_MergeSpread.PureU := by
  intro x0 x1 x2 _ _ _ z0 _ _
  have hrb : reachBytes ≤ 1000000000000000 := by decide
  refine ⟨0, if_pos (show smallP [x0] from fun e he => ?_)⟩
  rw [List.flatten_cons, List.flatten_nil, List.append_nil] at he
  have h := z0.2 e he
  exact ⟨by have := h.2.1.1; omega, fun t ht => by have := (h.2.2.2 t ht).1; omega⟩
end Go.Proofs.Ytmhgblhmkhoopaa.Pure
end
section
namespace Go.Proofs.Ytmhgblhmkhoopaa.mergeSpread
open Go.ChangeShapes Go.WideShapes Go.ChangeAt Go.RowKit
open Go.ChangeMaps (open_string shut_string)
open Go.RowKit Go.Proofs.YtmhgblhmkhoopaaW.PrintWords Go.Proofs.YtmhgblhmkhoopaaW.PrintLast Go.Proofs.YtmhgblhmkhoopaaW.PrintMore Go.Proofs.Ytmhgblhmkhoopaa.PA
set_option linter.unusedVariables false
set_option linter.unusedSimpArgs false
theorem own : ownKnob Try.prog.godebug = none := by kernel_rfl
theorem laidOut : laidOutB Try.prog = true := by kernel_rfl
set_option maxRecDepth 100000 in
theorem contract (H : Type) (enc : TypeId × Value → H) (W : World) (base : Nat) (args : Array Value) (ds gs : List (DataW H)) (before : List MemPlace)
    (hval0 : ∀ (j : Nat) t v, Try.f4.params[j]? = some t → args[j]? = some v → Value.okWide Try.prog W .any base t v)
    (hW : DataW.Whole enc Try.prog Try.f4.params.toList Rows.mergeSpreadSpec.vars false W args.toList ds gs before)
    (hsz0 : (DataW.weightsEach Try.prog (Try.f4.params.toList ++ Rows.mergeSpreadSpec.plain.varTypes Try.prog) (ds ++ gs)).all (· ≤ reachBytes) = true) :
    Calls Try.prog 4 args W fun e W' => ∃ v, e = .returned v ∧ Rows.mergeSpreadSpec.post enc Try.prog Try.f4 false true false false W args v W' := by
  have hsz : (DataW.weightsEach Try.prog (Try.f4.params.toList ++ Rows.mergeSpreadSpec.plain.varTypes Try.prog) (ds ++ gs)).all (· ≤ reachBytes) = true := hsz0
  have hval : ∀ (j : Nat) t v, Try.f4.params[j]? = some t → args[j]? = some v → Value.okWide Try.prog W .any base t v := hval0
  have hW' := hW
  obtain ⟨p, q, hA0, hV, rfl, hfz, hnd⟩ := hW
  have hA : DataW.TrodAll enc Try.prog W 0 (fun _ => true) true Try.f4.params.toList args.toList ds p := hA0
  rw [Try.params4] at hA hval hsz
  obtain ⟨v0, vs0, d0, ds0, p0, q0, hargs, rfl, rfl, h0, r0⟩ := trodAll_cons hA
  obtain ⟨v1, vs1, d1, ds1, p1, q1, rfl, rfl, rfl, h1, r1⟩ := trodAll_cons r0
  obtain ⟨v2, vs2, d2, ds2, p2, q2, rfl, rfl, rfl, h2, r2⟩ := trodAll_cons r1
  obtain ⟨rfl, rfl, rfl⟩ := trodAll_nil r2
  obtain rfl : args = #[v0, v1, v2] := by cases args; simp_all
  obtain ⟨rfl, rfl⟩ := trodVars_none hV
  have k0 := h0
  have lt0 : ∀ x ∈ p0, x.block < W.heap.size := by obtain ⟨m, hm⟩ := k0; exact DataW.trod_lt m _ _ _ hm
  obtain ⟨fuel0, hf0⟩ := h0
  obtain ⟨x0, hK0, g0, z0, s00⟩ := (opens_slice (b := 56) (by kernel_rfl) Try.underlying25 (by kernel_rfl) opens35).run enc W _ _ fuel0 _ _ hf0
  have s0 := s00 (fun n hn => by have := List.all_eq_true.1 hsz n (DataW.weights_mem_each (j := 0) (t := 25) rfl rfl n hn); simpa using this)
  obtain ⟨a0, len0, cap0, rfl⟩ := okWide_slice Try.underlying25 (hval 0 25 v0 rfl rfl)
  obtain ⟨A0, c0, hcs0, hc0, hr0⟩ := hK0
  obtain ⟨rfl, rfl, rfl⟩ : a0 = A0 ∧ len0 = x0.length ∧ cap0 = c0 := by
    have hcs' : [Value.slice a0 len0 cap0] = [Value.slice A0 x0.length c0] := hcs0
    injection hcs' with e1 _
    injection e1 with e1 e2 e3
    exact ⟨e1, e2, e3⟩
  have k1 := h1
  have lt1 : ∀ x ∈ p1, x.block < W.heap.size := by obtain ⟨m, hm⟩ := k1; exact DataW.trod_lt m _ _ _ hm
  obtain ⟨fuel1, hf1⟩ := h1
  obtain ⟨x1, hK1, g1, z1, s10⟩ := (opens_slice (b := 8) (by kernel_rfl) Try.underlying39 (by kernel_rfl) (opens_int Try.underlying3)).run enc W _ _ fuel1 _ _ hf1
  have s1 := s10 (fun n hn => by have := List.all_eq_true.1 hsz n (DataW.weights_mem_each (j := 1) (t := 39) rfl rfl n hn); simpa using this)
  obtain ⟨a1, len1, cap1, rfl⟩ := okWide_slice Try.underlying39 (hval 1 39 v1 rfl rfl)
  obtain ⟨A1, c1, hcs1, hc1, hr1⟩ := hK1
  obtain ⟨rfl, rfl, rfl⟩ : a1 = A1 ∧ len1 = x1.length ∧ cap1 = c1 := by
    have hcs' : [Value.slice a1 len1 cap1] = [Value.slice A1 x1.length c1] := hcs1
    injection hcs' with e1 _
    injection e1 with e1 e2 e3
    exact ⟨e1, e2, e3⟩
  have k2 := h2
  have lt2 : ∀ x ∈ p2, x.block < W.heap.size := by obtain ⟨m, hm⟩ := k2; exact DataW.trod_lt m _ _ _ hm
  obtain ⟨fuel2, hf2⟩ := h2
  obtain ⟨x2, hK2, g2, z2, s20⟩ := (opens_slice (b := 8) (by kernel_rfl) Try.underlying39 (by kernel_rfl) (opens_int Try.underlying3)).run enc W _ _ fuel2 _ _ hf2
  have s2 := s20 (fun n hn => by have := List.all_eq_true.1 hsz n (DataW.weights_mem_each (j := 2) (t := 39) rfl rfl n hn); simpa using this)
  obtain ⟨a2, len2, cap2, rfl⟩ := okWide_slice Try.underlying39 (hval 2 39 v2 rfl rfl)
  obtain ⟨A2, c2, hcs2, hc2, hr2⟩ := hK2
  obtain ⟨rfl, rfl, rfl⟩ : a2 = A2 ∧ len2 = x2.length ∧ cap2 = c2 := by
    have hcs' : [Value.slice a2 len2 cap2] = [Value.slice A2 x2.length c2] := hcs2
    injection hcs' with e1 _
    injection e1 with e1 e2 e3
    exact ⟨e1, e2, e3⟩
  obtain ⟨k, h⟩ := Pure.MergeSpread x0 x1 x2 g0 g1 g2 s0 s1 s2
  refine (PA.colloquylaw22_MergeSpread.calls (A0 := a0) (c0 := cap0) (l0 := x0) (A1 := a1) (c1 := cap1) (l1 := x1) (A2 := a2) (c2 := cap2) (l2 := x2) (r := true) (w := W) (hr0 := hr0) (hc0 := hc0) (hr1 := hr1) (hc1 := hc1) (hr2 := hr2) (hc2 := hc2) (h := h)).mono fun e W' ⟨he, hb⟩ => ?_
  have bel : Below W.heap.size W W' := by first | exact hb | exact Drawn0.below hb
  subst he
  exact ⟨_, rfl, _, _, _, [], _, [], hW', trodAll_mk1 (shut_bool Try.underlying4 _), (trodAll_cons_mk (Below.trod laidOut (by kernel_rfl) (of_decide_eq_true (by kernel_rfl)) k0 bel lt0) (trodAll_cons_mk (Below.trod laidOut (by kernel_rfl) (of_decide_eq_true (by kernel_rfl)) k1 bel lt1) (trodAll_cons_mk (Below.trod laidOut (by kernel_rfl) (of_decide_eq_true (by kernel_rfl)) k2 bel lt2) trodAll_mk0))), rfl, bel.frame _, fun h => by cases h⟩
set_option maxRecDepth 100000 in
theorem lifted (os : Os) (started : os.Started) (H : Type) (enc : TypeId × Value → H) :
    ReturnsInHanded {} Try.checked os 4 .any (Rows.mergeSpreadSpec.pre6 enc Try.prog Try.f4 Rows.mergeSpreadRow.domain false) (Rows.mergeSpreadSpec.post enc Try.prog Try.f4 false true false false) := by
  refine returnsInHanded_of_change_sized (C := Try.checked) own started (by kernel_rfl) Try.func4
    (ChangeSpec.witness6 (enc := enc) (C := Try.checked) false ⟨#[], #[.slice none 0 0, .slice none 0 0, .slice none 0 0], []⟩ 8 (by kernel_rfl) (by kernel_rfl) (by kernel_rfl) (by kernel_rfl)) ?_
  intro W base args ds gs before hval hW _ hsz _
  exact contract H enc W base args ds gs before hval hW hsz
theorem proved : Rows.MergeSpreadSaid :=
  OpenClaim.holds_of_wide 4 Try.f4 rfl rfl rfl rfl rfl rfl rfl ⟨rfl, rfl, rfl, rfl, rfl⟩ rfl rfl rfl rfl rfl (by kernel_rfl) Try.func4 (by kernel_rfl)
    (of_decide_eq_true (by kernel_rfl)) (by unfold Func.isWrapper; first | (rw [if_pos (by decide +kernel)]; kernel_rfl) | (rw [if_neg (by decide +kernel)]; exact ⟨rfl, rfl⟩))
    (fun os started H enc _ => lifted os started H enc)
#print axioms proved
end Go.Proofs.Ytmhgblhmkhoopaa.mergeSpread
namespace Go.Proofs.Ytmhgblhmkhoopaa
theorem mergeSpread_holds : Rows.MergeSpreadSaid := mergeSpread.proved
end Go.Proofs.Ytmhgblhmkhoopaa
end
