/- Arguments that read as data read as the values of the print's kinds; and what the bound on their bulk gives. -/
import Derived.Test.YtkdahjnmldeklaaPAx0
import Derived.Test.YtkdahjnmldeklaaRows
import Derived.Deep.Slices
import Derived.ChangeArms
import Derived.WideShapes
import Derived.DataReads
import Derived.DataElems
namespace Go.Proofs.Ytkdahjnmldeklaa.PA
open Go.RowKit Go.Proofs.YtkdahjnmldeklaaW.PrintWords Go.Proofs.YtkdahjnmldeklaaW.PrintLast Go.Proofs.YtkdahjnmldeklaaW.PrintMore

/-- What reads as data at type t reads as a value of the kind d; 'good' of it, and 'wt' of it is at most the data's bulk. -/
structure Opens {α : Type} (P : Program) (t : TypeId) (d : Kd α) (good : α → Prop) (wt : α → Nat) (sz : α → Prop) : Prop where
  run : ∀ {H : Type} (enc : TypeId × Value → H) (w : World) (spare : Nat → Bool) (held : Bool) (fuel : Nat) (cs : List Value) (x : DataW H × List MemPlace),
    DataW.trod enc P w 0 spare held fuel t cs = some x → ∃ y : α, d.K w y cs ∧ good y ∧ wt y ≤ Rows.uptoBulk x.1 ∧ ((∀ n ∈ x.1.weights P t, n ≤ reachBytes) → sz y)
structure OpensF {α : Type} (P : Program) (fs : List Field) (off : Nat) (d : Kd α) (good : α → Prop) (wt : α → Nat) (sz : α → Prop) : Prop where
  run : ∀ {H : Type} (enc : TypeId × Value → H) (w : World) (spare : Nat → Bool) (held : Bool) (fuel : Nat) (cs : List Value) (xs : List (DataW H × List MemPlace)),
    (fs.mapM fun f => DataW.trod enc P w 0 spare held fuel f.type ((cs.drop f.offset).take (P.cellsOf f.type))) = some xs →
      ∃ y : α, d.K w y ((cs.drop off).take d.sz) ∧ good y ∧ wt y ≤ Rows.uptoBulkAll (xs.map (·.1)) ∧ ((∀ n ∈ DataW.weightsEach P (fs.map (·.type)) (xs.map (·.1)), n ≤ reachBytes) → sz y)

section
variable {P : Program} {t e : TypeId}
theorem bulk_pos {H : Type} (d : DataW H) : 1 ≤ Rows.uptoBulk d := by
  cases d with
  | lit l => cases l <;> simp [Rows.uptoBulk]
  | nil => simp [Rows.uptoBulk]
  | ptr d => simp [Rows.uptoBulk]
  | slice elems spare => simp [Rows.uptoBulk]
  | agg parts => simp [Rows.uptoBulk]
  | iface t d => simp [Rows.uptoBulk]
  | map entries => simp [Rows.uptoBulk]
  | held h => simp [Rows.uptoBulk]
theorem opens_int {k : IntKind} (ht : P.underlying t = some (.int k)) : Opens P t (Kd.int k) (fun y => (Lit.int k y).wf = true) (fun _ => 1) (fun _ => True) :=
  ⟨fun enc w spare held fuel cs x h => by
    obtain ⟨n, rfl, rfl, hw⟩ := DataW.trod_int ht h
    exact ⟨n, rfl, hw, bulk_pos _, fun _ => trivial⟩⟩
theorem opens_bool (ht : P.underlying t = some .bool) : Opens P t Kd.bool (fun _ => True) (fun _ => 1) (fun _ => True) :=
  ⟨fun enc w spare held fuel cs x h => by
    obtain ⟨n, rfl, rfl⟩ := DataW.trod_bool ht h
    exact ⟨n, rfl, trivial, bulk_pos _, fun _ => trivial⟩⟩
theorem opens_string (ht : P.underlying t = some .string) : Opens P t Kd.string (fun s => s.size ≤ maxLen) (fun s => s.size + 1) (fun s => s.size ≤ reachBytes) :=
  ⟨fun enc w spare held fuel cs x h => by
    obtain ⟨s, rfl, rfl, hs⟩ := DataW.trod_string ht h
    have e : s.data.toList.length = s.size := by rw [Array.length_toList]; rfl
    refine ⟨s, rfl, hs, ?_, fun hn => ?_⟩
    · simp only [Rows.uptoBulk]
      omega
    · rw [← e]
      exact hn _ (by simp [DataW.weights])⟩
theorem bulkAll_map {H : Type} {α : Type} (wt : α → Nat) : ∀ (ds : List (DataW H)) (xs : List α), xs.length = ds.length → (∀ (i : Nat) (x : α) (d : DataW H), xs[i]? = some x → ds[i]? = some d → wt x ≤ Rows.uptoBulk d) → (xs.map wt).sum ≤ Rows.uptoBulkAll ds
  | [], [], _, _ => by simp
  | [], _ :: _, hl, _ => by simp at hl
  | _ :: _, [], hl, _ => by simp at hl
  | d :: ds, x :: xs, hl, h => by
    have h0 := h 0 x d rfl rfl
    have ih := bulkAll_map wt ds xs (by simpa using hl) (fun i x' d' h1 h2 => h (i + 1) x' d' (by simpa using h1) (by simpa using h2))
    simp only [List.map_cons, List.sum_cons, Rows.uptoBulkAll]
    omega
theorem cells_list {w : World} {base : Nat} {a : Addr} {n : Nat} {cs : List Value} (h : w.cells? base a n = some cs) : cs.length = n ∧ ∀ i u, cs[i]? = some u → w.cell? (a.add i) = some u := by
  unfold World.cells? at h
  split at h
  · have hl := mapM_some_length h
    rw [List.length_range] at hl
    refine ⟨hl, fun i u hu => ?_⟩
    have hi : i < n := by
      have := (List.getElem?_eq_some_iff.1 hu).1
      omega
    have := mapM_some_get h i i (by rw [List.getElem?_range hi])
    rw [this]
    exact hu
  · cases h
theorem mem_weightsAll {H : Type} {n : Nat} {d : DataW H} : ∀ {ds : List (DataW H)}, d ∈ ds → n ∈ d.weights P e → n ∈ DataW.weightsAll P e ds
  | [], h, _ => by cases h
  | c :: ds, h, hn => by
    simp only [DataW.weightsAll, List.mem_append]
    rcases List.mem_cons.1 h with rfl | h
    · exact .inl hn
    · exact .inr (mem_weightsAll h hn)
theorem opens_slice {α : Type} [Inhabited α] {d : Kd α} {good : α → Prop} {wt : α → Nat} {sz : α → Prop} {b : Nat} (hby : P.bytesOf e = b) (ht : P.underlying t = some (.slice e)) (hsz : P.cellsOf e = d.sz) (ho : Opens P e d good wt sz) :
    Opens P t (Kd.slice e d) (fun xs => xs.length ≤ maxLen ∧ ∀ x ∈ xs, good x) (fun xs => (xs.map wt).sum + 1) (fun xs => xs.length * b ≤ reachBytes ∧ ∀ x ∈ xs, sz x) :=
  ⟨fun enc w spare held fuel cs x h => by
    rcases Deep.open_slice ht h with ⟨rfl, rfl⟩ | ⟨a, len, cap, m, n, D, Pl, rfl, hb, hl, hm, hmm, rfl, hx⟩
    · refine ⟨[], ⟨none, 0, rfl, Nat.le_refl _, rfl, Nat.zero_le _, fun h => absurd h (by simp)⟩, ⟨by simp [maxLen], fun x hx => by cases hx⟩, by simpa using bulk_pos _, fun _ => ⟨by simp, fun x hx => by cases hx⟩⟩
    · have hlm : len ≤ m := by rw [hmm]; split <;> omega
      have hel : ∀ i : Nat, ∃ y : α, i < len → ∃ cs', w.cells? 0 (a.add (i * P.cellsOf e)) (P.cellsOf e) = some cs' ∧ d.K w y cs' ∧ good y ∧ wt y ≤ Rows.uptoBulk (D i) ∧ ((∀ n ∈ (D i).weights P e, n ≤ reachBytes) → sz y) := by
        intro i
        by_cases hi : i < len
        · obtain ⟨cs', h1, h2⟩ := hx i (by omega)
          obtain ⟨y, hk, hg, hw, hz⟩ := ho.run enc w spare held n cs' _ h2
          exact ⟨y, fun _ => ⟨cs', h1, hk, hg, hw, hz⟩⟩
        · exact ⟨default, fun h => absurd h hi⟩
      obtain ⟨f, hf⟩ := Classical.axiomOfChoice hel
      have hget : ∀ (j : Nat) (p : α), ((List.range len).map f)[j]? = some p → j < len ∧ f j = p := by
        intro j p hj
        have hj' := (List.getElem?_eq_some_iff.1 hj).1
        rw [List.length_map, List.length_range] at hj'
        rw [List.getElem?_map, List.getElem?_range hj'] at hj
        exact ⟨hj', by simpa using hj⟩
      have hlen : ((List.range len).map f).length = len := by rw [List.length_map, List.length_range]
      have hmax : maxLen = 9223372036854775807 := rfl
      refine ⟨(List.range len).map f, ⟨some a, cap, by rw [hlen], by rw [hlen]; exact hl, rfl, by rw [hlen]; omega, fun _ => ⟨a, rfl, fun j p hj => ?_⟩⟩, ⟨by rw [hlen]; omega, fun x hx' => ?_⟩, ?_, fun hn => ⟨?_, fun x hx' => ?_⟩⟩
      · obtain ⟨hj', rfl⟩ := hget j p hj
        obtain ⟨cs', h1, hk, _⟩ := hf j hj'
        obtain ⟨hcl, hcc⟩ := cells_list h1
        refine ⟨cs', by rw [hcl, hsz], hk, fun i u hu => ?_⟩
        have := hcc i u hu
        rwa [Addr.add_add, hsz] at this
      · obtain ⟨i, hi, rfl⟩ := List.mem_map.1 hx'
        obtain ⟨_, _, _, hg, _⟩ := hf i (List.mem_range.1 hi)
        exact hg
      · simp only [Rows.uptoBulk]
        have := bulkAll_map wt ((List.range len).map D) ((List.range len).map f) (by simp) (fun i x' d' h1 h2 => by
          obtain ⟨hi, rfl⟩ := hget i x' h1
          have hd : D i = d' := by
            rw [List.getElem?_map, List.getElem?_range hi] at h2
            simpa using h2
          subst hd
          obtain ⟨_, _, _, _, hw, _⟩ := hf i hi
          exact hw)
        omega
      · simp only [DataW.weights, ht] at hn
        have h1 := hn _ (List.mem_cons_self ..)
        rw [List.length_map, List.length_range, hby] at h1
        rw [hlen]
        exact Nat.le_trans (Nat.mul_le_mul_right b (Nat.le_add_right _ _)) h1
      · simp only [DataW.weights, ht] at hn
        obtain ⟨i, hi, rfl⟩ := List.mem_map.1 hx'
        obtain ⟨_, _, _, _, _, hz⟩ := hf i (List.mem_range.1 hi)
        exact hz fun n hn' => hn n (List.mem_cons_of_mem _ (List.mem_append_left _ (mem_weightsAll (List.mem_map.2 ⟨i, hi, rfl⟩) hn')))⟩
theorem opensF_one {α : Type} {d : Kd α} {good : α → Prop} {wt : α → Nat} {sz : α → Prop} {f : Field} (hsz : P.cellsOf f.type = d.sz) (ho : Opens P f.type d good wt sz) : OpensF P [f] f.offset d good wt sz :=
  ⟨fun enc w spare held fuel cs xs h => by
    simp only [List.mapM_cons, List.mapM_nil] at h
    obtain ⟨x, hx, h2⟩ := Option.bind_eq_some_iff.1 h
    obtain ⟨ys, hys, h3⟩ := Option.bind_eq_some_iff.1 h2
    obtain rfl : [] = ys := by simpa using hys
    obtain rfl : [x] = xs := by simpa using h3
    obtain ⟨y, hk, hg, hw, hz⟩ := ho.run enc w spare held fuel _ x hx
    refine ⟨y, by rw [← hsz]; exact hk, hg, ?_, fun hn => hz fun n h' => hn n ?_⟩
    · simp only [List.map_cons, List.map_nil, Rows.uptoBulkAll]
      omega
    · simp only [List.map_cons, List.map_nil, DataW.weightsEach, List.append_nil]
      exact h'⟩
theorem opensF_cons {α β : Type} {d : Kd α} {d2 : Kd β} {good : α → Prop} {good2 : β → Prop} {wt : α → Nat} {wt2 : β → Nat} {sz : α → Prop} {sz2 : β → Prop} {f : Field} {fs : List Field} {off2 : Nat} (hsz : P.cellsOf f.type = d.sz) (hoff : f.offset + d.sz = off2)
    (ho : Opens P f.type d good wt sz) (h2 : OpensF P fs off2 d2 good2 wt2 sz2) : OpensF P (f :: fs) f.offset (Kd.pair d d2) (fun x => good x.1 ∧ good2 x.2) (fun x => wt x.1 + wt2 x.2) (fun x => sz x.1 ∧ sz2 x.2) :=
  ⟨fun enc w spare held fuel cs xs h => by
    simp only [List.mapM_cons] at h
    obtain ⟨x, hx, h3⟩ := Option.bind_eq_some_iff.1 h
    obtain ⟨ys, hys, h4⟩ := Option.bind_eq_some_iff.1 h3
    obtain rfl : x :: ys = xs := by simpa using h4
    obtain ⟨y, hk, hg, hw, hz⟩ := ho.run enc w spare held fuel _ x hx
    obtain ⟨z, hk2, hg2, hw2, hz2⟩ := h2.run enc w spare held fuel cs ys hys
    refine ⟨(y, z), ⟨(cs.drop f.offset).take d.sz, (cs.drop off2).take d2.sz, ?_, by rw [← hsz]; exact hk, hk2⟩, ⟨hg, hg2⟩, ?_, fun hn => ?_⟩
    · show (cs.drop f.offset).take (d.sz + d2.sz) = _
      rw [List.take_add, List.drop_drop, hoff]
    · simp only [List.map_cons, Rows.uptoBulkAll]
      omega
    · simp only [List.map_cons, DataW.weightsEach] at hn
      exact ⟨hz fun n h' => hn n (List.mem_append_left _ h'), hz2 fun n h' => hn n (List.mem_append_right _ h')⟩⟩
theorem opens_struct {α β : Type} {d : Kd α} {good : α → Prop} {wt : α → Nat} {sz : α → Prop} {fs : Array Field} (f : β → α) (g : α → β) (hfg : ∀ a, f (g a) = a) (ht : P.underlying t = some (.struct fs)) (hsz : P.cellsOf t = d.sz) (ho : OpensF P fs.toList 0 d good wt sz) :
    Opens P t (Kd.iso d f) (fun x => good (f x)) (fun x => wt (f x) + 1) (fun x => sz (f x)) :=
  ⟨fun enc w spare held fuel cs x h => by
    cases fuel with
    | zero => simp [DataW.trod] at h
    | succ n =>
      unfold DataW.trod at h
      rw [ht] at h
      have h' : (if cs.length = P.cellsOf t then (fs.toList.mapM fun f => DataW.trod enc P w 0 spare held n f.type ((cs.drop f.offset).take (P.cellsOf f.type))).map fun xs => (DataW.agg (xs.map (·.1)), xs.flatMap (·.2)) else none) = some x := by
        cases cs with
        | nil => exact h
        | cons c cs => cases cs <;> cases c <;> exact h
      clear h
      split at h'
      · rename_i hl
        obtain ⟨xs, hxs, rfl⟩ := Option.map_eq_some_iff.1 h'
        obtain ⟨y, hk, hg, hw, hz⟩ := ho.run enc w spare held n cs xs hxs
        refine ⟨g y, ?_, by show good (f (g y)); rw [hfg]; exact hg, ?_, fun hn => ?_⟩
        · show d.K w (f (g y)) cs
          rw [hfg]
          rw [List.drop_zero, List.take_of_length_le (by omega)] at hk
          exact hk
        · show wt (f (g y)) + 1 ≤ Rows.uptoBulk (DataW.agg (xs.map (·.1)))
          rw [hfg]
          simp only [Rows.uptoBulk]
          omega
        · show sz (f (g y))
          rw [hfg]
          simp only [DataW.weights, ht] at hn
          exact hz hn
      · cases h'⟩
/-- The bound, as the builder hands it over. -/
theorem upto_bound {H : Type} {l : List (DataW H)} (hk : Rows.uptoSmall H l = true) : Rows.uptoBulkAll l ≤ 1048576 := of_decide_eq_true hk
theorem sum_le_of {α : Type} (wt : α → Nat) (hp : ∀ x, 1 ≤ wt x) (xs : List α) : xs.length ≤ (xs.map wt).sum := by
  induction xs with
  | nil => simp
  | cons x xs ih => have := hp x; simp only [List.length_cons, List.map_cons, List.sum_cons]; omega
theorem mem_le_sum {α : Type} (wt : α → Nat) (xs : List α) (x : α) (hx : x ∈ xs) : wt x ≤ (xs.map wt).sum := by
  induction xs with
  | nil => cases hx
  | cons y ys ih =>
    simp only [List.map_cons, List.sum_cons]
    rcases List.mem_cons.1 hx with rfl | hx
    · omega
    · have := ih hx; omega
end
end Go.Proofs.Ytkdahjnmldeklaa.PA
