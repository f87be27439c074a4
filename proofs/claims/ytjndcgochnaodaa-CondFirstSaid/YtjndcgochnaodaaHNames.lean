/- Conditions: their names, as a plain function; a map from names to true, as a thing that a call owns; what slices.Sorted(maps.Keys(m)) hands back. -/
import Derived.Test.YtjndcgochnaodaaHCond
import Derived.Test.YtjndcgochnaodaaPAx5
import Derived.Test.YtjndcgochnaodaaNameIter
import Derived.Maps.OwnSet
import Derived.StringKeys
import Derived.Sort.KeysCollected
namespace Go.Proofs.Ytjndcgochnaodaa.PA
open Go.RowKit Go.Maps Go.Sort Go.Proofs.YtjndcgochnaodaaW.PrintWords Go.Proofs.YtjndcgochnaodaaW.PrintLast Go.Proofs.YtjndcgochnaodaaW.PrintMore
set_option linter.unusedVariables false
set_option linter.unusedSimpArgs false
def litS (s : ByteArray) : Lit := .string s.data.toList
def setN (ns : List ByteArray) : DataW Unit := setOf (.lit (.bool true)) (ns.map litS)
/-- The names, each once, in order. -/
def sortedN (ns : List ByteArray) : List ByteArray := ((strKeys (setN ns)).mergeSort (fun x y => decide (x ≤ y))).map fun l => (⟨l.toArray⟩ : ByteArray)
def isMapN (w : World) (b : Nat) (ns : List ByteArray) : Prop := w.ownsMap Try.prog 9 (plainElem Try.prog 4) b ns.length (setN ns)
theorem isMapN_move {w w' : World} {b : Nat} {ns : List ByteArray} (h : isMapN w b ns) (hm : w'.heap[b]? = w.heap[b]?) : isMapN w' b ns := by
  obtain ⟨es, clock, hb, F, hs, hD⟩ := h
  exact ⟨es, clock, hm.trans hb, F, hs, hD⟩
def Chunk.smap (b : Nat) (ns : List ByteArray) : Chunk := ⟨fun k => k = b, fun w => isMapN w b ns, fun h hm => isMapN_move h (hm b rfl)⟩
def addN (nm : ByteArray) (ns : List ByteArray) : Option (List ByteArray) := if nm.size ≤ 9223372036854775807 ∧ ns.length < 9223372036854775807 then some (ns ++ [nm]) else none
def namesM {α : Type} (f : α → List ByteArray → Option (List ByteArray)) : List α → List ByteArray → Option (List ByteArray)
  | [], ns => some ns
  | x :: xs, ns => (f x ns).bind (namesM f xs)
theorem names_in {α : Type} {f : α → List ByteArray → Option (List ByteArray)} {ns r : List ByteArray} {l : List α} {i : Nat} (z : α) (hi : i < l.length) (h : namesM f (l.drop i) ns = some r) : ∃ ns1, f (l.getD i z) ns = some ns1 ∧ namesM f (l.drop (i + 1)) ns1 = some r := by
  rw [List.drop_eq_getElem_cons hi] at h
  have e : l.getD i z = l[i] := by simp [List.getD_eq_getElem?_getD, List.getElem?_eq_getElem hi]
  rw [e]
  exact Option.bind_eq_some_iff.mp h
theorem names_out {α : Type} {f : α → List ByteArray → Option (List ByteArray)} {ns r : List ByteArray} {l : List α} {i : Nat} (hi : l.length ≤ i) (h : namesM f (l.drop i) ns = some r) : r = ns := by
  rw [List.drop_of_length_le hi] at h
  exact (Option.some.inj h).symm
theorem namesM_mono {α : Type} {f f' : α → List ByteArray → Option (List ByteArray)} (hf : ∀ x a b, f x a = some b → f' x a = some b) : ∀ (l : List α) (a r : List ByteArray), namesM f l a = some r → namesM f' l a = some r
  | [], a, r, h => h
  | x :: xs, a, r, h => by
    obtain ⟨b, hb, h⟩ := Option.bind_eq_some_iff.mp h
    show (f' x a).bind (namesM f' xs) = some r
    rw [hf x a b hb]
    exact namesM_mono hf xs b r h
def cond_names.f : Nat → ByteArray → List S24 → List ByteArray → Option (List ByteArray)
  | 0, _, _, _ => none
  | k + 1, nm, kids, ns => (if (kids.length : Int) = 0 then addN nm ns else some ns).bind fun ns1 => namesM (fun x a => cond_names.f k x.f1 x.f3 a) kids ns1
theorem cond_names.mono : ∀ k nm kids ns r, cond_names.f k nm kids ns = some r → cond_names.f (k + 1) nm kids ns = some r := by
  intro k
  induction k with
  | zero => intro nm kids ns r h; simp [cond_names.f] at h
  | succ k ih =>
    intro nm kids ns r h
    unfold cond_names.f at h ⊢
    obtain ⟨a, ha, h⟩ := Option.bind_eq_some_iff.mp h
    exact Option.bind_eq_some_iff.mpr ⟨a, ha, namesM_mono (fun x a b hb => ih _ _ _ _ hb) _ _ _ h⟩
theorem na_leaf {k : Nat} {nm : ByteArray} {kids : List S24} {ns r : List ByteArray} (h : cond_names.f (k + 1) nm kids ns = some r) (h0 : (kids.length : Int) = 0) : nm.size ≤ 9223372036854775807 ∧ ns.length < 9223372036854775807 ∧ namesM (fun x a => cond_names.f k x.f1 x.f3 a) kids (ns ++ [nm]) = some r := by
  unfold cond_names.f at h
  rw [if_pos h0] at h
  obtain ⟨a, ha, h⟩ := Option.bind_eq_some_iff.mp h
  unfold addN at ha
  split at ha
  · rename_i h1; obtain rfl := Option.some.inj ha; exact ⟨h1.1, h1.2, h⟩
  · cases ha
theorem na_some {k : Nat} {nm : ByteArray} {kids : List S24} {ns r : List ByteArray} (h : cond_names.f (k + 1) nm kids ns = some r) (h0 : ¬ (kids.length : Int) = 0) : namesM (fun x a => cond_names.f k x.f1 x.f3 a) kids ns = some r := by
  unfold cond_names.f at h
  rw [if_neg h0] at h
  exact h
/-- The names of a condition that is right; of any other none. -/
def cond_Names.f (k : Nat) (kd : Int) (nm vl : ByteArray) (kids : List S24) : Option (List ByteArray) :=
  (cond_Right.f k kd nm vl kids).bind fun t => (if t = true then cond_names.f k nm kids [] else some []).bind fun ns => if ns.length * 16 ≤ 140737488355328 then some (sortedN ns) else none
theorem cond_Names.mono : ∀ a0 a1 a2 a3 k, LeO (cond_Names.f k a0 a1 a2 a3) (cond_Names.f (k + 1) a0 a1 a2 a3) := by
  intro a0 a1 a2 a3 k r h
  unfold cond_Names.f at h ⊢
  obtain ⟨t, ht, h⟩ := Option.bind_eq_some_iff.mp h
  rw [cond_Right.mono _ _ _ _ _ _ ht, Option.bind_some]
  obtain ⟨ns, hn, h⟩ := Option.bind_eq_some_iff.mp h
  refine Option.bind_eq_some_iff.mpr ⟨ns, ?_, h⟩
  split
  · rename_i h1; rw [if_pos h1] at hn; exact cond_names.mono _ _ _ _ _ hn
  · rename_i h1; rw [if_neg h1] at hn; exact hn
theorem nm_in {k : Nat} {kd : Int} {nm vl : ByteArray} {kids : List S24} {r : List ByteArray} (h : cond_Names.f k kd nm vl kids = some r) : ∃ t ns, cond_Right.f k kd nm vl kids = some t ∧ (t = true → cond_names.f k nm kids [] = some ns) ∧ (t = false → ns = []) ∧ ns.length * 16 ≤ 140737488355328 ∧ r = sortedN ns := by
  unfold cond_Names.f at h
  obtain ⟨t, ht, h⟩ := Option.bind_eq_some_iff.mp h
  obtain ⟨ns, hn, h⟩ := Option.bind_eq_some_iff.mp h
  split at h
  · rename_i hl
    refine ⟨t, ns, ht, fun h1 => ?_, fun h1 => ?_, hl, (Option.some.inj h).symm⟩
    · rwa [if_pos h1] at hn
    · rw [if_neg (by rw [h1]; decide)] at hn; exact (Option.some.inj hn).symm
  · cases h
section
variable {D : List Deferred} {ops : Array Oper} {Q : Exit → Act → World → Prop} {rest : List Oper} {o : Oper} {N dd : Nat} {a : Act} {F : List (Nat × Value)} {w w0 : World} {L : List Chunk}
theorem FrD.put0 (HF : FrD D N a F) (v : Value) : FrD D N (a.put none v) F := HF
theorem gw_makeMap (HF : FrD D N a F) (HO : Own w0 w L) (hw : Region.wanted o (yielded ops a.tmps) = true) (hd : o.dst = some dd) (hN : dd < N) (ho : o.op = .makeMap 48 none)
    (k : ∀ g a' w1, FrD D N a' ((dd, .map (some g)) :: F) → Own w0 w1 (Chunk.smap g [] :: L) → wpList Try.prog ops Q rest a' w1) : wpList Try.prog ops Q (o :: rest) a w := by
  refine gw_ev HF hw hd hN (v := .map (some w.heap.size)) (w1 := w.alloc (.map #[] 0)) ?_ fun a' HF' => k _ a' _ HF' ?_
  · unfold Runs execOp
    simp only [ho]
    rfl
  · exact HO.fresh (cs := [_]) (Out.one (Out.of_below (below_alloc (Below.refl _ _) _) _) (c := Chunk.smap w.heap.size []) (World.ownsMap_made _ _ _ _) (fun k hk => by
      obtain rfl : k = w.heap.size := hk
      exact ⟨.inr (Nat.le_refl _), by simp⟩))
theorem lawN : Keyed Try.prog 9 := string_keyed Try.underlying9
theorem gw_mapset {b : Nat} {ns : List ByteArray} {s : ByteArray} {m x v : Operand} (i : Nat) (HF : FrD D N a F) (HO : Own w0 w L) (hi : L[i]? = some (Chunk.smap b ns)) (hw : Region.wanted o (yielded ops a.tmps) = true) (hd : o.dst = none) (ho : o.op = .mapUpdate 48 m x v)
    (hm : a.eval m = .map (some b)) (hx : a.eval x = .string s) (hv : a.eval v = .bool true) (hs : s.size ≤ 9223372036854775807) (hn : ns.length < 9223372036854775807)
    (k : ∀ a' w1, FrD D N a' F → Own w0 w1 (L.set i (Chunk.smap b (ns ++ [s]))) → wpList Try.prog ops Q rest a' w1) : wpList Try.prog ops Q (o :: rest) a w := by
  have hown : isMapN w b ns := HO.get i hi
  refine gw_unguard hw ?_
  refine wpList_mapUpdate_own w rfl m x v 48 ho 9 4 lawN Try.underlying48 _ b ns.length _ hm hown (by simp only [maxLen]; omega) (.string s) (.bool true) (litS s) hx hv (Go.WideMaps.keyOf_string_mk Try.underlying9 (by simpa only [maxLen] using hs)) (.lit (.bool true)) [] (plainElem_bool Try.underlying4 true) ?_
  intro w1 h1 hg
  show wpList Try.prog ops Q rest (a.put o.dst _) w1
  rw [hd]
  refine k _ w1 (HF.put0 _) (HO.calls (cs := []) i hi (Out.one ((Out.refl w _).grown hg (fun k e => .inl (by injection e with e; exact e.symm))) ?_ (fun k hk => ⟨.inl hk, Nat.lt_of_lt_of_le (HO.lt i hi hk).2 hg.size⟩)))
  show w1.ownsMap _ _ _ b (ns ++ [s]).length (setN (ns ++ [s]))
  rw [List.length_append, setN, List.map_append, List.map_cons, List.map_nil, setOf_snoc]
  exact h1
end
theorem keys_at (mb : Option Nat) (W : World) : Calls Try.prog 31 #[.map mb] W fun e w' => e = .returned (.func (.func 43) #[] #[.pointer (some ⟨W.heap.size, 0, none⟩)]) ∧ w' = W.alloc (.cells #[.map mb] 48) :=
  (callsIn_wide (n := 5)).1 (Try.maps_Keys_31 mb W)
theorem sorted_at (b : Nat) (ns : List ByteArray) (w : World) (hm : isMapN w b ns) (hl : ns.length * 16 ≤ 140737488355328) :
    Calls Try.prog 30 #[.func (.func 43) #[] #[.pointer (some ⟨w.heap.size, 0, none⟩)]] (w.alloc (.cells #[.map (some b)] 48)) fun e w' => ∃ A c S, e = .returned (.slice A (sortedN ns).length c) ∧ Out (w.alloc (.cells #[.map (some b)] 48)) w' (fun _ => False) [Chunk.row Kd.string 9 (w.alloc (.cells #[.map (some b)] 48)).heap.size S (.slice A (sortedN ns).length c) (sortedN ns)] := by
  have hsz := World.ownsMap.size_le hm
  refine ((callsIn_wide (n := 5)).1 (Try.slices_Sorted_keys_30_31 b ns.length (setN ns) _ w hm (by simp only [maxLen]; omega) (by omega))).mono fun e w' h => ?_
  obtain ⟨v, ss, rfl, hS, hrow, hnil, hb⟩ := h
  have hlen : (sortedN ns).length = ss.length := by
    unfold sortedN
    rw [List.length_map, List.length_mergeSort]
    exact hS.length_eq.symm
  have heq : (ss.mergeSort (fun x y => decide (x ≤ y))).map encStr = encs Value.string (sortedN ns) := by
    unfold sortedN encs
    rw [mergeSort_of_perm hS, List.map_map]
    exact List.map_congr_left fun x _ => rfl
  rw [heq, ← hlen] at hrow
  obtain ⟨A, c, rfl⟩ := own_slice hrow
  exact ⟨A, c, _, rfl, Out.row (d := Kd.string) (ok := fun _ => True) (Kd.R_of_own hrow (fun _ _ => trivial)) hb⟩
end Go.Proofs.Ytjndcgochnaodaa.PA
