/- Maps that a call owns: what they hold is told as it lies in memory, as a rising list of keys and values. -/
import Derived.Test.YtkdahjnmldeklaaHNrow
import Derived.Maps.OwnSet
import Derived.StringKeys
namespace Go.Proofs.Ytkdahjnmldeklaa.PA
open Go.RowKit Go.Maps Go.Proofs.YtkdahjnmldeklaaW.PrintWords Go.Proofs.YtkdahjnmldeklaaW.PrintLast Go.Proofs.YtkdahjnmldeklaaW.PrintMore
set_option linter.unusedVariables false
set_option linter.unusedSimpArgs false
def anyR (v : Value) : Option (DataW Value × List MemPlace) := some (.held v, [])
def held1 (p : Lit × Value) : Lit × DataW Value := (p.1, .held p.2)
/-- The datum of a list of keys and values. -/
def lmap (L : List (Lit × Value)) : DataW Value := .map (L.map held1)
def linsert (x : Lit × Value) : List (Lit × Value) → List (Lit × Value)
  | [] => [x]
  | y :: r => if x.1.before y.1 then x :: y :: r else y :: linsert x r
def ldel (k : Lit) (L : List (Lit × Value)) : List (Lit × Value) := L.filter fun p => !p.1.sameKey k
def lput (k : Lit) (v : Value) (L : List (Lit × Value)) : List (Lit × Value) := linsert (k, v) (ldel k L)
def lfind (k : Lit) (L : List (Lit × Value)) : Option Value := (L.find? fun p => p.1.sameKey k).map (·.2)
theorem linsert_map (x : Lit × Value) : ∀ L, (linsert x L).map held1 = DataW.insert (held1 x) (L.map held1)
  | [] => rfl
  | y :: r => by
    unfold linsert
    rw [List.map_cons, DataW.insert]
    show List.map held1 (if _ then _ else _) = if x.1.before y.1 then _ else _
    split
    · rfl
    · rw [List.map_cons, linsert_map x r]
theorem lmap_del (k : Lit) (L : List (Lit × Value)) : (lmap L).del k = lmap (ldel k L) := by
  show DataW.map ((L.map held1).filter fun p => !p.1.sameKey k) = DataW.map ((L.filter fun p => !p.1.sameKey k).map held1)
  rw [List.filter_map]
  rfl
theorem lmap_put (k : Lit) (v : Value) (L : List (Lit × Value)) : (lmap L).put k (.held v) = lmap (lput k v L) := by
  show DataW.map (DataW.insert (k, .held v) ((L.map held1).filter fun p => !p.1.sameKey k)) = DataW.map ((linsert (k, v) (L.filter fun p => !p.1.sameKey k)).map held1)
  rw [linsert_map, List.filter_map]
  rfl
theorem lmap_has (k : Lit) (L : List (Lit × Value)) : has (lmap L) k = (lfind k L).isSome := by
  show (L.map held1).any (fun p => p.1.sameKey k) = _
  unfold lfind
  rw [List.any_map, Option.isSome_map]
  show L.any (fun p => p.1.sameKey k) = _
  cases h : L.any (fun p => p.1.sameKey k)
  · rw [List.find?_eq_none.2 (fun p hp => by simpa using (List.any_eq_false.1 h) p hp)]; rfl
  · exact (List.find?_isSome.2 (by simpa using h)).symm
theorem lmap_at (k : Lit) (z : Value) (L : List (Lit × Value)) : (lmap L).atKey k (.held z) = .held ((lfind k L).getD z) := by
  have e : (L.map held1).find? (fun p => p.1.sameKey k) = (L.find? fun p => p.1.sameKey k).map held1 := by rw [List.find?_map]; rfl
  unfold lmap DataW.atKey lfind
  simp only [e]
  cases L.find? (fun p => p.1.sameKey k) <;> rfl
theorem lmap_size (L : List (Lit × Value)) : size (lmap L) = L.length := by simp [lmap, size]
theorem linsert_length (x : Lit × Value) : ∀ L, (linsert x L).length = L.length + 1
  | [] => rfl
  | y :: r => by
    unfold linsert
    split
    · rfl
    · rw [List.length_cons, linsert_length x r]; rfl
theorem lput_length (k : Lit) (v : Value) (L : List (Lit × Value)) : (lput k v L).length ≤ L.length + 1 := by
  unfold lput ldel
  rw [linsert_length]
  have := List.length_filter_le (fun p : Lit × Value => !p.1.sameKey k) L
  omega
theorem owns_fit {P : Program} {K : TypeId} {w : World} {b n : Nat} {L : List (Lit × Value)} (h : w.ownsMap P K anyR b n (lmap L)) : w.ownsMap P K anyR b L.length (lmap L) := by
  obtain ⟨es, clock, hb, F, hs, hD⟩ := h
  refine ⟨es, clock, hb, F, ?_, hD⟩
  have e1 : (L.map held1) = (es.toList.map (Go.WideElems.rg P K anyR)).foldr DataW.insert [] := by injection hD
  have e2 := congrArg List.length e1
  rw [length_sorted] at e2
  simp at e2
  omega
def Chunk.lmap (P : Program) (K : TypeId) (b : Nat) (L : List (Lit × Value)) : Chunk := ⟨fun k => k = b, fun w => w.ownsMap P K anyR b L.length (PA.lmap L), fun h hm => by
  obtain ⟨es, clock, hb, F, hs, hD⟩ := h
  exact ⟨es, clock, (hm b rfl).trans hb, F, hs, hD⟩⟩
section
variable {D : List Deferred} {P : Program} {ops : Array Oper} {Q : Exit → Act → World → Prop} {rest : List Oper} {o : Oper} {N dd : Nat} {a : Act} {F : List (Nat × Value)} {w w0 : World} {L : List Chunk} {K e t b : Nat} {M : List (Lit × Value)} {key : Value} {kl : Lit} {m x v : Operand}
theorem FrD.putn (HF : FrD D N a F) (v : Value) : FrD D N (a.put none v) F := HF
theorem gw_mkmap (HF : FrD D N a F) (HO : Own w0 w L) (hw : Region.wanted o (yielded ops a.tmps) = true) (hd : o.dst = some dd) (hN : dd < N) (ho : o.op = .makeMap t none)
    (k : ∀ g a' w1, FrD D N a' ((dd, .map (some g)) :: F) → Own w0 w1 (Chunk.lmap P K g [] :: L) → wpList P ops Q rest a' w1) : wpList P ops Q (o :: rest) a w := by
  refine gw_ev HF hw hd hN (v := .map (some w.heap.size)) (w1 := w.alloc (.map #[] 0)) ?_ fun a' HF' => k _ a' _ HF' ?_
  · unfold Runs execOp
    simp only [ho]
    rfl
  · exact HO.fresh (cs := [_]) (Out.one (Out.of_below (below_alloc (Below.refl _ _) _) _) (c := Chunk.lmap P K w.heap.size []) (World.ownsMap_made _ _ _ _) (fun k hk => by
      obtain rfl : k = w.heap.size := hk
      exact ⟨.inr (Nat.le_refl _), by simp⟩))
theorem gw_mput (i : Nat) (KL : Keyed P K) (ht : P.underlying t = some (.map K e)) (HF : FrD D N a F) (HO : Own w0 w L) (hi : L[i]? = some (Chunk.lmap P K b M)) (hw : Region.wanted o (yielded ops a.tmps) = true) (hd : o.dst = none) (ho : o.op = .mapUpdate t m x v)
    {val : Value} (hm : a.eval m = .map (some b)) (hx : a.eval x = key) (hv : a.eval v = val) (hkey : keyOf P K key = some kl) (hn : M.length < 9223372036854775807)
    (k : ∀ a' w1, FrD D N a' F → Own w0 w1 (L.set i (Chunk.lmap P K b (lput kl val M))) → wpList P ops Q rest a' w1) : wpList P ops Q (o :: rest) a w := by
  have hown : w.ownsMap P K anyR b M.length (lmap M) := HO.get i hi
  refine gw_unguard hw ?_
  refine wpList_mapUpdate_own w rfl m x v t ho K e KL ht _ b M.length _ hm hown (by simp only [maxLen]; omega) key val kl hx hv hkey (.held val) [] rfl ?_
  intro w1 h1 hg
  show wpList P ops Q rest (a.put o.dst _) w1
  rw [hd]
  refine k _ w1 (HF.putn _) (HO.calls (cs := []) i hi (Out.one ((Out.refl w _).grown hg (fun k e => .inl (by injection e with e; exact e.symm))) ?_ (fun k hk => ⟨.inl hk, Nat.lt_of_lt_of_le (HO.lt i hi hk).2 hg.size⟩)))
  rw [lmap_put] at h1
  exact owns_fit h1
theorem gw_mdel (i : Nat) (KL : Keyed P K) (ht : P.underlying t = some (.map K e)) (HF : FrD D N a F) (HO : Own w0 w L) (hi : L[i]? = some (Chunk.lmap P K b M)) (hw : Region.wanted o (yielded ops a.tmps) = true) (hd : o.dst = none)
    (ho : o.op = .call { callee := .builtin .delete, args := #[m, x], argTypes := #[t, K] }) (hm : a.eval m = .map (some b)) (hx : a.eval x = key) (hkey : keyOf P K key = some kl)
    (k : ∀ a' w1, FrD D N a' F → Own w0 w1 (L.set i (Chunk.lmap P K b (ldel kl M))) → wpList P ops Q rest a' w1) : wpList P ops Q (o :: rest) a w := by
  have hown : w.ownsMap P K anyR b M.length (lmap M) := HO.get i hi
  refine gw_unguard hw ?_
  refine wpList_delete_own w rfl m x t K ho e KL ht _ b M.length _ hm hown key kl hx hkey ?_
  intro w1 h1 hg
  show wpList P ops Q rest (a.put o.dst _) w1
  rw [hd]
  have hg := hg.grown
  refine k _ w1 (HF.putn _) (HO.calls (cs := []) i hi (Out.one ((Out.refl w _).grown hg (fun k e => .inl (by injection e with e; exact e.symm))) ?_ (fun k hk => ⟨.inl hk, Nat.lt_of_lt_of_le (HO.lt i hi hk).2 hg.size⟩)))
  rw [lmap_del] at h1
  exact owns_fit h1
theorem op_mlookok {z : Value} (KL : Keyed P K) (ht : P.underlying t = some (.map K e)) (hz : ∀ w, (zeroValue e).run P w = .ok z w) (ho : o.op = .lookup t m x true) (hm : a.eval m = .map (some b)) (hx : a.eval x = key) (hkey : keyOf P K key = some kl) (hown : (Chunk.lmap P K b M).P w) :
    Runs P o a w (.tuple #[(lfind kl M).getD z, .bool (lfind kl M).isSome]) w := by
  have h1 : w.ownsMap P K anyR b M.length (lmap M) := hown
  obtain ⟨v, ps, hrun, hv⟩ := h1.look_ok KL ht (hz w) (zd := .held z) (zp := []) rfl hkey
  rw [lmap_at] at hv
  rw [lmap_has] at hrun
  have e1 : v = (lfind kl M).getD z := by
    have := congrArg (Option.map Prod.fst) hv
    injection this with this
    injection this
  subst e1
  unfold Runs execOp
  simp [ho, hm, hx, hrun, Result.andThen]
theorem op_mlook {z : Value} (KL : Keyed P K) (ht : P.underlying t = some (.map K e)) (hz : ∀ w, (zeroValue e).run P w = .ok z w) (ho : o.op = .lookup t m x false) (hm : a.eval m = .map (some b)) (hx : a.eval x = key) (hkey : keyOf P K key = some kl) (hown : (Chunk.lmap P K b M).P w) :
    Runs P o a w ((lfind kl M).getD z) w := by
  have h1 : w.ownsMap P K anyR b M.length (lmap M) := hown
  obtain ⟨v, ps, hrun, hv⟩ := h1.lookup KL ht (hz w) (zd := .held z) (zp := []) rfl hkey
  rw [lmap_at] at hv
  have e1 : v = (lfind kl M).getD z := by
    have := congrArg (Option.map Prod.fst) hv
    injection this with this
    injection this
  subst e1
  unfold Runs execOp
  simp [ho, hm, hx, hrun, Result.andThen]
theorem op_mlen (ht : P.underlying t = some (.map K e)) (ho : o.op = .call { callee := .builtin .len, args := #[m], argTypes := #[t] }) (hm : a.eval m = .map (some b)) (hown : (Chunk.lmap P K b M).P w) : Runs P o a w (.int .i64 (M.length : Int)) w := by
  have h1 : w.ownsMap P K anyR b M.length (lmap M) := hown
  have h2 := h1.len ht o.type
  rw [lmap_size] at h2
  unfold Runs execOp
  simp [ho, resolve, invoke, builtin, hm, h2, Result.andThen]
end
section
variable {P : Program} {o : Oper} {a : Act} {w : World} {K e t b : Nat} {M : List (Lit × Value)} {key z v : Value} {kl : Lit} {m x y : Operand}
theorem op_ml_some (KL : Keyed P K) (ht : P.underlying t = some (.map K e)) (hz : ∀ w, (zeroValue e).run P w = .ok z w) (ho : o.op = .lookup t m x false) (hm : a.eval m = .map (some b)) (hx : a.eval x = key) (hkey : keyOf P K key = some kl) (hown : (Chunk.lmap P K b M).P w) (h : lfind kl M = some v) : Runs P o a w v w := by
  have := op_mlook KL ht hz ho hm hx hkey hown
  rwa [h] at this
theorem op_ml_none (KL : Keyed P K) (ht : P.underlying t = some (.map K e)) (hz : ∀ w, (zeroValue e).run P w = .ok z w) (ho : o.op = .lookup t m x false) (hm : a.eval m = .map (some b)) (hx : a.eval x = key) (hkey : keyOf P K key = some kl) (hown : (Chunk.lmap P K b M).P w) (h : lfind kl M = none) : Runs P o a w z w := by
  have := op_mlook KL ht hz ho hm hx hkey hown
  rwa [h] at this
theorem op_mlok_some (KL : Keyed P K) (ht : P.underlying t = some (.map K e)) (hz : ∀ w, (zeroValue e).run P w = .ok z w) (ho : o.op = .lookup t m x true) (hm : a.eval m = .map (some b)) (hx : a.eval x = key) (hkey : keyOf P K key = some kl) (hown : (Chunk.lmap P K b M).P w) (h : lfind kl M = some v) : Runs P o a w (.tuple #[v, .bool true]) w := by
  have := op_mlookok KL ht hz ho hm hx hkey hown
  rwa [h] at this
theorem op_mlok_none (KL : Keyed P K) (ht : P.underlying t = some (.map K e)) (hz : ∀ w, (zeroValue e).run P w = .ok z w) (ho : o.op = .lookup t m x true) (hm : a.eval m = .map (some b)) (hx : a.eval x = key) (hkey : keyOf P K key = some kl) (hown : (Chunk.lmap P K b M).P w) (h : lfind kl M = none) : Runs P o a w (.tuple #[z, .bool false]) w := by
  have := op_mlookok KL ht hz ho hm hx hkey hown
  rwa [h] at this
theorem op_nep_nil {ad : Addr} {e yt : TypeId} (ht : P.underlying t = some (.pointer e)) (ho : o.op = .binOp .neq t x (.const (.pointer none)) yt) (hx : a.eval x = .pointer (some ad)) : Runs P o a w (.bool true) w := by
  unfold Runs execOp
  simp only [ho, hx]
  simp [go_sem, Act.eval, ht]
theorem op_eqp_nils {e yt : TypeId} (ht : P.underlying t = some (.pointer e)) (ho : o.op = .binOp .eql t x (.const (.pointer none)) yt) (hx : a.eval x = .pointer none) : Runs P o a w (.bool true) w := by
  unfold Runs execOp
  simp only [ho, hx]
  simp [go_sem, Act.eval, ht]
theorem op_nep_nils {e yt : TypeId} (ht : P.underlying t = some (.pointer e)) (ho : o.op = .binOp .neq t x (.const (.pointer none)) yt) (hx : a.eval x = .pointer none) : Runs P o a w (.bool false) w := by
  unfold Runs execOp
  simp only [ho, hx]
  simp [go_sem, Act.eval, ht]
end
theorem lmap_arg {P : Program} {K b : Nat} {M : List (Lit × Value)} {w0 w : World} {L : List Chunk} (HO : Own w0 w L) (h : (Chunk.lmap P K b M).P w0) : (Chunk.lmap P K b M).P w :=
  (Chunk.lmap P K b M).move h fun k hk => by
    obtain rfl : k = b := hk
    exact HO.below.block _ (World.ownsMap.lt h)
/-! ### what is found behind what was put -/
def risingL (L : List (Lit × Value)) : Prop := L.Pairwise fun p q => p.1.before q.1 = true
theorem lmap_rising {P : Program} {K b : Nat} {w : World} {L : List (Lit × Value)} (KL : Keyed P K) (h : (Chunk.lmap P K b L).P w) : risingL L ∧ ∀ p ∈ L, KeysOf P K p.1 := by
  obtain ⟨es, clock, hb, F, hs, hD⟩ := h
  have e1 : (L.map held1) = (es.toList.map (Go.WideElems.rg P K anyR)).foldr DataW.insert [] := by injection hD
  have hk : ∀ p ∈ L.map held1, KeysOf P K p.1 := fun p hp => Go.Maps.fit_keys F p (by rw [e1] at hp; exact (Go.WideShapes.sorted_perm _).mem_iff.1 hp)
  have hs2 : (L.map held1).Pairwise (fun p q => p.1.before q.1 = true) := by
    rw [e1]
    exact Go.Maps.sorted_sorted KL.one _ (fun p hp => Go.Maps.fit_keys F p hp) (Go.Maps.fit_apart KL F)
  exact ⟨by simpa [risingL, List.pairwise_map, held1] using hs2, fun p hp => hk (held1 p) (List.mem_map_of_mem hp)⟩
end Go.Proofs.Ytkdahjnmldeklaa.PA
