/- Several texts of this seat in one (NameIter HNames GCond3): put together by a program of this session. -/
import Derived.Shelf.SlIter.Nil
import Derived.Shelf.SortM.Plain
import Derived.Shelf.SortM.SortNone
import Derived.Ground.GgzProg
import Derived.Ground.SlgmProg
import Derived.Test.YtjndcgochnaodaaProg
import Derived.Test.YtjndcgochnaodaaGMix1
import Derived.Test.YtjndcgochnaodaaPAx5
import Derived.Maps.OwnSet
import Derived.StringKeys
import Derived.Sort.KeysCollected
/-
  DERIVED. MADE BY PROGRAM (lay-iter.mjs) off ytjndcgochnaodaa.cut.gsa: THE SHELF's CONTRACTS ON 'slices.Sorted(maps.Keys(m))' LAID AT THIS DUMP: 1 map type. NO WALK OF THE LIBRARY's TEXT: each is one application of a contract over any P and ρ (Derived/Shelf/SlIter/, Derived/Shelf/SortM/).
-/
namespace Go.Proofs
open Go.RowKit Go.Maps Go.Sort Go.Shelf

-- maps.Keys[map[string]bool,string,bool] (function 31; its iterator 43) · slices.Sorted[string] (30) · slices.Sort[[]string,string] (42) · the map's type 48, the keys' 9
shelf_lay_g SlLaysZ.n7 Ggz 7 at Try 31 as Try.keys31
shelf_lay_g SlLaysZ.n6 Ggz 6 at Try 30 as Try.sorted30
shelf_lay_g SlLaysM.n6 Slgm 6 at Try 42 as Try.sort42

/-- slices.Sort's two contracts at this dump, at the fence that asks nothing. -/
theorem Try.sorts30 (m : Nat) : AnyZ.SortsIn Try.prog Try.sorted30_ren Fence.wide m :=
  ⟨fun blk off cap ss W hH hblk hsz => callsIn_wide.2 (AnyM.slices_Sort_string Try.sort42 blk off cap ss W hH hblk hsz),
   fun p cap W => callsIn_wide.2 (AnyM.slices_Sort_string_none Try.sort42 p cap W)⟩

/-- **maps.Keys[map[string]bool,string,bool], at whatever map, the nil one too:** a function value over ONE NEW BLOCK, which holds the map. -/
theorem Try.maps_Keys_31 (mb : Option Nat) (W : World) : CallsIn Fence.wide 5 Try.prog 31 #[.map mb] W fun e w' => e = .returned (.func (.func 43) #[] #[.pointer (some ⟨W.heap.size, 0, none⟩)]) ∧ w' = W.alloc (.cells #[.map mb] 48) :=
  AnyZ.keys_in Try.keys31 Fence.wide 5 trivial rfl mb W

set_option maxHeartbeats 1000000 in
/-- **slices.Sorted[string] AT WHAT maps.Keys[map[string]bool,string,bool] HANDED BACK FOR A MAP THAT IS NOT nil** ('w': the world AHEAD of maps.Keys' call): A NEW SLICE THAT HOLDS THE MAP's KEYS, SORTED; nil just where it has none; nothing that lay before has turned. -/
theorem Try.slices_Sorted_keys_30_31 {H : Type} (b nn : Nat) (D0 : DataW H) (R : Value → Option (DataW H × List MemPlace)) (w : World) (hown : w.ownsMap Try.prog 9 R b nn D0) (hmax : Maps.size D0 ≤ maxLen) (hbytes : Maps.size D0 * 16 ≤ 140737488355328) :
    CallsIn Fence.wide 5 Try.prog 30 #[.func (.func 43) #[] #[.pointer (some ⟨w.heap.size, 0, none⟩)]] (w.alloc (.cells #[.map (some b)] 48)) fun e w' => ∃ (v : Value) (ss : List (List UInt8)), e = .returned v ∧ ss.Perm (strKeys D0) ∧
      w'.ownsRow (w.alloc (.cells #[.map (some b)] 48)).heap.size 9 1 v ss.length ((ss.mergeSort (fun x y => decide (x ≤ y))).map encStr) ∧ (v = .slice none 0 0 ↔ ss = []) ∧ Below (w.alloc (.cells #[.map (some b)] 48)).heap.size (w.alloc (.cells #[.map (some b)] 48)) w' := by
  have hbl := hown.lt
  have hseq : SeqGives Fence.wide 2 Try.prog 43 #[.pointer (some ⟨w.heap.size, 0, none⟩)] encStr (fun ss => ss.Perm (strKeys D0)) (Maps.size D0) (w.alloc (.cells #[.map (some b)] 48)) :=
    AnyZ.keys_gives (ρ := Try.keys31_ren) { Try.keys31 with } Fence.wide _ trivial rfl (by omega) w.heap.size b nn D0 _ (by simp) (by simp) (by
      obtain ⟨es, clock, hb, Ft, hs, hD⟩ := hown
      exact ⟨es, clock, (Below.heap_alloc _ _ b hbl).trans hb, Ft, hs, hD⟩)
  exact AnyZ.sorted_in Try.sorted30 Fence.wide 5 trivial trivial trivial trivial rfl (by omega) (Try.sorts30 _) (enters_of Try.func42 (by kernel_rfl) rfl) 43 #[.pointer (some ⟨w.heap.size, 0, none⟩)] trivial (enters_of Try.func43 (by kernel_rfl) rfl) _ _ hmax hbytes _ hseq

set_option maxHeartbeats 1000000 in
/-- **.. AND FOR THE nil MAP: nil.** -/
theorem Try.slices_Sorted_keys_nil_30_31 (w : World) :
    CallsIn Fence.wide 5 Try.prog 30 #[.func (.func 43) #[] #[.pointer (some ⟨w.heap.size, 0, none⟩)]] (w.alloc (.cells #[.map none] 48)) fun e w' => ∃ (v : Value) (ss : List (List UInt8)), e = .returned v ∧ ss = [] ∧
      w'.ownsRow (w.alloc (.cells #[.map none] 48)).heap.size 9 1 v ss.length ((ss.mergeSort (fun x y => decide (x ≤ y))).map encStr) ∧ (v = .slice none 0 0 ↔ ss = []) ∧ Below (w.alloc (.cells #[.map none] 48)).heap.size (w.alloc (.cells #[.map none] 48)) w' := by
  have hseq : SeqGives Fence.wide 2 Try.prog 43 #[.pointer (some ⟨w.heap.size, 0, none⟩)] encStr (fun ss : List (List UInt8) => ss = []) 0 (w.alloc (.cells #[.map none] 48)) :=
    AnyZ.keys_gives_nil (ρ := Try.keys31_ren) { Try.keys31 with } Fence.wide _ trivial rfl w.heap.size _ (by simp) (by simp)
  exact AnyZ.sorted_in Try.sorted30 Fence.wide 5 trivial trivial trivial trivial rfl (by omega) (Try.sorts30 _) (enters_of Try.func42 (by kernel_rfl) rfl) 43 #[.pointer (some ⟨w.heap.size, 0, none⟩)] trivial (enters_of Try.func43 (by kernel_rfl) rfl) _ 0 (Nat.zero_le _) (by omega) _ hseq

-- THE CALLER's WALK over 'slices.Sorted(maps.Keys(m))' (inside '(callsIn_wide (n := 6)).1'; 'have hfK : Fence.wide.fn 31 := trivial', 'have hfS : Fence.wide.fn 30 := trivial' ahead): THE TWO ARMS TO PASTE:
--   gi_wp2_with (first
--     | (gi_at_call 31; refine (Try.maps_Keys_31 _ _).mono ?_; rintro e w' ⟨rfl, rfl⟩)
--     | (gi_at_call 30; refine (Try.slices_Sorted_keys_30_31 b nn D0 R w hown hmax hbytes).mono ?_; rintro e w' ⟨v, ss, rfl, hS, hrow, hnil, hb⟩))


end Go.Proofs

/- Conditions: their names, as a plain function; a map from names to true, as a thing that a call owns; what slices.Sorted(maps.Keys(m)) hands back. -/
namespace Go.Proofs.Ytjndcgochnaodaa.PA
open Go.RowKit Go.Maps Go.Sort Go.Proofs.YtjndcgochnaodaaW.PrintWords Go.Proofs.YtjndcgochnaodaaW.PrintLast Go.Proofs.YtjndcgochnaodaaW.PrintMore
set_option linter.unusedVariables false
set_option linter.unusedSimpArgs false
def litS (s : ByteArray) : Lit := .string s.data.toList
def setN (ns : List ByteArray) : DataW Unit := setOf (.lit (.bool true)) (ns.map litS)
/-- The names, each once, in order. -/
def sortedN (ns : List ByteArray) : List ByteArray := ((strKeys (setN ns)).mergeSort (fun x y => decide (x ≤ y))).map fun l => (⟨l.toArray⟩ : ByteArray)
def isMapN (w : World) (b : Nat) (ns : List ByteArray) : Prop := w.ownsMap Try.prog 9 (plainElem Try.prog 4) b ns.length (setN ns)
theorem isMapN_move {w w' : World} {b : Nat} {ns : List ByteArray} (h : isMapN w b ns) (hm : w'.heap[b]? = w.heap[b]?) : isMapN w' b ns := by
  obtain ⟨es, clock, hb, F, hs, hD⟩ := h
  exact ⟨es, clock, hm.trans hb, F, hs, hD⟩
def Chunk.smap (b : Nat) (ns : List ByteArray) : Chunk := ⟨fun k => k = b, fun w => isMapN w b ns, fun h hm => isMapN_move h (hm b rfl)⟩
def addN (nm : ByteArray) (ns : List ByteArray) : Option (List ByteArray) := if nm.size ≤ 9223372036854775807 ∧ ns.length < 9223372036854775807 then some (ns ++ [nm]) else none
def namesM {α : Type} (f : α → List ByteArray → Option (List ByteArray)) : List α → List ByteArray → Option (List ByteArray)
  | [], ns => some ns
  | x :: xs, ns => (f x ns).bind (namesM f xs)
theorem names_in {α : Type} {f : α → List ByteArray → Option (List ByteArray)} {ns r : List ByteArray} {l : List α} {i : Nat} (z : α) (hi : i < l.length) (h : namesM f (l.drop i) ns = some r) : ∃ ns1, f (l.getD i z) ns = some ns1 ∧ namesM f (l.drop (i + 1)) ns1 = some r := by
  rw [List.drop_eq_getElem_cons hi] at h
  have e : l.getD i z = l[i] := by simp [List.getD_eq_getElem?_getD, List.getElem?_eq_getElem hi]
  rw [e]
  exact Option.bind_eq_some_iff.mp h
theorem names_out {α : Type} {f : α → List ByteArray → Option (List ByteArray)} {ns r : List ByteArray} {l : List α} {i : Nat} (hi : l.length ≤ i) (h : namesM f (l.drop i) ns = some r) : r = ns := by
  rw [List.drop_of_length_le hi] at h
  exact (Option.some.inj h).symm
theorem namesM_mono {α : Type} {f f' : α → List ByteArray → Option (List ByteArray)} (hf : ∀ x a b, f x a = some b → f' x a = some b) : ∀ (l : List α) (a r : List ByteArray), namesM f l a = some r → namesM f' l a = some r
  | [], a, r, h => h
  | x :: xs, a, r, h => by
    obtain ⟨b, hb, h⟩ := Option.bind_eq_some_iff.mp h
    show (f' x a).bind (namesM f' xs) = some r
    rw [hf x a b hb]
    exact namesM_mono hf xs b r h
def cond_names.f : Nat → ByteArray → List S24 → List ByteArray → Option (List ByteArray)
  | 0, _, _, _ => none
  | k + 1, nm, kids, ns => (if (kids.length : Int) = 0 then addN nm ns else some ns).bind fun ns1 => namesM (fun x a => cond_names.f k x.f1 x.f3 a) kids ns1
theorem cond_names.mono : ∀ k nm kids ns r, cond_names.f k nm kids ns = some r → cond_names.f (k + 1) nm kids ns = some r := by
  intro k
  induction k with
  | zero => intro nm kids ns r h; simp [cond_names.f] at h
  | succ k ih =>
    intro nm kids ns r h
    unfold cond_names.f at h ⊢
    obtain ⟨a, ha, h⟩ := Option.bind_eq_some_iff.mp h
    exact Option.bind_eq_some_iff.mpr ⟨a, ha, namesM_mono (fun x a b hb => ih _ _ _ _ hb) _ _ _ h⟩
theorem na_leaf {k : Nat} {nm : ByteArray} {kids : List S24} {ns r : List ByteArray} (h : cond_names.f (k + 1) nm kids ns = some r) (h0 : (kids.length : Int) = 0) : nm.size ≤ 9223372036854775807 ∧ ns.length < 9223372036854775807 ∧ namesM (fun x a => cond_names.f k x.f1 x.f3 a) kids (ns ++ [nm]) = some r := by
  unfold cond_names.f at h
  rw [if_pos h0] at h
  obtain ⟨a, ha, h⟩ := Option.bind_eq_some_iff.mp h
  unfold addN at ha
  split at ha
  · rename_i h1; obtain rfl := Option.some.inj ha; exact ⟨h1.1, h1.2, h⟩
  · cases ha
theorem na_some {k : Nat} {nm : ByteArray} {kids : List S24} {ns r : List ByteArray} (h : cond_names.f (k + 1) nm kids ns = some r) (h0 : ¬ (kids.length : Int) = 0) : namesM (fun x a => cond_names.f k x.f1 x.f3 a) kids ns = some r := by
  unfold cond_names.f at h
  rw [if_neg h0] at h
  exact h
/-- The names of a condition that is right; of any other none. -/
def cond_Names.f (k : Nat) (kd : Int) (nm vl : ByteArray) (kids : List S24) : Option (List ByteArray) :=
  (cond_Right.f k kd nm vl kids).bind fun t => (if t = true then cond_names.f k nm kids [] else some []).bind fun ns => if ns.length * 16 ≤ 140737488355328 then some (sortedN ns) else none
theorem cond_Names.mono : ∀ a0 a1 a2 a3 k, LeO (cond_Names.f k a0 a1 a2 a3) (cond_Names.f (k + 1) a0 a1 a2 a3) := by
  intro a0 a1 a2 a3 k r h
  unfold cond_Names.f at h ⊢
  obtain ⟨t, ht, h⟩ := Option.bind_eq_some_iff.mp h
  rw [cond_Right.mono _ _ _ _ _ _ ht, Option.bind_some]
  obtain ⟨ns, hn, h⟩ := Option.bind_eq_some_iff.mp h
  refine Option.bind_eq_some_iff.mpr ⟨ns, ?_, h⟩
  split
  · rename_i h1; rw [if_pos h1] at hn; exact cond_names.mono _ _ _ _ _ hn
  · rename_i h1; rw [if_neg h1] at hn; exact hn
theorem nm_in {k : Nat} {kd : Int} {nm vl : ByteArray} {kids : List S24} {r : List ByteArray} (h : cond_Names.f k kd nm vl kids = some r) : ∃ t ns, cond_Right.f k kd nm vl kids = some t ∧ (t = true → cond_names.f k nm kids [] = some ns) ∧ (t = false → ns = []) ∧ ns.length * 16 ≤ 140737488355328 ∧ r = sortedN ns := by
  unfold cond_Names.f at h
  obtain ⟨t, ht, h⟩ := Option.bind_eq_some_iff.mp h
  obtain ⟨ns, hn, h⟩ := Option.bind_eq_some_iff.mp h
  split at h
  · rename_i hl
    refine ⟨t, ns, ht, fun h1 => ?_, fun h1 => ?_, hl, (Option.some.inj h).symm⟩
    · rwa [if_pos h1] at hn
    · rw [if_neg (by rw [h1]; decide)] at hn; exact (Option.some.inj hn).symm
  · cases h
section
variable {D : List Deferred} {ops : Array Oper} {Q : Exit → Act → World → Prop} {rest : List Oper} {o : Oper} {N dd : Nat} {a : Act} {F : List (Nat × Value)} {w w0 : World} {L : List Chunk}
theorem FrD.put0 (HF : FrD D N a F) (v : Value) : FrD D N (a.put none v) F := HF
theorem gw_makeMap (HF : FrD D N a F) (HO : Own w0 w L) (hw : Region.wanted o (yielded ops a.tmps) = true) (hd : o.dst = some dd) (hN : dd < N) (ho : o.op = .makeMap 48 none)
    (k : ∀ g a' w1, FrD D N a' ((dd, .map (some g)) :: F) → Own w0 w1 (Chunk.smap g [] :: L) → wpList Try.prog ops Q rest a' w1) : wpList Try.prog ops Q (o :: rest) a w := by
  refine gw_ev HF hw hd hN (v := .map (some w.heap.size)) (w1 := w.alloc (.map #[] 0)) ?_ fun a' HF' => k _ a' _ HF' ?_
  · unfold Runs execOp
    simp only [ho]
    rfl
  · exact HO.fresh (cs := [_]) (Out.one (Out.of_below (below_alloc (Below.refl _ _) _) _) (c := Chunk.smap w.heap.size []) (World.ownsMap_made _ _ _ _) (fun k hk => by
      obtain rfl : k = w.heap.size := hk
      exact ⟨.inr (Nat.le_refl _), by simp⟩))
theorem lawN : Keyed Try.prog 9 := string_keyed Try.underlying9
theorem gw_mapset {b : Nat} {ns : List ByteArray} {s : ByteArray} {m x v : Operand} (i : Nat) (HF : FrD D N a F) (HO : Own w0 w L) (hi : L[i]? = some (Chunk.smap b ns)) (hw : Region.wanted o (yielded ops a.tmps) = true) (hd : o.dst = none) (ho : o.op = .mapUpdate 48 m x v)
    (hm : a.eval m = .map (some b)) (hx : a.eval x = .string s) (hv : a.eval v = .bool true) (hs : s.size ≤ 9223372036854775807) (hn : ns.length < 9223372036854775807)
    (k : ∀ a' w1, FrD D N a' F → Own w0 w1 (L.set i (Chunk.smap b (ns ++ [s]))) → wpList Try.prog ops Q rest a' w1) : wpList Try.prog ops Q (o :: rest) a w := by
  have hown : isMapN w b ns := HO.get i hi
  refine gw_unguard hw ?_
  refine wpList_mapUpdate_own w rfl m x v 48 ho 9 4 lawN Try.underlying48 _ b ns.length _ hm hown (by simp only [maxLen]; omega) (.string s) (.bool true) (litS s) hx hv (Go.WideMaps.keyOf_string_mk Try.underlying9 (by simpa only [maxLen] using hs)) (.lit (.bool true)) [] (plainElem_bool Try.underlying4 true) ?_
  intro w1 h1 hg
  show wpList Try.prog ops Q rest (a.put o.dst _) w1
  rw [hd]
  refine k _ w1 (HF.put0 _) (HO.calls (cs := []) i hi (Out.one ((Out.refl w _).grown hg (fun k e => .inl (by injection e with e; exact e.symm))) ?_ (fun k hk => ⟨.inl hk, Nat.lt_of_lt_of_le (HO.lt i hi hk).2 hg.size⟩)))
  show w1.ownsMap _ _ _ b (ns ++ [s]).length (setN (ns ++ [s]))
  rw [List.length_append, setN, List.map_append, List.map_cons, List.map_nil, setOf_snoc]
  exact h1
end
theorem keys_at (mb : Option Nat) (W : World) : Calls Try.prog 31 #[.map mb] W fun e w' => e = .returned (.func (.func 43) #[] #[.pointer (some ⟨W.heap.size, 0, none⟩)]) ∧ w' = W.alloc (.cells #[.map mb] 48) :=
  (callsIn_wide (n := 5)).1 (Try.maps_Keys_31 mb W)
theorem sorted_at (b : Nat) (ns : List ByteArray) (w : World) (hm : isMapN w b ns) (hl : ns.length * 16 ≤ 140737488355328) :
    Calls Try.prog 30 #[.func (.func 43) #[] #[.pointer (some ⟨w.heap.size, 0, none⟩)]] (w.alloc (.cells #[.map (some b)] 48)) fun e w' => ∃ A c S, e = .returned (.slice A (sortedN ns).length c) ∧ Out (w.alloc (.cells #[.map (some b)] 48)) w' (fun _ => False) [Chunk.row Kd.string 9 (w.alloc (.cells #[.map (some b)] 48)).heap.size S (.slice A (sortedN ns).length c) (sortedN ns)] := by
  have hsz := World.ownsMap.size_le hm
  refine ((callsIn_wide (n := 5)).1 (Try.slices_Sorted_keys_30_31 b ns.length (setN ns) _ w hm (by simp only [maxLen]; omega) (by omega))).mono fun e w' h => ?_
  obtain ⟨v, ss, rfl, hS, hrow, hnil, hb⟩ := h
  have hlen : (sortedN ns).length = ss.length := by
    unfold sortedN
    rw [List.length_map, List.length_mergeSort]
    exact hS.length_eq.symm
  have heq : (ss.mergeSort (fun x y => decide (x ≤ y))).map encStr = encs Value.string (sortedN ns) := by
    unfold sortedN encs
    rw [mergeSort_of_perm hS, List.map_map]
    exact List.map_congr_left fun x _ => rfl
  rw [heq, ← hlen] at hrow
  obtain ⟨A, c, rfl⟩ := own_slice hrow
  exact ⟨A, c, _, rfl, Out.row (d := Kd.string) (ok := fun _ => True) (Kd.R_of_own hrow (fun _ _ => trivial)) hb⟩
end Go.Proofs.Ytjndcgochnaodaa.PA

/- Conditions: their names, walked. Printed by a program of this session; Lean checks it. -/
namespace Go.Proofs.Ytjndcgochnaodaa.PA
open Go.RowKit Go.Proofs.YtjndcgochnaodaaW.PrintWords Go.Proofs.YtjndcgochnaodaaW.PrintLast Go.Proofs.YtjndcgochnaodaaW.PrintMore
set_option linter.unusedVariables false
set_option linter.unusedSimpArgs false
namespace GCond3_
theorem gwagg22 : ∀ w, (isAgg 22).run Try.prog w = .ok false w := fun _ => by kernel_rfl
theorem gwagg24 : ∀ w, (isAgg 24).run Try.prog w = .ok true w := fun _ => by kernel_rfl
theorem gwagg9 : ∀ w, (isAgg 9).run Try.prog w = .ok false w := fun _ => by kernel_rfl
theorem gwfld24_1 (g off : Nat) : ∀ w, (Instr.fieldAt 24 (.pointer (some ⟨g, off, none⟩)) 1).run Try.prog w = .ok (.pointer (some ⟨g, off + 1, none⟩)) w := fun _ => by kernel_rfl
theorem gwfld24_3 (g off : Nat) : ∀ w, (Instr.fieldAt 24 (.pointer (some ⟨g, off, none⟩)) 3).run Try.prog w = .ok (.pointer (some ⟨g, off + 3, none⟩)) w := fun _ => by kernel_rfl
theorem gwsiz24 : ∀ w, (sizeOf 24).run Try.prog w = .ok 4 w := fun _ => by kernel_rfl
theorem gwzer24 : ∀ w, (zeroValue 24).run Try.prog w = .ok (.agg #[.int .i64 0, .string (⟨#[]⟩ : ByteArray), .string (⟨#[]⟩ : ByteArray), .slice none 0 0]) w := fun _ => by kernel_rfl
def NamesIH (k : Nat) : Prop := ∀ (kd : Int) (nm vl : ByteArray) (A3 : Option Addr) (c3 : Nat) (kids : List S24) (b : Nat) (ns ns' : List ByteArray) (w0 w : World) (R : Chunk), Kd.C k24 w0 A3 kids.length kids → kids.length ≤ c3 → cond_names.f k nm kids ns = some ns' → Own w0 w [R, Chunk.smap b ns] → Calls Try.prog 29 #[(.agg #[.int .i64 kd, .string nm, .string vl, .slice A3 kids.length c3] : Value), .map (some b)] w fun e w' => e = .returned (.tuple #[]) ∧ Own w0 w' [R, Chunk.smap b ns']

set_option maxHeartbeats 4000000 in
set_option maxRecDepth 100000 in
theorem names_step (w0 w : World) (R : Chunk) (k : Nat) (IH : NamesIH k) (kd : Int) (nm vl : ByteArray) (A3 : Option Addr) (c3 : Nat) (kids : List S24) (b : Nat) (ns ns' : List ByteArray) (hr3 : Kd.C k24 w0 A3 kids.length kids) (hc3 : kids.length ≤ c3) (h : cond_names.f (k + 1) nm kids ns = some ns') (HO : Own w0 w [R, Chunk.smap b ns]) :
    Calls Try.prog 29 #[.agg #[.int .i64 kd, .string nm, .string vl, .slice A3 kids.length c3], .map (some b)] w fun e w' => e = .returned (.tuple #[]) ∧ Own w0 w' [R, Chunk.smap b ns'] := by
  have hkl := len_C hr3
  refine gw_startO (N := 24) (vs := [.agg #[.int .i64 kd, .string nm, .string vl, .slice A3 kids.length c3], .map (some b)]) Try.func29 rfl rfl (by simp) fun a HF => ?_
  refine gw_seq fun K1 hK1 => ?_
  refine wp_region_lit ?_
  refine gw_new HF HO (want_none rfl) rfl (by decide) (op_box rfl (HF.ev rfl)) ?_
  intro g2 a3 w4 HF5 HO6; clear HF HO
  have HO7 : Own w0 w4 [Chunk.blk g2 (.cells #[.int .i64 kd, .string nm, .string vl, .slice A3 kids.length c3] 24 (0, 0)), R, Chunk.smap b ns] := HO6
  clear HO6
  refine wpList_nil ?_
  refine gw_nx (hK1 _ _ ?_)
  refine gw_seq fun K8 hK8 => ?_
  refine gw_seq fun K9 hK9 => ?_
  refine wp_region_lit ?_
  refine gw_ev HF5 (want_none rfl) rfl (by decide) (op_field (gwfld24_3 _ _) rfl (HF5.ev rfl)) ?_
  intro a10 HF11; clear HF5
  refine gw_ev HF11 (want_none rfl) rfl (by decide) (op_load1 gwagg22 rfl (HF11.ev rfl) (blk_at (HO7.get 0 rfl) rfl)) ?_
  intro a12 HF13; clear HF11
  refine gw_ev HF13 (want_none rfl) rfl (by decide) (op_len Try.underlying22 rfl (HF13.ev rfl)) ?_
  intro a14 HF15; clear HF13
  refine gw_ev HF15 (want_none rfl) rfl (by decide) (op_eqi rfl (HF15.ev rfl) (ev_c _ _)) ?_
  intro a16 HF17; clear HF15
  refine wpList_nil ?_
  refine gw_nx (hK9 _ _ ?_)
  refine gw_cond HF17 rfl (fun hb18 => ?_) (fun hb18 => ?_)
  · skip
    have HF19 := HF17.subst_ (d := 9) (b := true) rfl hb18
    clear HF17
    (try simp only [Bool.and_eq_true, Bool.or_eq_true, Bool.and_eq_false_iff, Bool.or_eq_false_iff, Bool.not_and, Bool.not_or, Bool.not_not, decide_eq_true_eq, decide_eq_false_iff_not, Bool.not_eq_true', Bool.not_eq_false', Bool.not_eq_true, Bool.not_eq_false, ne_eq, Decidable.not_not, Int.not_lt, Int.not_le, not_true_eq_false, not_false_eq_true, bne_iff_ne, beq_iff_eq, bne_eq_false_iff_eq, beq_eq_false_iff_ne] at hb18)
    obtain ⟨hz1, hz2, hns⟩ := na_leaf h hb18
    refine wp_region_lit ?_
    refine gw_ev HF19 (want_none rfl) rfl (by decide) (op_move rfl (HF19.ev rfl)) ?_
    intro a20 HF21; clear HF19
    refine gw_ev HF21 (want_none rfl) rfl (by decide) (op_field (gwfld24_1 _ _) rfl (HF21.ev rfl)) ?_
    intro a22 HF23; clear HF21
    refine gw_ev HF23 (want_none rfl) rfl (by decide) (op_load1 gwagg9 rfl (HF23.ev rfl) (blk_at (HO7.get 0 rfl) rfl)) ?_
    intro a24 HF25; clear HF23
    refine gw_mapset 2 HF25 HO7 rfl (want_none rfl) rfl rfl (HF25.ev rfl) (HF25.ev rfl) (ev_c _ _) (hz1) (hz2) ?_
    intro a26 w27 HF28 HO29; clear HF25 HO7
    have HO30 : Own w0 w27 [Chunk.blk g2 (.cells #[.int .i64 kd, .string nm, .string vl, .slice A3 kids.length c3] 24 (0, 0)), R, Chunk.smap b (ns ++ [nm])] := HO29
    clear HO29
    refine wpList_nil ?_
    refine gw_nx (hK8 _ _ ?_)
    refine gw_seq fun K31 hK31 => ?_
    refine wp_region_lit ?_
    refine gw_ev HF28 (want_none rfl) rfl (by decide) (op_field (gwfld24_3 _ _) rfl (HF28.ev rfl)) ?_
    intro a32 HF33; clear HF28
    refine gw_ev HF33 (want_none rfl) rfl (by decide) (op_load1 gwagg22 rfl (HF33.ev rfl) (blk_at (HO30.get 0 rfl) rfl)) ?_
    intro a34 HF35; clear HF33
    refine gw_ev HF35 (want_none rfl) rfl (by decide) (op_len Try.underlying22 rfl (HF35.ev rfl)) ?_
    intro a36 HF37; clear HF35
    refine gw_ev HF37 (want_none rfl) rfl (by decide) (op_move rfl (ev_c _ _)) ?_
    intro a38 HF39; clear HF37
    refine wpList_nil ?_
    refine gw_nx (hK31 _ _ ?_)
    refine wp_block ?_
    refine gw_loop (fun m_ a_ w_ => ∃ (i : Int) (cur : List ByteArray), Fr 24 a_ [(16, .int .i64 i), (1, .map (some b)), (14, .slice A3 kids.length c3), (15, .int .i64 (kids.length : Int))] ∧ Own w0 w_ [Chunk.blk g2 (.cells #[.int .i64 kd, .string nm, .string vl, .slice A3 kids.length c3] 24 (0, 0)), R, Chunk.smap b cur] ∧ (0 ≤ i ∧ i ≤ kids.length) ∧ (namesM (fun x a => cond_names.f k x.f1 x.f3 a) (kids.drop i.toNat) cur = some ns') ∧ m_ = (kids.length - i.toNat)) ((kids.length - (0 : Int).toNat)) ?_ ?_
    · refine ⟨0, (ns ++ [nm]), (HF39.pick (t := 16) rfl (HF39.pick (t := 1) rfl (HF39.pick (t := 14) rfl (HF39.pick (t := 15) rfl HF39.nil)))), HO30.sel [0, 1, 2] (by decide), ?_, ?_, rfl⟩
      · omega
      · exact hns
    · rintro m41 a42 w43 ⟨i, cur, HF44, HO45, hi, hns, hm46⟩
      refine gw_seq fun K47 hK47 => ?_
      refine wp_region_lit ?_
      refine gw_ev HF44 (want_none rfl) rfl (by decide) (op_lss rfl (HF44.ev rfl) (HF44.ev rfl)) ?_
      intro a48 HF49; clear HF44
      refine wpList_nil ?_
      refine gw_nx (hK47 _ _ ?_)
      refine gw_seq fun K50 hK50 => ?_
      refine gw_cond HF49 rfl (fun hb51 => ?_) (fun hb51 => ?_)
      · skip
        have HF52 := HF49.subst_ (d := 17) (b := true) rfl hb51
        clear HF49
        (try simp only [Bool.and_eq_true, Bool.or_eq_true, Bool.and_eq_false_iff, Bool.or_eq_false_iff, Bool.not_and, Bool.not_or, Bool.not_not, decide_eq_true_eq, decide_eq_false_iff_not, Bool.not_eq_true', Bool.not_eq_false', Bool.not_eq_true, Bool.not_eq_false, ne_eq, Decidable.not_not, Int.not_lt, Int.not_le, not_true_eq_false, not_false_eq_true, bne_iff_ne, beq_iff_eq, bne_eq_false_iff_eq, beq_eq_false_iff_ne] at hb51)
        refine wp_skip ?_
        refine gw_nx (hK50 _ _ ?_)
        refine gw_seq fun K53 hK53 => ?_
        refine wp_block ?_
        refine gw_seq fun K54 hK54 => ?_
        refine wp_region_lit ?_
        obtain ⟨ad55, cs58, hA56, hl59, hK60, hc57⟩ := Kd.C_get hr3 z24 i (by omega) (by omega)
        obtain ⟨A61, c62, rfl, hl63, hC64⟩ := k24_open hK60
        clear hl59
        refine gw_ev HF52 (want_none rfl) rfl (by decide) (op_index Try.underlying22 gwsiz24 rfl (HF52.ev rfl) (HF52.ev rfl) hA56 (⟨by omega, by omega⟩)) ?_
        intro a65 HF66; clear HF52
        refine gw_ev HF66 (want_none rfl) rfl (by decide) (op_loadc gwagg24 gwsiz24 rfl (HF66.ev rfl) rfl (cells0 HO45 hc57)) ?_
        intro a67 HF68; clear HF66
        refine gw_new HF68 HO45 (want_none rfl) rfl (by decide) (op_alloc gwzer24 rfl) ?_
        intro g69 a70 w71 HF72 HO73; clear HF68 HO45
        have HO74 : Own w0 w71 [Chunk.blk g69 (.cells #[.int .i64 0, .string (⟨#[]⟩ : ByteArray), .string (⟨#[]⟩ : ByteArray), .slice none 0 0] 24 (0, 0)), Chunk.blk g2 (.cells #[.int .i64 kd, .string nm, .string vl, .slice A3 kids.length c3] 24 (0, 0)), R, Chunk.smap b cur] := HO73
        clear HO73
        refine gw_setn 0 HF72 HO74 rfl (want_none rfl) rfl (op_storen gwsiz24 rfl (HF72.ev rfl) (HF72.ev rfl) (HO74.get 0 rfl) rfl (by simp) (by simp [Value.oneCell'])) ?_
        intro a75 w77 HF76 HO78; clear HF72 HO74
        have HO79 : Own w0 w77 [Chunk.blk g69 (.cells #[.int .i64 ((kids.getD i.toNat z24).f0), .string ((kids.getD i.toNat z24).f1), .string ((kids.getD i.toNat z24).f2), .slice A61 ((kids.getD i.toNat z24).f3.length) c62] 24 (0, 0)), Chunk.blk g2 (.cells #[.int .i64 kd, .string nm, .string vl, .slice A3 kids.length c3] 24 (0, 0)), R, Chunk.smap b cur] := HO78
        clear HO78
        refine wpList_nil ?_
        refine gw_nx (hK54 _ _ ?_)
        refine wp_region_lit ?_
        refine gw_ev HF76 (want_none rfl) rfl (by decide) (op_loadn gwagg24 gwsiz24 rfl (HF76.ev rfl) (HO79.get 0 rfl) rfl rfl) ?_
        intro a80 HF81; clear HF76
        refine gw_ev HF81 (want_none rfl) rfl (by decide) (op_move rfl (HF81.ev rfl)) ?_
        intro a82 HF83; clear HF81
        obtain ⟨ns1, hn1, hns'⟩ := names_in z24 (by omega) hns
        have HO90 : Own w0 _ [(Chunk.all [Chunk.blk g69 (.cells #[.int .i64 ((kids.getD i.toNat z24).f0), .string ((kids.getD i.toNat z24).f1), .string ((kids.getD i.toNat z24).f2), .slice A61 ((kids.getD i.toNat z24).f3.length) c62] 24 (0, 0)), Chunk.blk g2 (.cells #[.int .i64 kd, .string nm, .string vl, .slice A3 kids.length c3] 24 (0, 0)), R]), Chunk.smap b cur] := Own.bundle (A := [Chunk.blk g69 (.cells #[.int .i64 ((kids.getD i.toNat z24).f0), .string ((kids.getD i.toNat z24).f1), .string ((kids.getD i.toNat z24).f2), .slice A61 ((kids.getD i.toNat z24).f3.length) c62] 24 (0, 0)), Chunk.blk g2 (.cells #[.int .i64 kd, .string nm, .string vl, .slice A3 kids.length c3] 24 (0, 0)), R]) (L := [Chunk.smap b cur]) (HO79.sel [0, 1, 2, 3] (by decide))
        refine gw_call HF83 (want_none rfl) rfl (by decide) (op_callL Try.func29 (by kernel_rfl) rfl rfl (ar_cons (HF83.ev rfl) (ar_cons (HF83.ev rfl) ar_nil))) (IH ((kids.getD i.toNat z24).f0) ((kids.getD i.toNat z24).f1) ((kids.getD i.toNat z24).f2) A61 c62 ((kids.getD i.toNat z24).f3) b _ ns1 w0 _ (Chunk.all [Chunk.blk g69 (.cells #[.int .i64 ((kids.getD i.toNat z24).f0), .string ((kids.getD i.toNat z24).f1), .string ((kids.getD i.toNat z24).f2), .slice A61 ((kids.getD i.toNat z24).f3.length) c62] 24 (0, 0)), Chunk.blk g2 (.cells #[.int .i64 kd, .string nm, .string vl, .slice A3 kids.length c3] 24 (0, 0)), R]) hC64 hl63 hn1 HO90) ?_
        rintro e84 w85 ⟨rfl, hb86⟩
        refine ⟨_, rfl, fun a87 HF88 => ?_⟩
        have HO89 : Own w0 w85 [Chunk.blk g69 (.cells #[.int .i64 ((kids.getD i.toNat z24).f0), .string ((kids.getD i.toNat z24).f1), .string ((kids.getD i.toNat z24).f2), .slice A61 ((kids.getD i.toNat z24).f3.length) c62] 24 (0, 0)), Chunk.blk g2 (.cells #[.int .i64 kd, .string nm, .string vl, .slice A3 kids.length c3] 24 (0, 0)), R, Chunk.smap b ns1] := Own.unbundle (A := [Chunk.blk g69 (.cells #[.int .i64 ((kids.getD i.toNat z24).f0), .string ((kids.getD i.toNat z24).f1), .string ((kids.getD i.toNat z24).f2), .slice A61 ((kids.getD i.toNat z24).f3.length) c62] 24 (0, 0)), Chunk.blk g2 (.cells #[.int .i64 kd, .string nm, .string vl, .slice A3 kids.length c3] 24 (0, 0)), R]) (L := [Chunk.smap b ns1]) (hb86.sel [0, 1] (by decide))
        clear HO90
        clear HF83 HO79 hb86
        have HO92 : Own w0 w85 [Chunk.blk g69 (.cells #[.int .i64 ((kids.getD i.toNat z24).f0), .string ((kids.getD i.toNat z24).f1), .string ((kids.getD i.toNat z24).f2), .slice A61 ((kids.getD i.toNat z24).f3.length) c62] 24 (0, 0)), Chunk.blk g2 (.cells #[.int .i64 kd, .string nm, .string vl, .slice A3 kids.length c3] 24 (0, 0)), R, Chunk.smap b ns1] := HO89
        clear HO89
        refine wpList_nil ?_
        refine gw_blk ?_
        refine gw_nx (hK53 _ _ ?_)
        refine wp_region_lit ?_
        refine gw_ev HF88 (want_none rfl) rfl (by decide) (op_add rfl (HF88.ev rfl) (ev_c _ _) (by omega)) ?_
        intro a93 HF94; clear HF88
        refine gw_ev HF94 (want_none rfl) rfl (by decide) (op_move rfl (HF94.ev rfl)) ?_
        intro a95 HF96; clear HF94
        refine wpList_nil ?_
        refine gw_nx ⟨_, ?_, i + 1, ns1, (HF96.pick (t := 16) rfl (HF96.pick (t := 1) rfl (HF96.pick (t := 14) rfl (HF96.pick (t := 15) rfl HF96.nil)))), HO92.sel [1, 2, 3] (by decide), ?_, ?_, rfl⟩
        · rw [hm46]; omega
        · omega
        · rw [show (i + 1).toNat = i.toNat + 1 by omega]; exact hns'
      · skip
        have HF97 := HF49.subst_ (d := 17) (b := false) rfl hb51
        clear HF49
        (try simp only [Bool.and_eq_true, Bool.or_eq_true, Bool.and_eq_false_iff, Bool.or_eq_false_iff, Bool.not_and, Bool.not_or, Bool.not_not, decide_eq_true_eq, decide_eq_false_iff_not, Bool.not_eq_true', Bool.not_eq_false', Bool.not_eq_true, Bool.not_eq_false, ne_eq, Decidable.not_not, Int.not_lt, Int.not_le, not_true_eq_false, not_false_eq_true, bne_iff_ne, beq_iff_eq, bne_eq_false_iff_eq, beq_eq_false_iff_ne] at hb51)
        refine wp_exit ?_
        refine gw_thx ?_
        refine gw_thx ?_
        refine gw_in ?_
        refine gw_end0 HF97 rfl ?_
        obtain rfl := names_out (by omega) hns
        exact ⟨rfl, HO45.sel [1, 2] (by decide)⟩
  · skip
    have HF98 := HF17.subst_ (d := 9) (b := false) rfl hb18
    clear HF17
    (try simp only [Bool.and_eq_true, Bool.or_eq_true, Bool.and_eq_false_iff, Bool.or_eq_false_iff, Bool.not_and, Bool.not_or, Bool.not_not, decide_eq_true_eq, decide_eq_false_iff_not, Bool.not_eq_true', Bool.not_eq_false', Bool.not_eq_true, Bool.not_eq_false, ne_eq, Decidable.not_not, Int.not_lt, Int.not_le, not_true_eq_false, not_false_eq_true, bne_iff_ne, beq_iff_eq, bne_eq_false_iff_eq, beq_eq_false_iff_ne] at hb18)
    have hns := na_some h hb18
    refine wp_skip ?_
    refine gw_nx (hK8 _ _ ?_)
    refine gw_seq fun K99 hK99 => ?_
    refine wp_region_lit ?_
    refine gw_ev HF98 (want_none rfl) rfl (by decide) (op_field (gwfld24_3 _ _) rfl (HF98.ev rfl)) ?_
    intro a100 HF101; clear HF98
    refine gw_ev HF101 (want_none rfl) rfl (by decide) (op_load1 gwagg22 rfl (HF101.ev rfl) (blk_at (HO7.get 0 rfl) rfl)) ?_
    intro a102 HF103; clear HF101
    refine gw_ev HF103 (want_none rfl) rfl (by decide) (op_len Try.underlying22 rfl (HF103.ev rfl)) ?_
    intro a104 HF105; clear HF103
    refine gw_ev HF105 (want_none rfl) rfl (by decide) (op_move rfl (ev_c _ _)) ?_
    intro a106 HF107; clear HF105
    refine wpList_nil ?_
    refine gw_nx (hK99 _ _ ?_)
    refine wp_block ?_
    refine gw_loop (fun m_ a_ w_ => ∃ (i : Int) (cur : List ByteArray), Fr 24 a_ [(16, .int .i64 i), (1, .map (some b)), (14, .slice A3 kids.length c3), (15, .int .i64 (kids.length : Int))] ∧ Own w0 w_ [Chunk.blk g2 (.cells #[.int .i64 kd, .string nm, .string vl, .slice A3 kids.length c3] 24 (0, 0)), R, Chunk.smap b cur] ∧ (0 ≤ i ∧ i ≤ kids.length) ∧ (namesM (fun x a => cond_names.f k x.f1 x.f3 a) (kids.drop i.toNat) cur = some ns') ∧ m_ = (kids.length - i.toNat)) ((kids.length - (0 : Int).toNat)) ?_ ?_
    · refine ⟨0, ns, (HF107.pick (t := 16) rfl (HF107.pick (t := 1) rfl (HF107.pick (t := 14) rfl (HF107.pick (t := 15) rfl HF107.nil)))), HO7.sel [0, 1, 2] (by decide), ?_, ?_, rfl⟩
      · omega
      · exact hns
    · rintro m109 a110 w111 ⟨i, cur, HF112, HO113, hi, hns, hm114⟩
      refine gw_seq fun K115 hK115 => ?_
      refine wp_region_lit ?_
      refine gw_ev HF112 (want_none rfl) rfl (by decide) (op_lss rfl (HF112.ev rfl) (HF112.ev rfl)) ?_
      intro a116 HF117; clear HF112
      refine wpList_nil ?_
      refine gw_nx (hK115 _ _ ?_)
      refine gw_seq fun K118 hK118 => ?_
      refine gw_cond HF117 rfl (fun hb119 => ?_) (fun hb119 => ?_)
      · skip
        have HF120 := HF117.subst_ (d := 17) (b := true) rfl hb119
        clear HF117
        (try simp only [Bool.and_eq_true, Bool.or_eq_true, Bool.and_eq_false_iff, Bool.or_eq_false_iff, Bool.not_and, Bool.not_or, Bool.not_not, decide_eq_true_eq, decide_eq_false_iff_not, Bool.not_eq_true', Bool.not_eq_false', Bool.not_eq_true, Bool.not_eq_false, ne_eq, Decidable.not_not, Int.not_lt, Int.not_le, not_true_eq_false, not_false_eq_true, bne_iff_ne, beq_iff_eq, bne_eq_false_iff_eq, beq_eq_false_iff_ne] at hb119)
        refine wp_skip ?_
        refine gw_nx (hK118 _ _ ?_)
        refine gw_seq fun K121 hK121 => ?_
        refine wp_block ?_
        refine gw_seq fun K122 hK122 => ?_
        refine wp_region_lit ?_
        obtain ⟨ad123, cs126, hA124, hl127, hK128, hc125⟩ := Kd.C_get hr3 z24 i (by omega) (by omega)
        obtain ⟨A129, c130, rfl, hl131, hC132⟩ := k24_open hK128
        clear hl127
        refine gw_ev HF120 (want_none rfl) rfl (by decide) (op_index Try.underlying22 gwsiz24 rfl (HF120.ev rfl) (HF120.ev rfl) hA124 (⟨by omega, by omega⟩)) ?_
        intro a133 HF134; clear HF120
        refine gw_ev HF134 (want_none rfl) rfl (by decide) (op_loadc gwagg24 gwsiz24 rfl (HF134.ev rfl) rfl (cells0 HO113 hc125)) ?_
        intro a135 HF136; clear HF134
        refine gw_new HF136 HO113 (want_none rfl) rfl (by decide) (op_alloc gwzer24 rfl) ?_
        intro g137 a138 w139 HF140 HO141; clear HF136 HO113
        have HO142 : Own w0 w139 [Chunk.blk g137 (.cells #[.int .i64 0, .string (⟨#[]⟩ : ByteArray), .string (⟨#[]⟩ : ByteArray), .slice none 0 0] 24 (0, 0)), Chunk.blk g2 (.cells #[.int .i64 kd, .string nm, .string vl, .slice A3 kids.length c3] 24 (0, 0)), R, Chunk.smap b cur] := HO141
        clear HO141
        refine gw_setn 0 HF140 HO142 rfl (want_none rfl) rfl (op_storen gwsiz24 rfl (HF140.ev rfl) (HF140.ev rfl) (HO142.get 0 rfl) rfl (by simp) (by simp [Value.oneCell'])) ?_
        intro a143 w145 HF144 HO146; clear HF140 HO142
        have HO147 : Own w0 w145 [Chunk.blk g137 (.cells #[.int .i64 ((kids.getD i.toNat z24).f0), .string ((kids.getD i.toNat z24).f1), .string ((kids.getD i.toNat z24).f2), .slice A129 ((kids.getD i.toNat z24).f3.length) c130] 24 (0, 0)), Chunk.blk g2 (.cells #[.int .i64 kd, .string nm, .string vl, .slice A3 kids.length c3] 24 (0, 0)), R, Chunk.smap b cur] := HO146
        clear HO146
        refine wpList_nil ?_
        refine gw_nx (hK122 _ _ ?_)
        refine wp_region_lit ?_
        refine gw_ev HF144 (want_none rfl) rfl (by decide) (op_loadn gwagg24 gwsiz24 rfl (HF144.ev rfl) (HO147.get 0 rfl) rfl rfl) ?_
        intro a148 HF149; clear HF144
        refine gw_ev HF149 (want_none rfl) rfl (by decide) (op_move rfl (HF149.ev rfl)) ?_
        intro a150 HF151; clear HF149
        obtain ⟨ns1, hn1, hns'⟩ := names_in z24 (by omega) hns
        have HO158 : Own w0 _ [(Chunk.all [Chunk.blk g137 (.cells #[.int .i64 ((kids.getD i.toNat z24).f0), .string ((kids.getD i.toNat z24).f1), .string ((kids.getD i.toNat z24).f2), .slice A129 ((kids.getD i.toNat z24).f3.length) c130] 24 (0, 0)), Chunk.blk g2 (.cells #[.int .i64 kd, .string nm, .string vl, .slice A3 kids.length c3] 24 (0, 0)), R]), Chunk.smap b cur] := Own.bundle (A := [Chunk.blk g137 (.cells #[.int .i64 ((kids.getD i.toNat z24).f0), .string ((kids.getD i.toNat z24).f1), .string ((kids.getD i.toNat z24).f2), .slice A129 ((kids.getD i.toNat z24).f3.length) c130] 24 (0, 0)), Chunk.blk g2 (.cells #[.int .i64 kd, .string nm, .string vl, .slice A3 kids.length c3] 24 (0, 0)), R]) (L := [Chunk.smap b cur]) (HO147.sel [0, 1, 2, 3] (by decide))
        refine gw_call HF151 (want_none rfl) rfl (by decide) (op_callL Try.func29 (by kernel_rfl) rfl rfl (ar_cons (HF151.ev rfl) (ar_cons (HF151.ev rfl) ar_nil))) (IH ((kids.getD i.toNat z24).f0) ((kids.getD i.toNat z24).f1) ((kids.getD i.toNat z24).f2) A129 c130 ((kids.getD i.toNat z24).f3) b _ ns1 w0 _ (Chunk.all [Chunk.blk g137 (.cells #[.int .i64 ((kids.getD i.toNat z24).f0), .string ((kids.getD i.toNat z24).f1), .string ((kids.getD i.toNat z24).f2), .slice A129 ((kids.getD i.toNat z24).f3.length) c130] 24 (0, 0)), Chunk.blk g2 (.cells #[.int .i64 kd, .string nm, .string vl, .slice A3 kids.length c3] 24 (0, 0)), R]) hC132 hl131 hn1 HO158) ?_
        rintro e152 w153 ⟨rfl, hb154⟩
        refine ⟨_, rfl, fun a155 HF156 => ?_⟩
        have HO157 : Own w0 w153 [Chunk.blk g137 (.cells #[.int .i64 ((kids.getD i.toNat z24).f0), .string ((kids.getD i.toNat z24).f1), .string ((kids.getD i.toNat z24).f2), .slice A129 ((kids.getD i.toNat z24).f3.length) c130] 24 (0, 0)), Chunk.blk g2 (.cells #[.int .i64 kd, .string nm, .string vl, .slice A3 kids.length c3] 24 (0, 0)), R, Chunk.smap b ns1] := Own.unbundle (A := [Chunk.blk g137 (.cells #[.int .i64 ((kids.getD i.toNat z24).f0), .string ((kids.getD i.toNat z24).f1), .string ((kids.getD i.toNat z24).f2), .slice A129 ((kids.getD i.toNat z24).f3.length) c130] 24 (0, 0)), Chunk.blk g2 (.cells #[.int .i64 kd, .string nm, .string vl, .slice A3 kids.length c3] 24 (0, 0)), R]) (L := [Chunk.smap b ns1]) (hb154.sel [0, 1] (by decide))
        clear HO158
        clear HF151 HO147 hb154
        have HO160 : Own w0 w153 [Chunk.blk g137 (.cells #[.int .i64 ((kids.getD i.toNat z24).f0), .string ((kids.getD i.toNat z24).f1), .string ((kids.getD i.toNat z24).f2), .slice A129 ((kids.getD i.toNat z24).f3.length) c130] 24 (0, 0)), Chunk.blk g2 (.cells #[.int .i64 kd, .string nm, .string vl, .slice A3 kids.length c3] 24 (0, 0)), R, Chunk.smap b ns1] := HO157
        clear HO157
        refine wpList_nil ?_
        refine gw_blk ?_
        refine gw_nx (hK121 _ _ ?_)
        refine wp_region_lit ?_
        refine gw_ev HF156 (want_none rfl) rfl (by decide) (op_add rfl (HF156.ev rfl) (ev_c _ _) (by omega)) ?_
        intro a161 HF162; clear HF156
        refine gw_ev HF162 (want_none rfl) rfl (by decide) (op_move rfl (HF162.ev rfl)) ?_
        intro a163 HF164; clear HF162
        refine wpList_nil ?_
        refine gw_nx ⟨_, ?_, i + 1, ns1, (HF164.pick (t := 16) rfl (HF164.pick (t := 1) rfl (HF164.pick (t := 14) rfl (HF164.pick (t := 15) rfl HF164.nil)))), HO160.sel [1, 2, 3] (by decide), ?_, ?_, rfl⟩
        · rw [hm114]; omega
        · omega
        · rw [show (i + 1).toNat = i.toNat + 1 by omega]; exact hns'
      · skip
        have HF165 := HF117.subst_ (d := 17) (b := false) rfl hb119
        clear HF117
        (try simp only [Bool.and_eq_true, Bool.or_eq_true, Bool.and_eq_false_iff, Bool.or_eq_false_iff, Bool.not_and, Bool.not_or, Bool.not_not, decide_eq_true_eq, decide_eq_false_iff_not, Bool.not_eq_true', Bool.not_eq_false', Bool.not_eq_true, Bool.not_eq_false, ne_eq, Decidable.not_not, Int.not_lt, Int.not_le, not_true_eq_false, not_false_eq_true, bne_iff_ne, beq_iff_eq, bne_eq_false_iff_eq, beq_eq_false_iff_ne] at hb119)
        refine wp_exit ?_
        refine gw_thx ?_
        refine gw_thx ?_
        refine gw_in ?_
        refine gw_end0 HF165 rfl ?_
        obtain rfl := names_out (by omega) hns
        exact ⟨rfl, HO113.sel [1, 2] (by decide)⟩
theorem names_own (k : Nat) : NamesIH k := by
  induction k with
  | zero => intro _ _ _ _ _ _ _ _ _ _ _ _ _ _ h; simp [cond_names.f] at h
  | succ k ih => intro kd nm vl A3 c3 kids b ns ns' w0 w R hr3 hc3 h HO; exact names_step w0 w R k ih kd nm vl A3 c3 kids b ns ns' hr3 hc3 h HO

set_option maxHeartbeats 4000000 in
set_option maxRecDepth 100000 in
theorem Names_walk (k : Nat) (kd : Int) (nm vl : ByteArray) (A3 : Option Addr) (c3 : Nat) (kids : List S24) (r : List ByteArray) (w : World) (hr3 : Kd.C k24 w A3 kids.length kids) (hc3 : kids.length ≤ c3) (h : cond_Names.f k kd nm vl kids = some r) :
    Calls Try.prog 14 #[.agg #[.int .i64 kd, .string nm, .string vl, .slice A3 kids.length c3]] w fun e w' => ∃ A c S, e = .returned (.slice A r.length c) ∧ Out w w' (fun _ => False) [Chunk.row Kd.string 9 w.heap.size S (.slice A r.length c) r] := by
  obtain ⟨t, ns, ht, hnn, hno, hlen, rfl⟩ := nm_in h
  refine gw_start (N := 13) (vs := [.agg #[.int .i64 kd, .string nm, .string vl, .slice A3 kids.length c3]]) Try.func14 rfl rfl (by simp) fun a HF HO => ?_
  replace HO : Own w w [] := HO
  refine gw_seq fun K1 hK1 => ?_
  refine wp_region_lit ?_
  refine gw_new HF HO (want_none rfl) rfl (by decide) (op_box rfl (HF.ev rfl)) ?_
  intro g2 a3 w4 HF5 HO6; clear HF HO
  have HO7 : Own w w4 [Chunk.blk g2 (.cells #[.int .i64 kd, .string nm, .string vl, .slice A3 kids.length c3] 24 (0, 0))] := HO6
  clear HO6
  refine gw_ev HF5 (want_none rfl) rfl (by decide) (op_assign rfl (ev_c _ _)) ?_
  intro a8 HF9; clear HF5
  refine wpList_nil ?_
  refine gw_nx (hK1 _ _ ?_)
  refine gw_seq fun K10 hK10 => ?_
  refine wp_region_lit ?_
  refine gw_makeMap HF9 HO7 (want_none rfl) rfl (by decide) rfl ?_
  intro g11 a12 w13 HF14 HO15; clear HF9 HO7
  have HO16 : Own w w13 [Chunk.smap g11 ([] : List ByteArray), Chunk.blk g2 (.cells #[.int .i64 kd, .string nm, .string vl, .slice A3 kids.length c3] 24 (0, 0))] := HO15
  clear HO15
  refine gw_ev HF14 (want_none rfl) rfl (by decide) (op_assign rfl (HF14.ev rfl)) ?_
  intro a17 HF18; clear HF14
  refine wpList_nil ?_
  refine gw_nx (hK10 _ _ ?_)
  refine gw_seq fun K19 hK19 => ?_
  refine gw_seq fun K20 hK20 => ?_
  refine wp_region_lit ?_
  refine gw_ev HF18 (want_none rfl) rfl (by decide) (op_loadn gwagg24 gwsiz24 rfl (HF18.ev rfl) (HO16.get 1 rfl) rfl rfl) ?_
  intro a21 HF22; clear HF18
  refine gw_call HF22 (want_none rfl) rfl (by decide) (op_callL Try.func11 (by kernel_rfl) rfl rfl (ar_cons (HF22.ev rfl) ar_nil)) (cond_Right.calls k kd nm vl A3 c3 kids t _ (Kd.C_below hr3 HO16.below) hc3 ht) ?_
  rintro e23 w24 ⟨rfl, hb25⟩
  refine ⟨_, rfl, fun a26 HF27 => ?_⟩
  have HO28 := HO16.after hb25
  clear HF22 HO16 hb25
  refine wpList_nil ?_
  refine gw_nx (hK20 _ _ ?_)
  refine gw_cond HF27 rfl (fun hb30 => ?_) (fun hb30 => ?_)
  · skip
    have HF31 := HF27.subst_ (d := 6) (b := true) rfl hb30
    clear HF27
    (try simp only [Bool.and_eq_true, Bool.or_eq_true, Bool.and_eq_false_iff, Bool.or_eq_false_iff, Bool.not_and, Bool.not_or, Bool.not_not, decide_eq_true_eq, decide_eq_false_iff_not, Bool.not_eq_true', Bool.not_eq_false', Bool.not_eq_true, Bool.not_eq_false, ne_eq, Decidable.not_not, Int.not_lt, Int.not_le, not_true_eq_false, not_false_eq_true, bne_iff_ne, beq_iff_eq, bne_eq_false_iff_eq, beq_eq_false_iff_ne] at hb30)
    refine wp_region_lit ?_
    refine gw_ev HF31 (want_none rfl) rfl (by decide) (op_loadn gwagg24 gwsiz24 rfl (HF31.ev rfl) (HO28.get 1 rfl) rfl rfl) ?_
    intro a32 HF33; clear HF31
    refine gw_ev HF33 (want_none rfl) rfl (by decide) (op_move rfl (HF33.ev rfl)) ?_
    intro a34 HF35; clear HF33
    have HO42 : Own w _ [(Chunk.all [Chunk.blk g2 (.cells #[.int .i64 kd, .string nm, .string vl, .slice A3 kids.length c3] 24 (0, 0))]), Chunk.smap g11 ([] : List ByteArray)] := Own.bundle (A := [Chunk.blk g2 (.cells #[.int .i64 kd, .string nm, .string vl, .slice A3 kids.length c3] 24 (0, 0))]) (L := [Chunk.smap g11 ([] : List ByteArray)]) (HO28.sel [1, 0] (by decide))
    refine gw_call HF35 (want_none rfl) rfl (by decide) (op_callL Try.func29 (by kernel_rfl) rfl rfl (ar_cons (HF35.ev rfl) (ar_cons (HF35.ev rfl) ar_nil))) (names_own k kd nm vl A3 c3 kids g11 _ ns w _ (Chunk.all [Chunk.blk g2 (.cells #[.int .i64 kd, .string nm, .string vl, .slice A3 kids.length c3] 24 (0, 0))]) hr3 hc3 (hnn (by assumption)) HO42) ?_
    rintro e36 w37 ⟨rfl, hb38⟩
    refine ⟨_, rfl, fun a39 HF40 => ?_⟩
    have HO41 : Own w w37 [Chunk.blk g2 (.cells #[.int .i64 kd, .string nm, .string vl, .slice A3 kids.length c3] 24 (0, 0)), Chunk.smap g11 ns] := Own.unbundle (A := [Chunk.blk g2 (.cells #[.int .i64 kd, .string nm, .string vl, .slice A3 kids.length c3] 24 (0, 0))]) (L := [Chunk.smap g11 ns]) (hb38.sel [0, 1] (by decide))
    clear HO42
    clear HF35 HO28 hb38
    have HO44 : Own w w37 [Chunk.blk g2 (.cells #[.int .i64 kd, .string nm, .string vl, .slice A3 kids.length c3] 24 (0, 0)), Chunk.smap g11 ns] := HO41
    clear HO41
    refine wpList_nil ?_
    refine gw_nx (hK19 _ _ ?_)
    refine gw_seq fun K45 hK45 => ?_
    refine wp_region_lit ?_
    refine gw_ev HF40 (want_none rfl) rfl (by decide) (op_move rfl (HF40.ev rfl)) ?_
    intro a46 HF47; clear HF40
    have hmap : isMapN w37 g11 ns := by exact HO44.get 1 rfl
    refine gw_call HF47 (want_none rfl) rfl (by decide) (op_callL Try.func31 (by kernel_rfl) rfl rfl (ar_cons (HF47.ev rfl) ar_nil)) (keys_at _ _) ?_
    rintro _ _ ⟨rfl, rfl⟩
    refine ⟨_, rfl, fun a51 HF52 => ?_⟩
    have HO53 := HO44.new (.cells #[.map (some g11)] 48)
    clear HF47 HO44
    have HO54 : Own w (w37.alloc (.cells #[.map (some g11)] 48)) [Chunk.blk w37.heap.size (.cells #[.map (some g11)] 48 (0, 0)), Chunk.blk g2 (.cells #[.int .i64 kd, .string nm, .string vl, .slice A3 kids.length c3] 24 (0, 0)), Chunk.smap g11 ns] := HO53
    clear HO53
    refine gw_call HF52 (want_none rfl) rfl (by decide) (op_callL Try.func30 (by kernel_rfl) rfl rfl (ar_cons (HF52.ev rfl) ar_nil)) (sorted_at g11 ns _ hmap hlen) ?_
    rintro e58 w59 ⟨A55, c56, S57, rfl, hb60⟩
    refine ⟨_, rfl, fun a61 HF62 => ?_⟩
    have HO63 := HO54.fresh hb60
    have hbel64 := HO54.below
    clear HF52 HO54 hb60
    have HO65 := HO63.lowrow 0 rfl (base' := w.heap.size) (Below.size hbel64)
    have HO66 : Own w w59 [Chunk.row Kd.string 9 w.heap.size S57 (.slice A55 ((sortedN ns).length) c56) (sortedN ns), Chunk.blk w37.heap.size (.cells #[.map (some g11)] 48 (0, 0)), Chunk.blk g2 (.cells #[.int .i64 kd, .string nm, .string vl, .slice A3 kids.length c3] 24 (0, 0)), Chunk.smap g11 ns] := HO65
    clear HO65
    refine gw_ev HF62 (want_none rfl) rfl (by decide) (op_assign rfl (HF62.ev rfl)) ?_
    intro a67 HF68; clear HF62
    refine wpList_nil ?_
    refine gw_nx (hK45 _ _ ?_)
    refine wp_ret ?_
    refine gw_ret1 HF68 rfl rfl ?_
    exact ⟨_, _, _, rfl, (HO66.sel [0] (by decide)).out⟩
  · skip
    have HF69 := HF27.subst_ (d := 6) (b := false) rfl hb30
    clear HF27
    (try simp only [Bool.and_eq_true, Bool.or_eq_true, Bool.and_eq_false_iff, Bool.or_eq_false_iff, Bool.not_and, Bool.not_or, Bool.not_not, decide_eq_true_eq, decide_eq_false_iff_not, Bool.not_eq_true', Bool.not_eq_false', Bool.not_eq_true, Bool.not_eq_false, ne_eq, Decidable.not_not, Int.not_lt, Int.not_le, not_true_eq_false, not_false_eq_true, bne_iff_ne, beq_iff_eq, bne_eq_false_iff_eq, beq_eq_false_iff_ne] at hb30)
    refine wp_skip ?_
    refine gw_nx (hK19 _ _ ?_)
    refine gw_seq fun K70 hK70 => ?_
    refine wp_region_lit ?_
    refine gw_ev HF69 (want_none rfl) rfl (by decide) (op_move rfl (HF69.ev rfl)) ?_
    intro a71 HF72; clear HF69
    have hmap : isMapN w24 g11 ns := by rw [hno (by assumption)]; exact HO28.get 0 rfl
    refine gw_call HF72 (want_none rfl) rfl (by decide) (op_callL Try.func31 (by kernel_rfl) rfl rfl (ar_cons (HF72.ev rfl) ar_nil)) (keys_at _ _) ?_
    rintro _ _ ⟨rfl, rfl⟩
    refine ⟨_, rfl, fun a76 HF77 => ?_⟩
    have HO78 := HO28.new (.cells #[.map (some g11)] 48)
    clear HF72 HO28
    have HO79 : Own w (w24.alloc (.cells #[.map (some g11)] 48)) [Chunk.blk w24.heap.size (.cells #[.map (some g11)] 48 (0, 0)), Chunk.smap g11 ([] : List ByteArray), Chunk.blk g2 (.cells #[.int .i64 kd, .string nm, .string vl, .slice A3 kids.length c3] 24 (0, 0))] := HO78
    clear HO78
    refine gw_call HF77 (want_none rfl) rfl (by decide) (op_callL Try.func30 (by kernel_rfl) rfl rfl (ar_cons (HF77.ev rfl) ar_nil)) (sorted_at g11 ns _ hmap hlen) ?_
    rintro e83 w84 ⟨A80, c81, S82, rfl, hb85⟩
    refine ⟨_, rfl, fun a86 HF87 => ?_⟩
    have HO88 := HO79.fresh hb85
    have hbel89 := HO79.below
    clear HF77 HO79 hb85
    have HO90 := HO88.lowrow 0 rfl (base' := w.heap.size) (Below.size hbel89)
    have HO91 : Own w w84 [Chunk.row Kd.string 9 w.heap.size S82 (.slice A80 ((sortedN ns).length) c81) (sortedN ns), Chunk.blk w24.heap.size (.cells #[.map (some g11)] 48 (0, 0)), Chunk.smap g11 ([] : List ByteArray), Chunk.blk g2 (.cells #[.int .i64 kd, .string nm, .string vl, .slice A3 kids.length c3] 24 (0, 0))] := HO90
    clear HO90
    refine gw_ev HF87 (want_none rfl) rfl (by decide) (op_assign rfl (HF87.ev rfl)) ?_
    intro a92 HF93; clear HF87
    refine wpList_nil ?_
    refine gw_nx (hK70 _ _ ?_)
    refine wp_ret ?_
    refine gw_ret1 HF93 rfl rfl ?_
    exact ⟨_, _, _, rfl, (HO91.sel [0] (by decide)).out⟩
theorem cond_Names.calls (k : Nat) (a0_0 : Int) (a0_1 a0_2 : ByteArray) (A0_3 : Option Addr) (c0_3 : Nat) (l0_3 : List S24) (r : List ByteArray) (w : World) (hr0_3 : Kd.C k24 w A0_3 l0_3.length l0_3) (hc0_3 : l0_3.length ≤ c0_3) (h : cond_Names.f k a0_0 a0_1 a0_2 l0_3 = some r) : Calls Try.prog 14 #[.agg #[.int .i64 a0_0, .string a0_1, .string a0_2, .slice A0_3 l0_3.length c0_3]] w fun e w' => ∃ v_ : Value, e = .returned v_ ∧ Kd.R Kd.string 9 w' w.heap.size (fun _ => True) v_ r ∧ Below w.heap.size w w' :=
  (Names_walk k a0_0 a0_1 a0_2 A0_3 c0_3 l0_3 r w hr0_3 hc0_3 h).mono fun e w' h_ => by obtain ⟨A_, c_, S_, he, ho_⟩ := h_; exact ⟨_, he, Kd.R_mono (ho_.holds _ (List.mem_cons_self ..)) (fun _ _ => trivial), ((Own.start w).fresh ho_).below⟩

end GCond3_
export GCond3_ (cond_Names.calls Names_walk)
end Go.Proofs.Ytjndcgochnaodaa.PA

