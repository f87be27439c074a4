/- The names of a disk's files, in order: what slices.Sorted(maps.Keys(files)) hands back. -/
import Derived.Test.YtkdahjnmldeklaaHVfs2
import Derived.Test.YtkdahjnmldeklaaNameIter
namespace Go.Proofs.Ytkdahjnmldeklaa.PA
open Go.RowKit Go.Maps Go.Sort Go.Proofs.YtkdahjnmldeklaaW.PrintWords Go.Proofs.YtkdahjnmldeklaaW.PrintLast Go.Proofs.YtkdahjnmldeklaaW.PrintMore
set_option linter.unusedVariables false
set_option linter.unusedSimpArgs false
theorem before_lt : ∀ (a b : List UInt8), bytesBefore a b = true → a < b
  | [], [], h => by simp [bytesBefore] at h
  | [], _ :: _, _ => List.nil_lt_cons _ _
  | _ :: _, [], h => by simp [bytesBefore] at h
  | a :: r, b :: s, h => by
    simp only [bytesBefore, Bool.or_eq_true, decide_eq_true_eq, Bool.and_eq_true, beq_iff_eq] at h
    rcases h with h | ⟨rfl, h⟩
    · exact List.cons_lt_cons_iff.2 (.inl h)
    · exact List.cons_lt_cons_iff.2 (.inr ⟨rfl, before_lt r s h⟩)
theorem keys_at (mb : Option Nat) (W : World) : Calls Try.prog 49 #[.map mb] W fun e w' => e = .returned (.func (.func 66) #[] #[.pointer (some ⟨W.heap.size, 0, none⟩)]) ∧ w' = W.alloc (.cells #[.map mb] 74) :=
  (callsIn_wide (n := 5)).1 (Try.maps_Keys_49 mb W)
theorem names_sorted {xs : List XF} (h : risingL (xs.map XF.ent)) : ((strKeys (lmap (xs.map XF.ent))).mergeSort (fun x y => decide (x ≤ y))).map encStr = encs Value.string (xs.map fun x => x.p.nm) := by
  have e1 : strKeys (lmap (xs.map XF.ent)) = xs.map fun x => x.p.nm.data.toList := by
    show ((xs.map XF.ent).map held1).map (fun p => strOf p.1) = _
    rw [List.map_map, List.map_map]
    rfl
  rw [e1]
  have hp : (xs.map fun x => x.p.nm.data.toList).Pairwise (fun x y => decide (x ≤ y) = true) := by
    refine List.pairwise_map.2 ((List.pairwise_map.1 h).imp fun {x y} hb => ?_)
    have hb' : bytesBefore x.p.nm.data.toList y.p.nm.data.toList = true := hb
    exact decide_eq_true (List.le_of_lt (before_lt _ _ hb'))
  rw [List.mergeSort_of_pairwise hp]
  unfold encs
  rw [List.map_map, List.map_map]
  exact List.map_congr_left fun x _ => by simp [encStr]
theorem sorted_at (b : Nat) (xs : List XF) (w : World) (hm : (Chunk.lmap Try.prog 9 b (xs.map XF.ent)).P w) (hl : xs.length ≤ 1000000) :
    Calls Try.prog 48 #[.func (.func 66) #[] #[.pointer (some ⟨w.heap.size, 0, none⟩)]] (w.alloc (.cells #[.map (some b)] 74)) fun e w' => ∃ A c S, e = .returned (.slice A (xs.map fun x => x.p.nm).length c) ∧ Out (w.alloc (.cells #[.map (some b)] 74)) w' (fun _ => False) [Chunk.row Kd.string 9 (w.alloc (.cells #[.map (some b)] 74)).heap.size S (.slice A (xs.map fun x => x.p.nm).length c) (xs.map fun x => x.p.nm)] := by
  have hr := (lmap_rising strKey hm).1
  have hm' : w.ownsMap Try.prog 9 anyR b (xs.map XF.ent).length (lmap (xs.map XF.ent)) := hm
  refine ((callsIn_wide (n := 5)).1 (Try.slices_Sorted_keys_48_49 b _ (lmap (xs.map XF.ent)) _ w hm' (by rw [lmap_size, List.length_map]; simp only [maxLen]; omega) (by rw [lmap_size, List.length_map]; omega))).mono fun e w' h => ?_
  obtain ⟨v, ss, rfl, hS, hrow, hnil, hb⟩ := h
  have hlen : (xs.map fun x => x.p.nm).length = ss.length := by
    rw [hS.length_eq]
    show _ = (((xs.map XF.ent).map held1).map (fun p => strOf p.1)).length
    simp only [List.length_map]
  rw [mergeSort_of_perm hS, names_sorted hr, ← hlen] at hrow
  obtain ⟨A, c, rfl⟩ := own_slice hrow
  exact ⟨A, c, _, rfl, Out.row (d := Kd.string) (ok := fun _ => True) (Kd.R_of_own hrow (fun _ _ => trivial)) hb⟩
end Go.Proofs.Ytkdahjnmldeklaa.PA
