/- append(row, ys), where the row is read again behind it. -/
import Derived.Test.YtmlemnfleicnfaaHLazy
import Derived.Maps.AppendAt
namespace Go.Proofs.Ytmlemnfleicnfaa.PA
open Go.RowKit Go.Proofs.YtmlemnfleicnfaaW.PrintWords Go.Proofs.YtmlemnfleicnfaaW.PrintLast Go.Proofs.YtmlemnfleicnfaaW.PrintMore
set_option linter.unusedVariables false
set_option linter.unusedSimpArgs false
theorem append_keeps {P : Program} (w : World) (base : Nat) (t ty e : TypeId) (i : TypeInfo) (z : Value) (size bytes : Nat) (ht : P.underlying t = some (.slice e)) (hi : P.info? e = some i) (hz : i.zero = some z)
    (hsize : i.size = size) (hby : i.bytes = bytes) (hzs : z.cells.size = size) (hsz : 0 < size)
    (v : Value) (n : Nat) (xs : List Value) (hown : w.ownsRow base e size v n xs)
    (a : Addr) (m c : Nat) (news : List Value) (hl : news.length = m * size) (hnews : ∀ j u, news[j]? = some u → w.cell? (a.add j) = some u) (h1 : ∀ u ∈ news, u.oneCell' = true)
    (h63 : n + m ≤ maxLen) (hbytes : (n + m) * bytes ≤ 140737488355328) :
    ∃ v' w', (Builtin.append_ #[t, t] ty #[v, .slice (some a) m c]).run P w = .ok v' w' ∧ (∀ g cap, v = .slice (some ⟨g, 0, none⟩) n cap → ∀ j u, xs[j]? = some u → w'.cell? ⟨g, j, none⟩ = some u) := by
  subst hsize
  subst hby
  have hsmall : n + m ≤ 9223372036854775807 := by simp only [maxLen] at h63; omega
  rcases hown.2 with ⟨rfl, rfl⟩ | ⟨g, cap, cur, rfl, hbg, hg, hnc, hcm, hcs, htake⟩
  · by_cases hm : m = 0
    · subst hm
      have hn : news = [] := List.eq_nil_of_length_eq_zero (by simpa using hl)
      subst hn
      refine ⟨.slice none 0 0, w, ?_, fun g cap h => by cases h⟩
      simp [Builtin.append_, run_underlying ht, sizeOf, typeInfo, hi, Builtin.lenOf, Builtin.firstCells, loadCells, loadCellsFrom]
    · have hr := run_append_nil (P := P) w t ty e i z ht hi hz a m c news hl hnews (by omega) (by omega) (by have hb := hbytes; simp only [Nat.zero_add] at hb; omega)
      exact ⟨_, _, hr, fun g cap h => by cases h⟩
  · by_cases hroom : n + m ≤ cap
    · have hfit : n * i.size + news.length ≤ cur.size := by rw [hl, hcs, ← Nat.add_mul]; exact Nat.mul_le_mul_right _ hroom
      have hr := run_append_room (P := P) w t ty e i ht hi g n cap cur hg a m c news hl hnews h1 hroom hfit
      refine ⟨_, _, hr, fun g' cap' h j u hj => ?_⟩
      injection h with h _ _
      injection h with h
      injection h with h _ _
      subst h
      have hb := setRow_heap w g cur (cur.toList.take (n * i.size) ++ news ++ cur.toList.drop (n * i.size + news.length)).toArray e (0, 0) hg
      rw [cell_of_row _ g j _ e (0, 0) hb]
      have hlt : j < xs.length := (List.getElem?_eq_some_iff.1 hj).1
      have hxl : xs.length = n * i.size := hown.1
      simp only [List.getElem?_toArray, List.append_assoc]
      rw [List.getElem?_append_left (by rw [List.length_take, Array.length_toList]; omega), htake]
      exact hj
    · have holds : ∀ j u, xs[j]? = some u → w.cell? ((⟨g, 0, none⟩ : Addr).add j) = some u := hown.cells (g := g) rfl
      have hr := run_append_grow (P := P) w t ty e i z ht hi hz ⟨g, 0, none⟩ n cap xs hown.1 holds a m c news hl hnews (by omega) (by omega) (growslice_fits (by omega) hbytes)
      refine ⟨_, _, hr, fun g' cap' h j u hj => ?_⟩
      injection h with h _ _
      injection h with h
      injection h with h _ _
      subst h
      have hc := holds j u hj
      rw [add_plain] at hc
      rw [← hc]
      exact World.cell?_of_block (heap_alloc_old w.drew _ (World.block_lt_of_cell? w _ hc))
/-- Two rows of numbers that are only read. -/
def Chunk.two (k : IntKind) (S : Nat → Prop) (A : Option Addr) (n c : Nat) (xs : List Int) (A2 : Option Addr) (n2 c2 : Nat) (xs2 : List Int) : Chunk := ⟨S, fun w => ((Kd.int k).C w A n xs ∧ n ≤ c ∧ ∀ ad, A = some ad → S ad.block) ∧ ((Kd.int k).C w A2 n2 xs2 ∧ n2 ≤ c2 ∧ ∀ ad, A2 = some ad → S ad.block), fun h hm => ⟨⟨C_int_at h.1.1 (fun _ ad e _ => hm _ (h.1.2.2 ad e)), h.1.2⟩, ⟨C_int_at h.2.1 (fun _ ad e _ => hm _ (h.2.2.2 ad e)), h.2.2⟩⟩⟩
section
variable {D : List Deferred} {P : Program} {ops : Array Oper} {Q : Exit → Act → World → Prop} {rest : List Oper} {o : Oper} {N dd : Nat} {a : Act} {F : List (Nat × Value)} {w w0 : World} {L : List Chunk}
theorem gw_appendV {k : IntKind} {e base : Nat} {S : Nat → Prop} {A B : Option Addr} {c m cc : Nat} {xs ys : List Int} {s x : Operand} {t : TypeId} {bytes : Nat} (i : Nat) (HF : FrD D N a F) (HO : Own w0 w L) (hw : Region.wanted o (yielded ops a.tmps) = true) (hd : o.dst = some dd) (hN : dd < N)
    (ho : o.op = .call { callee := .builtin .append, args := #[s, x], argTypes := #[t, t] })
    (ht : P.underlying t = some (.slice e)) (hinfo : (P.info? e).map (fun i => (i.zero, i.size, i.bytes)) = some (some (.int k 0), 1, bytes)) (hb0 : 0 < bytes)
    (hi : L[i]? = some (Chunk.row (Kd.int k) e base S (.slice A xs.length c) xs)) (hs : a.eval s = .slice A xs.length c) (hx : a.eval x = .slice B m cc) (hC : (Kd.int k).C w B m ys) (hm : 0 < m)
    (hbase : base ≤ w.heap.size) (hl : (xs.length + m) * bytes ≤ 140737488355328)
    (kk : ∀ A' c' S' a' w1, FrD D N a' ((dd, .slice A' (xs ++ ys).length c') :: F) → Own w0 w1 (L.set i (Chunk.two k S' A' (xs ++ ys).length c' (xs ++ ys) A xs.length c xs)) → wpList P ops Q rest a' w1) : wpList P ops Q (o :: rest) a w := by
  have hR : (Kd.int k).R e w base S (.slice A xs.length c) xs := HO.get i hi
  have hown := Kd.own_of_R (enc := Value.int k) (h1 := fun _ => rfl) hR
  obtain ⟨i0, hinf, hzz⟩ := Option.map_eq_some_iff.1 hinfo
  simp only [Prod.mk.injEq] at hzz
  obtain ⟨hz0, hz1, hz2⟩ := hzz
  have hrd := (Kd.reads_of_C (d := (0 : Int)) (h1 := fun _ => rfl) hC : ReadsOf (Value.int k) (0 : Int) w B m ys)
  obtain ⟨ad, hB, hcell⟩ := hrd.2.2 hm
  subst hB
  have hyl : ys.length = m := hrd.1
  have hnews : ∀ j u, (encs (Value.int k) ys)[j]? = some u → w.cell? (ad.add j) = some u := fun j u hj => by
    simp only [encs, List.getElem?_map] at hj
    obtain ⟨y, hy, rfl⟩ := Option.map_eq_some_iff.1 hj
    have hlt := (List.getElem?_eq_some_iff.1 hy).1
    have := hcell j (by omega)
    rw [this, List.getD_eq_getElem?_getD, hy]
    rfl
  have hnl : (encs (Value.int k) ys).length = m * 1 := by simp [encs, hyl]
  have hone : ∀ u ∈ encs (Value.int k) ys, u.oneCell' = true := fun u hu => by
    simp only [encs, List.mem_map] at hu
    obtain ⟨y, _, rfl⟩ := hu
    rfl
  have h63 : xs.length + m ≤ maxLen := by
    have := Nat.le_trans (Nat.le_mul_of_pos_right (xs.length + m) hb0) hl
    simp only [maxLen]
    omega
  obtain ⟨v', w', hrun, hown', hgr, _, hloc⟩ := run_append_own_at (P := P) w base t o.type e i0 (.int k 0) 1 bytes ht hinf hz0 hz1 hz2 rfl (by decide) (.slice A xs.length c) xs.length _ hown ad m cc _ hnl hnews hone h63 hl hbase
  obtain ⟨v2, w2, hrun2, hkeep⟩ := append_keeps (P := P) w base t o.type e i0 (.int k 0) 1 bytes ht hinf hz0 hz1 hz2 rfl (by decide) (.slice A xs.length c) xs.length _ hown ad m cc _ hnl hnews hone h63 hl
  rw [hrun] at hrun2
  injection hrun2 with e1 e2
  subst e1 e2
  have hrow : (Kd.int k).R e w' base (fun q => S q ∨ w.heap.size ≤ q ∧ q < w'.heap.size) v' (xs ++ ys) := by
    refine Kd.R_of_own (enc := Value.int k) (h1 := fun _ => rfl) (by rw [List.length_append, hyl]; simpa [encs] using hown') (fun q hq => ?_)
    rcases hloc with h | h
    · rw [h] at hq; exact .inl (hR.1 q hq)
    · rw [h] at hq
      injection hq with hq
      subst hq
      exact .inr ⟨Nat.le_refl _, by
        rcases hown'.2 with ⟨h2, _⟩ | ⟨g, cap, cur, h2, _, hg, _⟩
        · rw [h2] at h; simp [Value.ownBlock] at h
        · rw [h2] at h
          simp only [Value.ownBlock, Option.some.injEq] at h
          subst h
          exact blk_lt hg⟩
  obtain ⟨A', c', rfl⟩ := Kd.R_slice hrow
  have hread := Kd.R_reads' hrow
  have hRuns : Runs P o a w (.slice A' (xs ++ ys).length c') w' := by
    unfold Runs execOp
    simp only [ho, resolve, invoke, builtin, Sem.run_bind, Sem.run_pure, Result.andThen_ok, List.map_toArray, List.map_cons, List.map_nil, hs, hx, hrun]
  refine gw_ev HF hw hd hN hRuns fun a' HF' => kk A' c' (fun q => S q ∨ w.heap.size ≤ q ∧ q < w'.heap.size) a' w' HF' (HO.calls (cs := []) i hi ?_)
  refine Out.one ((Out.refl w S).grown hgr (fun k e => .inl (hR.1 k e))) ⟨⟨hread.2.2, by omega, fun ad2 e2 => row_in hrow e2⟩, ⟨?_, by have := Kd.R_reads' hR; omega, fun ad2 e2 => .inl (row_in hR e2)⟩⟩ ?_
  · refine Kd.C_of_reads (d := (0 : Int)) (h1 := fun _ => rfl) ⟨rfl, by simp only [maxLen] at h63 ⊢; omega, fun hn => ?_⟩
    obtain ⟨g, cap, hv, _⟩ := Kd.R_form hR hn
    injection hv with hA _ hc
    subst hA hc
    refine ⟨_, rfl, fun j hj => ?_⟩
    rw [add_plain]
    exact hkeep g c rfl j _ (by simp [encs, List.getElem?_eq_getElem hj, List.getD_eq_getElem?_getD])
  · intro q hq
    rcases hq with hq | hq
    · exact ⟨.inl hq, Nat.lt_of_lt_of_le (HO.lt i hi hq).2 hgr.size⟩
    · exact ⟨.inr hq.1, hq.2⟩
end
end Go.Proofs.Ytmlemnfleicnfaa.PA
