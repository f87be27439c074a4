/- Rows of the call's own whose elements lead to what is only read; literals of such elements. -/
import Derived.Test.YtkdahjnmldeklaaHLazy
namespace Go.Proofs.Ytkdahjnmldeklaa.PA
open Go.RowKit Go.Proofs.YtkdahjnmldeklaaW.PrintWords Go.Proofs.YtkdahjnmldeklaaW.PrintLast Go.Proofs.YtkdahjnmldeklaaW.PrintMore
set_option linter.unusedVariables false
set_option linter.unusedSimpArgs false
section
variable {α : Type} {d : Kd α} {e base n c g : Nat} {S : Nat → Prop} {A : Option Addr} {xs ys : List α} {v : Value} {w0 w : World} {L : List Chunk} {cj : Chunk}
def Chunk.nrow (d : Kd α) (e base : Nat) (S : Nat → Prop) (v : Value) (xs : List α) : Chunk := ⟨S, fun w => Kd.N d e w base S v xs, fun h hm => Kd.N_step h (fun k hk _ => hm k hk)⟩
theorem Own.nrow_nil (h : Own w0 w L) (d : Kd α) (e base : Nat) : Own w0 w (Chunk.nrow d e base (fun _ => False) (.slice none 0 0) [] :: L) :=
  h.fresh (cs := [_]) (Out.one (Out.refl w _) (c := Chunk.nrow d e base (fun _ => False) (.slice none 0 0) []) (Kd.N_nil _ _ _ _ _) (fun _ hk => hk.elim))
theorem nrow_in (h : Kd.N d e w base S (.slice A n c) xs) {ad : Addr} (e1 : A = some ad) : S ad.block := h.1 _ (by subst e1; rfl)
theorem Own.nrow_view (h : Own w0 w L) (i : Nat) (hi : L[i]? = some (Chunk.nrow d e base S (.slice A n c) xs)) : Own w0 w (L.set i (Chunk.view d S A n c xs)) :=
  h.mapc i hi (fun _ hk => hk) (fun _ hr => ⟨Kd.N_F hr, (Kd.N_reads' hr).2.1, fun ad e => nrow_in hr e⟩)
theorem nrow_C (h : (Chunk.nrow d e base S (.slice A n c) xs).P w) : d.C w A n xs := by
  obtain ⟨rfl, _, h2⟩ := Kd.N_reads' h
  exact h2
theorem nrow_le (h : (Chunk.nrow d e base S (.slice A n c) xs).P w) : n ≤ c := (Kd.N_reads' h).2.1
/-- A literal of elements, with what they lead to, is from here on only read. -/
theorem Own.lit_view {cs : List Value} (h : Own w0 w (Chunk.blk g (.cells cs.toArray e (0, 0)) :: cj :: L)) (d : Kd α) (xs : List α) (hr : ∀ w, cj.P w → Reps (Kd.FK d w cj.S) d.sz xs cs) (hm : xs.length ≤ maxLen) : Own w0 w (Chunk.view d (fun k => k = g ∨ cj.S k) (some ⟨g, 0, none⟩) xs.length xs.length xs :: L) := by
  have hB : w.heap[g]? = some (.cells cs.toArray e (0, 0)) := h.get 0 rfl
  have hR := hr w (h.get 1 rfl)
  have HB : Own w0 w (Chunk.all [Chunk.blk g (.cells cs.toArray e (0, 0)), cj] :: L) := Own.bundle (A := [_, _]) h
  have hall : ∀ k, (Chunk.all [Chunk.blk g (.cells cs.toArray e (0, 0)), cj]).S k ↔ k = g ∨ cj.S k := fun k => by
    constructor
    · rintro ⟨c, hc, hk⟩
      simp only [List.mem_cons, List.mem_nil_iff, or_false] at hc
      rcases hc with rfl | rfl
      · exact .inl hk
      · exact .inr hk
    · rintro (hk | hk)
      · exact ⟨_, List.mem_cons_self .., hk⟩
      · exact ⟨cj, by simp, hk⟩
  refine HB.calls (cs := []) 0 rfl (Out.one (Out.refl w _) ⟨?_, Nat.le_refl _, fun ad e1 => by injection e1 with e1; subst e1; exact .inl rfl⟩ fun k hk => ⟨.inl ((hall k).2 hk), (HB.lt 0 rfl ((hall k).2 hk)).2⟩)
  intro W' hW
  have hlt : g < w.heap.size := blk_lt hB
  have hB' : W'.heap[g]? = some (.cells cs.toArray e (0, 0)) := (hW g (.inl rfl) hlt).trans hB
  exact Cg_lit hB' (hR.imp_ (fun x c hk => hk W' (fun k hk2 hl => hW k (.inr hk2) hl))) hm
theorem reps_FK {w : World} {S : Nat → Prop} {cs : List Value} (h : ∀ W', (∀ k, S k → k < w.heap.size → W'.heap[k]? = w.heap[k]?) → Reps (d.K W') d.sz xs cs) : Reps (Kd.FK d w S) d.sz xs cs :=
  ⟨(h w (fun _ _ _ => rfl)).1, fun j p hj => fun W' hW => (h W' hW).2 j p hj⟩
end
section
variable {D : List Deferred} {P : Program} {ops : Array Oper} {Q : Exit → Act → World → Prop} {rest : List Oper} {o : Oper} {N dd : Nat} {a : Act} {F : List (Nat × Value)} {w w0 : World} {L : List Chunk} {α : Type}
/-- append(row, ys...): ys is what one thing shows; it becomes the row's. -/
theorem gw_nappend (d : Kd α) {e base : Nat} {S : Nat → Prop} {A B : Option Addr} {c m cc : Nat} {xs ys : List α} {cj : Chunk} {s x : Operand} {t : TypeId} {z : Value} {bytes : Nat} (HF : FrD D N a F) (HO : Own w0 w (Chunk.nrow d e base S (.slice A xs.length c) xs :: cj :: L)) (hw : Region.wanted o (yielded ops a.tmps) = true) (hd : o.dst = some dd) (hN : dd < N)
    (ho : o.op = .call { callee := .builtin .append, args := #[s, x], argTypes := #[t, t] })
    (ht : P.underlying t = some (.slice e)) (hinfo : (P.info? e).map (fun i => (i.zero, i.size, i.bytes)) = some (some z, d.sz, bytes)) (hz : z.cells.size = d.sz) (hs0 : 0 < d.sz) (hb0 : 0 < bytes)
    (hs : a.eval s = .slice A xs.length c) (hx : a.eval x = .slice B m cc) (hF : ∀ w, cj.P w → Kd.F d w cj.S B m ys) (hbase : base ≤ w.heap.size) (hl : (xs.length + m) * bytes ≤ 140737488355328)
    (k : ∀ A' c' S' a' w1, FrD D N a' ((dd, .slice A' (xs ++ ys).length c') :: F) → Own w0 w1 (Chunk.nrow d e base S' (.slice A' (xs ++ ys).length c') (xs ++ ys) :: L) → wpList P ops Q rest a' w1) : wpList P ops Q (o :: rest) a w := by
  have hR : Kd.N d e w base S (.slice A xs.length c) xs := HO.get 0 rfl
  have hF' := hF w (HO.get 1 rfl)
  refine gw_unguard hw ?_
  refine Kd.N_append_rows d (w0 := w) base rfl s x t e z bytes ho ht hinfo hz hs0 hb0 _ xs ys B m cc (fun k => S k ∨ cj.S k ∨ w.heap.size ≤ k) cj.S hs hx (Kd.N_mono hR (fun k hk => .inl hk)) hF' (fun k hk => ⟨.inr (.inl hk), fun e => HO.apart_at 0 1 (by decide) rfl rfl k (hR.1 k e.symm) hk⟩) (fun k hk => .inr (.inr hk)) (Below.refl _ _) hbase hl ?_
  intro v1 w1 h1 _ hgr _
  obtain ⟨A', c', rfl⟩ := Kd.N_slice h1
  show wpList P ops Q rest (a.put o.dst _) w1
  rw [hd]
  have HB : Own w0 w (Chunk.all [Chunk.nrow d e base S (.slice A xs.length c) xs, cj] :: L) := Own.bundle (A := [_, _]) HO
  have hall : ∀ k, (Chunk.all [Chunk.nrow d e base S (.slice A xs.length c) xs, cj]).S k ↔ S k ∨ cj.S k := fun k => by
    constructor
    · rintro ⟨c, hc, hk⟩
      simp only [List.mem_cons, List.mem_nil_iff, or_false] at hc
      rcases hc with rfl | rfl
      · exact .inl hk
      · exact .inr hk
    · rintro (hk | hk)
      · exact ⟨_, List.mem_cons_self .., hk⟩
      · exact ⟨cj, by simp, hk⟩
  refine k A' c' (fun k => (S k ∨ cj.S k) ∨ w.heap.size ≤ k ∧ k < w1.heap.size) _ w1 (HF.put hN _) (HB.calls (cs := []) 0 rfl ?_)
  refine Out.one ((Out.refl w _).grown hgr (fun k e => .inl ((hall k).2 (.inl (hR.1 k e))))) ?_ ?_
  · exact Kd.N_mono (Kd.N_bound h1) (fun k hk => by
      rcases hk.1 with h | h | h
      · exact .inl (.inl h)
      · exact .inl (.inr h)
      · exact .inr ⟨h, hk.2⟩)
  · intro k hk
    rcases hk with hk | hk
    · exact ⟨.inl ((hall k).2 hk), Nat.lt_of_lt_of_le (HB.lt 0 rfl ((hall k).2 hk)).2 hgr.size⟩
    · exact ⟨.inr hk.1, hk.2⟩
end
end Go.Proofs.Ytkdahjnmldeklaa.PA
