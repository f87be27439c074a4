/- Things that belong together; calls that are handed what their caller owns; appends of one made element. -/
import Derived.Test.YtkdahjnmldeklaaHDraw
namespace Go.Proofs.Ytkdahjnmldeklaa.PA
open Go.RowKit Go.Proofs.YtkdahjnmldeklaaW.PrintWords Go.Proofs.YtkdahjnmldeklaaW.PrintLast Go.Proofs.YtkdahjnmldeklaaW.PrintMore
set_option linter.unusedVariables false
set_option linter.unusedSimpArgs false
/-- Some things as one. -/
def Chunk.all (A : List Chunk) : Chunk := ⟨fun k => ∃ c ∈ A, c.S k, fun w => (∀ c ∈ A, c.P w) ∧ A.Pairwise (fun (c d : Chunk) => ∀ k : Nat, c.S k → ¬ d.S k), fun h hm => ⟨fun c hc => c.move (h.1 c hc) fun k hk => hm k ⟨c, hc, hk⟩, h.2⟩⟩
section
variable {w0 w : World} {A L : List Chunk} {c d : Chunk}
theorem Own.bundle (h : Own w0 w (A ++ L)) : Own w0 w (Chunk.all A :: L) := by
  obtain ⟨ha, hl, hal⟩ := List.pairwise_append.1 h.apart
  refine ⟨h.below, fun c hc => ?_, fun c hc k hk => ?_, List.pairwise_cons.2 ⟨fun b hb k hk => ?_, hl⟩⟩
  · rcases List.mem_cons.1 hc with rfl | hc
    · exact ⟨fun b hb => h.holds b (List.mem_append_left _ hb), ha⟩
    · exact h.holds c (List.mem_append_right _ hc)
  · rcases List.mem_cons.1 hc with rfl | hc
    · obtain ⟨b, hb, hk⟩ := hk
      exact h.inside b (List.mem_append_left _ hb) k hk
    · exact h.inside c (List.mem_append_right _ hc) k hk
  · obtain ⟨a, ha, hk⟩ := hk
    exact hal a ha b hb k hk
theorem Own.unbundle (h : Own w0 w (Chunk.all A :: L)) : Own w0 w (A ++ L) := by
  obtain ⟨hal, hl⟩ := List.pairwise_cons.1 h.apart
  have hA : (Chunk.all A).P w := h.holds _ (List.mem_cons_self ..)
  refine ⟨h.below, fun c hc => ?_, fun c hc k hk => ?_, List.pairwise_append.2 ⟨hA.2, hl, fun a ha b hb k hk => hal b hb k ⟨a, ha, hk⟩⟩⟩
  · rcases List.mem_append.1 hc with hc | hc
    · exact hA.1 c hc
    · exact h.holds c (List.mem_cons_of_mem _ hc)
  · rcases List.mem_append.1 hc with hc | hc
    · exact h.inside _ (List.mem_cons_self ..) k ⟨c, hc, hk⟩
    · exact h.inside c (List.mem_cons_of_mem _ hc) k hk
/-- What is owned stays when a thing that is none of anyone's is told of. -/
def Chunk.void : Chunk := ⟨fun _ => False, fun _ => True, fun _ _ => trivial⟩
theorem Own.void (h : Own w0 w L) : Own w0 w (Chunk.void :: L) := h.fresh (cs := [_]) (Out.one (Out.refl w _) (c := Chunk.void) trivial (fun _ hk => hk.elim))
theorem argblk {g : Nat} {o : Obj} (h : Own w0 w L) (hb : w0.heap[g]? = some o) : w.heap[g]? = some o := (h.below.block g (blk_lt hb)).trans hb
theorem all_P (h : (Chunk.all A).P w) (i : Nat) {c : Chunk} (hi : A[i]? = some c) : c.P w := h.1 c (List.mem_of_getElem? hi)
end
section
variable {D : List Deferred} {P : Program} {fn : Func} {R : Ending → World → Prop} {w : World} {N : Nat}
theorem gw_startO {f : FuncId} {c : Code} {vs : List Value} (hf : P.funcs[f]? = some fn) (hb : fn.body = some c) (hn : fn.ntmps = N) (hl : vs.length ≤ N)
    (h : ∀ a, Fr N a (ixs 0 vs) → c.wp P (bodyPost P fn R) a w) : Calls P f vs.toArray w R := by
  refine calls_of_wp hf hb ?_
  rw [hn]
  exact h _ (Fr.start vs N hl)
end
section
variable {α β : Type} {d : Kd α} {d' : Kd β} {S : Nat → Prop} {A A' : Option Addr} {n n' c : Nat} {xs : List α} {ys : List β} {w0 w w1 : World} {L : List Chunk}
/-- A row that is only read, held to what it was at w1. -/
def Chunk.viewAt (w1 : World) (d : Kd α) (S : Nat → Prop) (A : Option Addr) (n c : Nat) (xs : List α) : Chunk := ⟨S, fun w => d.F w1 S A n xs ∧ (n ≤ c ∧ ∀ ad, A = some ad → S ad.block) ∧ ∀ k, S k → w.heap[k]? = w1.heap[k]?, fun h hm => ⟨h.1, h.2.1, fun k hk => (hm k hk).trans (h.2.2 k hk)⟩⟩
theorem Own.pin (h : Own w0 w L) (i : Nat) (hi : L[i]? = some (Chunk.view d S A n c xs)) : Own w0 w (L.set i (Chunk.viewAt w d S A n c xs)) :=
  h.calls (cs := []) i hi (Out.one (Out.refl w _) (c := Chunk.viewAt w d S A n c xs) ⟨(h.get i hi).1, (h.get i hi).2, fun _ _ => rfl⟩ fun k hk => ⟨.inl hk, (h.lt i hi hk).2⟩)
theorem Own.unpin (h : Own w0 w L) (i : Nat) (hi : L[i]? = some (Chunk.viewAt w1 d S A n c xs)) : Own w0 w (L.set i (Chunk.view d S A n c xs)) :=
  h.mapc i hi (fun _ hk => hk) (fun _ hp => ⟨Kd.F_step hp.1 (fun k hk _ => hp.2.2 k hk), hp.2.1⟩)
theorem viewAt_C (h : (Chunk.viewAt w1 d S A n c xs).P w) : d.C w A n xs := h.1 w (fun k hk _ => h.2.2 k hk)
theorem viewAt_le (h : (Chunk.viewAt w1 d S A n c xs).P w) : n ≤ c := h.2.1.1
theorem viewAt_in (h : (Chunk.viewAt w1 d S A n c xs).P w) {ad : Addr} (e1 : A = some ad) : S ad.block := h.2.1.2 ad e1
theorem viewAt_F (h : (Chunk.viewAt w1 d S A n c xs).P w) : d.F w1 S A n xs := h.1
theorem pinC (h : (Chunk.viewAt w1 d S A n c xs).P w) (hF : d'.F w1 S A' n' ys) : d'.C w A' n' ys := hF w (fun k hk _ => h.2.2 k hk)
theorem cell_same {p : Addr} (h : w.heap[p.block]? = w1.heap[p.block]?) : w.cell? p = w1.cell? p := by
  unfold World.cell?
  rw [h]
theorem pin_cells {ad : Addr} {m : Nat} {cs : List Value} (h : (Chunk.viewAt w1 d S A n c xs).P w) (hA : A = some ad) (hc : ∀ j u, cs[j]? = some u → w1.cell? (ad.add (m + j)) = some u) : ∀ j u, cs[j]? = some u → w.cell? ((ad.add m).add j) = some u := fun j u hj => by
  rw [add_add, cell_same, hc j u hj]
  rw [add_block]
  exact h.2.2 _ (h.2.1.2 ad hA)
theorem slice_openF {e : Nat} {ok : Nat → Prop} {cs : List Value} (h : Kd.FK (Kd.slice e d) w ok xs cs) : ∃ A c, cs = [.slice A xs.length c] ∧ xs.length ≤ c ∧ Kd.F d w ok A xs.length xs := by
  obtain ⟨A, c, rfl, hl, _⟩ := Kd.FK_now h
  refine ⟨A, c, rfl, hl, fun W' hW => ?_⟩
  obtain ⟨A2, c2, he, _, hC⟩ := h W' hW
  injection (Option.some.inj (show some (Value.slice A xs.length c) = some (Value.slice A2 xs.length c2) from congrArg (fun l => l[0]?) he)) with h1 _ _
  rw [h1]
  exact hC
theorem int_openF {k : IntKind} {ok : Nat → Prop} {m : Int} {cs : List Value} (h : Kd.FK (Kd.int k) w ok m cs) : cs = [.int k m] := Kd.FK_now h
end
section
variable {D : List Deferred} {P : Program} {ops : Array Oper} {Q : Exit → Act → World → Prop} {rest : List Oper} {o : Oper} {N dd : Nat} {a : Act} {F : List (Nat × Value)} {w w0 : World} {L : List Chunk} {α : Type}
theorem gw_news {O : Obj} {n : Nat} (HF : FrD D N a F) (HO : Own w0 w L) (hw : Region.wanted o (yielded ops a.tmps) = true) (hd : o.dst = some dd) (hN : dd < N)
    (hrun : Runs P o a w (.slice (some ⟨w.heap.size, 0, none⟩) n n) (w.alloc O)) (k : ∀ g a' w1, FrD D N a' ((dd, .slice (some ⟨g, 0, none⟩) n n) :: F) → Own w0 w1 (Chunk.blk g O :: L) → wpList P ops Q rest a' w1) : wpList P ops Q (o :: rest) a w :=
  gw_ev HF hw hd hN hrun fun a' HF' => k _ a' _ HF' (HO.new O)
/-- append(row, x): x made of what one thing is; it becomes the row's. -/
theorem gw_append1 (d : Kd α) {e base : Nat} {S : Nat → Prop} {A : Option Addr} {c g : Nat} {xs : List α} {p : α} {cs : List Value} {cj : Chunk} {s x : Operand} {t : TypeId} {z : Value} {bytes : Nat} (b : Nat) (HF : FrD D N a F) (HO : Own w0 w (Chunk.row d e base S (.slice A xs.length c) xs :: cj :: L)) (hw : Region.wanted o (yielded ops a.tmps) = true) (hd : o.dst = some dd) (hN : dd < N)
    (ho : o.op = .call { callee := .builtin .append, args := #[s, x], argTypes := #[t, t] })
    (ht : P.underlying t = some (.slice e)) (hinfo : (P.info? e).map (fun i => (i.zero, i.size, i.bytes)) = some (some z, d.sz, bytes)) (hz : z.cells.size = d.sz) (hs0 : 0 < d.sz) (hb0 : 0 < bytes)
    (hg : L[b]? = some (Chunk.blk g (.cells cs.toArray e (0, 0)))) (hs : a.eval s = .slice A xs.length c) (hx : a.eval x = .slice (some ⟨g, 0, none⟩) 1 1)
    (hM : ∀ w, cj.P w → d.M w base cj.S p cs) (hbase : base ≤ w.heap.size) (hl : (xs.length + 1) * bytes ≤ 140737488355328)
    (k : ∀ A' c' S' a' w1, FrD D N a' ((dd, .slice A' (xs ++ [p]).length c') :: F) → Own w0 w1 (Chunk.row d e base S' (.slice A' (xs ++ [p]).length c') (xs ++ [p]) :: L) → wpList P ops Q rest a' w1) : wpList P ops Q (o :: rest) a w := by
  have hR : d.R e w base S (.slice A xs.length c) xs := HO.get 0 rfl
  have hB : w.heap[g]? = some (.cells cs.toArray e (0, 0)) := HO.get (b + 2) (by simpa using hg)
  have hm : d.M w base cj.S p cs := hM w (HO.get 1 rfl)
  have hlen : cs.length = d.sz := d.K_len (d.K_of_M hm)
  have HR : ReadsRow (d.M w base cj.S) d.sz w (some ⟨g, 0, none⟩) 1 [p] := by
    refine ⟨rfl, by simp [maxLen], fun _ => ⟨_, rfl, fun j q hj => ?_⟩⟩
    cases j with
    | zero =>
      obtain rfl : p = q := by simpa using hj
      refine ⟨cs, hlen, hm, fun i u hi => ?_⟩
      have : cs.toArray[0 * d.sz + i]? = some u := by simpa using hi
      rw [add_plain]
      exact blk_at hB this
    | succ j => simp at hj
  refine gw_unguard hw ?_
  refine Kd.R_append_rows d (Rr := d.M w base cj.S) (w0 := w) base rfl s x t e z bytes ho ht hinfo hz hs0 hb0 _ xs [p] (some ⟨g, 0, none⟩) 1 1 (fun k => S k ∨ cj.S k ∨ w.heap.size ≤ k) cj.S hs hx (Kd.R_mono hR (fun k hk => .inl hk)) HR (fun _ _ h => h) (fun k hk => ⟨.inr (.inl hk), fun e => HO.apart_at 0 1 (by decide) rfl rfl k (hR.1 k e.symm) hk⟩) (fun k hk => .inr (.inr hk)) (Below.refl _ _) hbase hl ?_
  intro v1 w1 h1 _ hgr _
  obtain ⟨A', c', rfl⟩ := Kd.R_slice h1
  show wpList P ops Q rest (a.put o.dst _) w1
  rw [hd]
  have HB : Own w0 w (Chunk.all [Chunk.row d e base S (.slice A xs.length c) xs, cj] :: L) := Own.bundle (A := [_, _]) HO
  have hall : ∀ k, (Chunk.all [Chunk.row d e base S (.slice A xs.length c) xs, cj]).S k ↔ S k ∨ cj.S k := fun k => by
    constructor
    · rintro ⟨c, hc, hk⟩
      simp only [List.mem_cons, List.mem_nil_iff, or_false] at hc
      rcases hc with rfl | rfl
      · exact .inl hk
      · exact .inr hk
    · rintro (hk | hk)
      · exact ⟨_, List.mem_cons_self .., hk⟩
      · exact ⟨cj, by simp, hk⟩
  refine k A' c' (fun k => (S k ∨ cj.S k) ∨ w.heap.size ≤ k ∧ k < w1.heap.size) _ w1 (HF.put hN _) (HB.calls (cs := []) 0 rfl ?_)
  refine Out.one ((Out.refl w _).grown hgr (fun k e => .inl ((hall k).2 (.inl (hR.1 k e))))) ?_ ?_
  · exact Kd.R_mono (Kd.R_bound h1) (fun k hk => by
      rcases hk.1 with h | h | h
      · exact .inl (.inl h)
      · exact .inl (.inr h)
      · exact .inr ⟨h, hk.2.2.1⟩)
  · intro k hk
    rcases hk with hk | hk
    · exact ⟨.inl ((hall k).2 hk), Nat.lt_of_lt_of_le (HB.lt 0 rfl ((hall k).2 hk)).2 hgr.size⟩
    · exact ⟨.inr hk.1, hk.2⟩
end
section
variable {α : Type} {d : Kd α} {w w0 : World} {L : List Chunk}
theorem Own.row_nil (h : Own w0 w L) (d : Kd α) (e base : Nat) : Own w0 w (Chunk.row d e base (fun _ => False) (.slice none 0 0) [] :: L) :=
  h.fresh (cs := [_]) (Out.one (Out.refl w _) (c := Chunk.row d e base (fun _ => False) (.slice none 0 0) []) (Kd.R_nil _ _ _ _ _) (fun _ hk => hk.elim))
theorem reps_none {R : α → List Value → Prop} {sz : Nat} : Reps R sz [] [] := ⟨by simp, fun j p h => by simp at h⟩
theorem reps_more {R : α → List Value → Prop} {sz : Nat} {x : α} {xs : List α} {c cs : List Value} (h : R x c) (hl : c.length = sz) (hs : Reps R sz xs cs) : Reps R sz (x :: xs) (c ++ cs) := by
  refine ⟨?_, fun j p hj => ?_⟩
  · rw [List.length_append, hl, hs.1, List.length_cons, Nat.add_mul, Nat.one_mul, Nat.add_comm]
  · cases j with
    | zero =>
      obtain rfl : x = p := by simpa using hj
      rw [Nat.zero_mul, List.drop_zero, List.take_append_of_le_length (by omega), List.take_of_length_le (by omega)]
      exact h
    | succ j =>
      have := hs.2 j p (by simpa using hj)
      have e : (j + 1) * sz = sz + j * sz := by rw [Nat.add_mul, Nat.one_mul, Nat.add_comm]
      rw [e, List.drop_append, List.drop_of_length_le (by omega), List.nil_append, show sz + j * sz - c.length = j * sz by omega]
      exact this
theorem Cg_lit {g e : Nat} {xs : List α} {cs : List Value} (hb : w.heap[g]? = some (.cells cs.toArray e (0, 0))) (hr : Reps (d.K w) d.sz xs cs) (hm : xs.length ≤ maxLen) : d.C w (some ⟨g, 0, none⟩) xs.length xs := by
  refine ⟨rfl, hm, fun _ => ⟨_, rfl, fun j p hj => ⟨_, ?_, hr.2 j p hj, fun i u hi => ?_⟩⟩⟩
  · exact d.K_len (hr.2 j p hj)
  · rw [add_plain]
    refine blk_at hb ?_
    rw [List.getElem?_take] at hi
    split at hi
    · rw [List.getElem?_drop] at hi
      simpa using hi
    · cases hi
end
section
variable {P : Program} {o : Oper} {a : Act} {w : World} {x y : Operand} {t yt e : TypeId}
theorem op_indexP {g off n sz q : Nat} {k : IntKind} {i : Int} (ht : P.underlying t = some (.array n e)) (hS : ∀ w, (sizeOf e).run P w = .ok sz w) (ho : o.op = .indexAddr t x y) (hx : a.eval x = .pointer (some ⟨g, off, none⟩)) (hy : a.eval y = .int k i) (h : 0 ≤ i ∧ i < n) (hq : off + i.toNat * sz = q) :
    Runs P o a w (.pointer (some ⟨g, q, none⟩)) w := by
  subst hq
  unfold Runs execOp
  simp only [ho, hx, hy]
  by_cases hz : i.toNat * sz = 0
  · simp [go_sem, Instr.indexAt, asIntOf, run_underlying ht, hS, h.1, h.2, Addr.add, hz]
  · simp [go_sem, Instr.indexAt, asIntOf, run_underlying ht, hS, h.1, h.2, Addr.add, hz]
theorem op_bin_run {b : BinOp} {u v r : Value} (ho : o.op = .binOp b t x y yt) (hx : a.eval x = u) (hy : a.eval y = v) (hr : (do eqGuard b t x y u v; binOp b t u v : Sem Value).run P w = .ok r w) : Runs P o a w r w := by
  unfold Runs execOp
  simp only [ho, hx, hy]
  rw [Sem.run_bind, hr]
  rfl
end
end Go.Proofs.Ytkdahjnmldeklaa.PA
