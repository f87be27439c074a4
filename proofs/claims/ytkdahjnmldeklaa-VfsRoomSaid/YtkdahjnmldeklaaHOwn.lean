/- What a call owns, thing by thing: each lies in blocks of its own; a call that is handed one of them gives back others in its place. -/
import Derived.Test.YtkdahjnmldeklaaPAx0
namespace Go.Proofs.Ytkdahjnmldeklaa.PA
open Go.RowKit Go.Proofs.YtkdahjnmldeklaaW.PrintWords Go.Proofs.YtkdahjnmldeklaaW.PrintLast Go.Proofs.YtkdahjnmldeklaaW.PrintMore
set_option linter.unusedVariables false
set_option linter.unusedSimpArgs false

/-- A thing: the blocks it may lie in, and what is said of it. -/
structure Chunk where
  S : Nat → Prop
  P : World → Prop
  move : ∀ {w w' : World}, P w → (∀ k, S k → w'.heap[k]? = w.heap[k]?) → P w'
/-- All things that a call owns, w0 the world at its beginning. -/
structure Own (w0 w : World) (L : List Chunk) : Prop where
  below : Below w0.heap.size w0 w
  holds : ∀ c ∈ L, c.P w
  inside : ∀ c ∈ L, ∀ k, c.S k → w0.heap.size ≤ k ∧ k < w.heap.size
  apart : L.Pairwise (fun c d => ∀ k, c.S k → ¬ d.S k)
/-- What a call leaves that was handed the blocks S. -/
structure Out (w w' : World) (S : Nat → Prop) (L : List Chunk) : Prop where
  os : w'.os = w.os
  tape : w'.tape = w.tape
  output : w'.output = w.output
  size : w.heap.size ≤ w'.heap.size
  block : ∀ k, k < w.heap.size → ¬ S k → w'.heap[k]? = w.heap[k]?
  holds : ∀ c ∈ L, c.P w'
  inside : ∀ c ∈ L, ∀ k, c.S k → (S k ∨ w.heap.size ≤ k) ∧ k < w'.heap.size
  apart : L.Pairwise (fun c d => ∀ k, c.S k → ¬ d.S k)
section
variable {w0 w w' : World} {L cs : List Chunk} {c c' : Chunk}
theorem Own.start (w : World) : Own w w [] := ⟨Below.refl _ _, fun _ h => by simp at h, fun _ h => by simp at h, List.Pairwise.nil⟩
theorem Own.get (h : Own w0 w L) (i : Nat) (hi : L[i]? = some c) : c.P w := h.holds c (List.mem_of_getElem? hi)
theorem Own.lt (h : Own w0 w L) (i : Nat) (hi : L[i]? = some c) {k : Nat} (hk : c.S k) : w0.heap.size ≤ k ∧ k < w.heap.size := h.inside c (List.mem_of_getElem? hi) k hk
theorem pw_mid {R : Chunk → Chunk → Prop} (hs : ∀ a b, R a b → R b a) : ∀ {L : List Chunk}, L.Pairwise R → ∀ (i j : Nat) (a b : Chunk), i ≠ j → L[i]? = some a → L[j]? = some b → R a b := by
  intro L h i j a b hij ha hb
  obtain ⟨hi, rfl⟩ := List.getElem?_eq_some_iff.1 ha
  obtain ⟨hj, rfl⟩ := List.getElem?_eq_some_iff.1 hb
  rcases Nat.lt_or_gt_of_ne hij with hlt | hlt
  · exact List.pairwise_iff_getElem.1 h i j hi hj hlt
  · exact hs _ _ (List.pairwise_iff_getElem.1 h j i hj hi hlt)
theorem ap_symm (a b : Chunk) (h : ∀ k, a.S k → ¬ b.S k) : ∀ k, b.S k → ¬ a.S k := fun k hb ha => h k ha hb
theorem Own.apart_at (h : Own w0 w L) (i j : Nat) (hij : i ≠ j) (hi : L[i]? = some c) (hj : L[j]? = some c') : ∀ k, c.S k → ¬ c'.S k :=
  pw_mid ap_symm h.apart i j c c' hij hi hj
/-- A call that was handed the thing at i: the first of what it leaves stands in its place, the rest ahead of all. -/
theorem Own.calls (h : Own w0 w L) (i : Nat) (hi : L[i]? = some c) (ho : Out w w' c.S (c' :: cs)) : Own w0 w' (cs ++ L.set i c') := by
  have hlt : i < L.length := (List.getElem?_eq_some_iff.1 hi).1
  have old : ∀ (j : Nat) (d : Chunk), j ≠ i → L[j]? = some d → ∀ k, d.S k → w'.heap[k]? = w.heap[k]? := fun j d hj hd k hk =>
    ho.block k (h.lt j hd hk).2 (fun hc => h.apart_at j i hj hd hi k hk hc)
  have mem_set : ∀ d, d ∈ L.set i c' → d = c' ∨ ∃ j, j ≠ i ∧ L[j]? = some d := by
    intro d hd
    obtain ⟨j, hj⟩ := List.mem_iff_getElem?.1 hd
    by_cases e : j = i
    · subst e
      rw [List.getElem?_set_self hlt] at hj
      exact .inl (Option.some.inj hj).symm
    · rw [List.getElem?_set_ne (fun h => e h.symm)] at hj
      exact .inr ⟨j, e, hj⟩
  have ahead : ∀ a, a ∈ c' :: cs → ∀ (j : Nat) (d : Chunk), j ≠ i → L[j]? = some d → ∀ k, a.S k → ¬ d.S k := by
    intro a ha j d hj hd k hk hdk
    have h1 := (h.lt j hd hdk).2
    rcases (ho.inside a ha k hk).1 with h2 | h2
    · exact h.apart_at j i hj hd hi k hdk h2
    · omega
  have hcs := List.pairwise_cons.1 ho.apart
  refine ⟨⟨ho.os.trans h.below.os, ho.tape.trans h.below.tape, ho.output.trans h.below.output, Nat.le_trans h.below.size ho.size, fun k hk => ?_⟩, ?_, ?_, ?_⟩
  · exact (ho.block k (Nat.lt_of_lt_of_le hk h.below.size) (fun hc => by have := (h.lt i hi hc).1; omega)).trans (h.below.block k hk)
  · intro d hd
    rcases List.mem_append.1 hd with hd | hd
    · exact ho.holds d (List.mem_cons_of_mem _ hd)
    · rcases mem_set d hd with rfl | ⟨j, hj, hd⟩
      · exact ho.holds _ (List.mem_cons_self ..)
      · exact d.move (h.get j hd) (old j d hj hd)
  · intro d hd k hk
    have new : ∀ a, a ∈ c' :: cs → a.S k → w0.heap.size ≤ k ∧ k < w'.heap.size := by
      intro a ha hk
      have h1 := ho.inside a ha k hk
      refine ⟨?_, h1.2⟩
      rcases h1.1 with h2 | h2
      · exact (h.lt i hi h2).1
      · exact Nat.le_trans h.below.size h2
    rcases List.mem_append.1 hd with hd | hd
    · exact new d (List.mem_cons_of_mem _ hd) hk
    · rcases mem_set d hd with rfl | ⟨j, hj, hd⟩
      · exact new _ (List.mem_cons_self ..) hk
      · have := h.lt j hd hk
        exact ⟨this.1, Nat.lt_of_lt_of_le this.2 ho.size⟩
  · refine List.pairwise_append.2 ⟨hcs.2, ?_, ?_⟩
    · refine List.pairwise_iff_getElem.2 fun p q hp hq hpq => ?_
      have e1 : (L.set i c')[p]? = some (L.set i c')[p] := List.getElem?_eq_getElem hp
      have e2 : (L.set i c')[q]? = some (L.set i c')[q] := List.getElem?_eq_getElem hq
      by_cases hpi : p = i
      · subst hpi
        rw [List.getElem?_set_self hlt] at e1
        rw [List.getElem?_set_ne (by omega)] at e2
        rw [← Option.some.inj e1]
        exact ahead _ (List.mem_cons_self ..) q _ (by omega) e2
      · rw [List.getElem?_set_ne (fun h => hpi h.symm)] at e1
        by_cases hqi : q = i
        · subst hqi
          rw [List.getElem?_set_self hlt] at e2
          rw [← Option.some.inj e2]
          exact ap_symm _ _ (ahead _ (List.mem_cons_self ..) p _ hpi e1)
        · rw [List.getElem?_set_ne (fun h => hqi h.symm)] at e2
          exact h.apart_at p q (by omega) e1 e2
    · intro a ha b hb
      rcases mem_set b hb with rfl | ⟨j, hj, hb⟩
      · exact ap_symm _ _ (hcs.1 a ha)
      · exact ahead a (List.mem_cons_of_mem _ ha) j b hj hb
/-- A call that writes nothing that was there. -/
theorem Own.fresh (h : Own w0 w L) (ho : Out w w' (fun _ => False) cs) : Own w0 w' (cs ++ L) := by
  refine ⟨⟨ho.os.trans h.below.os, ho.tape.trans h.below.tape, ho.output.trans h.below.output, Nat.le_trans h.below.size ho.size, fun k hk => ?_⟩, ?_, ?_, ?_⟩
  · exact (ho.block k (Nat.lt_of_lt_of_le hk h.below.size) (fun hc => hc)).trans (h.below.block k hk)
  · intro d hd
    rcases List.mem_append.1 hd with hd | hd
    · exact ho.holds d hd
    · exact d.move (h.holds d hd) fun k hk => ho.block k (h.inside d hd k hk).2 (fun hc => hc)
  · intro d hd k hk
    rcases List.mem_append.1 hd with hd | hd
    · have h1 := ho.inside d hd k hk
      exact ⟨Nat.le_trans h.below.size (h1.1.resolve_left (fun hc => hc)), h1.2⟩
    · have h1 := h.inside d hd k hk
      exact ⟨h1.1, Nat.lt_of_lt_of_le h1.2 ho.size⟩
  · refine List.pairwise_append.2 ⟨ho.apart, h.apart, fun a ha b hb k hk hk' => ?_⟩
    have h1 := (ho.inside a ha k hk).1.resolve_left (fun hc => hc)
    have h2 := (h.inside b hb k hk').2
    omega
theorem Own.sub (h : Own w0 w L) (hs : cs.Sublist L) : Own w0 w cs :=
  ⟨h.below, fun c hc => h.holds c (hs.subset hc), fun c hc => h.inside c (hs.subset hc), h.apart.sublist hs⟩
theorem Own.drop (h : Own w0 w L) (i : Nat) : Own w0 w (L.eraseIdx i) := h.sub (List.eraseIdx_sublist L i)
theorem Out.of_below (h : Below w.heap.size w w') (S : Nat → Prop) : Out w w' S [] :=
  ⟨h.os, h.tape, h.output, h.size, fun k hk _ => h.block k hk, fun _ h => by simp at h, fun _ h => by simp at h, List.Pairwise.nil⟩
theorem Own.after (h : Own w0 w L) (hb : Below w.heap.size w w') : Own w0 w' L := h.fresh (cs := []) (Out.of_below hb _)
theorem Own.alloc (h : Own w0 w L) (o : Obj) : Own w0 (w.alloc o) L := h.after (below_alloc (Below.refl _ _) o)
theorem Own.drewN (h : Own w0 w L) (n : Nat) : Own w0 (w.drewN n) L := h.after (pw_below_drewN (Below.refl _ _) n)
theorem Own.drew (h : Own w0 w L) : Own w0 w.drew L := h.after (below_drew (Below.refl _ _))
/-- A block that is known. -/
def Chunk.blk (g : Nat) (o : Obj) : Chunk := ⟨fun k => k = g, fun w => w.heap[g]? = some o, fun h hm => (hm g rfl).trans h⟩
theorem Own.new (h : Own w0 w L) (o : Obj) : Own w0 (w.alloc o) (Chunk.blk w.heap.size o :: L) := by
  refine h.fresh (cs := [Chunk.blk w.heap.size o]) ?_
  have hb := below_alloc (Below.refl w.heap.size w) o
  refine ⟨hb.os, hb.tape, hb.output, hb.size, fun k hk _ => hb.block k hk, ?_, ?_, List.pairwise_singleton _ _⟩
  · intro c hc
    rw [List.mem_singleton.1 hc]
    exact heap_alloc_new w o
  · intro c hc k hk
    rw [List.mem_singleton.1 hc] at hk
    have hk' : k = w.heap.size := hk
    subst hk'
    exact ⟨.inr (Nat.le_refl _), by simp⟩
theorem Own.setBlk {g : Nat} {a : Array Value} {t : TypeId} (h : Own w0 w L) (i : Nat) (hi : L[i]? = some (Chunk.blk g (.cells a t (0, 0)))) (j : Nat) (u : Value) :
    Own w0 (w.setCell ⟨g, j, none⟩ u) (L.set i (Chunk.blk g (.cells (a.setIfInBounds j u) t (0, 0)))) := by
  refine h.calls (cs := []) i hi ?_
  have hg : w.heap[g]? = some (.cells a t (0, 0)) := h.get i hi
  have hl := (h.lt i hi (k := g) rfl).2
  refine ⟨rfl, rfl, rfl, by simp [World.setCell], fun k _ hk => Below.heap_setCell w ⟨g, j, none⟩ u k hk, ?_, ?_, List.pairwise_singleton _ _⟩
  · intro c hc
    rw [List.mem_singleton.1 hc]
    exact blk_set hg j u
  · intro c hc k hk
    rw [List.mem_singleton.1 hc] at hk
    have hk' : k = g := hk
    subst hk'
    exact ⟨.inl rfl, by simpa [World.setCell] using hl⟩
end
section
variable {α : Type}
/-- A row of the call's own, at the head of its block. -/
def Chunk.row (d : Kd α) (e : Nat) (base : Nat) (S : Nat → Prop) (v : Value) (xs : List α) : Chunk := ⟨S, fun w => d.R e w base S v xs, fun h hm => Kd.R_move h hm⟩
/-- A row of the call's own that may begin inside its block. -/
def Chunk.qrow (d : Kd α) (e : Nat) (base : Nat) (S : Nat → Prop) (v : Value) (xs : List α) : Chunk := ⟨S, fun w => d.Q e w base S v xs, fun h hm => Kd.Q_move h hm⟩
variable {d : Kd α} {e base : Nat} {w0 w w' : World} {ok : Nat → Prop} {v : Value} {xs : List α} {L : List Chunk}
/-- A callee's result in new memory. -/
theorem Out.row (h : d.R e w' w.heap.size ok v xs) (hb : Below w.heap.size w w') : Out w w' (fun _ => False) [Chunk.row d e w.heap.size (fun k => w.heap.size ≤ k ∧ k < w'.heap.size) v xs] := by
  refine ⟨hb.os, hb.tape, hb.output, hb.size, fun k hk _ => hb.block k hk, ?_, ?_, List.pairwise_singleton _ _⟩
  · intro c hc
    rw [List.mem_singleton.1 hc]
    exact Kd.R_mono (Kd.R_bound h) fun k hk => ⟨hk.2.1, hk.2.2.1⟩
  · intro c hc k hk
    rw [List.mem_singleton.1 hc] at hk
    exact ⟨.inr hk.1, hk.2⟩
end
section
variable {w W W2 : World} {S S2 : Nat → Prop} {L : List Chunk}
theorem Out.refl (w : World) (S : Nat → Prop) : Out w w S [] := Out.of_below (Below.refl _ _) S
theorem Out.bare (h : Out w W S L) : Out w W S [] := ⟨h.os, h.tape, h.output, h.size, h.block, fun _ h => by simp at h, fun _ h => by simp at h, List.Pairwise.nil⟩
theorem Out.then_ (h : Out w W S []) (k : Out W W2 S2 L) (hs : ∀ q, S2 q → S q ∨ w.heap.size ≤ q) : Out w W2 S [] :=
  ⟨k.os.trans h.os, k.tape.trans h.tape, k.output.trans h.output, Nat.le_trans h.size k.size, fun q hq hn => (k.block q (Nat.lt_of_lt_of_le hq h.size) (fun h2 => (hs q h2).elim hn (fun h3 => by omega))).trans (h.block q hq hn),
    fun _ h => by simp at h, fun _ h => by simp at h, List.Pairwise.nil⟩
theorem Out.setCell (h : Out w W S []) {p : Addr} (hp : S p.block ∨ w.heap.size ≤ p.block) (u : Value) : Out w (W.setCell p u) S [] :=
  h.then_ (S2 := fun k => k = p.block) (L := []) ⟨rfl, rfl, rfl, by simp [World.setCell], fun q _ hn => Below.heap_setCell W p u q hn, fun _ h => by simp at h, fun _ h => by simp at h, List.Pairwise.nil⟩ (fun q hq => by rw [hq]; exact hp)
theorem Out.grown (h : Out w W S []) {row : Option Nat} (hg : W.grownBy W2 row) (hr : ∀ k, row = some k → S k ∨ w.heap.size ≤ k) : Out w W2 S [] :=
  h.then_ (S2 := fun k => row = some k) (L := []) ⟨hg.os, hg.tape, hg.output, hg.size, fun q hq hn => hg.block q hq (fun e => hn e.symm), fun _ h => by simp at h, fun _ h => by simp at h, List.Pairwise.nil⟩ hr
theorem Out.below_ (h : Out w W S []) (hb : Below W.heap.size W W2) : Out w W2 S [] := h.then_ (Out.of_below hb (fun _ => False)) (fun _ hk => hk.elim)
theorem Out.drewN (h : Out w W S []) (n : Nat) : Out w (W.drewN n) S [] := h.below_ (pw_below_drewN (Below.refl _ _) n)
theorem Out.drew (h : Out w W S []) : Out w W.drew S [] := h.below_ (below_drew (Below.refl _ _))
theorem Out.alloc (h : Out w W S []) (o : Obj) : Out w (W.alloc o) S [] := h.below_ (below_alloc (Below.refl _ _) o)
theorem Out.blk {g : Nat} {o : Obj} (h : Out w W S L) (hb : w.heap[g]? = some o) (hg : ¬ S g) : W.heap[g]? = some o := (h.block g (blk_lt hb) hg).trans hb
/-- One thing in the place of what was handed. -/
theorem Out.one {c : Chunk} (h : Out w W S []) (hP : c.P W) (hin : ∀ k, c.S k → (S k ∨ w.heap.size ≤ k) ∧ k < W.heap.size) : Out w W S [c] :=
  ⟨h.os, h.tape, h.output, h.size, h.block, fun d hd => by rw [List.mem_singleton.1 hd]; exact hP, fun d hd => by rw [List.mem_singleton.1 hd]; exact hin, List.pairwise_singleton _ _⟩
/-- .. and one in new memory. -/
theorem Out.two {c d : Chunk} (h : Out w W S []) (hP : c.P W) (hin : ∀ k, c.S k → (S k ∨ w.heap.size ≤ k) ∧ k < W.heap.size) (hQ : d.P W) (hin2 : ∀ k, d.S k → (S k ∨ w.heap.size ≤ k) ∧ k < W.heap.size) (ha : ∀ k, c.S k → ¬ d.S k) : Out w W S [c, d] :=
  ⟨h.os, h.tape, h.output, h.size, h.block, fun q hq => by
    rcases List.mem_cons.1 hq with rfl | hq
    · exact hP
    · rw [List.mem_singleton.1 hq]; exact hQ, fun q hq => by
    rcases List.mem_cons.1 hq with rfl | hq
    · exact hin
    · rw [List.mem_singleton.1 hq]; exact hin2, List.pairwise_cons.2 ⟨fun q hq => by rw [List.mem_singleton.1 hq]; exact ha, List.pairwise_singleton _ _⟩⟩
/-- A row of whole numbers is read as before where its block is as before. -/
theorem C_int_at {k : IntKind} {A : Option Addr} {n : Nat} {xs : List Int} (h : (Kd.int k).C w A n xs) (hm : 0 < n → ∀ ad, A = some ad → ad.block < w.heap.size → W.heap[ad.block]? = w.heap[ad.block]?) : (Kd.int k).C W A n xs := by
  have hr := (Kd.reads_of_C (d := (0 : Int)) (h1 := fun _ => rfl) h : ReadsOf (Value.int k) (0 : Int) w A n xs)
  refine Kd.C_of_reads (d := (0 : Int)) (h1 := fun _ => rfl) ⟨hr.1, hr.2.1, fun hn => ?_⟩
  obtain ⟨ad, e, hc⟩ := hr.2.2 hn
  refine ⟨ad, e, fun j hj => ?_⟩
  have h0 := hc j hj
  have hb : (ad.add j).block = ad.block := add_block ad j
  have hlt := World.block_lt_of_cell? w _ h0
  rw [hb] at hlt
  have he := hm hn ad e hlt
  rw [← h0]
  exact World.cell?_of_block (by rw [hb]; exact he)
end
end Go.Proofs.Ytkdahjnmldeklaa.PA
