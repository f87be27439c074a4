/- Several texts of this seat in one (HOwn HGw HGw2 HDraw HObj HJoin HLazy HPan HNrow): put together by a program of this session. -/
import Derived.Test.YtjndcgochnaodaaPAx0
import Derived.WalkLawsBesides
import Derived.WalkSpells
import Derived.Deep.Quiet
import Derived.Lib.SlBytesConst
import Derived.OrdersHeld
import Derived.Deep.RegionHeld3
import Derived.Recover
namespace Go.Proofs.Ytjndcgochnaodaa.PA
open Go.RowKit Go.Proofs.YtjndcgochnaodaaW.PrintWords Go.Proofs.YtjndcgochnaodaaW.PrintLast Go.Proofs.YtjndcgochnaodaaW.PrintMore
set_option linter.unusedVariables false
set_option linter.unusedSimpArgs false

/-- A thing: the blocks it may lie in, and what is said of it. -/
structure Chunk where
  S : Nat → Prop
  P : World → Prop
  move : ∀ {w w' : World}, P w → (∀ k, S k → w'.heap[k]? = w.heap[k]?) → P w'
/-- All things that a call owns, w0 the world at its beginning. -/
structure Own (w0 w : World) (L : List Chunk) : Prop where
  below : Below w0.heap.size w0 w
  holds : ∀ c ∈ L, c.P w
  inside : ∀ c ∈ L, ∀ k, c.S k → w0.heap.size ≤ k ∧ k < w.heap.size
  apart : L.Pairwise (fun c d => ∀ k, c.S k → ¬ d.S k)
/-- What a call leaves that was handed the blocks S. -/
structure Out (w w' : World) (S : Nat → Prop) (L : List Chunk) : Prop where
  os : w'.os = w.os
  tape : w'.tape = w.tape
  output : w'.output = w.output
  size : w.heap.size ≤ w'.heap.size
  block : ∀ k, k < w.heap.size → ¬ S k → w'.heap[k]? = w.heap[k]?
  holds : ∀ c ∈ L, c.P w'
  inside : ∀ c ∈ L, ∀ k, c.S k → (S k ∨ w.heap.size ≤ k) ∧ k < w'.heap.size
  apart : L.Pairwise (fun c d => ∀ k, c.S k → ¬ d.S k)
section
variable {w0 w w' : World} {L cs : List Chunk} {c c' : Chunk}
theorem Own.start (w : World) : Own w w [] := ⟨Below.refl _ _, fun _ h => by simp at h, fun _ h => by simp at h, List.Pairwise.nil⟩
theorem Own.get (h : Own w0 w L) (i : Nat) (hi : L[i]? = some c) : c.P w := h.holds c (List.mem_of_getElem? hi)
theorem Own.lt (h : Own w0 w L) (i : Nat) (hi : L[i]? = some c) {k : Nat} (hk : c.S k) : w0.heap.size ≤ k ∧ k < w.heap.size := h.inside c (List.mem_of_getElem? hi) k hk
theorem pw_mid {R : Chunk → Chunk → Prop} (hs : ∀ a b, R a b → R b a) : ∀ {L : List Chunk}, L.Pairwise R → ∀ (i j : Nat) (a b : Chunk), i ≠ j → L[i]? = some a → L[j]? = some b → R a b := by
  intro L h i j a b hij ha hb
  obtain ⟨hi, rfl⟩ := List.getElem?_eq_some_iff.1 ha
  obtain ⟨hj, rfl⟩ := List.getElem?_eq_some_iff.1 hb
  rcases Nat.lt_or_gt_of_ne hij with hlt | hlt
  · exact List.pairwise_iff_getElem.1 h i j hi hj hlt
  · exact hs _ _ (List.pairwise_iff_getElem.1 h j i hj hi hlt)
theorem ap_symm (a b : Chunk) (h : ∀ k, a.S k → ¬ b.S k) : ∀ k, b.S k → ¬ a.S k := fun k hb ha => h k ha hb
theorem Own.apart_at (h : Own w0 w L) (i j : Nat) (hij : i ≠ j) (hi : L[i]? = some c) (hj : L[j]? = some c') : ∀ k, c.S k → ¬ c'.S k :=
  pw_mid ap_symm h.apart i j c c' hij hi hj
/-- A call that was handed the thing at i: the first of what it leaves stands in its place, the rest ahead of all. -/
theorem Own.calls (h : Own w0 w L) (i : Nat) (hi : L[i]? = some c) (ho : Out w w' c.S (c' :: cs)) : Own w0 w' (cs ++ L.set i c') := by
  have hlt : i < L.length := (List.getElem?_eq_some_iff.1 hi).1
  have old : ∀ (j : Nat) (d : Chunk), j ≠ i → L[j]? = some d → ∀ k, d.S k → w'.heap[k]? = w.heap[k]? := fun j d hj hd k hk =>
    ho.block k (h.lt j hd hk).2 (fun hc => h.apart_at j i hj hd hi k hk hc)
  have mem_set : ∀ d, d ∈ L.set i c' → d = c' ∨ ∃ j, j ≠ i ∧ L[j]? = some d := by
    intro d hd
    obtain ⟨j, hj⟩ := List.mem_iff_getElem?.1 hd
    by_cases e : j = i
    · subst e
      rw [List.getElem?_set_self hlt] at hj
      exact .inl (Option.some.inj hj).symm
    · rw [List.getElem?_set_ne (fun h => e h.symm)] at hj
      exact .inr ⟨j, e, hj⟩
  have ahead : ∀ a, a ∈ c' :: cs → ∀ (j : Nat) (d : Chunk), j ≠ i → L[j]? = some d → ∀ k, a.S k → ¬ d.S k := by
    intro a ha j d hj hd k hk hdk
    have h1 := (h.lt j hd hdk).2
    rcases (ho.inside a ha k hk).1 with h2 | h2
    · exact h.apart_at j i hj hd hi k hdk h2
    · omega
  have hcs := List.pairwise_cons.1 ho.apart
  refine ⟨⟨ho.os.trans h.below.os, ho.tape.trans h.below.tape, ho.output.trans h.below.output, Nat.le_trans h.below.size ho.size, fun k hk => ?_⟩, ?_, ?_, ?_⟩
  · exact (ho.block k (Nat.lt_of_lt_of_le hk h.below.size) (fun hc => by have := (h.lt i hi hc).1; omega)).trans (h.below.block k hk)
  · intro d hd
    rcases List.mem_append.1 hd with hd | hd
    · exact ho.holds d (List.mem_cons_of_mem _ hd)
    · rcases mem_set d hd with rfl | ⟨j, hj, hd⟩
      · exact ho.holds _ (List.mem_cons_self ..)
      · exact d.move (h.get j hd) (old j d hj hd)
  · intro d hd k hk
    have new : ∀ a, a ∈ c' :: cs → a.S k → w0.heap.size ≤ k ∧ k < w'.heap.size := by
      intro a ha hk
      have h1 := ho.inside a ha k hk
      refine ⟨?_, h1.2⟩
      rcases h1.1 with h2 | h2
      · exact (h.lt i hi h2).1
      · exact Nat.le_trans h.below.size h2
    rcases List.mem_append.1 hd with hd | hd
    · exact new d (List.mem_cons_of_mem _ hd) hk
    · rcases mem_set d hd with rfl | ⟨j, hj, hd⟩
      · exact new _ (List.mem_cons_self ..) hk
      · have := h.lt j hd hk
        exact ⟨this.1, Nat.lt_of_lt_of_le this.2 ho.size⟩
  · refine List.pairwise_append.2 ⟨hcs.2, ?_, ?_⟩
    · refine List.pairwise_iff_getElem.2 fun p q hp hq hpq => ?_
      have e1 : (L.set i c')[p]? = some (L.set i c')[p] := List.getElem?_eq_getElem hp
      have e2 : (L.set i c')[q]? = some (L.set i c')[q] := List.getElem?_eq_getElem hq
      by_cases hpi : p = i
      · subst hpi
        rw [List.getElem?_set_self hlt] at e1
        rw [List.getElem?_set_ne (by omega)] at e2
        rw [← Option.some.inj e1]
        exact ahead _ (List.mem_cons_self ..) q _ (by omega) e2
      · rw [List.getElem?_set_ne (fun h => hpi h.symm)] at e1
        by_cases hqi : q = i
        · subst hqi
          rw [List.getElem?_set_self hlt] at e2
          rw [← Option.some.inj e2]
          exact ap_symm _ _ (ahead _ (List.mem_cons_self ..) p _ hpi e1)
        · rw [List.getElem?_set_ne (fun h => hqi h.symm)] at e2
          exact h.apart_at p q (by omega) e1 e2
    · intro a ha b hb
      rcases mem_set b hb with rfl | ⟨j, hj, hb⟩
      · exact ap_symm _ _ (hcs.1 a ha)
      · exact ahead a (List.mem_cons_of_mem _ ha) j b hj hb
/-- A call that writes nothing that was there. -/
theorem Own.fresh (h : Own w0 w L) (ho : Out w w' (fun _ => False) cs) : Own w0 w' (cs ++ L) := by
  refine ⟨⟨ho.os.trans h.below.os, ho.tape.trans h.below.tape, ho.output.trans h.below.output, Nat.le_trans h.below.size ho.size, fun k hk => ?_⟩, ?_, ?_, ?_⟩
  · exact (ho.block k (Nat.lt_of_lt_of_le hk h.below.size) (fun hc => hc)).trans (h.below.block k hk)
  · intro d hd
    rcases List.mem_append.1 hd with hd | hd
    · exact ho.holds d hd
    · exact d.move (h.holds d hd) fun k hk => ho.block k (h.inside d hd k hk).2 (fun hc => hc)
  · intro d hd k hk
    rcases List.mem_append.1 hd with hd | hd
    · have h1 := ho.inside d hd k hk
      exact ⟨Nat.le_trans h.below.size (h1.1.resolve_left (fun hc => hc)), h1.2⟩
    · have h1 := h.inside d hd k hk
      exact ⟨h1.1, Nat.lt_of_lt_of_le h1.2 ho.size⟩
  · refine List.pairwise_append.2 ⟨ho.apart, h.apart, fun a ha b hb k hk hk' => ?_⟩
    have h1 := (ho.inside a ha k hk).1.resolve_left (fun hc => hc)
    have h2 := (h.inside b hb k hk').2
    omega
theorem Own.sub (h : Own w0 w L) (hs : cs.Sublist L) : Own w0 w cs :=
  ⟨h.below, fun c hc => h.holds c (hs.subset hc), fun c hc => h.inside c (hs.subset hc), h.apart.sublist hs⟩
theorem Own.drop (h : Own w0 w L) (i : Nat) : Own w0 w (L.eraseIdx i) := h.sub (List.eraseIdx_sublist L i)
theorem Out.of_below (h : Below w.heap.size w w') (S : Nat → Prop) : Out w w' S [] :=
  ⟨h.os, h.tape, h.output, h.size, fun k hk _ => h.block k hk, fun _ h => by simp at h, fun _ h => by simp at h, List.Pairwise.nil⟩
theorem Own.after (h : Own w0 w L) (hb : Below w.heap.size w w') : Own w0 w' L := h.fresh (cs := []) (Out.of_below hb _)
theorem Own.alloc (h : Own w0 w L) (o : Obj) : Own w0 (w.alloc o) L := h.after (below_alloc (Below.refl _ _) o)
theorem Own.drewN (h : Own w0 w L) (n : Nat) : Own w0 (w.drewN n) L := h.after (pw_below_drewN (Below.refl _ _) n)
theorem Own.drew (h : Own w0 w L) : Own w0 w.drew L := h.after (below_drew (Below.refl _ _))
/-- A block that is known. -/
def Chunk.blk (g : Nat) (o : Obj) : Chunk := ⟨fun k => k = g, fun w => w.heap[g]? = some o, fun h hm => (hm g rfl).trans h⟩
theorem Own.new (h : Own w0 w L) (o : Obj) : Own w0 (w.alloc o) (Chunk.blk w.heap.size o :: L) := by
  refine h.fresh (cs := [Chunk.blk w.heap.size o]) ?_
  have hb := below_alloc (Below.refl w.heap.size w) o
  refine ⟨hb.os, hb.tape, hb.output, hb.size, fun k hk _ => hb.block k hk, ?_, ?_, List.pairwise_singleton _ _⟩
  · intro c hc
    rw [List.mem_singleton.1 hc]
    exact heap_alloc_new w o
  · intro c hc k hk
    rw [List.mem_singleton.1 hc] at hk
    have hk' : k = w.heap.size := hk
    subst hk'
    exact ⟨.inr (Nat.le_refl _), by simp⟩
theorem Own.setBlk {g : Nat} {a : Array Value} {t : TypeId} (h : Own w0 w L) (i : Nat) (hi : L[i]? = some (Chunk.blk g (.cells a t (0, 0)))) (j : Nat) (u : Value) :
    Own w0 (w.setCell ⟨g, j, none⟩ u) (L.set i (Chunk.blk g (.cells (a.setIfInBounds j u) t (0, 0)))) := by
  refine h.calls (cs := []) i hi ?_
  have hg : w.heap[g]? = some (.cells a t (0, 0)) := h.get i hi
  have hl := (h.lt i hi (k := g) rfl).2
  refine ⟨rfl, rfl, rfl, by simp [World.setCell], fun k _ hk => Below.heap_setCell w ⟨g, j, none⟩ u k hk, ?_, ?_, List.pairwise_singleton _ _⟩
  · intro c hc
    rw [List.mem_singleton.1 hc]
    exact blk_set hg j u
  · intro c hc k hk
    rw [List.mem_singleton.1 hc] at hk
    have hk' : k = g := hk
    subst hk'
    exact ⟨.inl rfl, by simpa [World.setCell] using hl⟩
end
section
variable {α : Type}
/-- A row of the call's own, at the head of its block. -/
def Chunk.row (d : Kd α) (e : Nat) (base : Nat) (S : Nat → Prop) (v : Value) (xs : List α) : Chunk := ⟨S, fun w => d.R e w base S v xs, fun h hm => Kd.R_move h hm⟩
/-- A row of the call's own that may begin inside its block. -/
def Chunk.qrow (d : Kd α) (e : Nat) (base : Nat) (S : Nat → Prop) (v : Value) (xs : List α) : Chunk := ⟨S, fun w => d.Q e w base S v xs, fun h hm => Kd.Q_move h hm⟩
variable {d : Kd α} {e base : Nat} {w0 w w' : World} {ok : Nat → Prop} {v : Value} {xs : List α} {L : List Chunk}
/-- A callee's result in new memory. -/
theorem Out.row (h : d.R e w' w.heap.size ok v xs) (hb : Below w.heap.size w w') : Out w w' (fun _ => False) [Chunk.row d e w.heap.size (fun k => w.heap.size ≤ k ∧ k < w'.heap.size) v xs] := by
  refine ⟨hb.os, hb.tape, hb.output, hb.size, fun k hk _ => hb.block k hk, ?_, ?_, List.pairwise_singleton _ _⟩
  · intro c hc
    rw [List.mem_singleton.1 hc]
    exact Kd.R_mono (Kd.R_bound h) fun k hk => ⟨hk.2.1, hk.2.2.1⟩
  · intro c hc k hk
    rw [List.mem_singleton.1 hc] at hk
    exact ⟨.inr hk.1, hk.2⟩
end
section
variable {w W W2 : World} {S S2 : Nat → Prop} {L : List Chunk}
theorem Out.refl (w : World) (S : Nat → Prop) : Out w w S [] := Out.of_below (Below.refl _ _) S
theorem Out.bare (h : Out w W S L) : Out w W S [] := ⟨h.os, h.tape, h.output, h.size, h.block, fun _ h => by simp at h, fun _ h => by simp at h, List.Pairwise.nil⟩
theorem Out.then_ (h : Out w W S []) (k : Out W W2 S2 L) (hs : ∀ q, S2 q → S q ∨ w.heap.size ≤ q) : Out w W2 S [] :=
  ⟨k.os.trans h.os, k.tape.trans h.tape, k.output.trans h.output, Nat.le_trans h.size k.size, fun q hq hn => (k.block q (Nat.lt_of_lt_of_le hq h.size) (fun h2 => (hs q h2).elim hn (fun h3 => by omega))).trans (h.block q hq hn),
    fun _ h => by simp at h, fun _ h => by simp at h, List.Pairwise.nil⟩
theorem Out.setCell (h : Out w W S []) {p : Addr} (hp : S p.block ∨ w.heap.size ≤ p.block) (u : Value) : Out w (W.setCell p u) S [] :=
  h.then_ (S2 := fun k => k = p.block) (L := []) ⟨rfl, rfl, rfl, by simp [World.setCell], fun q _ hn => Below.heap_setCell W p u q hn, fun _ h => by simp at h, fun _ h => by simp at h, List.Pairwise.nil⟩ (fun q hq => by rw [hq]; exact hp)
theorem Out.grown (h : Out w W S []) {row : Option Nat} (hg : W.grownBy W2 row) (hr : ∀ k, row = some k → S k ∨ w.heap.size ≤ k) : Out w W2 S [] :=
  h.then_ (S2 := fun k => row = some k) (L := []) ⟨hg.os, hg.tape, hg.output, hg.size, fun q hq hn => hg.block q hq (fun e => hn e.symm), fun _ h => by simp at h, fun _ h => by simp at h, List.Pairwise.nil⟩ hr
theorem Out.below_ (h : Out w W S []) (hb : Below W.heap.size W W2) : Out w W2 S [] := h.then_ (Out.of_below hb (fun _ => False)) (fun _ hk => hk.elim)
theorem Out.drewN (h : Out w W S []) (n : Nat) : Out w (W.drewN n) S [] := h.below_ (pw_below_drewN (Below.refl _ _) n)
theorem Out.drew (h : Out w W S []) : Out w W.drew S [] := h.below_ (below_drew (Below.refl _ _))
theorem Out.alloc (h : Out w W S []) (o : Obj) : Out w (W.alloc o) S [] := h.below_ (below_alloc (Below.refl _ _) o)
theorem Out.blk {g : Nat} {o : Obj} (h : Out w W S L) (hb : w.heap[g]? = some o) (hg : ¬ S g) : W.heap[g]? = some o := (h.block g (blk_lt hb) hg).trans hb
/-- One thing in the place of what was handed. -/
theorem Out.one {c : Chunk} (h : Out w W S []) (hP : c.P W) (hin : ∀ k, c.S k → (S k ∨ w.heap.size ≤ k) ∧ k < W.heap.size) : Out w W S [c] :=
  ⟨h.os, h.tape, h.output, h.size, h.block, fun d hd => by rw [List.mem_singleton.1 hd]; exact hP, fun d hd => by rw [List.mem_singleton.1 hd]; exact hin, List.pairwise_singleton _ _⟩
/-- .. and one in new memory. -/
theorem Out.two {c d : Chunk} (h : Out w W S []) (hP : c.P W) (hin : ∀ k, c.S k → (S k ∨ w.heap.size ≤ k) ∧ k < W.heap.size) (hQ : d.P W) (hin2 : ∀ k, d.S k → (S k ∨ w.heap.size ≤ k) ∧ k < W.heap.size) (ha : ∀ k, c.S k → ¬ d.S k) : Out w W S [c, d] :=
  ⟨h.os, h.tape, h.output, h.size, h.block, fun q hq => by
    rcases List.mem_cons.1 hq with rfl | hq
    · exact hP
    · rw [List.mem_singleton.1 hq]; exact hQ, fun q hq => by
    rcases List.mem_cons.1 hq with rfl | hq
    · exact hin
    · rw [List.mem_singleton.1 hq]; exact hin2, List.pairwise_cons.2 ⟨fun q hq => by rw [List.mem_singleton.1 hq]; exact ha, List.pairwise_singleton _ _⟩⟩
/-- A row of whole numbers is read as before where its block is as before. -/
theorem C_int_at {k : IntKind} {A : Option Addr} {n : Nat} {xs : List Int} (h : (Kd.int k).C w A n xs) (hm : 0 < n → ∀ ad, A = some ad → ad.block < w.heap.size → W.heap[ad.block]? = w.heap[ad.block]?) : (Kd.int k).C W A n xs := by
  have hr := (Kd.reads_of_C (d := (0 : Int)) (h1 := fun _ => rfl) h : ReadsOf (Value.int k) (0 : Int) w A n xs)
  refine Kd.C_of_reads (d := (0 : Int)) (h1 := fun _ => rfl) ⟨hr.1, hr.2.1, fun hn => ?_⟩
  obtain ⟨ad, e, hc⟩ := hr.2.2 hn
  refine ⟨ad, e, fun j hj => ?_⟩
  have h0 := hc j hj
  have hb : (ad.add j).block = ad.block := add_block ad j
  have hlt := World.block_lt_of_cell? w _ h0
  rw [hb] at hlt
  have he := hm hn ad e hlt
  rw [← h0]
  exact World.cell?_of_block (by rw [hb]; exact he)
end
end Go.Proofs.Ytjndcgochnaodaa.PA

/- A walker's words: what is known of a frame, and what each operation does to it. -/
namespace Go.Proofs.Ytjndcgochnaodaa.PA
open Go.RowKit Go.Proofs.YtjndcgochnaodaaW.PrintWords Go.Proofs.YtjndcgochnaodaaW.PrintLast Go.Proofs.YtjndcgochnaodaaW.PrintMore
set_option linter.unusedVariables false
set_option linter.unusedSimpArgs false

def look : List (Nat × Value) → Nat → Option Value
  | [], _ => none
  | (d, v) :: F, t => bif Nat.beq d t then some v else look F t
/-- What is known of a frame. -/
structure FrD (D : List Deferred) (N : Nat) (a : Act) (F : List (Nat × Value)) : Prop where
  defers : a.defers = D
  size : a.tmps.size = N
  at_ : ∀ t v, look F t = some v → a.tmps[t]? = some v
/-- .. with no call laid aside. -/
abbrev Fr := FrD []
section
variable {D : List Deferred} {N : Nat} {a : Act} {F : List (Nat × Value)}
theorem FrD.ev (h : FrD D N a F) {t : Nat} {v : Value} (hl : look F t = some v) : a.eval (.tmp t) = v := by
  show a.tmps.getD t undef = v
  rw [Array.getD_eq_getD_getElem?, h.at_ t v hl]
  rfl
theorem ev_c (a : Act) (v : Value) : a.eval (.const v) = v := rfl
theorem FrD.put (h : FrD D N a F) {d : Nat} (hd : d < N) (v : Value) : FrD D N (a.put (some d) v) ((d, v) :: F) := by
  refine ⟨h.defers, by simp [Act.put, h.size], fun t u hl => ?_⟩
  unfold look at hl
  by_cases e : d = t
  · subst e
    have : Nat.beq d d = true := Nat.beq_refl d
    rw [this] at hl
    simp only [cond_true] at hl
    obtain rfl := Option.some.inj hl
    show (a.tmps.setIfInBounds d v)[d]? = some v
    rw [Array.getElem?_setIfInBounds_self_of_lt (by rw [h.size]; exact hd)]
  · have : Nat.beq d t = false := by
      rw [Bool.eq_false_iff]
      intro h2
      exact e (Nat.eq_of_beq_eq_true h2)
    rw [this] at hl
    simp only [cond_false] at hl
    show (a.tmps.setIfInBounds d v)[t]? = some u
    rw [Array.getElem?_setIfInBounds_ne e]
    exact h.at_ t u hl
theorem FrD.nil (h : FrD D N a F) : FrD D N a [] := ⟨h.defers, h.size, fun t v hl => by simp [look] at hl⟩
theorem FrD.pick {F' : List (Nat × Value)} (h : FrD D N a F) {t : Nat} {v : Value} (hl : look F t = some v) (h' : FrD D N a F') : FrD D N a ((t, v) :: F') := by
  refine ⟨h.defers, h.size, fun u x hx => ?_⟩
  unfold look at hx
  by_cases e : t = u
  · subst e
    rw [Nat.beq_refl t] at hx
    simp only [cond_true] at hx
    obtain rfl := Option.some.inj hx
    exact h.at_ t v hl
  · have : Nat.beq t u = false := by
      rw [Bool.eq_false_iff]
      intro h2
      exact e (Nat.eq_of_beq_eq_true h2)
    rw [this] at hx
    exact h'.at_ u x hx
end
def Runs (P : Program) (o : Oper) (a : Act) (w : World) (v : Value) (w1 : World) : Prop := (execOp a.eval o).run P w = .ok (.value v) w1
def Skips (P : Program) (o : Oper) (a : Act) (w : World) (w1 : World) : Prop := (execOp a.eval o).run P w = .ok .skip w1
def Enters (P : Program) (o : Oper) (a : Act) (w : World) (f : FuncId) (args : Array Value) : Prop := (execOp a.eval o).run P w = .ok (.enter f args) w
section
variable {P : Program} {o : Oper} {a : Act} {w : World} {x y : Operand} {t yt : TypeId}
theorem op_move {v : Value} (ho : o.op = .move x) (hx : a.eval x = v) : Runs P o a w v w := by
  unfold Runs execOp
  simp only [ho, hx]
  rfl
theorem op_assign {v : Value} (ho : o.op = .assign x) (hx : a.eval x = v) : Runs P o a w v w := by
  unfold Runs execOp
  simp only [ho, hx]
  rfl
theorem op_const {v : Value} (ho : o.op = .assign (.const v)) : Runs P o a w v w := op_assign ho rfl
theorem op_pick_t {v : Value} {z : Operand} (ho : o.op = .pick x y z) (hx : a.eval x = .bool true) (hy : a.eval y = v) : Runs P o a w v w := by
  unfold Runs execOp
  simp only [ho, hx, hy]
  simp [go_sem]
theorem op_pick_f {v : Value} {z : Operand} (ho : o.op = .pick x y z) (hx : a.eval x = .bool false) (hy : a.eval z = v) : Runs P o a w v w := by
  unfold Runs execOp
  simp only [ho, hx, hy]
  simp [go_sem]
theorem op_nil {ad : Addr} (ho : o.op = .nilCheck x) (hx : a.eval x = .pointer (some ad)) : Runs P o a w (.pointer (some ad)) w := by
  unfold Runs execOp
  simp only [ho, hx]
  rfl
section
variable {m n : Int} {k : IntKind}
theorem i64_ok {m : Int} (h1 : -9223372036854775808 ≤ m) (h2 : m ≤ 9223372036854775807) : IntKind.i64.wrap m = m := IntWalk.i64_in _ (by omega)
theorem op_addw (ho : o.op = .binOp .add t x y yt) (hx : a.eval x = .int k m) (hy : a.eval y = .int k n) : Runs P o a w (.int k (k.wrap (m + n))) w := by
  unfold Runs execOp
  simp only [ho, hx, hy]
  simp [go_sem]
theorem op_subw (ho : o.op = .binOp .sub t x y yt) (hx : a.eval x = .int k m) (hy : a.eval y = .int k n) : Runs P o a w (.int k (k.wrap (m - n))) w := by
  unfold Runs execOp
  simp only [ho, hx, hy]
  simp [go_sem]
theorem op_mulw (ho : o.op = .binOp .mul t x y yt) (hx : a.eval x = .int k m) (hy : a.eval y = .int k n) : Runs P o a w (.int k (k.wrap (m * n))) w := by
  unfold Runs execOp
  simp only [ho, hx, hy]
  simp [go_sem]
theorem op_add (ho : o.op = .binOp .add t x y yt) (hx : a.eval x = .int .i64 m) (hy : a.eval y = .int .i64 n) (h : -9223372036854775808 ≤ m + n ∧ m + n ≤ 9223372036854775807) : Runs P o a w (.int .i64 (m + n)) w := by
  have := op_addw (P := P) (w := w) ho hx hy
  rwa [i64_ok h.1 h.2] at this
theorem op_sub (ho : o.op = .binOp .sub t x y yt) (hx : a.eval x = .int .i64 m) (hy : a.eval y = .int .i64 n) (h : -9223372036854775808 ≤ m - n ∧ m - n ≤ 9223372036854775807) : Runs P o a w (.int .i64 (m - n)) w := by
  have := op_subw (P := P) (w := w) ho hx hy
  rwa [i64_ok h.1 h.2] at this
theorem op_mul (ho : o.op = .binOp .mul t x y yt) (hx : a.eval x = .int .i64 m) (hy : a.eval y = .int .i64 n) (h : -9223372036854775808 ≤ m * n ∧ m * n ≤ 9223372036854775807) : Runs P o a w (.int .i64 (m * n)) w := by
  have := op_mulw (P := P) (w := w) ho hx hy
  rwa [i64_ok h.1 h.2] at this
theorem op_lss (ho : o.op = .binOp .lss t x y yt) (hx : a.eval x = .int k m) (hy : a.eval y = .int k n) : Runs P o a w (.bool (decide (m < n))) w := by
  unfold Runs execOp
  simp only [ho, hx, hy]
  simp [go_sem]
theorem op_leq (ho : o.op = .binOp .leq t x y yt) (hx : a.eval x = .int k m) (hy : a.eval y = .int k n) : Runs P o a w (.bool (decide (m ≤ n))) w := by
  unfold Runs execOp
  simp only [ho, hx, hy]
  simp [go_sem]
theorem op_gtr (ho : o.op = .binOp .gtr t x y yt) (hx : a.eval x = .int k m) (hy : a.eval y = .int k n) : Runs P o a w (.bool (decide (n < m))) w := by
  unfold Runs execOp
  simp only [ho, hx, hy]
  simp [go_sem]
theorem op_geq (ho : o.op = .binOp .geq t x y yt) (hx : a.eval x = .int k m) (hy : a.eval y = .int k n) : Runs P o a w (.bool (decide (n ≤ m))) w := by
  unfold Runs execOp
  simp only [ho, hx, hy]
  simp [go_sem]
theorem op_eqi (ho : o.op = .binOp .eql t x y yt) (hx : a.eval x = .int k m) (hy : a.eval y = .int k n) : Runs P o a w (.bool (decide (m = n))) w := by
  unfold Runs execOp
  simp only [ho, hx, hy]
  simp [go_sem]
  rfl
theorem op_nei (ho : o.op = .binOp .neq t x y yt) (hx : a.eval x = .int k m) (hy : a.eval y = .int k n) : Runs P o a w (.bool (decide (m ≠ n))) w := by
  unfold Runs execOp
  simp only [ho, hx, hy]
  simp [go_sem]
  rfl
end
section
variable {p q : Bool}
theorem op_eqb (ht : P.underlying t = some .bool) (ho : o.op = .binOp .eql t x y yt) (hx : a.eval x = .bool p) (hy : a.eval y = .bool q) : Runs P o a w (.bool (p == q)) w := by
  unfold Runs execOp
  simp only [ho, hx, hy]
  simp [go_sem, ht]
theorem op_neb (ht : P.underlying t = some .bool) (ho : o.op = .binOp .neq t x y yt) (hx : a.eval x = .bool p) (hy : a.eval y = .bool q) : Runs P o a w (.bool (p != q)) w := by
  unfold Runs execOp
  simp only [ho, hx, hy]
  cases p <;> cases q <;> simp [go_sem, ht]
theorem op_not (ho : o.op = .unOp .not t x) (hx : a.eval x = .bool p) : Runs P o a w (.bool (!p)) w := by
  unfold Runs execOp
  simp only [ho, hx]
  simp [go_sem]
end
theorem op_neg {m : Int} {k : IntKind} (ho : o.op = .unOp .neg t x) (hx : a.eval x = .int k m) : Runs P o a w (.int k (k.wrap (-m))) w := by
  unfold Runs execOp
  simp only [ho, hx]
  simp [go_sem]
section
variable {s u : ByteArray}
theorem op_eqs (ho : o.op = .binOp .eql t x y yt) (hx : a.eval x = .string s) (hy : a.eval y = .string u) : Runs P o a w (.bool (s.toList == u.toList)) w := by
  unfold Runs execOp
  simp only [ho, hx, hy]
  simp [go_sem]
theorem op_nes (ho : o.op = .binOp .neq t x y yt) (hx : a.eval x = .string s) (hy : a.eval y = .string u) : Runs P o a w (.bool (!(s.toList == u.toList))) w := by
  unfold Runs execOp
  simp only [ho, hx, hy]
  simp [go_sem]
end
theorem op_eqp_nil {ad : Addr} {e : TypeId} (ht : P.underlying t = some (.pointer e)) (ho : o.op = .binOp .eql t x (.const (.pointer none)) yt) (hx : a.eval x = .pointer (some ad)) : Runs P o a w (.bool false) w := by
  unfold Runs execOp
  simp only [ho, hx]
  simp [go_sem, Act.eval, ht]
theorem op_len {A : Option Addr} {n c : Nat} {e : TypeId} (ht : P.underlying t = some (.slice e)) (ho : o.op = .call { callee := .builtin .len, args := #[x], argTypes := #[t] }) (hx : a.eval x = .slice A n c) : Runs P o a w (.int .i64 n) w := by
  unfold Runs execOp
  simp only [ho, resolve, invoke, builtin, Sem.run_bind, Sem.run_pure, Result.andThen_ok, List.map_toArray, List.map_cons, List.map_nil, hx]
  simp [go_sem, ht]
theorem op_lens {s : ByteArray} (ht : P.underlying t = some .string) (ho : o.op = .call { callee := .builtin .len, args := #[x], argTypes := #[t] }) (hx : a.eval x = .string s) : Runs P o a w (.int .i64 s.size) w := by
  unfold Runs execOp
  simp only [ho, resolve, invoke, builtin, Sem.run_bind, Sem.run_pure, Result.andThen_ok, List.map_toArray, List.map_cons, List.map_nil, hx]
  simp [go_sem, ht]
theorem op_extract {vs : Array Value} {i : Nat} {v : Value} (ho : o.op = .extract x i) (hx : a.eval x = .tuple vs) (hv : vs[i]? = some v) : Runs P o a w v w := by
  unfold Runs execOp
  simp only [ho, hx]
  simp [go_sem, hv]
theorem op_call {f : FuncId} {fn : Func} {args : Array Operand} {tys : Array TypeId} {vs : Array Value} (hf : P.funcs[f]? = some fn) (hname : (fn.name == "runtime.NumGoroutine") = false) (hb : fn.body.isSome = true) (ho : o.op = .call { callee := .value (.func f), args := args, argTypes := tys }) (hv : args.map a.eval = vs) : Enters P o a w f vs := by
  have he := enters_ hf hname hb vs w
  unfold Enters execOp
  simp [ho, resolve, Deferred.ofValue, invoke, Act.eval, hv, he]
theorem op_max {m n : Int} {k : IntKind} (ho : o.op = .call { callee := .builtin .max, args := #[x, y], argTypes := #[t, yt] }) (hx : a.eval x = .int k m) (hy : a.eval y = .int k n) : Runs P o a w (.int k (mx m n)) w := by
  unfold Runs execOp
  simp only [ho, resolve, invoke, builtin, Sem.run_bind, Sem.run_pure, Result.andThen_ok, List.map_toArray, List.map_cons, List.map_nil, hx, hy]
  simp [go_sem, max_two, max2_int, mx]
theorem op_min {m n : Int} {k : IntKind} (ho : o.op = .call { callee := .builtin .min, args := #[x, y], argTypes := #[t, yt] }) (hx : a.eval x = .int k m) (hy : a.eval y = .int k n) : Runs P o a w (.int k (mn m n)) w := by
  unfold Runs execOp
  simp only [ho, resolve, invoke, builtin, Sem.run_bind, Sem.run_pure, Result.andThen_ok, List.map_toArray, List.map_cons, List.map_nil, hx, hy]
  simp [go_sem, min_two, min2_int, mn]
section
variable {ad : Addr} {v u : Value}
theorem op_load1 (hA : ∀ w, (isAgg t).run P w = .ok false w) (ho : o.op = .load t x) (hx : a.eval x = .pointer (some ad)) (hc : w.cell? ad = some v) : Runs P o a w v w := by
  unfold Runs execOp
  simp only [ho, hx]
  simp [go_sem, Instr.loadAt, Instr.sureAddr, loadVar, hA, hc]
theorem op_store1 (hS : ∀ w, (sizeOf t).run P w = .ok 1 w) (ho : o.op = .store t x y) (hx : a.eval x = .pointer (some ad)) (hy : a.eval y = v) (hv : v.oneCell' = true) (hc : w.cell? ad = some u) (hfz : w.frozen? ad = false) : Skips P o a w (w.setCell ad v) := by
  have hcs : v.cells = #[v] := by cases v <;> first | rfl | cases hv
  have hst := run_store P w ad v .plain hv
  have h0 : ad.add 0 = ad := by unfold Addr.add; rfl
  have key : (Instr.storeAt t (.pointer (some ad)) v).run P w = .ok () (w.setCell ad v) := by
    unfold Instr.storeAt Instr.sureAddr storeVar
    simp only [Sem.run_bind, Sem.run_pure, Result.andThen_ok, hS, hcs]
    simp [storeCells, h0, hst, stored, hc, hfz]
  unfold Skips execOp
  simp only [ho, hx, hy, Sem.run_bind, key, Result.andThen_ok, Sem.run_pure]
theorem op_alloc {z : Value} (hz : ∀ w, (zeroValue t).run P w = .ok z w) (ho : o.op = .alloc t) : Runs P o a w (.pointer (some ⟨w.heap.size, 0, none⟩)) (w.alloc (.cells z.cells t (0, 0))) := by
  unfold Runs execOp
  simp only [ho]
  simp [go_sem, Instr.alloc, hz, newVar, newRow]
theorem op_box (ho : o.op = .box t x) (hx : a.eval x = v) : Runs P o a w (.pointer (some ⟨w.heap.size, 0, none⟩)) (w.alloc (.cells v.cells t (0, 0))) := by
  unfold Runs execOp
  simp only [ho, hx]
  simp [go_sem, Instr.box, newVar, newRow]
theorem op_field {f : Nat} {ad' : Addr} (hf : ∀ w, (Instr.fieldAt t (.pointer (some ad)) f).run P w = .ok (.pointer (some ad')) w) (ho : o.op = .fieldAddr t x f) (hx : a.eval x = .pointer (some ad)) : Runs P o a w (.pointer (some ad')) w := by
  unfold Runs execOp
  simp only [ho, hx, Sem.run_bind, hf, Result.andThen_ok, Sem.run_pure]
theorem op_index {A : Option Addr} {n c sz : Nat} {e : TypeId} {k : IntKind} {i : Int} (ht : P.underlying t = some (.slice e)) (hS : ∀ w, (sizeOf e).run P w = .ok sz w) (ho : o.op = .indexAddr t x y) (hx : a.eval x = .slice A n c) (hy : a.eval y = .int k i) (hA : A = some ad) (h : 0 ≤ i ∧ i < n) :
    Runs P o a w (.pointer (some (ad.add (i.toNat * sz)))) w := by
  subst hA
  unfold Runs execOp
  simp only [ho, hx, hy]
  simp [go_sem, Instr.indexAt, asIntOf, run_underlying ht, hS, h.1, h.2]
end
end
/-! ### the rules -/
section
variable {D : List Deferred} {P : Program} {ops : Array Oper} {Q : Exit → Act → World → Prop} {rest : List Oper} {o : Oper} {N d : Nat} {a : Act} {F : List (Nat × Value)} {w w1 : World} {v : Value} {C : World → Prop} {Q' : Act → Prop}
theorem want_none (hg : o.guard = none) : Region.wanted o (yielded ops a.tmps) = true := by simp [Region.wanted, hg]
theorem yields_of (HF : FrD D N a F) {j dj : Nat} {oj : Oper} {b : Bool} (hj : ops[j]? = some oj) (hdj : oj.dst = some dj) (hl : look F dj = some (.bool b)) : yielded ops a.tmps j = some b := by
  simp [yielded, hj, hdj, HF.at_ _ _ hl]
theorem want_yes (HF : FrD D N a F) {j dj : Nat} {oj : Oper} {b : Bool} (hg : o.guard = some (j, b)) (hj : ops[j]? = some oj) (hdj : oj.dst = some dj) (hl : look F dj = some (.bool b)) : Region.wanted o (yielded ops a.tmps) = true := by
  simp [Region.wanted, hg, yields_of HF hj hdj hl]
theorem want_no (HF : FrD D N a F) {j dj : Nat} {oj : Oper} {b b' : Bool} (hg : o.guard = some (j, b)) (hj : ops[j]? = some oj) (hdj : oj.dst = some dj) (hl : look F dj = some (.bool b')) (hne : b' ≠ b) : Region.wanted o (yielded ops a.tmps) = false := by
  simp [Region.wanted, hg, yields_of HF hj hdj hl, hne]
theorem gw_ev (HF : FrD D N a F) (hw : Region.wanted o (yielded ops a.tmps) = true) (hd : o.dst = some d) (hN : d < N) (hrun : Runs P o a w v w1) (k : ∀ a', FrD D N a' ((d, v) :: F) → wpList P ops Q rest a' w1) : wpList P ops Q (o :: rest) a w := by
  refine wpList_step fun K hK => ?_
  rw [if_pos hw]
  unfold Oper.wp
  rw [hrun, Oper.upon_value, hd]
  exact hK _ _ (k _ (HF.put hN v))
theorem gw_skip (HF : FrD D N a F) (hw : Region.wanted o (yielded ops a.tmps) = true) (hd : o.dst = none) (hrun : Skips P o a w w1) (k : ∀ a', FrD D N a' F → wpList P ops Q rest a' w1) : wpList P ops Q (o :: rest) a w := by
  refine wpList_step fun K hK => ?_
  rw [if_pos hw]
  unfold Oper.wp
  rw [hrun, Oper.upon_skip, hd]
  exact hK _ _ (k _ HF)
theorem gw_off (HF : FrD D N a F) (hw : Region.wanted o (yielded ops a.tmps) = false) (hd : o.dst = some d) (hN : d < N) (k : ∀ a', FrD D N a' ((d, undef) :: F) → wpList P ops Q rest a' w) : wpList P ops Q (o :: rest) a w := by
  refine wpList_skip hw ?_
  rw [hd]
  exact k _ (HF.put hN undef)
theorem gw_call {f : FuncId} {args : Array Value} {R : Ending → World → Prop} (HF : FrD D N a F) (hw : Region.wanted o (yielded ops a.tmps) = true) (hd : o.dst = some d) (hN : d < N) (hen : Enters P o a w f args) (hc : Calls P f args w R)
    (k : ∀ e w', R e w' → ∃ v, e = .returned v ∧ ∀ a', FrD D N a' ((d, v) :: F) → wpList P ops Q rest a' w') : wpList P ops Q (o :: rest) a w := by
  refine wpList_step fun K hK => ?_
  rw [if_pos hw]
  unfold Oper.wp
  rw [hen, Oper.upon_enter]
  refine hc.mono fun e w'' hh => ?_
  obtain ⟨v, rfl, hk⟩ := k e w'' hh
  show K (a.put o.dst v) w''
  rw [hd]
  exact hK _ _ (hk _ (HF.put hN v))
theorem gw_call0 {f : FuncId} {args : Array Value} {R : Ending → World → Prop} (HF : FrD D N a F) (hw : Region.wanted o (yielded ops a.tmps) = true) (hd : o.dst = none) (hen : Enters P o a w f args) (hc : Calls P f args w R)
    (k : ∀ e w', R e w' → ∃ v, e = .returned v ∧ ∀ a', FrD D N a' F → wpList P ops Q rest a' w') : wpList P ops Q (o :: rest) a w := by
  refine wpList_step fun K hK => ?_
  rw [if_pos hw]
  unfold Oper.wp
  rw [hen, Oper.upon_enter]
  refine hc.mono fun e w'' hh => ?_
  obtain ⟨v, rfl, hk⟩ := k e w'' hh
  show K (a.put o.dst v) w''
  rw [hd]
  exact hK _ _ (hk _ HF)
/-- A new block. -/
theorem gw_new {w0 : World} {L : List Chunk} {O : Obj} (HF : FrD D N a F) (HO : Own w0 w L) (hw : Region.wanted o (yielded ops a.tmps) = true) (hd : o.dst = some d) (hN : d < N) (hrun : Runs P o a w (.pointer (some ⟨w.heap.size, 0, none⟩)) (w.alloc O))
    (k : ∀ g a' w1, FrD D N a' ((d, .pointer (some ⟨g, 0, none⟩)) :: F) → Own w0 w1 (Chunk.blk g O :: L) → wpList P ops Q rest a' w1) : wpList P ops Q (o :: rest) a w :=
  gw_ev HF hw hd hN hrun fun a' HF' => k _ a' _ HF' (HO.new O)
/-- A store into a block that is known. -/
theorem gw_set {w0 : World} {L : List Chunk} {g j : Nat} {cs : Array Value} {T : TypeId} (i : Nat) (HF : FrD D N a F) (HO : Own w0 w L) (hi : L[i]? = some (Chunk.blk g (.cells cs T (0, 0)))) (hw : Region.wanted o (yielded ops a.tmps) = true) (hd : o.dst = none) (hrun : Skips P o a w (w.setCell ⟨g, j, none⟩ v))
    (k : ∀ a' w1, FrD D N a' F → Own w0 w1 (L.set i (Chunk.blk g (.cells (cs.setIfInBounds j v) T (0, 0)))) → wpList P ops Q rest a' w1) : wpList P ops Q (o :: rest) a w :=
  gw_skip HF hw hd hrun fun a' HF' => k a' _ HF' (HO.setBlk i hi j v)
/-! a region that draws its order -/
theorem gq_ev (HF : FrD D N a F) (hw : Region.wanted o (yielded ops a.tmps) = true) (hd : o.dst = some d) (hN : d < N) (hrun : ∀ w, C w → Runs P o a w v w) (k : ∀ a', FrD D N a' ((d, v) :: F) → wpQuiet P ops C Q' rest a') : wpQuiet P ops C Q' (o :: rest) a := by
  refine wpQuiet_step fun K hK => ?_
  rw [if_pos hw]
  refine ⟨v, fun w hC => ?_, ?_⟩
  · unfold Oper.quietAt
    rw [hrun w hC]
    exact ⟨rfl, rfl⟩
  · rw [hd]
    exact hK _ (k _ (HF.put hN v))
theorem gq_call {f : FuncId} {args : Array Value} (HF : FrD D N a F) (hw : Region.wanted o (yielded ops a.tmps) = true) (hd : o.dst = some d) (hN : d < N) (hen : ∀ w, C w → Enters P o a w f args) (hc : ∀ w, C w → Calls P f args w (fun e w' => e = .returned v ∧ C w')) (k : ∀ a', FrD D N a' ((d, v) :: F) → wpQuiet P ops C Q' rest a') : wpQuiet P ops C Q' (o :: rest) a := by
  refine wpQuiet_step fun K hK => ?_
  rw [if_pos hw]
  refine ⟨v, fun w hC => ?_, ?_⟩
  · unfold Oper.quietAt
    rw [hen w hC]
    exact ⟨rfl, hc w hC⟩
  · rw [hd]
    exact hK _ (k _ (HF.put hN v))
theorem gq_off (HF : FrD D N a F) (hw : Region.wanted o (yielded ops a.tmps) = false) (hd : o.dst = some d) (hN : d < N) (k : ∀ a', FrD D N a' ((d, undef) :: F) → wpQuiet P ops C Q' rest a') : wpQuiet P ops C Q' (o :: rest) a := by
  refine wpQuiet_step fun K hK => ?_
  rw [if_neg (by rw [hw]; simp), hd]
  exact hK _ (k _ (HF.put hN undef))
theorem gw_draw {w0 : World} {L : List Chunk} {id : Nat} {l : List Oper} (HO : Own w0 w L) (hm : P.follows .mixedOrders = true) (hB : Region.lexB .any l.toArray = true)
    (h : wpQuiet P l.toArray (fun w => Own w0 w L) (fun a' => ∀ w', Own w0 w' L → Q .normal a' w') l a) : (Code.region id l.toArray true).wp P Q a w :=
  wp_region_quiet (C := fun w => Own w0 w L) hm hB HO.drew (by simpa using h)
/-- The worlds of a region that writes nothing: those above the one at its beginning. -/
theorem gw_drawB {w0 : World} {L : List Chunk} {id : Nat} {l : List Oper} (HO : Own w0 w L) (hm : P.follows .mixedOrders = true) (hB : Region.lexB .any l.toArray = true)
    (h : ∀ w1, Own w0 w1 L → wpQuiet P l.toArray (fun wq => Below w1.heap.size w1 wq) (fun a' => ∀ w', Below w1.heap.size w1 w' → Q .normal a' w') l a) : (Code.region id l.toArray true).wp P Q a w :=
  wp_region_quiet (C := fun wq => Below w.drew.heap.size w.drew wq) hm hB (Below.refl _ _) (by simpa using h _ HO.drew)
theorem below_then {w w1 w2 : World} (h : Below w.heap.size w w1) (h2 : Below w1.heap.size w1 w2) : Below w.heap.size w w2 := (((Own.start w).after h).after h2).below
theorem cellb {w wq : World} {p : Addr} {v : Value} (h : Below w.heap.size w wq) (hc : w.cell? p = some v) : wq.cell? p = some v :=
  (h.cell (World.block_lt_of_cell? w p hc)).trans hc
/-! code -/
theorem gw_cond {x y : Code} {t : Nat} {b : Bool} (HF : FrD D N a F) (hl : look F t = some (.bool b)) (ht : b = true → x.wp P Q a w) (hf : b = false → y.wp P Q a w) : (Code.cond (.tmp t) x y).wp P Q a w :=
  wp_cond_split (HF.ev hl) ht hf
theorem gw_seq {x y : Code} (h : ∀ K : Act → World → Prop, (∀ a w, y.wp P Q a w → K a w) → x.wp P (Exit.then K Q) a w) : (Code.seq x y).wp P Q a w := wp_seq_k h
theorem gw_in {id : Nat} {a : Act} {w : World} (h : Q .normal a w) : Exit.inBlock id Q (.exit id) a w := by
  show (if id = id then Q .normal a w else Q (.exit id) a w)
  rw [if_pos rfl]
  exact h
theorem gw_out {id id' : Nat} {a : Act} {w : World} (hne : id' ≠ id) (h : Q (.exit id') a w) : Exit.inBlock id Q (.exit id') a w := by
  show (if id' = id then Q .normal a w else Q (.exit id') a w)
  rw [if_neg hne]
  exact h
theorem gw_loop {c : Code} (J : Nat → Act → World → Prop) (n : Nat) (h0 : J n a w) (round : ∀ n a w, J n a w → c.wp P (Exit.then (fun a' w' => ∃ m, m < n ∧ J m a' w') Q) a w) : (Code.loop c).wp P Q a w := by
  have least : ∀ a w, (∃ n, J n a w) → ∃ n, J n a w ∧ ∀ m, J m a w → n ≤ m := by
    intro a w ⟨n, hn⟩
    induction n using Nat.strongRecOn with
    | _ n ih =>
      by_cases h : ∃ m, m < n ∧ J m a w
      · obtain ⟨m, hm, hj⟩ := h
        exact ih m hm hj
      · exact ⟨n, hn, fun m hm => Nat.le_of_not_lt fun hlt => h ⟨m, hlt, hm⟩⟩
  classical
  refine wp_loop (fun a w => ∃ n, J n a w) (fun a w => if h : ∃ n, J n a w then (least a w h).choose else 0) ⟨n, h0⟩ fun a w hI => ?_
  have hc := (least a w hI).choose_spec
  refine Code.wp_mono ?_ (round _ a w hc.1)
  intro e a' w' hq
  cases e with
  | normal =>
    obtain ⟨m, hm, hj⟩ := hq
    have hI' : ∃ n, J n a' w' := ⟨m, hj⟩
    refine ⟨hI', ?_⟩
    have hc' := (least a' w' hI').choose_spec
    rw [dif_pos hI', dif_pos hI]
    exact Nat.lt_of_le_of_lt (hc'.2 m hj) hm
  | _ => exact hq
end
/-! entering and leaving -/
section
variable {D : List Deferred} {P : Program} {fn : Func} {R : Ending → World → Prop} {N : Nat} {a : Act} {F : List (Nat × Value)} {w : World}
def ixs : Nat → List Value → List (Nat × Value)
  | _, [] => []
  | k, v :: vs => (k, v) :: ixs (k + 1) vs
theorem look_ixs : ∀ (vs : List Value) (k t : Nat) (v : Value), look (ixs k vs) t = some v → ∃ j, t = k + j ∧ vs[j]? = some v
  | [], k, t, v, h => by simp [ixs, look] at h
  | u :: vs, k, t, v, h => by
    unfold ixs look at h
    by_cases e : k = t
    · subst e
      rw [Nat.beq_refl] at h
      exact ⟨0, rfl, h⟩
    · have : Nat.beq k t = false := by
        rw [Bool.eq_false_iff]
        exact fun h2 => e (Nat.eq_of_beq_eq_true h2)
      rw [this] at h
      obtain ⟨j, h1, h2⟩ := look_ixs vs (k + 1) t v h
      exact ⟨j + 1, by omega, h2⟩
theorem Fr.start (vs : List Value) (n : Nat) (h : vs.length ≤ n) : Fr n { tmps := vs.toArray ++ Array.replicate (n - vs.toArray.size) undef, defers := [] } (ixs 0 vs) := by
  refine ⟨rfl, by simp; omega, fun t v hl => ?_⟩
  obtain ⟨j, rfl, hj⟩ := look_ixs vs 0 t v hl
  rw [Nat.zero_add, Array.getElem?_append_left (by simpa using (List.getElem?_eq_some_iff.1 hj).1)]
  simpa using hj
theorem gw_start {f : FuncId} {c : Code} {vs : List Value} (hf : P.funcs[f]? = some fn) (hb : fn.body = some c) (hn : fn.ntmps = N) (hl : vs.length ≤ N)
    (h : ∀ a, Fr N a (ixs 0 vs) → Own w w [] → c.wp P (bodyPost P fn R) a w) : Calls P f vs.toArray w R := by
  refine calls_of_wp hf hb ?_
  rw [hn]
  exact h _ (Fr.start vs N hl) (Own.start w)
theorem gw_ret1 {t : Nat} {v : Value} (HF : Fr N a F) (hr : fn.results = #[.tmp t]) (hl : look F t = some v) (h : R (.returned v) w) : bodyPost P fn R .ret a w := by
  have := results_tmp (P := P) hr a.tmps w
  refine bodyPost_ret (v := v) ?_ HF.defers h
  have he := HF.ev hl
  rw [this]
  exact congrArg (fun v => Result.ok v w) he
theorem gw_ret2 {t u : Nat} {v v' : Value} (HF : Fr N a F) (hr : fn.results = #[.tmp t, .tmp u]) (hl : look F t = some v) (hl' : look F u = some v') (h : R (.returned (.tuple #[v, v'])) w) : bodyPost P fn R .ret a w := by
  have := results_tmp2 hr a.tmps P w
  refine bodyPost_ret (v := .tuple #[v, v']) ?_ HF.defers h
  have he : a.tmps.getD t undef = v := HF.ev hl
  have he' : a.tmps.getD u undef = v' := HF.ev hl'
  rw [this, he, he']
theorem gw_end0 (HF : Fr N a F) (hr : fn.results = #[]) (h : R (.returned (.tuple #[])) w) : bodyPost P fn R .normal a w :=
  bodyPost_end (results_none hr a.tmps P w) HF.defers h
theorem gw_ret0 (HF : Fr N a F) (hr : fn.results = #[]) (h : R (.returned (.tuple #[])) w) : bodyPost P fn R .ret a w :=
  bodyPost_ret (results_none hr a.tmps P w) HF.defers h
end
/-! more words -/
section
variable {D : List Deferred} {N d : Nat} {a : Act} {F : List (Nat × Value)} {v v' : Value} {t b : Bool}
theorem FrD.lit (h : FrD D N a ((d, .bool t) :: F)) (e : t = b) : FrD D N a ((d, .bool b) :: F) := e ▸ h
theorem FrD.conv (h : FrD D N a ((d, v) :: F)) (e : v = v') : FrD D N a ((d, v') :: F) := e ▸ h
theorem FrD.subst_ (h : FrD D N a F) (hl : look F d = some (.bool t)) (e : t = b) : FrD D N a ((d, .bool b) :: F) := h.pick (e ▸ hl) h
end
section
variable {P : Program} {K : Act → World → Prop} {Q : Exit → Act → World → Prop} {a : Act} {w : World} {id : Nat}
theorem gw_nx (h : K a w) : Exit.then K Q .normal a w := h
theorem gw_blk (h : Q .normal a w) : Exit.inBlock id Q .normal a w := h
theorem gw_thx {id' : Nat} (h : Q (.exit id') a w) : Exit.then K Q (.exit id') a w := h
theorem gw_thr (h : Q .ret a w) : Exit.then K Q .ret a w := h
theorem gw_blr (h : Q .ret a w) : Exit.inBlock id Q .ret a w := h
end
theorem pw_sel {R : Chunk → Chunk → Prop} (hs : ∀ a b, R a b → R b a) {L : List Chunk} (h : L.Pairwise R) : ∀ (is : List Nat), is.Nodup → (is.filterMap (L[·]?)).Pairwise R
  | [], _ => List.Pairwise.nil
  | i :: is, hn => by
    have hn' := List.nodup_cons.1 hn
    have ih := pw_sel hs h is hn'.2
    cases hi : L[i]? with
    | none => rw [List.filterMap_cons_none hi]; exact ih
    | some c =>
      rw [List.filterMap_cons_some hi]
      refine List.pairwise_cons.2 ⟨fun d hd => ?_, ih⟩
      obtain ⟨j, hj, hjd⟩ := List.mem_filterMap.1 hd
      exact pw_mid hs h i j c d (fun e => hn'.1 (e ▸ hj)) hi hjd
theorem Own.sel {w0 w : World} {L : List Chunk} (h : Own w0 w L) (is : List Nat) (hn : is.Nodup) : Own w0 w (is.filterMap (L[·]?)) := by
  have mem : ∀ c, c ∈ is.filterMap (L[·]?) → c ∈ L := fun c hc => by
    obtain ⟨j, _, hj⟩ := List.mem_filterMap.1 hc
    exact List.mem_of_getElem? hj
  exact ⟨h.below, fun c hc => h.holds c (mem c hc), fun c hc => h.inside c (mem c hc), pw_sel ap_symm h.apart is hn⟩
theorem Own.cell0 {w0 w : World} {L : List Chunk} (h : Own w0 w L) {p : Addr} {v : Value} (hc : w0.cell? p = some v) : w.cell? p = some v :=
  (h.below.cell (World.block_lt_of_cell? w0 p hc)).trans hc
theorem at0 {w : World} {ad : Addr} {m : Nat} {cs : List Value} {v : Value} (h : ∀ j u, cs[j]? = some u → w.cell? (ad.add (m + j)) = some u) (hv : cs[0]? = some v := by rfl) : w.cell? (ad.add m) = some v := h 0 v hv
theorem cells0 {w0 w : World} {L : List Chunk} (ho : Own w0 w L) {ad : Addr} {m : Nat} {cs : List Value} (h : ∀ j u, cs[j]? = some u → w0.cell? (ad.add (m + j)) = some u) : ∀ j u, cs[j]? = some u → w.cell? ((ad.add m).add j) = some u :=
  fun j u hj => by rw [add_add]; exact ho.cell0 (h j u hj)
theorem blk_at {w : World} {g j : Nat} {T : TypeId} {cs : Array Value} {v : Value} (h : w.heap[g]? = some (.cells cs T (0, 0))) (hv : cs[j]? = some v) : w.cell? ⟨g, j, none⟩ = some v := (blk_cell h j).trans hv
theorem blkf {w : World} {g j : Nat} {T : TypeId} {cs : Array Value} (h : w.heap[g]? = some (.cells cs T (0, 0))) : w.frozen? ⟨g, j, none⟩ = false := blk_frozen h j
section
variable {k : IntKind} {e base c : Nat} {S : Nat → Prop} {A : Option Addr} {n : Nat} {xs : List Int} {w : World}
theorem row_cap {α : Type} {d : Kd α} {xs : List α} (h : d.R e w base S (.slice A n c) xs) : xs.length ≤ c := by
  have := Kd.R_reads' h
  omega
theorem row_head {α : Type} {d : Kd α} {xs : List α} (h : d.R e w base S (.slice A n c) xs) (i : Int) (h0 : 0 ≤ i) (h1 : i < xs.length) : ∃ ad, A = some ad := by
  obtain ⟨g, cap, hv, _⟩ := Kd.R_form h (by omega)
  injection hv with hA _ _
  exact ⟨_, hA⟩
theorem row_cell {ad : Addr} (h : (Kd.int k).R e w base S (.slice (some ad) n c) xs) (i : Int) (h0 : 0 ≤ i) (h1 : i < xs.length) : w.cell? (ad.add (i.toNat * 1)) = some (.int k (rd xs i)) ∧ w.frozen? (ad.add (i.toNat * 1)) = false := by
  obtain ⟨g, cap, hv, _⟩ := Kd.R_form h (by omega)
  injection hv with hA hn hc
  injection hA with hA
  subst hA hn hc
  have := Kd.R_cell (0 : Int) h i h0 h1
  rw [Nat.mul_one, add_plain]
  exact this
theorem row_put {ad : Addr} (h : (Kd.int k).R e w base S (.slice (some ad) n c) xs) (i x : Int) (h0 : 0 ≤ i) (h1 : i < xs.length) : (Kd.int k).R e (w.setCell (ad.add (i.toNat * 1)) (.int k x)) base S (.slice (some ad) n c) (xs.set i.toNat x) ∧ S (ad.add (i.toNat * 1)).block := by
  obtain ⟨g, cap, hv, _⟩ := Kd.R_form h (by omega)
  injection hv with hA hn hc
  injection hA with hA
  subst hA hn hc
  have := Kd.R_put h i x
  rw [Nat.mul_one, add_plain]
  exact ⟨this.1, h.1 g rfl⟩
end
section
variable {P : Program} {o : Oper} {a : Act} {w : World} {x y : Operand} {t yt : TypeId}
theorem op_loadn {g off n : Nat} {cs : Array Value} {T : TypeId} {vs : List Value} (hA : ∀ w, (isAgg t).run P w = .ok true w) (hS : ∀ w, (sizeOf t).run P w = .ok n w) (ho : o.op = .load t x) (hx : a.eval x = .pointer (some ⟨g, off, none⟩)) (hb : w.heap[g]? = some (.cells cs T (0, 0))) (hl : (cs.toList.drop off).take n = vs) (hn : vs.length = n) :
    Runs P o a w (.agg vs.toArray) w := by
  have hr := run_loadCells_list (P := P) (w := w) ⟨g, off, none⟩ vs (fun j v hv => by
    rw [add_at, blk_cell hb, ← Array.getElem?_toList]
    rw [← hl, List.getElem?_take] at hv
    split at hv
    · rwa [List.getElem?_drop] at hv
    · cases hv)
  rw [hn] at hr
  unfold Runs execOp
  simp only [ho, hx]
  simp [Instr.loadAt, Instr.sureAddr, loadVar, hA, hS, hr]
theorem op_loadc {n : Nat} {ad : Addr} {cs : List Value} (hA : ∀ w, (isAgg t).run P w = .ok true w) (hS : ∀ w, (sizeOf t).run P w = .ok n w) (ho : o.op = .load t x) (hx : a.eval x = .pointer (some ad)) (hn : cs.length = n) (hc : ∀ j u, cs[j]? = some u → w.cell? (ad.add j) = some u) :
    Runs P o a w (.agg cs.toArray) w := by
  have hr := run_loadCells_list (P := P) (w := w) ad cs hc
  rw [hn] at hr
  unfold Runs execOp
  simp only [ho, hx]
  simp [Instr.loadAt, Instr.sureAddr, loadVar, hA, hS, hr]
theorem op_storen {g off n : Nat} {cs vs : Array Value} {T : TypeId} (hS : ∀ w, (sizeOf t).run P w = .ok n w) (ho : o.op = .store t x y) (hx : a.eval x = .pointer (some ⟨g, off, none⟩)) (hy : a.eval y = .agg vs) (hb : w.heap[g]? = some (.cells cs T (0, 0))) (hn : vs.size = n) (hle : off + n ≤ cs.size) (h1 : ∀ v ∈ vs.toList, v.oneCell' = true) :
    Skips P o a w (w.setRow g (cs.toList.take off ++ vs.toList ++ cs.toList.drop (off + n)).toArray) := by
  have hr := run_storeCells_at (P := P) g off T vs.toList 0 cs w hb (by simpa [hn] using hle) h1
  simp only [Nat.add_zero, Array.length_toList, hn] at hr
  unfold Skips execOp
  simp only [ho, hx, hy]
  simp [Instr.storeAt, Instr.sureAddr, storeVar, hS, Value.cells, hn, hr]
theorem pt_nil {f : Operand → Value} : ([] : List (Nat × Operand)).map (fun p => (p.1, f p.2)) = [] := rfl
theorem pt_cons {f : Operand → Value} {i : Nat} {x : Operand} {v : Value} {l : List (Nat × Operand)} {r : List (Nat × Value)} (h : f x = v) (k : l.map (fun p => (p.1, f p.2)) = r) : ((i, x) :: l).map (fun p => (p.1, f p.2)) = (i, v) :: r := by rw [List.map_cons, k, h]
theorem op_build {parts : List (Nat × Operand)} {vs : List (Nat × Value)} {cells : Array Value} (ho : o.op = .build t parts.toArray) (hp : parts.map (fun p => (p.1, a.eval p.2)) = vs) (hb : P.built t vs = some cells) : Runs P o a w (.agg cells) w := by
  have hq : parts.toArray.map (fun p => (p.1, a.eval p.2)) = vs.toArray := by rw [List.map_toArray, hp]
  have hr := run_build (P := P) w t vs.toArray cells hb
  unfold Runs execOp
  simp only [ho, hq, Sem.run_bind, hr, Result.andThen_ok, Sem.run_pure]
theorem ar_nil {f : Operand → Value} : ([] : List Operand).map f = [] := rfl
theorem ar_cons {f : Operand → Value} {x : Operand} {v : Value} {l : List Operand} {r : List Value} (h : f x = v) (k : l.map f = r) : (x :: l).map f = v :: r := by rw [List.map_cons, k, h]
theorem op_callL {f : FuncId} {fn : Func} {args : List Operand} {tys : Array TypeId} {vs : List Value} (hf : P.funcs[f]? = some fn) (hname : (fn.name == "runtime.NumGoroutine") = false) (hb : fn.body.isSome = true) (ho : o.op = .call { callee := .value (.func f), args := args.toArray, argTypes := tys }) (hv : args.map a.eval = vs) : Enters P o a w f vs.toArray :=
  op_call hf hname hb ho (by rw [List.map_toArray, hv])
end
section
variable {D : List Deferred} {P : Program} {ops : Array Oper} {Q : Exit → Act → World → Prop} {rest : List Oper} {o : Oper} {N : Nat} {a : Act} {F : List (Nat × Value)} {w w0 : World} {L : List Chunk}
theorem gw_setn {g : Nat} {cs cs' : Array Value} {T : TypeId} (i : Nat) (HF : FrD D N a F) (HO : Own w0 w L) (hi : L[i]? = some (Chunk.blk g (.cells cs T (0, 0)))) (hw : Region.wanted o (yielded ops a.tmps) = true) (hd : o.dst = none) (hrun : Skips P o a w (w.setRow g cs'))
    (k : ∀ a' w1, FrD D N a' F → Own w0 w1 (L.set i (Chunk.blk g (.cells cs' T (0, 0)))) → wpList P ops Q rest a' w1) : wpList P ops Q (o :: rest) a w := by
  have hg : w.heap[g]? = some (.cells cs T (0, 0)) := HO.get i hi
  have hl := (HO.lt i hi (k := g) rfl).2
  refine gw_skip HF hw hd hrun fun a' HF' => k a' _ HF' (HO.calls (cs := []) i hi ?_)
  have hsz : (w.setRow g cs').heap.size = w.heap.size := by simp [World.setRow]
  refine (Out.one (S := fun k => k = g) (c := Chunk.blk g (.cells cs' T (0, 0))) ⟨rfl, rfl, rfl, by rw [hsz]; exact Nat.le_refl _, fun q _ hq => ?_, fun _ h => by simp at h, fun _ h => by simp at h, List.Pairwise.nil⟩ ?_ ?_)
  · have hne : q ≠ g := hq
    simp [World.setRow, Array.getElem?_modify, Ne.symm hne]
  · show (w.setRow g cs').heap[g]? = _
    simp [World.setRow, Array.getElem?_modify, hg]
  · intro q hq
    have : q = g := hq
    subst this
    exact ⟨.inl rfl, by rw [hsz]; exact hl⟩
/-- A store into a row of whole numbers of the call's own. -/
theorem gw_row {k : IntKind} {e base c n : Nat} {S : Nat → Prop} {ad : Addr} {xs : List Int} {t : TypeId} {x y : Operand} {it u : Int} (i : Nat) (HF : FrD D N a F) (HO : Own w0 w L) (hi : L[i]? = some (Chunk.row (Kd.int k) e base S (.slice (some ad) n c) xs)) (hw : Region.wanted o (yielded ops a.tmps) = true) (hd : o.dst = none)
    (hS : ∀ w, (sizeOf t).run P w = .ok 1 w) (h0 : 0 ≤ it) (h1 : it < xs.length) (ho : o.op = .store t x y) (hx : a.eval x = .pointer (some (ad.add (it.toNat * 1)))) (hy : a.eval y = .int k u)
    (kk : ∀ a' w1, FrD D N a' F → Own w0 w1 (L.set i (Chunk.row (Kd.int k) e base S (.slice (some ad) n c) (xs.set it.toNat u))) → wpList P ops Q rest a' w1) : wpList P ops Q (o :: rest) a w := by
  have hR : (Kd.int k).R e w base S (.slice (some ad) n c) xs := HO.get i hi
  have hc := row_cell hR it h0 h1
  have hp := row_put hR it u h0 h1
  refine gw_skip HF hw hd (op_store1 hS ho hx hy rfl hc.1 hc.2) fun a' HF' => kk a' _ HF' (HO.calls (cs := []) i hi ?_)
  refine Out.one (c := Chunk.row (Kd.int k) e base S (.slice (some ad) n c) (xs.set it.toNat u)) ((Out.refl w S).setCell (.inl hp.2) _) hp.1 ?_
  intro q hq
  exact ⟨.inl hq, by have := (HO.lt i hi hq).2; simpa [World.setCell] using this⟩
end
/-! slices -/
section
variable {P : Program} {o : Oper} {a : Act} {w : World} {x y : Operand} {t e : TypeId}
theorem op_conv_str {A : Option Addr} {n c : Nat} {u : TypeId} {xs : List Int} (hs : P.underlying t = some (.slice e)) (he : P.underlying e = some (.int .u8)) (hd : P.underlying u = some .string) (hC : (Kd.int .u8).C w A n xs) (ho : o.op = .convert t u x) (hx : a.eval x = .slice A n c) : Runs P o a w (.string (strOfNums xs)) w := by
  unfold Runs execOp
  simp only [ho, hx, Sem.run_bind, Kd.C_string hs he hd hC, Result.andThen_ok, Sem.run_pure]
theorem op_cut {v u : Value} {lo hi : Option Operand} {lo' hi' : Option Value} (ht : P.underlying t = some (.slice e)) (hr : ∀ W, (Instr.slice t v lo' hi' none).run P W = .ok u W) (ho : o.op = .slice t x lo hi none) (hx : a.eval x = v) (hlo : lo.map a.eval = lo') (hhi : hi.map a.eval = hi') : Runs P o a w u w := by
  have hel : P.elem t = e := by simp [Program.elem, ht]
  have hu : P.underlying t = some (.slice (P.elem t)) := by rw [hel]; exact ht
  unfold Runs execOp
  simp only [ho, hx, hlo, hhi, Option.map_none, Sem.run_bind, run_sliceAt_slice w t v lo' hi' none hu, hr, Result.andThen_ok, Sem.run_pure]
theorem some_ev {z : Operand} {v : Value} (h : a.eval z = v) : (some z).map a.eval = some v := by rw [Option.map_some, h]
variable {α : Type} {d : Kd α}
theorem cut_lo (ht : P.underlying t = some (.slice e)) (hS : ∀ w, (sizeOf e).run P w = .ok d.sz w) (A : Option Addr) (c : Nat) (xs : List α) (hc : xs.length ≤ c) (j : Int) (h0 : 0 ≤ j) (hj : j ≤ xs.length) :
    ∃ A' c', (∀ W : World, (Instr.slice t (.slice A xs.length c) (some (.int .i64 j)) none none).run P W = .ok (.slice A' (xs.drop j.toNat).length c') W) ∧ (xs.drop j.toNat).length ≤ c' ∧ (∀ W, d.C W A xs.length xs → d.C W A' (xs.drop j.toNat).length (xs.drop j.toNat)) ∧ ∀ ad, A' = some ad → ∃ ad0, A = some ad0 ∧ ad.block = ad0.block := by
  have hl : (xs.drop j.toNat).length = xs.length - j.toNat := List.length_drop
  obtain ⟨i, hi, hz⟩ : ∃ i : TypeInfo, P.info? e = some i ∧ i.size = d.sz := by
    have := hS default
    cases h : P.info? e with
    | none => simp [sizeOf, typeInfo, h] at this
    | some i => exact ⟨i, rfl, by simpa [sizeOf, typeInfo, h] using this⟩
  refine ⟨_, c - j.toNat, fun W => ?_, by omega, fun W h => Kd.C_drop h (m := j.toNat) (by omega) hc, fun ad e => ?_⟩
  · rw [hl]
    exact cut_from t e .i64 ht hi d.sz hz A xs.length c j h0 hj W
  · by_cases hcj : c = j.toNat
    · rw [if_pos hcj] at e
      exact ⟨ad, e, rfl⟩
    · rw [if_neg hcj] at e
      cases A with
      | none => cases e
      | some ad0 =>
        refine ⟨ad0, rfl, ?_⟩
        rw [← Option.some.inj e]
        exact add_block _ _
theorem cut_hi (ht : P.underlying t = some (.slice e)) (hS : ∀ w, (sizeOf e).run P w = .ok d.sz w) (A : Option Addr) (c : Nat) (xs : List α) (hc : xs.length ≤ c) (j : Int) (h0 : 0 ≤ j) (hj : j ≤ xs.length) :
    (∀ W : World, (Instr.slice t (.slice A xs.length c) none (some (.int .i64 j)) none).run P W = .ok (.slice A (xs.take j.toNat).length c) W) ∧ (xs.take j.toNat).length ≤ c ∧ ∀ W, d.C W A xs.length xs → d.C W A (xs.take j.toNat).length (xs.take j.toNat) := by
  have hl : (xs.take j.toNat).length = j.toNat := by rw [List.length_take]; omega
  obtain ⟨i, hi, hz⟩ : ∃ i : TypeInfo, P.info? e = some i ∧ i.size = d.sz := by
    have := hS default
    cases h : P.info? e with
    | none => simp [sizeOf, typeInfo, h] at this
    | some i => exact ⟨i, rfl, by simpa [sizeOf, typeInfo, h] using this⟩
  refine ⟨fun W => ?_, by omega, fun W h => Kd.C_take h (by omega)⟩
  rw [hl]
  exact cut_to t e .i64 ht hi A xs.length c j h0 hj hc W
end
section
variable {D : List Deferred} {P : Program} {ops : Array Oper} {Q : Exit → Act → World → Prop} {rest : List Oper} {o : Oper} {N dd : Nat} {a : Act} {F : List (Nat × Value)} {w w0 : World} {L : List Chunk} {α : Type}
theorem gw_unguard (hw : Region.wanted o (yielded ops a.tmps) = true) (h : wpList P ops Q ({ o with guard := none } :: rest) a w) : wpList P ops Q (o :: rest) a w := by
  have hw2 : Region.wanted { o with guard := none } (yielded ops a.tmps) = true := want_none rfl
  unfold wpList at h ⊢
  rw [if_pos hw2] at h
  rw [if_pos hw]
  exact h
/-- append(v, ys...), v a row of the call's own. -/
theorem gw_append (d : Kd α) {e base : Nat} {S : Nat → Prop} {A B : Option Addr} {c m cc : Nat} {xs ys : List α} {s x : Operand} {t : TypeId} {z : Value} {bytes : Nat} (i : Nat) (HF : FrD D N a F) (HO : Own w0 w L) (hw : Region.wanted o (yielded ops a.tmps) = true) (hd : o.dst = some dd) (hN : dd < N)
    (ho : o.op = .call { callee := .builtin .append, args := #[s, x], argTypes := #[t, t] })
    (ht : P.underlying t = some (.slice e)) (hinfo : (P.info? e).map (fun i => (i.zero, i.size, i.bytes)) = some (some z, d.sz, bytes)) (hz : z.cells.size = d.sz) (hs0 : 0 < d.sz) (hb0 : 0 < bytes)
    (hi : L[i]? = some (Chunk.row d e base S (.slice A xs.length c) xs)) (hs : a.eval s = .slice A xs.length c) (hx : a.eval x = .slice B m cc) (hC : d.C w B m ys)
    (hKM : ∀ x cs, d.K w x cs → d.M w base (fun _ => False) x cs) (hbase : base ≤ w.heap.size) (hl : (xs.length + m) * bytes ≤ 140737488355328)
    (k : ∀ A' c' S' a' w1, FrD D N a' ((dd, .slice A' (xs ++ ys).length c') :: F) → Own w0 w1 (L.set i (Chunk.row d e base S' (.slice A' (xs ++ ys).length c') (xs ++ ys))) → wpList P ops Q rest a' w1) : wpList P ops Q (o :: rest) a w := by
  have hR : d.R e w base S (.slice A xs.length c) xs := HO.get i hi
  refine gw_unguard hw ?_
  refine Kd.R_append_rows d (Rr := d.K w) (w0 := w) base rfl s x t e z bytes ho ht hinfo hz hs0 hb0 _ xs ys B m cc (fun k => S k ∨ w.heap.size ≤ k) (fun _ => False) hs hx (Kd.R_mono hR (fun k hk => .inl hk)) hC hKM (fun _ hk => hk.elim) (fun k hk => .inr hk) (Below.refl _ _) hbase hl ?_
  intro v1 w1 h1 _ hgr _
  obtain ⟨A', c', rfl⟩ := Kd.R_slice h1
  show wpList P ops Q rest (a.put o.dst _) w1
  rw [hd]
  refine k A' c' (fun k => S k ∨ w.heap.size ≤ k ∧ k < w1.heap.size) _ w1 (HF.put hN _) (HO.calls (cs := []) i hi ?_)
  refine Out.one ((Out.refl w S).grown hgr (fun k e => .inl (hR.1 k e))) ?_ ?_
  · exact Kd.R_mono (Kd.R_bound h1) (fun k hk => hk.1.elim .inl (fun h => .inr ⟨h, hk.2.2.1⟩))
  · intro k hk
    rcases hk with hk | hk
    · exact ⟨.inl hk, Nat.lt_of_lt_of_le (HO.lt i hi hk).2 hgr.size⟩
    · exact ⟨.inr hk.1, hk.2⟩
/-- A literal row of scalars. -/
theorem gw_lit {enc : α → Value} (h1 : ∀ x, (enc x).oneCell' = true) {e : Nat} {xs : List α} (HF : FrD D N a F) (HO : Own w0 w L) (hw : Region.wanted o (yielded ops a.tmps) = true) (hd : o.dst = some dd) (hN : dd < N)
    (hrun : Runs P o a w (.slice (some ⟨w.heap.size, 0, none⟩) xs.length xs.length) (w.alloc (.cells (encs enc xs).toArray e (0, 0)))) (hm : xs.length ≤ 9223372036854775807)
    (k : ∀ A S a' w1, FrD D N a' ((dd, .slice A xs.length xs.length) :: F) → Own w0 w1 (Chunk.row (Kd.scalar enc h1) e w0.heap.size S (.slice A xs.length xs.length) xs :: L) → wpList P ops Q rest a' w1) : wpList P ops Q (o :: rest) a w := by
  refine gw_ev HF hw hd hN hrun fun a' HF' => k _ (fun q => w.heap.size ≤ q ∧ q < (w.alloc (.cells (encs enc xs).toArray e (0, 0))).heap.size) a' _ HF' ?_
  have hb := below_alloc (Below.refl w.heap.size w) (.cells (encs enc xs).toArray e (0, 0))
  have ho := own_lit_of (enc := enc) w w0.heap.size e xs HO.below.size hm
  have hR : (Kd.scalar enc h1).R e (w.alloc (.cells (encs enc xs).toArray e (0, 0))) w0.heap.size (fun q => w.heap.size ≤ q ∧ q < (w.alloc (.cells (encs enc xs).toArray e (0, 0))).heap.size) (.slice (some ⟨w.heap.size, 0, none⟩) xs.length xs.length) xs :=
    Kd.R_of_own ho (fun q hq => by
      have : w.heap.size = q := by simpa [Value.ownBlock] using hq
      subst this
      exact ⟨Nat.le_refl _, by simp⟩)
  refine HO.fresh (cs := [_]) ⟨hb.os, hb.tape, hb.output, hb.size, fun k hk _ => hb.block k hk, fun c hc => ?_, fun c hc q hq => ?_, List.pairwise_singleton _ _⟩
  · rw [List.mem_singleton.1 hc]
    exact hR
  · rw [List.mem_singleton.1 hc] at hq
    exact ⟨.inr hq.1, hq.2⟩
end
section
variable {D : List Deferred} {P : Program} {ops : Array Oper} {Q : Exit → Act → World → Prop} {rest : List Oper} {o o2 : Oper} {N d d2 : Nat} {a : Act} {F : List (Nat × Value)} {w w0 : World} {L : List Chunk} {t e : TypeId}
theorem op_bslice {n : Nat} {parts : List (Nat × Operand)} {vs : List (Nat × Value)} {v : Value} {w1 : World} (hr : (Instr.buildSlice t n vs.toArray).run P w = .ok v w1) (ho : o.op = .buildSlice t n parts.toArray) (hp : parts.map (fun p => (p.1, a.eval p.2)) = vs) : Runs P o a w v w1 := by
  have hq : parts.toArray.map (fun p => (p.1, a.eval p.2)) = vs.toArray := by rw [List.map_toArray, hp]
  unfold Runs execOp
  simp only [ho, hq, Sem.run_bind, hr, Result.andThen_ok, Sem.run_pure]
theorem blkC {g : Nat} {xs : List Int} {fr : Nat × Nat} (h : w.heap[g]? = some (.cells (nums .u8 xs).toArray e fr)) (hm : xs.length ≤ 9223372036854775807) : (Kd.int .u8).C w (some ⟨g, 0, none⟩) xs.length xs := by
  refine Kd.C_of_reads (d := (0 : Int)) (h1 := fun _ => rfl) ⟨rfl, hm, fun _ => ⟨_, rfl, fun j hj => ?_⟩⟩
  rw [add_plain, cell_of_row w g j _ e fr h]
  simp [nums, List.getElem?_eq_getElem hj, List.getD_eq_getElem?_getD]
/-- []byte("..") -/
theorem gw_bytes {xs : List Int} (ht : P.underlying t = some (.slice e)) (he : P.underlying e = some (.int .u8)) (HF : FrD D N a F) (HO : Own w0 w L) (hw : Region.wanted o (yielded ops a.tmps) = true) (hd : o.dst = some d) (hN : d < N)
    (hrun : Runs P o a w (.slice (some ⟨w.heap.size, 0, none⟩) xs.length xs.length) (w.alloc (.cells (nums .u8 xs).toArray e (0, 0))))
    (hw2 : ∀ a', FrD D N a' ((d, .slice (some ⟨w.heap.size, 0, none⟩) xs.length xs.length) :: F) → Region.wanted o2 (yielded ops a'.tmps) = true) (hd2 : o2.dst = some d2) (hN2 : d2 < N) (ho2 : o2.op = .convert t t (.tmp d))
    (k : ∀ g a' w1, FrD D N a' ((d2, .slice (some ⟨g, 0, none⟩) xs.length xs.length) :: (d, .slice (some ⟨g, 0, none⟩) xs.length xs.length) :: F) → Own w0 w1 (Chunk.blk g (.cells (nums .u8 xs).toArray e (xs.length, xs.length + 1)) :: L) → wpList P ops Q rest a' w1) : wpList P ops Q (o :: o2 :: rest) a w := by
  refine gw_ev HF hw hd hN hrun fun a1 HF1 => ?_
  have hl : look ((d, Value.slice (some ⟨w.heap.size, 0, none⟩) xs.length xs.length) :: F) d = some (.slice (some ⟨w.heap.size, 0, none⟩) xs.length xs.length) := by
    show (bif Nat.beq d d then _ else _) = _
    rw [Nat.beq_refl]
    rfl
  have hx := HF1.ev hl
  have hcv := Lib.run_convert_bytes_const (P := P) w t e (nums .u8 xs).toArray xs.length xs.length ht he
  have hsz : (nums .u8 xs).toArray.size = xs.length := by simp [nums]
  rw [hsz] at hcv
  have hrun2 : Runs P o2 a1 (w.alloc (.cells (nums .u8 xs).toArray e (0, 0))) (.slice (some ⟨w.heap.size, 0, none⟩) xs.length xs.length) (w.alloc (.cells (nums .u8 xs).toArray e (xs.length, xs.length + 1))) := by
    unfold Runs execOp
    simp only [ho2, hx, Sem.run_bind, hcv, Result.andThen_ok, Sem.run_pure]
  exact gw_ev HF1 (hw2 a1 HF1) hd2 hN2 hrun2 fun a2 HF2 => k _ a2 _ HF2 (HO.new _)
end
theorem Own.mapc {w0 w : World} {L : List Chunk} {c c' : Chunk} (h : Own w0 w L) (i : Nat) (hi : L[i]? = some c) (hS : ∀ k, c'.S k → c.S k) (hP : ∀ w, c.P w → c'.P w) : Own w0 w (L.set i c') := by
  refine h.calls (cs := []) i hi (Out.one (Out.refl w _) (hP w (h.get i hi)) fun k hk => ⟨.inl (hS k hk), (h.lt i hi (hS k hk)).2⟩)
theorem Own.lowrow {α : Type} {d : Kd α} {e base base' : Nat} {S : Nat → Prop} {v : Value} {xs : List α} {w0 w : World} {L : List Chunk} (h : Own w0 w L) (i : Nat) (hi : L[i]? = some (Chunk.row d e base S v xs)) (hb : base' ≤ base) : Own w0 w (L.set i (Chunk.row d e base' S v xs)) :=
  h.mapc i hi (fun _ hk => hk) (fun _ hr => Kd.R_lower hr hb)
section
end
theorem row_in {α : Type} {d : Kd α} {e base n c : Nat} {S : Nat → Prop} {A : Option Addr} {xs : List α} {w : World} (h : d.R e w base S (.slice A n c) xs) {ad : Addr} (e1 : A = some ad) : S ad.block := by
  subst e1
  exact h.1 ad.block (by simp [Value.ownBlock])
section
end
theorem arg_out {k : IntKind} {A : Option Addr} {n : Nat} {xs : List Int} {w0 w : World} {L : List Chunk} {c : Chunk} (HO : Own w0 w L) (hC : (Kd.int k).C w0 A n xs) (i : Nat) (hi : L[i]? = some c) : 0 < n → ∀ ad, A = some ad → ¬ c.S ad.block := by
  intro hn ad e hS
  have hr := (Kd.reads_of_C (d := (0 : Int)) (h1 := fun _ => rfl) hC : ReadsOf (Value.int k) (0 : Int) w0 A n xs)
  obtain ⟨ad', e', hc⟩ := hr.2.2 hn
  rw [e] at e'
  injection e' with e'
  subst e'
  have h1 := World.block_lt_of_cell? w0 _ (hc 0 hn)
  rw [add_block] at h1
  have := (HO.lt i hi hS).1
  omega
section
end
end Go.Proofs.Ytjndcgochnaodaa.PA

/- More operations' laws: bits, division, conversions of numbers, strings. -/
namespace Go.Proofs.Ytjndcgochnaodaa.PA
open Go.RowKit Go.Proofs.YtjndcgochnaodaaW.PrintWords Go.Proofs.YtjndcgochnaodaaW.PrintLast Go.Proofs.YtjndcgochnaodaaW.PrintMore
set_option linter.unusedVariables false
set_option linter.unusedSimpArgs false
variable {P : Program} {o : Oper} {a : Act} {w : World} {x y : Operand} {t yt : TypeId} {m n : Int} {k k' : IntKind}
theorem op_and (ho : o.op = .binOp .and t x y yt) (hx : a.eval x = .int k m) (hy : a.eval y = .int k n) : Runs P o a w (.int k (bits .and k m n)) w := by
  unfold Runs execOp
  simp only [ho, hx, hy]
  simp [go_sem]
theorem op_or (ho : o.op = .binOp .or t x y yt) (hx : a.eval x = .int k m) (hy : a.eval y = .int k n) : Runs P o a w (.int k (bits .or k m n)) w := by
  unfold Runs execOp
  simp only [ho, hx, hy]
  simp [go_sem]
theorem op_xor (ho : o.op = .binOp .xor t x y yt) (hx : a.eval x = .int k m) (hy : a.eval y = .int k n) : Runs P o a w (.int k (bits .xor k m n)) w := by
  unfold Runs execOp
  simp only [ho, hx, hy]
  simp [go_sem]
theorem op_rem (ho : o.op = .binOp .rem t x y yt) (hx : a.eval x = .int k m) (hy : a.eval y = .int k n) (h0 : n ≠ 0) : Runs P o a w (.int k (m.tmod n)) w := by
  unfold Runs execOp
  simp only [ho, hx, hy]
  simp [go_sem, h0]
theorem op_quo (ho : o.op = .binOp .quo t x y yt) (hx : a.eval x = .int k m) (hy : a.eval y = .int k n) (h0 : n ≠ 0) : Runs P o a w (.int k (k.wrap (m.tdiv n))) w := by
  unfold Runs execOp
  simp only [ho, hx, hy]
  simp [go_sem, h0]
theorem op_shl (ho : o.op = .binOp .shl t x y yt) (hx : a.eval x = .int k m) (hy : a.eval y = .int k' n) (h0 : ¬ n < 0) : Runs P o a w (.int k (k.wrap (m * 2 ^ (min n.toNat k.bits)))) w := by
  unfold Runs execOp
  simp only [ho, hx, hy]
  simp [go_sem, Op.shift, h0]
theorem op_shr (ho : o.op = .binOp .shr t x y yt) (hx : a.eval x = .int k m) (hy : a.eval y = .int k' n) (h0 : ¬ n < 0) : Runs P o a w (.int k (m.fdiv (2 ^ (min n.toNat k.bits)))) w := by
  unfold Runs execOp
  simp only [ho, hx, hy]
  simp [go_sem, Op.shift, h0]
theorem op_conv_int {s d : TypeId} (hs : P.underlying s = some (.int k)) (hd : P.underlying d = some (.int k')) (ho : o.op = .convert s d x) (hx : a.eval x = .int k m) : Runs P o a w (.int k' (k'.wrap m)) w := by
  unfold Runs execOp
  simp only [ho, hx]
  simp [go_sem, hs, hd]
theorem op_adds {s u : ByteArray} (ho : o.op = .binOp .add t x y yt) (hx : a.eval x = .string s) (hy : a.eval y = .string u) (hl : ((s.size + u.size : Nat) : Int) ≤ 9223372036854775807) : Runs P o a w (.string (s ++ u)) w := by
  unfold Runs execOp
  simp only [ho, hx, hy]
  simp [go_sem]
  omega
section
variable {e : TypeId} {α : Type} {d : Kd α}
theorem cut_lh (ht : P.underlying t = some (.slice e)) (hS : ∀ w, (sizeOf e).run P w = .ok d.sz w) (A : Option Addr) (c : Nat) (xs : List α) (hc : xs.length ≤ c) (i j : Int) (h0 : 0 ≤ i) (hij : i ≤ j) (hj : j ≤ xs.length) :
    ∃ A' c', (∀ W : World, (Instr.slice t (.slice A xs.length c) (some (.int .i64 i)) (some (.int .i64 j)) none).run P W = .ok (.slice A' ((xs.drop i.toNat).take (j - i).toNat).length c') W) ∧ ((xs.drop i.toNat).take (j - i).toNat).length ≤ c' ∧ (∀ W, d.C W A xs.length xs → d.C W A' ((xs.drop i.toNat).take (j - i).toNat).length ((xs.drop i.toNat).take (j - i).toNat)) ∧ ∀ ad, A' = some ad → ∃ ad0, A = some ad0 ∧ ad.block = ad0.block := by
  have hl : ((xs.drop i.toNat).take (j - i).toNat).length = (j - i).toNat := by rw [List.length_take, List.length_drop]; omega
  obtain ⟨q, hi, hz⟩ : ∃ i : TypeInfo, P.info? e = some i ∧ i.size = d.sz := by
    have := hS default
    cases h : P.info? e with
    | none => simp [sizeOf, typeInfo, h] at this
    | some i => exact ⟨i, rfl, by simpa [sizeOf, typeInfo, h] using this⟩
  refine ⟨_, c - i.toNat, fun W => ?_, by omega, fun W h => Kd.C_take (Kd.C_drop h (m := i.toNat) (by omega) hc) (by rw [List.length_drop]; omega), fun ad e => ?_⟩
  · rw [hl, show (j - i).toNat = j.toNat - i.toNat by omega]
    exact cut_mid t e .i64 .i64 ht hi d.sz hz A xs.length c i j h0 hij hj hc W
  · by_cases hcj : c = i.toNat
    · rw [if_pos hcj] at e
      exact ⟨ad, e, rfl⟩
    · rw [if_neg hcj] at e
      cases A with
      | none => cases e
      | some ad0 =>
        refine ⟨ad0, rfl, ?_⟩
        rw [← Option.some.inj e]
        exact add_block _ _
end
section
variable {D : List Deferred} {fn : Func} {R : Ending → World → Prop} {N : Nat} {F : List (Nat × Value)} {v v1 v2 v3 v4 : Value} {r1 r2 r3 r4 : ResultVar}
def RVm (tmps : Array Value) : ResultVar → Sem Value
  | .tmp t => pure (tmps.getD t undef)
  | .cell x t => do loadVar t (← asAddr (tmps.getD x undef))
def RV (P : Program) (a : Act) (w : World) (r : ResultVar) (v : Value) : Prop := (RVm a.tmps r).run P w = .ok v w
theorem results_eq (fn : Func) (tmps : Array Value) : results fn tmps = (do
    let vs ← fn.results.mapM (RVm tmps)
    pure (if h : vs.size = 1 then vs[0] else .tuple vs)) := by
  unfold results
  congr 1
theorem rv_tmp {d : Nat} (HF : FrD D N a F) (hl : look F d = some v) : RV P a w (.tmp d) v := by
  unfold RV RVm
  exact congrArg (fun v => Result.ok v w) (HF.ev hl)
theorem rv_cell1 {d : Nat} {ad : Addr} (HF : FrD D N a F) (hl : look F d = some (.pointer (some ad))) (hA : ∀ w, (isAgg t).run P w = .ok false w) (hc : w.cell? ad = some v) : RV P a w (.cell d t) v := by
  have he : a.tmps.getD d undef = .pointer (some ad) := HF.ev hl
  unfold RV RVm
  simp only [he]
  simp [asAddr, loadVar, hA, hc, go_sem]
theorem rv_celln {d g n : Nat} {cs : Array Value} {T : TypeId} (HF : FrD D N a F) (hl : look F d = some (.pointer (some ⟨g, 0, none⟩))) (hA : ∀ w, (isAgg t).run P w = .ok true w) (hS : ∀ w, (sizeOf t).run P w = .ok n w)
    (hb : w.heap[g]? = some (.cells cs T (0, 0))) (hn : cs.size = n) : RV P a w (.cell d t) (.agg cs) := by
  have he : a.tmps.getD d undef = .pointer (some ⟨g, 0, none⟩) := HF.ev hl
  have hr := run_loadCells_list (P := P) (w := w) ⟨g, 0, none⟩ cs.toList (fun j v hv => by
    rw [add_at, blk_cell hb, ← Array.getElem?_toList]
    simpa using hv)
  rw [Array.length_toList, hn] at hr
  unfold RV RVm
  simp only [he]
  simp [asAddr, loadVar, hA, hS, hr]
theorem gw_rets1 (HF : Fr N a F) (hr : fn.results = #[r1]) (h1 : RV P a w r1 v1) (h : R (.returned v1) w) : bodyPost P fn R .ret a w := by
  refine bodyPost_ret (v := v1) ?_ HF.defers h
  unfold RV at h1
  rw [results_eq, hr]
  simp [h1]
theorem gw_rets2 (HF : Fr N a F) (hr : fn.results = #[r1, r2]) (h1 : RV P a w r1 v1) (h2 : RV P a w r2 v2) (h : R (.returned (.tuple #[v1, v2])) w) : bodyPost P fn R .ret a w := by
  refine bodyPost_ret (v := .tuple #[v1, v2]) ?_ HF.defers h
  unfold RV at h1 h2
  rw [results_eq, hr]
  simp [h1, h2]
theorem gw_rets3 (HF : Fr N a F) (hr : fn.results = #[r1, r2, r3]) (h1 : RV P a w r1 v1) (h2 : RV P a w r2 v2) (h3 : RV P a w r3 v3) (h : R (.returned (.tuple #[v1, v2, v3])) w) : bodyPost P fn R .ret a w := by
  refine bodyPost_ret (v := .tuple #[v1, v2, v3]) ?_ HF.defers h
  unfold RV at h1 h2 h3
  rw [results_eq, hr]
  simp [h1, h2, h3]
theorem gw_rets4 (HF : Fr N a F) (hr : fn.results = #[r1, r2, r3, r4]) (h1 : RV P a w r1 v1) (h2 : RV P a w r2 v2) (h3 : RV P a w r3 v3) (h4 : RV P a w r4 v4) (h : R (.returned (.tuple #[v1, v2, v3, v4])) w) : bodyPost P fn R .ret a w := by
  refine bodyPost_ret (v := .tuple #[v1, v2, v3, v4]) ?_ HF.defers h
  unfold RV at h1 h2 h3 h4
  rw [results_eq, hr]
  simp [h1, h2, h3, h4]
theorem op_conv_inb {s d : TypeId} (hs : P.underlying s = some (.int k)) (hd : P.underlying d = some (.int .i64)) (ho : o.op = .convert s d x) (hx : a.eval x = .int k m) (hb : -9223372036854775808 ≤ m ∧ m ≤ 9223372036854775807) : Runs P o a w (.int .i64 m) w := by
  have := op_conv_int (w := w) hs hd ho hx
  rwa [i64_ok hb.1 hb.2] at this
end
/-! ### Rows that are only read, wherever in a block they begin -/
section
variable {α : Type} {d : Kd α} {S : Nat → Prop} {A A' : Option Addr} {n n' c c' e base : Nat} {xs ys : List α} {w0 : World} {L : List Chunk}
def Chunk.view (d : Kd α) (S : Nat → Prop) (A : Option Addr) (n c : Nat) (xs : List α) : Chunk := ⟨S, fun w => d.F w S A n xs ∧ n ≤ c ∧ ∀ ad, A = some ad → S ad.block, fun h hm => ⟨Kd.F_step h.1 (fun k hk _ => hm k hk), h.2⟩⟩
theorem Own.row_view (h : Own w0 w L) (i : Nat) (hi : L[i]? = some (Chunk.row d e base S (.slice A n c) xs)) : Own w0 w (L.set i (Chunk.view d S A n c xs)) :=
  h.mapc i hi (fun _ hk => hk) (fun _ hr => ⟨Kd.Q_F (Kd.Q_of_R hr), by have := Kd.R_reads' hr; omega, fun ad e => row_in hr e⟩)
theorem Own.view_cut (h : Own w0 w L) (i : Nat) (hi : L[i]? = some (Chunk.view d S A n c xs)) (hc : n' ≤ c') (hC : ∀ w, d.C w A n xs → d.C w A' n' ys) (hA : ∀ ad, A' = some ad → ∃ ad0, A = some ad0 ∧ ad.block = ad0.block) : Own w0 w (L.set i (Chunk.view d S A' n' c' ys)) :=
  h.mapc i hi (fun _ hk => hk) (fun _ hr => ⟨fun W' hW => hC W' (hr.1 W' hW), hc, fun ad e => by obtain ⟨ad0, e0, hb⟩ := hA ad e; rw [hb]; exact hr.2.2 ad0 e0⟩)
theorem Own.view_nil (h : Own w0 w L) (d : Kd α) : Own w0 w (Chunk.view d (fun _ => False) none 0 0 [] :: L) :=
  h.fresh (cs := [_]) (Out.one (Out.refl w _) (c := Chunk.view d (fun _ => False) none 0 0 []) ⟨fun W' _ => Kd.C_nil _ _, Nat.le_refl _, fun _ e => by cases e⟩ (fun _ hk => hk.elim))
theorem view_C (h : (Chunk.view d S A n c xs).P w) : d.C w A n xs := Kd.F_now h.1
theorem view_le (h : (Chunk.view d S A n c xs).P w) : n ≤ c := h.2.1
theorem view_in (h : (Chunk.view d S A n c xs).P w) {ad : Addr} (e1 : A = some ad) : S ad.block := h.2.2 ad e1
theorem Own.out (h : Own w0 w L) : Out w0 w (fun _ => False) L := ⟨h.below.os, h.below.tape, h.below.output, h.below.size, fun k hk _ => h.below.block k hk, h.holds, fun c hc k hk => ⟨.inr (h.inside c hc k hk).1, (h.inside c hc k hk).2⟩, h.apart⟩
theorem rd_is (xs : List Int) (i : Nat) : rd xs (i : Int) = xs.getD i 0 := by unfold rd; rw [Int.toNat_natCast]
theorem take_snoc (xs : List Int) (i : Int) (h0 : 0 ≤ i) (h1 : i < xs.length) : xs.take i.toNat ++ [xs.getD i.toNat 0] = xs.take (i + 1).toNat := by
  have e : (i + 1).toNat = i.toNat + 1 := by omega
  have hlt : i.toNat < xs.length := by omega
  rw [e, List.take_add_one, List.getD_eq_getElem?_getD, List.getElem?_eq_getElem hlt]
  rfl
theorem drop_one_more (xs : List α) (k : Int) (h0 : 0 ≤ k) : (xs.drop k.toNat).drop (1 : Int).toNat = xs.drop (k + 1).toNat := by
  have e : (k + 1).toNat = k.toNat + 1 := by omega
  rw [List.drop_drop, e]
  rfl
theorem getD_mem (xs : List α) (i : Nat) {z : α} (h : i < xs.length) : xs.getD i z ∈ xs := by
  rw [List.getD_eq_getElem?_getD, List.getElem?_eq_getElem h]
  exact List.getElem_mem h
theorem mnx_le (n : Int) (l : Nat) : (mn (mx n 0) (l : Int)).toNat ≤ l := by
  unfold mn mx
  (repeat' split) <;> omega
theorem cellsn {w : World} {ad : Addr} {m : Nat} {cs : List Value} (h : ∀ j u, cs[j]? = some u → w.cell? (ad.add (m + j)) = some u) : ∀ j u, cs[j]? = some u → w.cell? ((ad.add m).add j) = some u :=
  fun j u hj => by rw [add_add]; exact h j u hj
theorem cellsb {w wq : World} {ad : Addr} {m : Nat} {cs : List Value} (hq : Below w.heap.size w wq) (h : ∀ j u, cs[j]? = some u → w.cell? (ad.add (m + j)) = some u) : ∀ j u, cs[j]? = some u → wq.cell? ((ad.add m).add j) = some u :=
  fun j u hj => cellb hq (cellsn h j u hj)
theorem want_undef {D : List Deferred} {ops : Array Oper} {N : Nat} {a : Act} {F : List (Nat × Value)} {o : Oper} (HF : FrD D N a F) {j dj : Nat} {oj : Oper} {b : Bool} (hg : o.guard = some (j, b)) (hj : ops[j]? = some oj) (hdj : oj.dst = some dj) (hl : look F dj = some undef) : Region.wanted o (yielded ops a.tmps) = false := by
  have hy : yielded ops a.tmps j = none := by simp [yielded, hj, hdj, HF.at_ _ _ hl, undef]
  simp [Region.wanted, hg, hy]
end
end Go.Proofs.Ytjndcgochnaodaa.PA

/- Regions whose order is drawn, with calls and memory-making among their operations. -/
namespace Go.Proofs.Ytjndcgochnaodaa.PA
open Go.RowKit Go.Proofs.YtjndcgochnaodaaW.PrintWords Go.Proofs.YtjndcgochnaodaaW.PrintLast Go.Proofs.YtjndcgochnaodaaW.PrintMore
set_option linter.unusedVariables false
set_option linter.unusedSimpArgs false
section
variable {P : Program} {ops : Array Oper} {Q : Exit → Act → World → Prop} {md : Region.Mode} {S : World → Prop} {B : Nat → Bool}
/-- Whatever order is picked from here on; S holds behind every operation but those of B. -/
def wpX (P : Program) (md : Region.Mode) (ops : Array Oper) (Q : Exit → Act → World → Prop) (S : World → Prop) (B : Nat → Bool) : Nat → Array Bool → Act → World → Prop
  | 0, listed, a, w => Region.ready md ops listed = [] ∧ Q .normal a w
  | fuel + 1, listed, a, w =>
    (Region.ready md ops listed = [] → Q .normal a w) ∧
    ∀ i ∈ Region.ready md ops listed, wpOp P ops Q i (fun a' w' => (B i = false → S w') ∧ wpX P md ops Q S B fuel (listed.setIfInBounds i true) a' w') a w
theorem wpAny_of_X : ∀ (fuel : Nat) (listed : Array Bool) (a : Act) (w : World), wpX P md ops Q S B fuel listed a w → wpAny P md ops Q fuel listed a w
  | 0, _, _, _, h => h
  | fuel + 1, _, _, _, h => ⟨h.1, fun i hi => wpOp_mono (fun a' w' h' => wpAny_of_X fuel _ a' w' h'.2) (h.2 i hi)⟩
theorem wpX_first {i : Nat} {oi : Oper} {v : Value} (hi : ops[i]? = some oi) (hsel : ∀ (j : Nat) (o : Oper) cs b, ops[j]? = some o → o.op ≠ .select cs b)
    (hQ : ∀ c a w, Q (.panic c) (a.put oi.dst v) w → Q (.panic c) a w)
    (hB : ∀ j oj, ops[j]? = some oj → B j = true → j ≠ i → ∃ e ∈ oj.after, Region.binds md e = true ∧ e.on = i) :
    ∀ (fuel : Nat) (listed : Array Bool) (a : Act) (w : World),
      (∀ j oj, ops[j]? = some oj → j ≠ i → listed.getD j true = false → (∀ e ∈ oj.after, Region.binds md e = true → e.on ≠ i) → oi.apart ops oj = true) →
      i ∈ Region.ready md ops listed → YieldsIf P ops S oi v a → S w →
      wpX P md ops Q S B fuel (listed.setIfInBounds i true) (a.put oi.dst v) w → wpX P md ops Q S B (fuel + 1) listed a w := by
  intro fuel
  induction fuel with
  | zero =>
    intro listed a w _ hr hy hS H
    refine ⟨fun h => (by rw [h] at hr; cases hr), fun j hj => ?_⟩
    by_cases hji : j = i
    · subst hji; exact hy.wpOp hi hS ⟨fun _ => hS, H⟩
    · have := ready_mono hj hji
      rw [H.1] at this
      cases this
  | succ fuel ih =>
    intro listed a w hfree hr hy hS H
    refine ⟨fun h => (by rw [h] at hr; cases hr), fun j hj => ?_⟩
    by_cases hji : j = i
    · subst hji; exact hy.wpOp hi hS ⟨fun _ => hS, H⟩
    · have h1 := H.2 j (ready_mono hj hji)
      obtain ⟨hjun, oj, hoj, hall⟩ := mem_ready.1 hj
      have hnot : ∀ e ∈ oj.after, Region.binds md e = true → e.on ≠ i := fun e he hb heq => by
        have h1 := hall e he hb
        have h0 := (mem_ready.1 hr).1
        rw [heq] at h1
        rcases Nat.lt_or_ge i listed.size with h' | h'
        · simp [h'] at h0 h1; rw [h0] at h1; cases h1
        · simp [Array.getElem?_eq_none h'] at h1
      have hBj : B j = false := by
        cases hb : B j with
        | false => rfl
        | true =>
          obtain ⟨e, he, hb1, hb2⟩ := hB j oj hoj hb hji
          exact absurd hb2 (hnot e he hb1)
      have h2 := wpOp_putIf hoj (hfree j oj hoj hji hjun hnot) (fun cs b => hsel i oi cs b hi) (fun cs b => hsel j oj cs b hoj) hQ hy h1
      have hfree' : ∀ k ok, ops[k]? = some ok → k ≠ i → (listed.setIfInBounds j true).getD k true = false →
          (∀ e ∈ ok.after, Region.binds md e = true → e.on ≠ i) → oi.apart ops ok = true := fun k ok hk hki hun hno => by
        refine hfree k ok hk hki ?_ hno
        by_cases hjk : j = k
        · subst hjk; exact hjun
        · rw [getD_set_ne true hjk] at hun; exact hun
      refine wpOp_mono (fun a' w' h3 => ⟨h3.2.1, ih (listed.setIfInBounds j true) a' w' hfree' (ready_mono hr (Ne.symm hji)) h3.1 (h3.2.1 hBj) ?_⟩) h2
      rw [Array.setIfInBounds_comm _ _ hji]
      exact h3.2.2
/-- The operations of B wait for number i. -/
def waitedB (md : Region.Mode) (ops : Array Oper) (B : Nat → Bool) (i : Nat) : Bool :=
  (List.range ops.size).all fun j => !B j || j == i || match ops[j]? with
    | some oj => oj.after.any (fun e => Region.binds md e && e.on == i)
    | none => true
theorem waitedB_spec {i : Nat} (h : waitedB md ops B i = true) : ∀ j oj, ops[j]? = some oj → B j = true → j ≠ i → ∃ e ∈ oj.after, Region.binds md e = true ∧ e.on = i := by
  intro j oj hj hb hji
  have hlt : j < ops.size := (Array.getElem?_eq_some_iff.1 hj).1
  have := List.all_eq_true.1 h j (List.mem_range.2 hlt)
  rw [hj, hb] at this
  have hne : (j == i) = false := by simpa using hji
  rw [hne] at this
  simp only [Bool.not_true, Bool.false_or] at this
  obtain ⟨e, he, h2⟩ := Array.any_eq_true'.1 this
  simp only [Bool.and_eq_true, beq_iff_eq] at h2
  exact ⟨e, he, h2.1, h2.2⟩
end
section
variable {D : List Deferred} {P : Program} {ops : Array Oper} {Q : Exit → Act → World → Prop} {B : Nat → Bool} {N d : Nat} {a : Act} {F : List (Nat × Value)} {w0 w : World} {L M : List Chunk} {v : Value} {o : Oper}
/-- The kept part of what is owned. -/
def Held (w0 : World) (M : List Chunk) : World → Prop := fun w => Own w0 w M
theorem gx_draw {id : Nat} {l : List Oper} {M : List Chunk} (B : Nat → Bool) (HO : Own w0 w L) (hm : P.follows .mixedOrders = true)
    (h : ∀ w', Own w0 w' L → wpX P .any l.toArray (NoPanic Q) (Held w0 M) B l.length (Array.replicate l.length false) a w') : (Code.region id l.toArray true).wp P Q a w :=
  wp_region_noPanic (wp_region_any hm (wpAny_of_X _ _ _ _ (by simpa using h _ HO.drew)))
theorem hQ_no {oi : Oper} : ∀ c a w, NoPanic Q (.panic c) (a.put oi.dst v) w → NoPanic Q (.panic c) a w := fun _ _ _ h => h.elim
/-- A still operation is taken. -/
theorem gx_take {fuel : Nat} {listed : Array Bool} (i : Nat) (hi : ops[i]? = some o) (hs : (Region.noSelect ops && ((Region.ready .any ops listed).contains i && (Region.free .any ops listed i && waitedB .any ops B i))) = true) (HF : FrD D N a F) (HO : Own w0 w M)
    (hw : Region.wanted o (yielded ops a.tmps) = true) (hd : o.dst = some d) (hN : d < N) (hrun : ∀ w, Own w0 w M → Runs P o a w v w)
    (k : ∀ a', FrD D N a' ((d, v) :: F) → wpX P .any ops (NoPanic Q) (Held w0 M) B fuel (listed.setIfInBounds i true) a' w) : wpX P .any ops (NoPanic Q) (Held w0 M) B (fuel + 1) listed a w := by
  simp only [Bool.and_eq_true] at hs
  refine wpX_first (v := v) hi (Region.noSelect_spec hs.1) hQ_no (waitedB_spec hs.2.2.2) fuel listed a w (Region.free_spec hi hs.2.2.1) (by simpa using hs.2.1) (.inl ⟨hw, fun w h => hrun w h⟩) HO ?_
  rw [hd]
  exact k _ (HF.put hN v)
theorem gx_take_off {fuel : Nat} {listed : Array Bool} (i : Nat) (hi : ops[i]? = some o) (hs : (Region.noSelect ops && ((Region.ready .any ops listed).contains i && (Region.free .any ops listed i && waitedB .any ops B i))) = true) (HF : FrD D N a F) (HO : Own w0 w M)
    (hw : Region.wanted o (yielded ops a.tmps) = false) (hd : o.dst = some d) (hN : d < N)
    (k : ∀ a', FrD D N a' ((d, undef) :: F) → wpX P .any ops (NoPanic Q) (Held w0 M) B fuel (listed.setIfInBounds i true) a' w) : wpX P .any ops (NoPanic Q) (Held w0 M) B (fuel + 1) listed a w := by
  simp only [Bool.and_eq_true] at hs
  refine wpX_first (v := undef) hi (Region.noSelect_spec hs.1) hQ_no (waitedB_spec hs.2.2.2) fuel listed a w (Region.free_spec hi hs.2.2.1) (by simpa using hs.2.1) (.inr ⟨hw, rfl⟩) HO ?_
  rw [hd]
  exact k _ (HF.put hN undef)
/-- What follows a step, as a region's post. -/
def Patch (K : Act → World → Prop) (Q : Exit → Act → World → Prop) : Exit → Act → World → Prop
  | .normal, a, w => K a w
  | e, a, w => Q e a w
theorem wpOp_of_list {i : Nat} {K : Act → World → Prop} (hi : ops[i]? = some o) (h : wpList P ops (Patch K Q) [o] a w) : wpOp P ops Q i K a w := by
  unfold wpOp
  simp only [hi]
  unfold wpList at h
  have hK : ∀ a w, wpList P ops (Patch K Q) [] a w → K a w := fun a w h => h
  split
  · rename_i hw
    rw [if_pos hw] at h
    rcases h with h | h
    · refine .inl ?_
      unfold Oper.wp at *
      generalize (execOp a.eval o).run P w = r at *
      cases r with
      | ok n w' =>
        cases n <;> simp only [Oper.upon] at h ⊢ <;>
          first
            | exact h
            | exact Calls.mono h (fun e w'' he => by cases e <;> exact he)
            | exact Rows.mono h (fun _ _ he => he)
      | halt x w' => cases x <;> simp only [Oper.upon] at h ⊢ <;> exact h
    · exact .inr h
  · rename_i hw
    rw [if_neg hw] at h
    exact h
/-- The one operation that may come up comes up. -/
theorem gx_step {fuel : Nat} {listed : Array Bool} (i : Nat) (hi : ops[i]? = some o) (hr : Region.ready .any ops listed = [i])
    (h : wpList P ops (Patch (fun a' w' => (B i = false → Held w0 M w') ∧ wpX P .any ops (NoPanic Q) (Held w0 M) B fuel (listed.setIfInBounds i true) a' w') (NoPanic Q)) [o] a w) : wpX P .any ops (NoPanic Q) (Held w0 M) B (fuel + 1) listed a w :=
  ⟨fun h0 => (by rw [hr] at h0; cases h0), fun j hj => by
    rw [hr] at hj
    obtain rfl : j = i := by simpa using hj
    exact wpOp_of_list hi h⟩
theorem gx_on {fuel i : Nat} {listed : Array Bool} (h1 : B i = false → Own w0 w M) (h2 : wpX P .any ops (NoPanic Q) (Held w0 M) B fuel (listed.setIfInBounds i true) a w) :
    wpList P ops (Patch (fun a' w' => (B i = false → Held w0 M w') ∧ wpX P .any ops (NoPanic Q) (Held w0 M) B fuel (listed.setIfInBounds i true) a' w') (NoPanic Q)) [] a w := wpList_nil ⟨h1, h2⟩
theorem gx_done {fuel : Nat} {listed : Array Bool} (hr : Region.ready .any ops listed = []) (h : Q .normal a w) : wpX P .any ops (NoPanic Q) (Held w0 M) B fuel listed a w := by
  cases fuel with
  | zero => exact ⟨hr, h⟩
  | succ _ => exact ⟨fun _ => h, by rw [hr]; simp⟩
end
end Go.Proofs.Ytjndcgochnaodaa.PA

/- Things that belong together; calls that are handed what their caller owns; appends of one made element. -/
namespace Go.Proofs.Ytjndcgochnaodaa.PA
open Go.RowKit Go.Proofs.YtjndcgochnaodaaW.PrintWords Go.Proofs.YtjndcgochnaodaaW.PrintLast Go.Proofs.YtjndcgochnaodaaW.PrintMore
set_option linter.unusedVariables false
set_option linter.unusedSimpArgs false
/-- Some things as one. -/
def Chunk.all (A : List Chunk) : Chunk := ⟨fun k => ∃ c ∈ A, c.S k, fun w => (∀ c ∈ A, c.P w) ∧ A.Pairwise (fun (c d : Chunk) => ∀ k : Nat, c.S k → ¬ d.S k), fun h hm => ⟨fun c hc => c.move (h.1 c hc) fun k hk => hm k ⟨c, hc, hk⟩, h.2⟩⟩
section
variable {w0 w : World} {A L : List Chunk} {c d : Chunk}
theorem Own.bundle (h : Own w0 w (A ++ L)) : Own w0 w (Chunk.all A :: L) := by
  obtain ⟨ha, hl, hal⟩ := List.pairwise_append.1 h.apart
  refine ⟨h.below, fun c hc => ?_, fun c hc k hk => ?_, List.pairwise_cons.2 ⟨fun b hb k hk => ?_, hl⟩⟩
  · rcases List.mem_cons.1 hc with rfl | hc
    · exact ⟨fun b hb => h.holds b (List.mem_append_left _ hb), ha⟩
    · exact h.holds c (List.mem_append_right _ hc)
  · rcases List.mem_cons.1 hc with rfl | hc
    · obtain ⟨b, hb, hk⟩ := hk
      exact h.inside b (List.mem_append_left _ hb) k hk
    · exact h.inside c (List.mem_append_right _ hc) k hk
  · obtain ⟨a, ha, hk⟩ := hk
    exact hal a ha b hb k hk
theorem Own.unbundle (h : Own w0 w (Chunk.all A :: L)) : Own w0 w (A ++ L) := by
  obtain ⟨hal, hl⟩ := List.pairwise_cons.1 h.apart
  have hA : (Chunk.all A).P w := h.holds _ (List.mem_cons_self ..)
  refine ⟨h.below, fun c hc => ?_, fun c hc k hk => ?_, List.pairwise_append.2 ⟨hA.2, hl, fun a ha b hb k hk => hal b hb k ⟨a, ha, hk⟩⟩⟩
  · rcases List.mem_append.1 hc with hc | hc
    · exact hA.1 c hc
    · exact h.holds c (List.mem_cons_of_mem _ hc)
  · rcases List.mem_append.1 hc with hc | hc
    · exact h.inside _ (List.mem_cons_self ..) k ⟨c, hc, hk⟩
    · exact h.inside c (List.mem_cons_of_mem _ hc) k hk
/-- What is owned stays when a thing that is none of anyone's is told of. -/
def Chunk.void : Chunk := ⟨fun _ => False, fun _ => True, fun _ _ => trivial⟩
theorem Own.void (h : Own w0 w L) : Own w0 w (Chunk.void :: L) := h.fresh (cs := [_]) (Out.one (Out.refl w _) (c := Chunk.void) trivial (fun _ hk => hk.elim))
theorem argblk {g : Nat} {o : Obj} (h : Own w0 w L) (hb : w0.heap[g]? = some o) : w.heap[g]? = some o := (h.below.block g (blk_lt hb)).trans hb
theorem all_P (h : (Chunk.all A).P w) (i : Nat) {c : Chunk} (hi : A[i]? = some c) : c.P w := h.1 c (List.mem_of_getElem? hi)
end
section
variable {D : List Deferred} {P : Program} {fn : Func} {R : Ending → World → Prop} {w : World} {N : Nat}
theorem gw_startO {f : FuncId} {c : Code} {vs : List Value} (hf : P.funcs[f]? = some fn) (hb : fn.body = some c) (hn : fn.ntmps = N) (hl : vs.length ≤ N)
    (h : ∀ a, Fr N a (ixs 0 vs) → c.wp P (bodyPost P fn R) a w) : Calls P f vs.toArray w R := by
  refine calls_of_wp hf hb ?_
  rw [hn]
  exact h _ (Fr.start vs N hl)
end
section
variable {α β : Type} {d : Kd α} {d' : Kd β} {S : Nat → Prop} {A A' : Option Addr} {n n' c : Nat} {xs : List α} {ys : List β} {w0 w w1 : World} {L : List Chunk}
/-- A row that is only read, held to what it was at w1. -/
def Chunk.viewAt (w1 : World) (d : Kd α) (S : Nat → Prop) (A : Option Addr) (n c : Nat) (xs : List α) : Chunk := ⟨S, fun w => d.F w1 S A n xs ∧ (n ≤ c ∧ ∀ ad, A = some ad → S ad.block) ∧ ∀ k, S k → w.heap[k]? = w1.heap[k]?, fun h hm => ⟨h.1, h.2.1, fun k hk => (hm k hk).trans (h.2.2 k hk)⟩⟩
theorem Own.pin (h : Own w0 w L) (i : Nat) (hi : L[i]? = some (Chunk.view d S A n c xs)) : Own w0 w (L.set i (Chunk.viewAt w d S A n c xs)) :=
  h.calls (cs := []) i hi (Out.one (Out.refl w _) (c := Chunk.viewAt w d S A n c xs) ⟨(h.get i hi).1, (h.get i hi).2, fun _ _ => rfl⟩ fun k hk => ⟨.inl hk, (h.lt i hi hk).2⟩)
theorem Own.unpin (h : Own w0 w L) (i : Nat) (hi : L[i]? = some (Chunk.viewAt w1 d S A n c xs)) : Own w0 w (L.set i (Chunk.view d S A n c xs)) :=
  h.mapc i hi (fun _ hk => hk) (fun _ hp => ⟨Kd.F_step hp.1 (fun k hk _ => hp.2.2 k hk), hp.2.1⟩)
theorem viewAt_C (h : (Chunk.viewAt w1 d S A n c xs).P w) : d.C w A n xs := h.1 w (fun k hk _ => h.2.2 k hk)
theorem viewAt_le (h : (Chunk.viewAt w1 d S A n c xs).P w) : n ≤ c := h.2.1.1
theorem viewAt_in (h : (Chunk.viewAt w1 d S A n c xs).P w) {ad : Addr} (e1 : A = some ad) : S ad.block := h.2.1.2 ad e1
theorem viewAt_F (h : (Chunk.viewAt w1 d S A n c xs).P w) : d.F w1 S A n xs := h.1
theorem pinC (h : (Chunk.viewAt w1 d S A n c xs).P w) (hF : d'.F w1 S A' n' ys) : d'.C w A' n' ys := hF w (fun k hk _ => h.2.2 k hk)
theorem cell_same {p : Addr} (h : w.heap[p.block]? = w1.heap[p.block]?) : w.cell? p = w1.cell? p := by
  unfold World.cell?
  rw [h]
theorem pin_cells {ad : Addr} {m : Nat} {cs : List Value} (h : (Chunk.viewAt w1 d S A n c xs).P w) (hA : A = some ad) (hc : ∀ j u, cs[j]? = some u → w1.cell? (ad.add (m + j)) = some u) : ∀ j u, cs[j]? = some u → w.cell? ((ad.add m).add j) = some u := fun j u hj => by
  rw [add_add, cell_same, hc j u hj]
  rw [add_block]
  exact h.2.2 _ (h.2.1.2 ad hA)
theorem slice_openF {e : Nat} {ok : Nat → Prop} {cs : List Value} (h : Kd.FK (Kd.slice e d) w ok xs cs) : ∃ A c, cs = [.slice A xs.length c] ∧ xs.length ≤ c ∧ Kd.F d w ok A xs.length xs := by
  obtain ⟨A, c, rfl, hl, _⟩ := Kd.FK_now h
  refine ⟨A, c, rfl, hl, fun W' hW => ?_⟩
  obtain ⟨A2, c2, he, _, hC⟩ := h W' hW
  injection (Option.some.inj (show some (Value.slice A xs.length c) = some (Value.slice A2 xs.length c2) from congrArg (fun l => l[0]?) he)) with h1 _ _
  rw [h1]
  exact hC
theorem int_openF {k : IntKind} {ok : Nat → Prop} {m : Int} {cs : List Value} (h : Kd.FK (Kd.int k) w ok m cs) : cs = [.int k m] := Kd.FK_now h
end
section
variable {D : List Deferred} {P : Program} {ops : Array Oper} {Q : Exit → Act → World → Prop} {rest : List Oper} {o : Oper} {N dd : Nat} {a : Act} {F : List (Nat × Value)} {w w0 : World} {L : List Chunk} {α : Type}
theorem gw_news {O : Obj} {n : Nat} (HF : FrD D N a F) (HO : Own w0 w L) (hw : Region.wanted o (yielded ops a.tmps) = true) (hd : o.dst = some dd) (hN : dd < N)
    (hrun : Runs P o a w (.slice (some ⟨w.heap.size, 0, none⟩) n n) (w.alloc O)) (k : ∀ g a' w1, FrD D N a' ((dd, .slice (some ⟨g, 0, none⟩) n n) :: F) → Own w0 w1 (Chunk.blk g O :: L) → wpList P ops Q rest a' w1) : wpList P ops Q (o :: rest) a w :=
  gw_ev HF hw hd hN hrun fun a' HF' => k _ a' _ HF' (HO.new O)
/-- append(row, x): x made of what one thing is; it becomes the row's. -/
theorem gw_append1 (d : Kd α) {e base : Nat} {S : Nat → Prop} {A : Option Addr} {c g : Nat} {xs : List α} {p : α} {cs : List Value} {cj : Chunk} {s x : Operand} {t : TypeId} {z : Value} {bytes : Nat} (b : Nat) (HF : FrD D N a F) (HO : Own w0 w (Chunk.row d e base S (.slice A xs.length c) xs :: cj :: L)) (hw : Region.wanted o (yielded ops a.tmps) = true) (hd : o.dst = some dd) (hN : dd < N)
    (ho : o.op = .call { callee := .builtin .append, args := #[s, x], argTypes := #[t, t] })
    (ht : P.underlying t = some (.slice e)) (hinfo : (P.info? e).map (fun i => (i.zero, i.size, i.bytes)) = some (some z, d.sz, bytes)) (hz : z.cells.size = d.sz) (hs0 : 0 < d.sz) (hb0 : 0 < bytes)
    (hg : L[b]? = some (Chunk.blk g (.cells cs.toArray e (0, 0)))) (hs : a.eval s = .slice A xs.length c) (hx : a.eval x = .slice (some ⟨g, 0, none⟩) 1 1)
    (hM : ∀ w, cj.P w → d.M w base cj.S p cs) (hbase : base ≤ w.heap.size) (hl : (xs.length + 1) * bytes ≤ 140737488355328)
    (k : ∀ A' c' S' a' w1, FrD D N a' ((dd, .slice A' (xs ++ [p]).length c') :: F) → Own w0 w1 (Chunk.row d e base S' (.slice A' (xs ++ [p]).length c') (xs ++ [p]) :: L) → wpList P ops Q rest a' w1) : wpList P ops Q (o :: rest) a w := by
  have hR : d.R e w base S (.slice A xs.length c) xs := HO.get 0 rfl
  have hB : w.heap[g]? = some (.cells cs.toArray e (0, 0)) := HO.get (b + 2) (by simpa using hg)
  have hm : d.M w base cj.S p cs := hM w (HO.get 1 rfl)
  have hlen : cs.length = d.sz := d.K_len (d.K_of_M hm)
  have HR : ReadsRow (d.M w base cj.S) d.sz w (some ⟨g, 0, none⟩) 1 [p] := by
    refine ⟨rfl, by simp [maxLen], fun _ => ⟨_, rfl, fun j q hj => ?_⟩⟩
    cases j with
    | zero =>
      obtain rfl : p = q := by simpa using hj
      refine ⟨cs, hlen, hm, fun i u hi => ?_⟩
      have : cs.toArray[0 * d.sz + i]? = some u := by simpa using hi
      rw [add_plain]
      exact blk_at hB this
    | succ j => simp at hj
  refine gw_unguard hw ?_
  refine Kd.R_append_rows d (Rr := d.M w base cj.S) (w0 := w) base rfl s x t e z bytes ho ht hinfo hz hs0 hb0 _ xs [p] (some ⟨g, 0, none⟩) 1 1 (fun k => S k ∨ cj.S k ∨ w.heap.size ≤ k) cj.S hs hx (Kd.R_mono hR (fun k hk => .inl hk)) HR (fun _ _ h => h) (fun k hk => ⟨.inr (.inl hk), fun e => HO.apart_at 0 1 (by decide) rfl rfl k (hR.1 k e.symm) hk⟩) (fun k hk => .inr (.inr hk)) (Below.refl _ _) hbase hl ?_
  intro v1 w1 h1 _ hgr _
  obtain ⟨A', c', rfl⟩ := Kd.R_slice h1
  show wpList P ops Q rest (a.put o.dst _) w1
  rw [hd]
  have HB : Own w0 w (Chunk.all [Chunk.row d e base S (.slice A xs.length c) xs, cj] :: L) := Own.bundle (A := [_, _]) HO
  have hall : ∀ k, (Chunk.all [Chunk.row d e base S (.slice A xs.length c) xs, cj]).S k ↔ S k ∨ cj.S k := fun k => by
    constructor
    · rintro ⟨c, hc, hk⟩
      simp only [List.mem_cons, List.mem_nil_iff, or_false] at hc
      rcases hc with rfl | rfl
      · exact .inl hk
      · exact .inr hk
    · rintro (hk | hk)
      · exact ⟨_, List.mem_cons_self .., hk⟩
      · exact ⟨cj, by simp, hk⟩
  refine k A' c' (fun k => (S k ∨ cj.S k) ∨ w.heap.size ≤ k ∧ k < w1.heap.size) _ w1 (HF.put hN _) (HB.calls (cs := []) 0 rfl ?_)
  refine Out.one ((Out.refl w _).grown hgr (fun k e => .inl ((hall k).2 (.inl (hR.1 k e))))) ?_ ?_
  · exact Kd.R_mono (Kd.R_bound h1) (fun k hk => by
      rcases hk.1 with h | h | h
      · exact .inl (.inl h)
      · exact .inl (.inr h)
      · exact .inr ⟨h, hk.2.2.1⟩)
  · intro k hk
    rcases hk with hk | hk
    · exact ⟨.inl ((hall k).2 hk), Nat.lt_of_lt_of_le (HB.lt 0 rfl ((hall k).2 hk)).2 hgr.size⟩
    · exact ⟨.inr hk.1, hk.2⟩
end
section
variable {α : Type} {d : Kd α} {w w0 : World} {L : List Chunk}
theorem Own.row_nil (h : Own w0 w L) (d : Kd α) (e base : Nat) : Own w0 w (Chunk.row d e base (fun _ => False) (.slice none 0 0) [] :: L) :=
  h.fresh (cs := [_]) (Out.one (Out.refl w _) (c := Chunk.row d e base (fun _ => False) (.slice none 0 0) []) (Kd.R_nil _ _ _ _ _) (fun _ hk => hk.elim))
theorem reps_none {R : α → List Value → Prop} {sz : Nat} : Reps R sz [] [] := ⟨by simp, fun j p h => by simp at h⟩
theorem reps_more {R : α → List Value → Prop} {sz : Nat} {x : α} {xs : List α} {c cs : List Value} (h : R x c) (hl : c.length = sz) (hs : Reps R sz xs cs) : Reps R sz (x :: xs) (c ++ cs) := by
  refine ⟨?_, fun j p hj => ?_⟩
  · rw [List.length_append, hl, hs.1, List.length_cons, Nat.add_mul, Nat.one_mul, Nat.add_comm]
  · cases j with
    | zero =>
      obtain rfl : x = p := by simpa using hj
      rw [Nat.zero_mul, List.drop_zero, List.take_append_of_le_length (by omega), List.take_of_length_le (by omega)]
      exact h
    | succ j =>
      have := hs.2 j p (by simpa using hj)
      have e : (j + 1) * sz = sz + j * sz := by rw [Nat.add_mul, Nat.one_mul, Nat.add_comm]
      rw [e, List.drop_append, List.drop_of_length_le (by omega), List.nil_append, show sz + j * sz - c.length = j * sz by omega]
      exact this
theorem Cg_lit {g e : Nat} {xs : List α} {cs : List Value} (hb : w.heap[g]? = some (.cells cs.toArray e (0, 0))) (hr : Reps (d.K w) d.sz xs cs) (hm : xs.length ≤ maxLen) : d.C w (some ⟨g, 0, none⟩) xs.length xs := by
  refine ⟨rfl, hm, fun _ => ⟨_, rfl, fun j p hj => ⟨_, ?_, hr.2 j p hj, fun i u hi => ?_⟩⟩⟩
  · exact d.K_len (hr.2 j p hj)
  · rw [add_plain]
    refine blk_at hb ?_
    rw [List.getElem?_take] at hi
    split at hi
    · rw [List.getElem?_drop] at hi
      simpa using hi
    · cases hi
end
section
variable {P : Program} {o : Oper} {a : Act} {w : World} {x y : Operand} {t yt e : TypeId}
theorem op_indexP {g off n sz q : Nat} {k : IntKind} {i : Int} (ht : P.underlying t = some (.array n e)) (hS : ∀ w, (sizeOf e).run P w = .ok sz w) (ho : o.op = .indexAddr t x y) (hx : a.eval x = .pointer (some ⟨g, off, none⟩)) (hy : a.eval y = .int k i) (h : 0 ≤ i ∧ i < n) (hq : off + i.toNat * sz = q) :
    Runs P o a w (.pointer (some ⟨g, q, none⟩)) w := by
  subst hq
  unfold Runs execOp
  simp only [ho, hx, hy]
  by_cases hz : i.toNat * sz = 0
  · simp [go_sem, Instr.indexAt, asIntOf, run_underlying ht, hS, h.1, h.2, Addr.add, hz]
  · simp [go_sem, Instr.indexAt, asIntOf, run_underlying ht, hS, h.1, h.2, Addr.add, hz]
theorem op_bin_run {b : BinOp} {u v r : Value} (ho : o.op = .binOp b t x y yt) (hx : a.eval x = u) (hy : a.eval y = v) (hr : (do eqGuard b t x y u v; binOp b t u v : Sem Value).run P w = .ok r w) : Runs P o a w r w := by
  unfold Runs execOp
  simp only [ho, hx, hy]
  rw [Sem.run_bind, hr]
  rfl
end
end Go.Proofs.Ytjndcgochnaodaa.PA

/- Ways that come together again. -/
namespace Go.Proofs.Ytjndcgochnaodaa.PA
open Go.RowKit Go.Proofs.YtjndcgochnaodaaW.PrintWords Go.Proofs.YtjndcgochnaodaaW.PrintLast Go.Proofs.YtjndcgochnaodaaW.PrintMore
set_option linter.unusedVariables false
set_option linter.unusedSimpArgs false
variable {P : Program} {ops : Array Oper} {Q : Exit → Act → World → Prop} {a : Act} {w : World}
theorem gw_joinS {x y : Code} (V : Act → World → Prop) (h1 : x.wp P (Exit.then V Q) a w) (h2 : ∀ a w, V a w → y.wp P Q a w) : (Code.seq x y).wp P Q a w :=
  gw_seq fun K hK => Code.wp_mono (fun e a w h => by cases e <;> first | exact hK _ _ (h2 _ _ h) | exact h) h1
theorem wpList_app {V : Act → World → Prop} {l2 : List Oper} (h2 : ∀ a w, V a w → wpList P ops Q l2 a w) : ∀ (l1 : List Oper) (a : Act) (w : World), wpList P ops (Patch V Q) l1 a w → wpList P ops Q (l1 ++ l2) a w
  | [], a, w, h => h2 a w h
  | o :: l1, a, w, h => by
    have ih := wpList_app h2 l1
    rw [List.cons_append]
    unfold wpList at h ⊢
    split
    · rename_i hw
      rw [if_pos hw] at h
      rcases h with h | h
      · refine .inl ?_
        unfold Oper.wp at *
        generalize (execOp a.eval o).run P w = r at *
        cases r with
        | ok n w' =>
          cases n <;> simp only [Oper.upon] at h ⊢ <;>
            first
              | exact ih _ _ h
              | exact Calls.mono h (fun e w'' he => by cases e <;> first | exact ih _ _ he | exact he)
              | exact Rows.mono h (fun _ _ he => ih _ _ he)
        | halt x w' => cases x <;> simp only [Oper.upon] at h ⊢ <;> exact h
      · exact .inr h
    · rename_i hw
      rw [if_neg hw] at h
      exact ih _ _ h
theorem gw_joinL {l : List Oper} (n : Nat) (V : Act → World → Prop) (h1 : wpList P ops (Patch V Q) (l.take n) a w) (h2 : ∀ a w, V a w → wpList P ops Q (l.drop n) a w) : wpList P ops Q l a w := by
  have := wpList_app h2 (l.take n) a w h1
  rwa [List.take_append_drop] at this
end Go.Proofs.Ytjndcgochnaodaa.PA

/- Operations that are carried out only if a test says so, without parting the walk: what such an operation leaves stands under its test. -/
namespace Go.Proofs.Ytjndcgochnaodaa.PA
open Go.RowKit Go.Proofs.YtjndcgochnaodaaW.PrintWords Go.Proofs.YtjndcgochnaodaaW.PrintLast Go.Proofs.YtjndcgochnaodaaW.PrintMore
set_option linter.unusedVariables false
set_option linter.unusedSimpArgs false
/-- A value that is there under a test. -/
def gv (g : Bool) (v : Value) : Value := bif g then v else undef
/-- What a guard comes to at a slot's value. -/
def onb (b : Bool) : Value → Bool
  | .bool x => x == b
  | _ => false
theorem on_t (x : Bool) : onb true (.bool x) = x := by cases x <;> rfl
theorem on_f (x : Bool) : onb false (.bool x) = !x := by cases x <;> rfl
theorem on_gt (g x : Bool) : onb true (gv g (.bool x)) = (g && x) := by cases g <;> cases x <;> rfl
theorem on_gf (g x : Bool) : onb false (gv g (.bool x)) = (g && !x) := by cases g <;> cases x <;> rfl
theorem ev_gv {u v : Value} {g : Bool} (h : u = gv g v) (hg : g = true) : u = v := by
  rw [h, hg]
  rfl
theorem and1 {a b : Bool} (h : (a && b) = true) : a = true := by revert h; cases a <;> simp
theorem and2 {a b : Bool} (h : (a && b) = true) : b = true := by revert h; cases a <;> cases b <;> simp
theorem andi {a b : Bool} (h : a = true) (k : b = true) : (a && b) = true := by rw [h, k]; rfl
theorem not_t {a : Bool} (h : a = false) : (!a) = true := by rw [h]; rfl
section
variable {D : List Deferred} {P : Program} {ops : Array Oper} {Q : Exit → Act → World → Prop} {rest : List Oper} {o oj : Oper} {N d j dj : Nat} {a : Act} {F : List (Nat × Value)} {w w1 : World} {v u : Value} {C : World → Prop} {Q' : Act → Prop} {b g : Bool}
theorem wanted_on (HF : FrD D N a F) (hg : o.guard = some (j, b)) (hj : ops[j]? = some oj) (hdj : oj.dst = some dj) (hl : look F dj = some u) : Region.wanted o (yielded ops a.tmps) = onb b u := by
  have hy : yielded ops a.tmps j = (match u with | .bool x => some x | _ => none) := by
    cases u <;> simp [yielded, hj, hdj, HF.at_ _ _ hl]
  cases u <;> simp [Region.wanted, hg, hy, onb]
theorem FrD.litG {t : Bool} (h : FrD D N a ((d, gv g (.bool t)) :: F)) (e : g = true → t = b) : FrD D N a ((d, gv g (.bool b)) :: F) := by
  cases g
  · exact h
  · exact e rfl ▸ h
theorem gw_evG (HF : FrD D N a F) (hg : o.guard = some (j, b)) (hj : ops[j]? = some oj) (hdj : oj.dst = some dj) (hl : look F dj = some u) (hon : onb b u = g) (hd : o.dst = some d) (hN : d < N) (hrun : g = true → Runs P o a w v w)
    (k : ∀ a', FrD D N a' ((d, gv g v) :: F) → wpList P ops Q rest a' w) : wpList P ops Q (o :: rest) a w := by
  have hw := wanted_on HF hg hj hdj hl
  rw [hon] at hw
  cases g
  · exact gw_off HF hw hd hN k
  · exact gw_ev HF hw hd hN (hrun rfl) k
theorem gq_evG (HF : FrD D N a F) (hg : o.guard = some (j, b)) (hj : ops[j]? = some oj) (hdj : oj.dst = some dj) (hl : look F dj = some u) (hon : onb b u = g) (hd : o.dst = some d) (hN : d < N) (hrun : g = true → ∀ w, C w → Runs P o a w v w)
    (k : ∀ a', FrD D N a' ((d, gv g v) :: F) → wpQuiet P ops C Q' rest a') : wpQuiet P ops C Q' (o :: rest) a := by
  have hw := wanted_on HF hg hj hdj hl
  rw [hon] at hw
  cases g
  · exact gq_off HF hw hd hN k
  · exact gq_ev HF hw hd hN (hrun rfl) k
theorem gw_callG {f : FuncId} {args : Array Value} (HF : FrD D N a F) (hg : o.guard = some (j, b)) (hj : ops[j]? = some oj) (hdj : oj.dst = some dj) (hl : look F dj = some u) (hon : onb b u = g) (hd : o.dst = some d) (hN : d < N) (hen : g = true → Enters P o a w f args)
    (hc : g = true → Calls P f args w (fun e w' => e = .returned v ∧ Below w.heap.size w w')) (k : ∀ a' w', Below w.heap.size w w' → FrD D N a' ((d, gv g v) :: F) → wpList P ops Q rest a' w') : wpList P ops Q (o :: rest) a w := by
  have hw := wanted_on HF hg hj hdj hl
  rw [hon] at hw
  cases g
  · exact gw_off HF hw hd hN fun a' h => k a' w (Below.refl _ _) h
  · refine gw_call HF hw hd hN (hen rfl) (hc rfl) ?_
    rintro e w' ⟨rfl, hb⟩
    exact ⟨_, rfl, fun a' h => k a' w' hb h⟩
theorem gq_callG {f : FuncId} {args : Array Value} (HF : FrD D N a F) (hg : o.guard = some (j, b)) (hj : ops[j]? = some oj) (hdj : oj.dst = some dj) (hl : look F dj = some u) (hon : onb b u = g) (hd : o.dst = some d) (hN : d < N) (hen : g = true → ∀ w, C w → Enters P o a w f args)
    (hc : g = true → ∀ w, C w → Calls P f args w (fun e w' => e = .returned v ∧ C w')) (k : ∀ a', FrD D N a' ((d, gv g v) :: F) → wpQuiet P ops C Q' rest a') : wpQuiet P ops C Q' (o :: rest) a := by
  have hw := wanted_on HF hg hj hdj hl
  rw [hon] at hw
  cases g
  · exact gq_off HF hw hd hN k
  · exact gq_call HF hw hd hN (hen rfl) (hc rfl) k
theorem gx_takeG {B : Nat → Bool} {w0 : World} {M : List Chunk} {fuel : Nat} {listed : Array Bool} (i : Nat) (hi : ops[i]? = some o) (hs : (Region.noSelect ops && ((Region.ready .any ops listed).contains i && (Region.free .any ops listed i && waitedB .any ops B i))) = true) (HF : FrD D N a F) (HO : Own w0 w M)
    (hg : o.guard = some (j, b)) (hj : ops[j]? = some oj) (hdj : oj.dst = some dj) (hl : look F dj = some u) (hon : onb b u = g) (hd : o.dst = some d) (hN : d < N) (hrun : g = true → ∀ w, Own w0 w M → Runs P o a w v w)
    (k : ∀ a', FrD D N a' ((d, gv g v) :: F) → wpX P .any ops (NoPanic Q) (Held w0 M) B fuel (listed.setIfInBounds i true) a' w) : wpX P .any ops (NoPanic Q) (Held w0 M) B (fuel + 1) listed a w := by
  have hw := wanted_on HF hg hj hdj hl
  rw [hon] at hw
  cases g
  · exact gx_take_off i hi hs HF HO hw hd hN k
  · exact gx_take i hi hs HF HO hw hd hN (hrun rfl) k
end
section
variable {P : Program} {o : Oper} {a : Act} {w : World} {x y z : Operand} {p q : Bool}
theorem op_pick_or (ho : o.op = .pick x y z) (hx : a.eval x = .bool p) (hy : a.eval y = .bool true) (hz : p = false → a.eval z = .bool q) : Runs P o a w (.bool (p || q)) w := by
  cases p
  · exact op_pick_f ho hx (hz rfl)
  · exact op_pick_t ho hx hy
theorem op_pick_and (ho : o.op = .pick x y z) (hx : a.eval x = .bool p) (hy : p = true → a.eval y = .bool q) (hz : a.eval z = .bool false) : Runs P o a w (.bool (p && q)) w := by
  cases p
  · exact op_pick_f ho hx hz
  · exact op_pick_t ho hx (hy rfl)
end
section
variable {α : Type} {d : Kd α} {w : World} {A : Option Addr} {n : Nat} {xs : List α} {S : Nat → Prop}
/-- An element, there or not. -/
theorem C_getT (h : d.C w A n xs) (z : α) (i : Int) (hz : ∃ cs, d.K w z cs) : ∃ ad cs, ((0 ≤ i ∧ i < n) → A = some ad) ∧ cs.length = d.sz ∧ d.K w (xs.getD i.toNat z) cs ∧ ((0 ≤ i ∧ i < n) → ∀ j u, cs[j]? = some u → w.cell? (ad.add (i.toNat * d.sz + j)) = some u) := by
  have hn : xs.length = n := h.1
  by_cases hi : 0 ≤ i ∧ i < n
  · obtain ⟨ad, cs, h1, h2, h3, h4⟩ := Kd.C_get h z i hi.1 hi.2
    exact ⟨ad, cs, fun _ => h1, h2, h3, fun _ => h4⟩
  · by_cases h0 : i.toNat < xs.length
    · obtain ⟨ad, cs, h1, h2, h3, h4⟩ := Kd.C_get h z (i.toNat : Int) (by omega) (by omega)
      rw [Int.toNat_natCast] at h3
      exact ⟨ad, cs, fun k => absurd k hi, h2, h3, fun k => absurd k hi⟩
    · obtain ⟨cs, hk⟩ := hz
      have e : xs.getD i.toNat z = z := by rw [List.getD_eq_getElem?_getD, List.getElem?_eq_none (by omega)]; rfl
      rw [e]
      exact ⟨⟨0, 0, none⟩, cs, fun k => absurd k hi, d.K_len hk, hk, fun k => absurd k hi⟩
theorem F_getT (h : d.F w S A n xs) (z : α) (i : Int) (hz : ∃ cs, Kd.FK d w S z cs) : ∃ ad cs, ((0 ≤ i ∧ i < n) → A = some ad) ∧ cs.length = d.sz ∧ Kd.FK d w S (xs.getD i.toNat z) cs ∧ ((0 ≤ i ∧ i < n) → ∀ j u, cs[j]? = some u → w.cell? (ad.add (i.toNat * d.sz + j)) = some u) := by
  have hn : xs.length = n := (Kd.F_now h).1
  by_cases hi : 0 ≤ i ∧ i < n
  · obtain ⟨ad, cs, h1, h2, h3, h4, _⟩ := Kd.F_get h z i hi.1 hi.2
    exact ⟨ad, cs, fun _ => h1, h2, h3, fun _ => h4⟩
  · by_cases h0 : i.toNat < xs.length
    · obtain ⟨ad, cs, h1, h2, h3, h4, _⟩ := Kd.F_get h z (i.toNat : Int) (by omega) (by omega)
      rw [Int.toNat_natCast] at h3
      exact ⟨ad, cs, fun k => absurd k hi, h2, h3, fun k => absurd k hi⟩
    · obtain ⟨cs, hk⟩ := hz
      have e : xs.getD i.toNat z = z := by rw [List.getD_eq_getElem?_getD, List.getElem?_eq_none (by omega)]; rfl
      rw [e]
      exact ⟨⟨0, 0, none⟩, cs, fun k => absurd k hi, d.K_len (Kd.FK_now hk), hk, fun k => absurd k hi⟩
end
section
variable {k : IntKind} {e base c : Nat} {S : Nat → Prop} {A : Option Addr} {n : Nat} {xs : List Int} {w : World}
theorem row_headT {α : Type} {d : Kd α} {xs : List α} (h : d.R e w base S (.slice A n c) xs) (i : Int) : ∃ ad, (0 ≤ i ∧ i < xs.length) → A = some ad := by
  by_cases hi : 0 ≤ i ∧ i < xs.length
  · obtain ⟨ad, e⟩ := row_head h i hi.1 hi.2
    exact ⟨ad, fun _ => e⟩
  · exact ⟨⟨0, 0, none⟩, fun k => absurd k hi⟩
theorem row_cellT {ad : Addr} (h : (Kd.int k).R e w base S (.slice A n c) xs) (hA : A = some ad) (i : Int) (h0 : 0 ≤ i) (h1 : i < xs.length) : w.cell? (ad.add (i.toNat * 1)) = some (.int k (rd xs i)) := by
  subst hA
  exact (row_cell h i h0 h1).1
end
end Go.Proofs.Ytjndcgochnaodaa.PA

/- Panics that pass through, function values, interface values; drawn regions whose calls may panic. -/
namespace Go.Proofs.Ytjndcgochnaodaa.PA
open Go.RowKit Go.Proofs.YtjndcgochnaodaaW.PrintWords Go.Proofs.YtjndcgochnaodaaW.PrintLast Go.Proofs.YtjndcgochnaodaaW.PrintMore
set_option linter.unusedVariables false
set_option linter.unusedSimpArgs false
section
variable {P : Program} {o : Oper} {a : Act} {w : World} {x y z : Operand} {t yt : TypeId} {v : Value}
theorem op_func {f : FuncId} {caps : List Operand} {vs : List Value} (ho : o.op = .makeFunc (.func f) #[] caps.toArray) (hc : caps.map a.eval = vs) : Runs P o a w (.func (.func f) #[] vs.toArray) w := by
  unfold Runs execOp
  simp only [ho]
  simp [go_sem, Instr.makeFunc, hc]
theorem op_iface (hu : ∀ w, (Instr.makeInterface t v).run P w = .ok (.iface t v) w) (ho : o.op = .makeInterface t x) (hx : a.eval x = v) : Runs P o a w (.iface t v) w := by
  unfold Runs execOp
  simp only [ho, hx, Sem.run_bind, hu, Result.andThen_ok, Sem.run_pure]
theorem panics_ {t : TypeId} {v : Value} (ho : o.op = .panic x) (hx : a.eval x = .iface t v) : (execOp a.eval o).run P w = .halt (.panic (.iface t v)) w := by
  unfold execOp
  simp only [ho, hx]
  rfl
theorem op_callV {f : FuncId} {fn : Func} {c : Operand} {args : List Operand} {tys : Array TypeId} {vs caps : List Value} (hf : P.funcs[f]? = some fn) (hname : (fn.name == "runtime.NumGoroutine") = false) (hb : fn.body.isSome = true) (ho : o.op = .call { callee := .value c, args := args.toArray, argTypes := tys }) (hc : a.eval c = .func (.func f) #[] caps.toArray) (hv : args.map a.eval = vs) : Enters P o a w f (vs ++ caps).toArray := by
  have he := enters_ hf hname hb (vs ++ caps).toArray w
  unfold Enters execOp
  simp [ho, resolve, Deferred.ofValue, invoke, hc, hv, he]
end
section
variable {D : List Deferred} {P : Program} {ops : Array Oper} {Q : Exit → Act → World → Prop} {K : Act → World → Prop} {rest : List Oper} {o : Oper} {N d id : Nat} {a : Act} {F : List (Nat × Value)} {w w1 : World} {v : Value} {c : List PanicEntry}
theorem gw_panic (hw : Region.wanted o (yielded ops a.tmps) = true) (hr : (execOp a.eval o).run P w = .halt (.panic v) w) (h : Q (.panic [{ v, recovered := false }]) a w) : wpList P ops Q (o :: rest) a w := by
  refine wpList_step fun K hK => ?_
  rw [if_pos hw]
  unfold Oper.wp
  rw [hr, Oper.upon_panic]
  exact h
theorem gw_thp (h : Q (.panic c) a w) : Exit.then K Q (.panic c) a w := h
theorem gw_blp (h : Q (.panic c) a w) : Exit.inBlock id Q (.panic c) a w := h
theorem gw_pap (h : Q (.panic c) a w) : Patch K Q (.panic c) a w := h
theorem gw_pan {fn : Func} {R : Ending → World → Prop} (HF : Fr N a F) (h : R (.panicked c) w) : bodyPost P fn R (.panic c) a w := ⟨HF.defers, h⟩
/-- A call that hands back or panics. -/
theorem gw_callP {f : FuncId} {args : Array Value} {R : Ending → World → Prop} (HF : FrD D N a F) (hw : Region.wanted o (yielded ops a.tmps) = true) (hd : o.dst = some d) (hN : d < N) (hen : Enters P o a w f args) (hc : Calls P f args w R)
    (k : ∀ e w', R e w' → (∃ v, e = .returned v ∧ ∀ a', FrD D N a' ((d, v) :: F) → wpList P ops Q rest a' w') ∨ (∃ c, e = .panicked c ∧ Q (.panic c) a w')) : wpList P ops Q (o :: rest) a w := by
  refine wpList_step fun K hK => ?_
  rw [if_pos hw]
  unfold Oper.wp
  rw [hen, Oper.upon_enter]
  refine hc.mono fun e w'' hh => ?_
  rcases k e w'' hh with ⟨v, rfl, hk⟩ | ⟨c, rfl, hk⟩
  · show K (a.put o.dst v) w''
    rw [hd]
    exact hK _ _ (hk _ (HF.put hN v))
  · exact hk
/-- A region's post does not look at the frame where a panic passes. -/
def Blind (Q : Exit → Act → World → Prop) : Prop := ∀ c (a : Act) (d : Option Nat) (v : Value) w, Q (.panic c) (a.put d v) w → Q (.panic c) a w
theorem bl_then (h : Blind Q) : Blind (Exit.then K Q) := fun c a d v w k => h c a d v w k
theorem bl_blk (h : Blind Q) : Blind (Exit.inBlock id Q) := fun c a d v w k => h c a d v w k
theorem bl_body {fn : Func} {R : Ending → World → Prop} : Blind (bodyPost P fn R) := fun c a d v w k => by
  refine ⟨?_, k.2⟩
  have := k.1
  cases d <;> exact this
end
section
variable {D : List Deferred} {P : Program} {ops : Array Oper} {Q : Exit → Act → World → Prop} {B : Nat → Bool} {N d j dj : Nat} {a : Act} {F : List (Nat × Value)} {w0 w : World} {L M : List Chunk} {v u : Value} {o oj : Oper} {b g : Bool}
theorem gp_draw {id : Nat} {l : List Oper} {M : List Chunk} (B : Nat → Bool) (HO : Own w0 w L) (hm : P.follows .mixedOrders = true)
    (h : ∀ w', Own w0 w' L → wpX P .any l.toArray Q (Held w0 M) B l.length (Array.replicate l.length false) a w') : (Code.region id l.toArray true).wp P Q a w :=
  wp_region_any hm (wpAny_of_X _ _ _ _ (by simpa using h _ HO.drew))
theorem gp_take {fuel : Nat} {listed : Array Bool} (hQ : Blind Q) (i : Nat) (hi : ops[i]? = some o) (hs : (Region.noSelect ops && ((Region.ready .any ops listed).contains i && (Region.free .any ops listed i && waitedB .any ops B i))) = true) (HF : FrD D N a F) (HO : Own w0 w M)
    (hw : Region.wanted o (yielded ops a.tmps) = true) (hd : o.dst = some d) (hN : d < N) (hrun : ∀ w, Own w0 w M → Runs P o a w v w)
    (k : ∀ a', FrD D N a' ((d, v) :: F) → wpX P .any ops Q (Held w0 M) B fuel (listed.setIfInBounds i true) a' w) : wpX P .any ops Q (Held w0 M) B (fuel + 1) listed a w := by
  simp only [Bool.and_eq_true] at hs
  refine wpX_first (v := v) hi (Region.noSelect_spec hs.1) (fun c a w h => hQ c a _ _ w h) (waitedB_spec hs.2.2.2) fuel listed a w (Region.free_spec hi hs.2.2.1) (by simpa using hs.2.1) (.inl ⟨hw, fun w h => hrun w h⟩) HO ?_
  rw [hd]
  exact k _ (HF.put hN v)
theorem gp_take_off {fuel : Nat} {listed : Array Bool} (hQ : Blind Q) (i : Nat) (hi : ops[i]? = some o) (hs : (Region.noSelect ops && ((Region.ready .any ops listed).contains i && (Region.free .any ops listed i && waitedB .any ops B i))) = true) (HF : FrD D N a F) (HO : Own w0 w M)
    (hw : Region.wanted o (yielded ops a.tmps) = false) (hd : o.dst = some d) (hN : d < N)
    (k : ∀ a', FrD D N a' ((d, undef) :: F) → wpX P .any ops Q (Held w0 M) B fuel (listed.setIfInBounds i true) a' w) : wpX P .any ops Q (Held w0 M) B (fuel + 1) listed a w := by
  simp only [Bool.and_eq_true] at hs
  refine wpX_first (v := undef) hi (Region.noSelect_spec hs.1) (fun c a w h => hQ c a _ _ w h) (waitedB_spec hs.2.2.2) fuel listed a w (Region.free_spec hi hs.2.2.1) (by simpa using hs.2.1) (.inr ⟨hw, rfl⟩) HO ?_
  rw [hd]
  exact k _ (HF.put hN undef)
theorem gp_takeG {fuel : Nat} {listed : Array Bool} (hQ : Blind Q) (i : Nat) (hi : ops[i]? = some o) (hs : (Region.noSelect ops && ((Region.ready .any ops listed).contains i && (Region.free .any ops listed i && waitedB .any ops B i))) = true) (HF : FrD D N a F) (HO : Own w0 w M)
    (hg : o.guard = some (j, b)) (hj : ops[j]? = some oj) (hdj : oj.dst = some dj) (hl : look F dj = some u) (hon : onb b u = g) (hd : o.dst = some d) (hN : d < N) (hrun : g = true → ∀ w, Own w0 w M → Runs P o a w v w)
    (k : ∀ a', FrD D N a' ((d, gv g v) :: F) → wpX P .any ops Q (Held w0 M) B fuel (listed.setIfInBounds i true) a' w) : wpX P .any ops Q (Held w0 M) B (fuel + 1) listed a w := by
  have hw := wanted_on HF hg hj hdj hl
  rw [hon] at hw
  cases g
  · exact gp_take_off hQ i hi hs HF HO hw hd hN k
  · exact gp_take hQ i hi hs HF HO hw hd hN (hrun rfl) k
theorem gp_step {fuel : Nat} {listed : Array Bool} (i : Nat) (hi : ops[i]? = some o) (hr : Region.ready .any ops listed = [i])
    (h : wpList P ops (Patch (fun a' w' => (B i = false → Held w0 M w') ∧ wpX P .any ops Q (Held w0 M) B fuel (listed.setIfInBounds i true) a' w') Q) [o] a w) : wpX P .any ops Q (Held w0 M) B (fuel + 1) listed a w :=
  ⟨fun h0 => (by rw [hr] at h0; cases h0), fun j hj => by
    rw [hr] at hj
    obtain rfl : j = i := by simpa using hj
    exact wpOp_of_list hi h⟩
theorem gp_on {fuel i : Nat} {listed : Array Bool} (h1 : B i = false → Own w0 w M) (h2 : wpX P .any ops Q (Held w0 M) B fuel (listed.setIfInBounds i true) a w) :
    wpList P ops (Patch (fun a' w' => (B i = false → Held w0 M w') ∧ wpX P .any ops Q (Held w0 M) B fuel (listed.setIfInBounds i true) a' w') Q) [] a w := wpList_nil ⟨h1, h2⟩
theorem gp_done {fuel : Nat} {listed : Array Bool} (hr : Region.ready .any ops listed = []) (h : Q .normal a w) : wpX P .any ops Q (Held w0 M) B fuel listed a w := by
  cases fuel with
  | zero => exact ⟨hr, h⟩
  | succ _ => exact ⟨fun _ => h, by rw [hr]; simp⟩
end
/-! defers -/
section
variable {D : List Deferred} {P : Program} {ops : Array Oper} {Q : Exit → Act → World → Prop} {rest : List Oper} {o : Oper} {N : Nat} {a : Act} {F : List (Nat × Value)} {w : World}
theorem FrD.defer (h : FrD D N a F) (d : Deferred) : FrD (d :: D) N { a with defers := d :: a.defers } F := ⟨by rw [h.defers], h.size, h.at_⟩
theorem gw_defer {x : Operand} {tys : Array TypeId} {fn : Fn} {cap : Array Value} (HF : FrD D N a F) (hw : Region.wanted o (yielded ops a.tmps) = true) (hd : o.dst = none) (ho : o.op = .defer { callee := .value x, args := #[], argTypes := tys }) (hx : a.eval x = .func fn #[] cap)
    (k : ∀ a', FrD ({ target := .fn fn cap, args := #[] } :: D) N a' F → wpList P ops Q rest a' w) : wpList P ops Q (o :: rest) a w := by
  have hr : (execOp a.eval o).run P w = .ok (.defer { target := .fn fn cap, args := #[] }) w := by
    unfold execOp
    simp only [ho]
    simp [resolve, Deferred.ofValue, hx]
  refine wpList_step fun K hK => ?_
  rw [if_pos hw]
  unfold Oper.wp
  rw [hr, Oper.upon_defer, hd]
  exact hK _ _ (k _ (HF.defer _))
theorem gw_startD {fn : Func} {R : Ending → World → Prop} {f : FuncId} {c : Code} {vs : List Value} (hf : P.funcs[f]? = some fn) (hb : fn.body = some c) (hn : fn.ntmps = N) (hl : vs.length ≤ N)
    (h : ∀ a, Fr N a (ixs 0 vs) → c.wp P (bodyPostD P fn R) a w) : Calls P f vs.toArray w R := by
  refine calls_of_wp_defers hf hb ?_
  rw [hn]
  exact h _ (Fr.start vs N hl)
theorem gw_dret {fn : Func} {R : Ending → World → Prop} (HF : FrD D N a F) (h : Leaves P fn a.tmps R D .returning w) : bodyPostD P fn R .ret a w := by
  show Leaves P fn a.tmps R a.defers .returning w
  rw [HF.defers]
  exact h
theorem gw_dpan {fn : Func} {R : Ending → World → Prop} {c : List PanicEntry} (HF : FrD D N a F) (h : Leaves P fn a.tmps R D (.panicking c) w) : bodyPostD P fn R (.panic c) a w := by
  show Leaves P fn a.tmps R a.defers (.panicking c) w
  rw [HF.defers]
  exact h
theorem gl_ret1 {fn : Func} {R : Ending → World → Prop} {r1 : ResultVar} {v1 : Value} (hr : fn.results = #[r1]) (h1 : RV P a w r1 v1) (h : R (.returned v1) w) : Leaves P fn a.tmps R [] .returning w := by
  refine ⟨v1, ?_, h⟩
  unfold RV at h1
  rw [results_eq, hr]
  simp [h1]
theorem invoke_fn {f : FuncId} {fn : Func} {cap : Array Value} (hf : P.funcs[f]? = some fn) (hname : (fn.name == "runtime.NumGoroutine") = false) (hb : fn.body.isSome = true) (w : World) : (invoke (.fn (.func f) cap) #[]).run P w = .ok (.enter f cap) w := by
  have he := enters_ hf hname hb (#[] ++ cap) w
  simpa [invoke] using he
end
section
variable {P : Program} {fn : Func} {N d : Nat} {a : Act} {F : List (Nat × Value)} {w : World} {c₀ : Frame} {cs : List Frame} {R : Ending → FrameMode → World → Prop} {u u' : FrameMode}
theorem gs_end0 (HF : Fr N a F) (hr : fn.results = #[]) (h : R (.returned (.tuple #[])) u' w) : bodyPostS P fn c₀ cs R .normal a ({ c₀ with mode := u' } :: cs) w :=
  ⟨HF.defers, u', rfl, _, results_none hr a.tmps P w, h⟩
theorem gs_pan {c : List PanicEntry} (HF : Fr N a F) (h : R (.panicked c) u' w) : bodyPostS P fn c₀ cs R (.panic c) a ({ c₀ with mode := u' } :: cs) w := ⟨HF.defers, u', rfl, h⟩
theorem gs_start {f : FuncId} {c : Code} {vs : List Value} (hf : P.funcs[f]? = some fn) (hb : fn.body = some c) (hn : fn.ntmps = N) (hl : vs.length ≤ N)
    (h : ∀ (c₀ : Frame) (cs : List Frame), c₀.mode = u → ∀ a, Fr N a (ixs 0 vs) → c.wpS P (bodyPostS P fn c₀ cs R) a (c₀ :: cs) w) : CallsD P f vs.toArray u w R := by
  refine callsD_of_wpS hf hb fun c₀ cs hu => ?_
  rw [hn]
  exact h c₀ cs hu _ (Fr.start vs N hl)
/-- What recover hands back in each mode of the frame below, and the mode behind it. -/
def recd : FrameMode → Value × FrameMode
  | .panicking ({ v, recovered := false, goexit := false } :: older) => (v, .panicking ({ v, recovered := true } :: older))
  | u => (.nilIface, u)
theorem recoverD_is (hu : c₀.mode = u) : (match recoverD (c₀ :: cs) with | some p => p | none => (.nilIface, c₀ :: cs)) = ((recd u).1, { c₀ with mode := (recd u).2 } :: cs) := by
  subst hu
  have hc : { c₀ with mode := c₀.mode } = c₀ := rfl
  cases h : c₀.mode with
  | run => simp only [recoverD, recd, h]; rw [← h]
  | returning => simp only [recoverD, recd, h]; rw [← h]
  | panicking chain =>
    cases chain with
    | nil => simp only [recoverD, recd, h]; rw [← h]
    | cons e older =>
      obtain ⟨v, r, g⟩ := e
      cases r <;> cases g <;> simp only [recoverD, recd, h] <;> rw [← h]
theorem gs_recover {id : Nat} {o : Oper} {y : Code} {tys : Array TypeId} {got : Value} {Q : Exit → Act → List Frame → World → Prop} (HF : Fr N a F) (ho : o.op = .call { callee := .builtin .recover, args := #[], argTypes := tys }) (hg : o.guard = none) (hd : o.dst = some d) (hN : d < N) (hu : c₀.mode = u) (hr : recd u = (got, u'))
    (h : ∀ a', Fr N a' ((d, got) :: F) → y.wp P (fun e a' w' => Q e a' ({ c₀ with mode := u' } :: cs) w') a' w) : (Code.seq (.region id #[o] false) y).wpS P Q a (c₀ :: cs) w := by
  have hx : (execOp a.eval o).run P w = .ok .recover w := by
    unfold execOp
    simp only [ho]
    rfl
  refine wpS_seq (wpS_region ?_)
  have hw : Region.wanted o (yielded #[o] a.tmps) = true := by simp [Region.wanted, hg]
  have hl : List.range (#[o] : Array Oper).size = [0] := rfl
  rw [hl]
  simp only [wpOpsS, List.getElem?_toArray, List.getElem?_cons_zero, hw, if_true, hx, hd]
  have key := recoverD_is (c₀ := c₀) (cs := cs) hu
  rw [hr] at key
  cases hrec : recoverD (c₀ :: cs) with
  | none =>
    rw [hrec] at key
    simp only [Prod.mk.injEq] at key
    obtain ⟨rfl, k2⟩ := key
    show Exit.thenS _ _ .normal _ _ _
    refine wpS_of_wp ?_
    rw [k2]
    exact h _ (HF.put hN _)
  | some p =>
    obtain ⟨v, cs'⟩ := p
    rw [hrec] at key
    simp only [Prod.mk.injEq] at key
    obtain ⟨rfl, rfl⟩ := key
    show Exit.thenS _ _ .normal _ _ _
    refine wpS_of_wp ?_
    exact h _ (HF.put hN _)
theorem gs_ops {ops : Array Oper} {cs : List Frame} {Q : Exit → Act → List Frame → World → Prop} (hno : ∀ a w, ¬ Q .outgrown a cs w) : ∀ (l : List Nat) (a : Act) (w : World), wpOps P ops (fun e a w => Q e a cs w) l a w → wpOpsS P ops Q l a cs w
  | [], _, _, h => h
  | i :: l, a, w, h => by
    have ih : ∀ a w, wpOps P ops (fun e a w => Q e a cs w) l a w → wpOpsS P ops Q l a cs w := gs_ops hno l
    unfold wpOps at h
    unfold wpOpsS
    cases ho : ops[i]? with
    | none => simp only [ho] at h ⊢; exact ih _ _ h
    | some o =>
      simp only [ho] at h ⊢
      split
      · rename_i hw
        rw [if_pos hw] at h
        rcases h with h | ⟨_, a2, w2, h⟩
        · unfold Oper.wp at h
          generalize (execOp a.eval o).run P w = r at h
          cases r with
          | ok n w' =>
            cases n <;> simp only [Oper.upon] at h ⊢ <;>
              first
                | exact ih _ _ h
                | exact Calls.mono h (fun e w'' he => by cases e <;> first | exact ih _ _ he | exact he | (obtain ⟨a3, w3, he⟩ := he; exact absurd he (hno _ _)))
                | exact Rows.mono h (fun _ _ he => ih _ _ he)
                | exact h.elim
          | halt x w' => cases x <;> simp only [Oper.upon] at h ⊢ <;> exact h
        · exact absurd h (hno _ _)
      · rename_i hw
        rw [if_neg hw] at h
        exact ih _ _ h
theorem gs_recoverL {id : Nat} {o : Oper} {rest : List Oper} {y : Code} {tys : Array TypeId} {got : Value} {Q : Exit → Act → List Frame → World → Prop} (HF : Fr N a F) (ho : o.op = .call { callee := .builtin .recover, args := #[], argTypes := tys }) (hg : o.guard = none) (hd : o.dst = some d) (hN : d < N) (hu : c₀.mode = u) (hr : recd u = (got, u')) (hno : ∀ a w cs, ¬ Q .outgrown a cs w)
    (h : ∀ K : Act → World → Prop, (∀ a w, y.wp P (fun e a' w' => Q e a' ({ c₀ with mode := u' } :: cs) w') a w → K a w) → ∀ a', Fr N a' ((d, got) :: F) → wpList P (o :: rest).toArray (Exit.then K (fun e a' w' => Q e a' ({ c₀ with mode := u' } :: cs) w')) rest a' w) : (Code.seq (.region id (o :: rest).toArray false) y).wpS P Q a (c₀ :: cs) w := by
  have hx : (execOp a.eval o).run P w = .ok .recover w := by
    unfold execOp
    simp only [ho]
    rfl
  refine wpS_seq (wpS_region ?_)
  have hw : Region.wanted o (yielded (o :: rest).toArray a.tmps) = true := by simp [Region.wanted, hg]
  have hl : List.range (o :: rest).toArray.size = 0 :: List.range' 1 rest.length := by
    simp [List.range_eq_range', List.range'_succ]
  rw [hl]
  have key := recoverD_is (c₀ := c₀) (cs := cs) hu
  rw [hr] at key
  have goon : ∀ a', Fr N a' ((d, got) :: F) → wpOpsS P (o :: rest).toArray (Exit.thenS (y.wpS P Q) Q) (List.range' 1 rest.length) a' ({ c₀ with mode := u' } :: cs) w := fun a' HF' => by
    refine gs_ops (Q := Exit.thenS (y.wpS P Q) Q) (fun a w hh => hno a w _ hh) _ _ _ ?_
    rw [wpOps_eq_wpList rest 1 (fun j => by simp [Nat.add_comm])]
    have h2 := h (fun a w => y.wpS P Q a ({ c₀ with mode := u' } :: cs) w) (fun a w hk => wpS_of_wp hk) a' HF'
    have e : (Exit.then (fun a w => y.wpS P Q a ({ c₀ with mode := u' } :: cs) w) fun e a' w' => Q e a' ({ c₀ with mode := u' } :: cs) w') = (fun e a w => Exit.thenS (y.wpS P Q) Q e a ({ c₀ with mode := u' } :: cs) w) := by
      funext e a w
      cases e <;> rfl
    rw [e] at h2
    exact h2
  unfold wpOpsS
  simp only [List.getElem?_toArray, List.getElem?_cons_zero, hw, if_true, hx, hd]
  cases hrec : recoverD (c₀ :: cs) with
  | none =>
    rw [hrec] at key
    simp only [Prod.mk.injEq] at key
    obtain ⟨rfl, k2⟩ := key
    show wpOpsS P _ _ _ _ (c₀ :: cs) w
    rw [k2]
    exact goon _ (HF.put hN _)
  | some p =>
    obtain ⟨v, cs'⟩ := p
    rw [hrec] at key
    simp only [Prod.mk.injEq] at key
    obtain ⟨rfl, rfl⟩ := key
    exact goon _ (HF.put hN _)
theorem op_tassert {o : Oper} {x : Operand} {t t' : TypeId} {ok : Bool} {v r : Value} (hr : (Instr.typeAssert v t t' ok).run P w = .ok r w) (ho : o.op = .typeAssert x t t' ok) (hx : a.eval x = v) : Runs P o a w r w := by
  unfold Runs execOp
  simp only [ho, hx, Sem.run_bind, hr, Result.andThen_ok, Sem.run_pure]
end
end Go.Proofs.Ytjndcgochnaodaa.PA

/- Rows of the call's own whose elements lead to what is only read; literals of such elements. -/
namespace Go.Proofs.Ytjndcgochnaodaa.PA
open Go.RowKit Go.Proofs.YtjndcgochnaodaaW.PrintWords Go.Proofs.YtjndcgochnaodaaW.PrintLast Go.Proofs.YtjndcgochnaodaaW.PrintMore
set_option linter.unusedVariables false
set_option linter.unusedSimpArgs false
section
variable {α : Type} {d : Kd α} {e base n c g : Nat} {S : Nat → Prop} {A : Option Addr} {xs ys : List α} {v : Value} {w0 w : World} {L : List Chunk} {cj : Chunk}
def Chunk.nrow (d : Kd α) (e base : Nat) (S : Nat → Prop) (v : Value) (xs : List α) : Chunk := ⟨S, fun w => Kd.N d e w base S v xs, fun h hm => Kd.N_step h (fun k hk _ => hm k hk)⟩
theorem Own.nrow_nil (h : Own w0 w L) (d : Kd α) (e base : Nat) : Own w0 w (Chunk.nrow d e base (fun _ => False) (.slice none 0 0) [] :: L) :=
  h.fresh (cs := [_]) (Out.one (Out.refl w _) (c := Chunk.nrow d e base (fun _ => False) (.slice none 0 0) []) (Kd.N_nil _ _ _ _ _) (fun _ hk => hk.elim))
theorem nrow_in (h : Kd.N d e w base S (.slice A n c) xs) {ad : Addr} (e1 : A = some ad) : S ad.block := h.1 _ (by subst e1; rfl)
theorem Own.nrow_view (h : Own w0 w L) (i : Nat) (hi : L[i]? = some (Chunk.nrow d e base S (.slice A n c) xs)) : Own w0 w (L.set i (Chunk.view d S A n c xs)) :=
  h.mapc i hi (fun _ hk => hk) (fun _ hr => ⟨Kd.N_F hr, (Kd.N_reads' hr).2.1, fun ad e => nrow_in hr e⟩)
theorem nrow_C (h : (Chunk.nrow d e base S (.slice A n c) xs).P w) : d.C w A n xs := by
  obtain ⟨rfl, _, h2⟩ := Kd.N_reads' h
  exact h2
theorem nrow_le (h : (Chunk.nrow d e base S (.slice A n c) xs).P w) : n ≤ c := (Kd.N_reads' h).2.1
/-- A literal of elements, with what they lead to, is from here on only read. -/
theorem Own.lit_view {cs : List Value} (h : Own w0 w (Chunk.blk g (.cells cs.toArray e (0, 0)) :: cj :: L)) (d : Kd α) (xs : List α) (hr : ∀ w, cj.P w → Reps (Kd.FK d w cj.S) d.sz xs cs) (hm : xs.length ≤ maxLen) : Own w0 w (Chunk.view d (fun k => k = g ∨ cj.S k) (some ⟨g, 0, none⟩) xs.length xs.length xs :: L) := by
  have hB : w.heap[g]? = some (.cells cs.toArray e (0, 0)) := h.get 0 rfl
  have hR := hr w (h.get 1 rfl)
  have HB : Own w0 w (Chunk.all [Chunk.blk g (.cells cs.toArray e (0, 0)), cj] :: L) := Own.bundle (A := [_, _]) h
  have hall : ∀ k, (Chunk.all [Chunk.blk g (.cells cs.toArray e (0, 0)), cj]).S k ↔ k = g ∨ cj.S k := fun k => by
    constructor
    · rintro ⟨c, hc, hk⟩
      simp only [List.mem_cons, List.mem_nil_iff, or_false] at hc
      rcases hc with rfl | rfl
      · exact .inl hk
      · exact .inr hk
    · rintro (hk | hk)
      · exact ⟨_, List.mem_cons_self .., hk⟩
      · exact ⟨cj, by simp, hk⟩
  refine HB.calls (cs := []) 0 rfl (Out.one (Out.refl w _) ⟨?_, Nat.le_refl _, fun ad e1 => by injection e1 with e1; subst e1; exact .inl rfl⟩ fun k hk => ⟨.inl ((hall k).2 hk), (HB.lt 0 rfl ((hall k).2 hk)).2⟩)
  intro W' hW
  have hlt : g < w.heap.size := blk_lt hB
  have hB' : W'.heap[g]? = some (.cells cs.toArray e (0, 0)) := (hW g (.inl rfl) hlt).trans hB
  exact Cg_lit hB' (hR.imp_ (fun x c hk => hk W' (fun k hk2 hl => hW k (.inr hk2) hl))) hm
theorem reps_FK {w : World} {S : Nat → Prop} {cs : List Value} (h : ∀ W', (∀ k, S k → k < w.heap.size → W'.heap[k]? = w.heap[k]?) → Reps (d.K W') d.sz xs cs) : Reps (Kd.FK d w S) d.sz xs cs :=
  ⟨(h w (fun _ _ _ => rfl)).1, fun j p hj => fun W' hW => (h W' hW).2 j p hj⟩
end
section
variable {D : List Deferred} {P : Program} {ops : Array Oper} {Q : Exit → Act → World → Prop} {rest : List Oper} {o : Oper} {N dd : Nat} {a : Act} {F : List (Nat × Value)} {w w0 : World} {L : List Chunk} {α : Type}
/-- append(row, ys...): ys is what one thing shows; it becomes the row's. -/
theorem gw_nappend (d : Kd α) {e base : Nat} {S : Nat → Prop} {A B : Option Addr} {c m cc : Nat} {xs ys : List α} {cj : Chunk} {s x : Operand} {t : TypeId} {z : Value} {bytes : Nat} (HF : FrD D N a F) (HO : Own w0 w (Chunk.nrow d e base S (.slice A xs.length c) xs :: cj :: L)) (hw : Region.wanted o (yielded ops a.tmps) = true) (hd : o.dst = some dd) (hN : dd < N)
    (ho : o.op = .call { callee := .builtin .append, args := #[s, x], argTypes := #[t, t] })
    (ht : P.underlying t = some (.slice e)) (hinfo : (P.info? e).map (fun i => (i.zero, i.size, i.bytes)) = some (some z, d.sz, bytes)) (hz : z.cells.size = d.sz) (hs0 : 0 < d.sz) (hb0 : 0 < bytes)
    (hs : a.eval s = .slice A xs.length c) (hx : a.eval x = .slice B m cc) (hF : ∀ w, cj.P w → Kd.F d w cj.S B m ys) (hbase : base ≤ w.heap.size) (hl : (xs.length + m) * bytes ≤ 140737488355328)
    (k : ∀ A' c' S' a' w1, FrD D N a' ((dd, .slice A' (xs ++ ys).length c') :: F) → Own w0 w1 (Chunk.nrow d e base S' (.slice A' (xs ++ ys).length c') (xs ++ ys) :: L) → wpList P ops Q rest a' w1) : wpList P ops Q (o :: rest) a w := by
  have hR : Kd.N d e w base S (.slice A xs.length c) xs := HO.get 0 rfl
  have hF' := hF w (HO.get 1 rfl)
  refine gw_unguard hw ?_
  refine Kd.N_append_rows d (w0 := w) base rfl s x t e z bytes ho ht hinfo hz hs0 hb0 _ xs ys B m cc (fun k => S k ∨ cj.S k ∨ w.heap.size ≤ k) cj.S hs hx (Kd.N_mono hR (fun k hk => .inl hk)) hF' (fun k hk => ⟨.inr (.inl hk), fun e => HO.apart_at 0 1 (by decide) rfl rfl k (hR.1 k e.symm) hk⟩) (fun k hk => .inr (.inr hk)) (Below.refl _ _) hbase hl ?_
  intro v1 w1 h1 _ hgr _
  obtain ⟨A', c', rfl⟩ := Kd.N_slice h1
  show wpList P ops Q rest (a.put o.dst _) w1
  rw [hd]
  have HB : Own w0 w (Chunk.all [Chunk.nrow d e base S (.slice A xs.length c) xs, cj] :: L) := Own.bundle (A := [_, _]) HO
  have hall : ∀ k, (Chunk.all [Chunk.nrow d e base S (.slice A xs.length c) xs, cj]).S k ↔ S k ∨ cj.S k := fun k => by
    constructor
    · rintro ⟨c, hc, hk⟩
      simp only [List.mem_cons, List.mem_nil_iff, or_false] at hc
      rcases hc with rfl | rfl
      · exact .inl hk
      · exact .inr hk
    · rintro (hk | hk)
      · exact ⟨_, List.mem_cons_self .., hk⟩
      · exact ⟨cj, by simp, hk⟩
  refine k A' c' (fun k => (S k ∨ cj.S k) ∨ w.heap.size ≤ k ∧ k < w1.heap.size) _ w1 (HF.put hN _) (HB.calls (cs := []) 0 rfl ?_)
  refine Out.one ((Out.refl w _).grown hgr (fun k e => .inl ((hall k).2 (.inl (hR.1 k e))))) ?_ ?_
  · exact Kd.N_mono (Kd.N_bound h1) (fun k hk => by
      rcases hk.1 with h | h | h
      · exact .inl (.inl h)
      · exact .inl (.inr h)
      · exact .inr ⟨h, hk.2⟩)
  · intro k hk
    rcases hk with hk | hk
    · exact ⟨.inl ((hall k).2 hk), Nat.lt_of_lt_of_le (HB.lt 0 rfl ((hall k).2 hk)).2 hgr.size⟩
    · exact ⟨.inr hk.1, hk.2⟩
end
end Go.Proofs.Ytjndcgochnaodaa.PA

