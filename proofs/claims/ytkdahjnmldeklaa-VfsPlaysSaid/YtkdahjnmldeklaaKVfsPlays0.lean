/- What this claim uses of this session's own texts, put together by a program: PAx0 HOwn HGw HGw2 HDraw HObj HJoin HLazy HShort HMap HVfs HPan HVfs2 GVfs0 GVfs1 GVfs2. -/
import Derived.Test.YtkdahjnmldeklaaKVfsPlaysW0
import Derived.Test.YtkdahjnmldeklaaProg
import Derived.Test.YtkdahjnmldeklaaRows
section
namespace Go.Proofs.Ytkdahjnmldeklaa.PA
open Go.RowKit Go.Proofs.YtkdahjnmldeklaaW.PrintWords Go.Proofs.YtkdahjnmldeklaaW.PrintLast Go.Proofs.YtkdahjnmldeklaaW.PrintMore
attribute [local go_sem] max2_int min2_int max_two min_two max_three min_three max_four min_four   -- for this text's walks alone
set_option linter.unusedVariables false
set_option linter.unusedSimpArgs false
structure S93 where
  f0 : ByteArray
  f1 : (List Int)
  f2 : Int
def z93 : S93 := ⟨(⟨#[]⟩ : ByteArray), ([] : List Int), (0 : Int)⟩
def k93 : Kd S93 := Kd.iso (Kd.pair Kd.string (Kd.pair (Kd.slice 5 (Kd.int .u8)) (Kd.int .i64))) (fun x : S93 => (x.f0, x.f1, x.f2))
theorem k93_open {w : World} {x : S93} {cs : List Value} (h : k93.K w x cs) : ∃ A1 c1, cs = [.string x.f0, .slice A1 x.f1.length c1, .int .i64 x.f2] ∧ x.f1.length ≤ c1 ∧ (Kd.int .u8).C w A1 x.f1.length x.f1 := by
  obtain ⟨_, _, rfl, rfl, ⟨_, _, rfl, ⟨A1, c1, rfl, l1, g1⟩, rfl⟩⟩ := h
  exact ⟨A1, c1, rfl, l1, g1⟩
theorem k93_mk (w : World) (x : S93) {A1 : Option Addr} {c1 : Nat} (l1 : x.f1.length ≤ c1) (g1 : (Kd.int .u8).C w A1 x.f1.length x.f1) : k93.K w x [.string x.f0, .slice A1 x.f1.length c1, .int .i64 x.f2] := ⟨[.string x.f0], [.slice A1 x.f1.length c1, .int .i64 x.f2], rfl, rfl, ⟨[.slice A1 x.f1.length c1], [.int .i64 x.f2], rfl, ⟨A1, c1, rfl, l1, g1⟩, rfl⟩⟩
theorem k93_openF {W : World} {ok : Nat → Prop} {x : S93} {cs : List Value} (h : Kd.FK k93 W ok x cs) : ∃ A1 c1, cs = [.string x.f0, .slice A1 x.f1.length c1, .int .i64 x.f2] ∧ x.f1.length ≤ c1 ∧ Kd.F (Kd.int .u8) W ok A1 x.f1.length x.f1 := by
  obtain ⟨A1, c1, rfl, l1, _⟩ := k93_open (Kd.FK_now h)
  exact ⟨A1, c1, rfl, l1, (fun W' hW => by obtain ⟨A1_, c1_, he, l1_, g1_⟩ := k93_open (h W' hW); injection (Option.some.inj (show some (Value.slice A1 x.f1.length c1) = some (Value.slice A1_ x.f1.length c1_) from congrArg (fun l => l[1]?) he)) with ha_ _ _; rw [ha_]; exact g1_)⟩
theorem k93_mkF (W : World) (ok : Nat → Prop) (x : S93) {A1 : Option Addr} {c1 : Nat} (l1 : x.f1.length ≤ c1) (g1 : Kd.F (Kd.int .u8) W ok A1 x.f1.length x.f1) : Kd.FK k93 W ok x [.string x.f0, .slice A1 x.f1.length c1, .int .i64 x.f2] := fun W2 hW => k93_mk W2 x l1 (g1 W2 hW)
end Go.Proofs.Ytkdahjnmldeklaa.PA
end
section
namespace Go.Proofs.Ytkdahjnmldeklaa.PA
open Go.RowKit Go.Proofs.YtkdahjnmldeklaaW.PrintWords Go.Proofs.YtkdahjnmldeklaaW.PrintLast Go.Proofs.YtkdahjnmldeklaaW.PrintMore
set_option linter.unusedVariables false
set_option linter.unusedSimpArgs false
structure Chunk where
  S : Nat → Prop
  P : World → Prop
  move : ∀ {w w' : World}, P w → (∀ k, S k → w'.heap[k]? = w.heap[k]?) → P w'
structure Own (w0 w : World) (L : List Chunk) : Prop where
  below : Below w0.heap.size w0 w
  holds : ∀ c ∈ L, c.P w
  inside : ∀ c ∈ L, ∀ k, c.S k → w0.heap.size ≤ k ∧ k < w.heap.size
  apart : L.Pairwise (fun c d => ∀ k, c.S k → ¬ d.S k)
structure Out (w w' : World) (S : Nat → Prop) (L : List Chunk) : Prop where
  os : w'.os = w.os
  tape : w'.tape = w.tape
  output : w'.output = w.output
  size : w.heap.size ≤ w'.heap.size
  block : ∀ k, k < w.heap.size → ¬ S k → w'.heap[k]? = w.heap[k]?
  holds : ∀ c ∈ L, c.P w'
  inside : ∀ c ∈ L, ∀ k, c.S k → (S k ∨ w.heap.size ≤ k) ∧ k < w'.heap.size
  apart : L.Pairwise (fun c d => ∀ k, c.S k → ¬ d.S k)
section
variable {w0 w w' : World} {L cs : List Chunk} {c c' : Chunk}
theorem Own.start (w : World) : Own w w [] := ⟨Below.refl _ _, fun _ h => by simp at h, fun _ h => by simp at h, List.Pairwise.nil⟩
theorem Own.get (h : Own w0 w L) (i : Nat) (hi : L[i]? = some c) : c.P w := h.holds c (List.mem_of_getElem? hi)
theorem Own.lt (h : Own w0 w L) (i : Nat) (hi : L[i]? = some c) {k : Nat} (hk : c.S k) : w0.heap.size ≤ k ∧ k < w.heap.size := h.inside c (List.mem_of_getElem? hi) k hk
theorem pw_mid {R : Chunk → Chunk → Prop} (hs : ∀ a b, R a b → R b a) : ∀ {L : List Chunk}, L.Pairwise R → ∀ (i j : Nat) (a b : Chunk), i ≠ j → L[i]? = some a → L[j]? = some b → R a b := by
  intro L h i j a b hij ha hb
  obtain ⟨hi, rfl⟩ := List.getElem?_eq_some_iff.1 ha
  obtain ⟨hj, rfl⟩ := List.getElem?_eq_some_iff.1 hb
  rcases Nat.lt_or_gt_of_ne hij with hlt | hlt
  · exact List.pairwise_iff_getElem.1 h i j hi hj hlt
  · exact hs _ _ (List.pairwise_iff_getElem.1 h j i hj hi hlt)
theorem ap_symm (a b : Chunk) (h : ∀ k, a.S k → ¬ b.S k) : ∀ k, b.S k → ¬ a.S k := fun k hb ha => h k ha hb
theorem Own.apart_at (h : Own w0 w L) (i j : Nat) (hij : i ≠ j) (hi : L[i]? = some c) (hj : L[j]? = some c') : ∀ k, c.S k → ¬ c'.S k :=
  pw_mid ap_symm h.apart i j c c' hij hi hj
theorem Own.calls (h : Own w0 w L) (i : Nat) (hi : L[i]? = some c) (ho : Out w w' c.S (c' :: cs)) : Own w0 w' (cs ++ L.set i c') := by
  have hlt : i < L.length := (List.getElem?_eq_some_iff.1 hi).1
  have old : ∀ (j : Nat) (d : Chunk), j ≠ i → L[j]? = some d → ∀ k, d.S k → w'.heap[k]? = w.heap[k]? := fun j d hj hd k hk =>
    ho.block k (h.lt j hd hk).2 (fun hc => h.apart_at j i hj hd hi k hk hc)
  have mem_set : ∀ d, d ∈ L.set i c' → d = c' ∨ ∃ j, j ≠ i ∧ L[j]? = some d := by
    intro d hd
    obtain ⟨j, hj⟩ := List.mem_iff_getElem?.1 hd
    by_cases e : j = i
    · subst e
      rw [List.getElem?_set_self hlt] at hj
      exact .inl (Option.some.inj hj).symm
    · rw [List.getElem?_set_ne (fun h => e h.symm)] at hj
      exact .inr ⟨j, e, hj⟩
  have ahead : ∀ a, a ∈ c' :: cs → ∀ (j : Nat) (d : Chunk), j ≠ i → L[j]? = some d → ∀ k, a.S k → ¬ d.S k := by
    intro a ha j d hj hd k hk hdk
    have h1 := (h.lt j hd hdk).2
    rcases (ho.inside a ha k hk).1 with h2 | h2
    · exact h.apart_at j i hj hd hi k hdk h2
    · omega
  have hcs := List.pairwise_cons.1 ho.apart
  refine ⟨⟨ho.os.trans h.below.os, ho.tape.trans h.below.tape, ho.output.trans h.below.output, Nat.le_trans h.below.size ho.size, fun k hk => ?_⟩, ?_, ?_, ?_⟩
  · exact (ho.block k (Nat.lt_of_lt_of_le hk h.below.size) (fun hc => by have := (h.lt i hi hc).1; omega)).trans (h.below.block k hk)
  · intro d hd
    rcases List.mem_append.1 hd with hd | hd
    · exact ho.holds d (List.mem_cons_of_mem _ hd)
    · rcases mem_set d hd with rfl | ⟨j, hj, hd⟩
      · exact ho.holds _ (List.mem_cons_self ..)
      · exact d.move (h.get j hd) (old j d hj hd)
  · intro d hd k hk
    have new : ∀ a, a ∈ c' :: cs → a.S k → w0.heap.size ≤ k ∧ k < w'.heap.size := by
      intro a ha hk
      have h1 := ho.inside a ha k hk
      refine ⟨?_, h1.2⟩
      rcases h1.1 with h2 | h2
      · exact (h.lt i hi h2).1
      · exact Nat.le_trans h.below.size h2
    rcases List.mem_append.1 hd with hd | hd
    · exact new d (List.mem_cons_of_mem _ hd) hk
    · rcases mem_set d hd with rfl | ⟨j, hj, hd⟩
      · exact new _ (List.mem_cons_self ..) hk
      · have := h.lt j hd hk
        exact ⟨this.1, Nat.lt_of_lt_of_le this.2 ho.size⟩
  · refine List.pairwise_append.2 ⟨hcs.2, ?_, ?_⟩
    · refine List.pairwise_iff_getElem.2 fun p q hp hq hpq => ?_
      have e1 : (L.set i c')[p]? = some (L.set i c')[p] := List.getElem?_eq_getElem hp
      have e2 : (L.set i c')[q]? = some (L.set i c')[q] := List.getElem?_eq_getElem hq
      by_cases hpi : p = i
      · subst hpi
        rw [List.getElem?_set_self hlt] at e1
        rw [List.getElem?_set_ne (by omega)] at e2
        rw [← Option.some.inj e1]
        exact ahead _ (List.mem_cons_self ..) q _ (by omega) e2
      · rw [List.getElem?_set_ne (fun h => hpi h.symm)] at e1
        by_cases hqi : q = i
        · subst hqi
          rw [List.getElem?_set_self hlt] at e2
          rw [← Option.some.inj e2]
          exact ap_symm _ _ (ahead _ (List.mem_cons_self ..) p _ hpi e1)
        · rw [List.getElem?_set_ne (fun h => hqi h.symm)] at e2
          exact h.apart_at p q (by omega) e1 e2
    · intro a ha b hb
      rcases mem_set b hb with rfl | ⟨j, hj, hb⟩
      · exact ap_symm _ _ (hcs.1 a ha)
      · exact ahead a (List.mem_cons_of_mem _ ha) j b hj hb
theorem Own.fresh (h : Own w0 w L) (ho : Out w w' (fun _ => False) cs) : Own w0 w' (cs ++ L) := by
  refine ⟨⟨ho.os.trans h.below.os, ho.tape.trans h.below.tape, ho.output.trans h.below.output, Nat.le_trans h.below.size ho.size, fun k hk => ?_⟩, ?_, ?_, ?_⟩
  · exact (ho.block k (Nat.lt_of_lt_of_le hk h.below.size) (fun hc => hc)).trans (h.below.block k hk)
  · intro d hd
    rcases List.mem_append.1 hd with hd | hd
    · exact ho.holds d hd
    · exact d.move (h.holds d hd) fun k hk => ho.block k (h.inside d hd k hk).2 (fun hc => hc)
  · intro d hd k hk
    rcases List.mem_append.1 hd with hd | hd
    · have h1 := ho.inside d hd k hk
      exact ⟨Nat.le_trans h.below.size (h1.1.resolve_left (fun hc => hc)), h1.2⟩
    · have h1 := h.inside d hd k hk
      exact ⟨h1.1, Nat.lt_of_lt_of_le h1.2 ho.size⟩
  · refine List.pairwise_append.2 ⟨ho.apart, h.apart, fun a ha b hb k hk hk' => ?_⟩
    have h1 := (ho.inside a ha k hk).1.resolve_left (fun hc => hc)
    have h2 := (h.inside b hb k hk').2
    omega
theorem Own.sub (h : Own w0 w L) (hs : cs.Sublist L) : Own w0 w cs :=
  ⟨h.below, fun c hc => h.holds c (hs.subset hc), fun c hc => h.inside c (hs.subset hc), h.apart.sublist hs⟩
theorem Own.drop (h : Own w0 w L) (i : Nat) : Own w0 w (L.eraseIdx i) := h.sub (List.eraseIdx_sublist L i)
theorem Out.of_below (h : Below w.heap.size w w') (S : Nat → Prop) : Out w w' S [] :=
  ⟨h.os, h.tape, h.output, h.size, fun k hk _ => h.block k hk, fun _ h => by simp at h, fun _ h => by simp at h, List.Pairwise.nil⟩
theorem Own.after (h : Own w0 w L) (hb : Below w.heap.size w w') : Own w0 w' L := h.fresh (cs := []) (Out.of_below hb _)
theorem Own.alloc (h : Own w0 w L) (o : Obj) : Own w0 (w.alloc o) L := h.after (below_alloc (Below.refl _ _) o)
theorem Own.drewN (h : Own w0 w L) (n : Nat) : Own w0 (w.drewN n) L := h.after (pw_below_drewN (Below.refl _ _) n)
theorem Own.drew (h : Own w0 w L) : Own w0 w.drew L := h.after (below_drew (Below.refl _ _))
def Chunk.blk (g : Nat) (o : Obj) : Chunk := ⟨fun k => k = g, fun w => w.heap[g]? = some o, fun h hm => (hm g rfl).trans h⟩
theorem Own.new (h : Own w0 w L) (o : Obj) : Own w0 (w.alloc o) (Chunk.blk w.heap.size o :: L) := by
  refine h.fresh (cs := [Chunk.blk w.heap.size o]) ?_
  have hb := below_alloc (Below.refl w.heap.size w) o
  refine ⟨hb.os, hb.tape, hb.output, hb.size, fun k hk _ => hb.block k hk, ?_, ?_, List.pairwise_singleton _ _⟩
  · intro c hc
    rw [List.mem_singleton.1 hc]
    exact heap_alloc_new w o
  · intro c hc k hk
    rw [List.mem_singleton.1 hc] at hk
    have hk' : k = w.heap.size := hk
    subst hk'
    exact ⟨.inr (Nat.le_refl _), by simp⟩
theorem Own.setBlk {g : Nat} {a : Array Value} {t : TypeId} (h : Own w0 w L) (i : Nat) (hi : L[i]? = some (Chunk.blk g (.cells a t (0, 0)))) (j : Nat) (u : Value) :
    Own w0 (w.setCell ⟨g, j, none⟩ u) (L.set i (Chunk.blk g (.cells (a.setIfInBounds j u) t (0, 0)))) := by
  refine h.calls (cs := []) i hi ?_
  have hg : w.heap[g]? = some (.cells a t (0, 0)) := h.get i hi
  have hl := (h.lt i hi (k := g) rfl).2
  refine ⟨rfl, rfl, rfl, by simp [World.setCell], fun k _ hk => Below.heap_setCell w ⟨g, j, none⟩ u k hk, ?_, ?_, List.pairwise_singleton _ _⟩
  · intro c hc
    rw [List.mem_singleton.1 hc]
    exact blk_set hg j u
  · intro c hc k hk
    rw [List.mem_singleton.1 hc] at hk
    have hk' : k = g := hk
    subst hk'
    exact ⟨.inl rfl, by simpa [World.setCell] using hl⟩
end
section
variable {α : Type}
def Chunk.row (d : Kd α) (e : Nat) (base : Nat) (S : Nat → Prop) (v : Value) (xs : List α) : Chunk := ⟨S, fun w => d.R e w base S v xs, fun h hm => Kd.R_move h hm⟩
variable {d : Kd α} {e base : Nat} {w0 w w' : World} {ok : Nat → Prop} {v : Value} {xs : List α} {L : List Chunk}
theorem Out.row (h : d.R e w' w.heap.size ok v xs) (hb : Below w.heap.size w w') : Out w w' (fun _ => False) [Chunk.row d e w.heap.size (fun k => w.heap.size ≤ k ∧ k < w'.heap.size) v xs] := by
  refine ⟨hb.os, hb.tape, hb.output, hb.size, fun k hk _ => hb.block k hk, ?_, ?_, List.pairwise_singleton _ _⟩
  · intro c hc
    rw [List.mem_singleton.1 hc]
    exact Kd.R_mono (Kd.R_bound h) fun k hk => ⟨hk.2.1, hk.2.2.1⟩
  · intro c hc k hk
    rw [List.mem_singleton.1 hc] at hk
    exact ⟨.inr hk.1, hk.2⟩
end
section
variable {w W W2 : World} {S S2 : Nat → Prop} {L : List Chunk}
theorem Out.refl (w : World) (S : Nat → Prop) : Out w w S [] := Out.of_below (Below.refl _ _) S
theorem Out.then_ (h : Out w W S []) (k : Out W W2 S2 L) (hs : ∀ q, S2 q → S q ∨ w.heap.size ≤ q) : Out w W2 S [] :=
  ⟨k.os.trans h.os, k.tape.trans h.tape, k.output.trans h.output, Nat.le_trans h.size k.size, fun q hq hn => (k.block q (Nat.lt_of_lt_of_le hq h.size) (fun h2 => (hs q h2).elim hn (fun h3 => by omega))).trans (h.block q hq hn),
    fun _ h => by simp at h, fun _ h => by simp at h, List.Pairwise.nil⟩
theorem Out.setCell (h : Out w W S []) {p : Addr} (hp : S p.block ∨ w.heap.size ≤ p.block) (u : Value) : Out w (W.setCell p u) S [] :=
  h.then_ (S2 := fun k => k = p.block) (L := []) ⟨rfl, rfl, rfl, by simp [World.setCell], fun q _ hn => Below.heap_setCell W p u q hn, fun _ h => by simp at h, fun _ h => by simp at h, List.Pairwise.nil⟩ (fun q hq => by rw [hq]; exact hp)
theorem Out.grown (h : Out w W S []) {row : Option Nat} (hg : W.grownBy W2 row) (hr : ∀ k, row = some k → S k ∨ w.heap.size ≤ k) : Out w W2 S [] :=
  h.then_ (S2 := fun k => row = some k) (L := []) ⟨hg.os, hg.tape, hg.output, hg.size, fun q hq hn => hg.block q hq (fun e => hn e.symm), fun _ h => by simp at h, fun _ h => by simp at h, List.Pairwise.nil⟩ hr
theorem Out.below_ (h : Out w W S []) (hb : Below W.heap.size W W2) : Out w W2 S [] := h.then_ (Out.of_below hb (fun _ => False)) (fun _ hk => hk.elim)
theorem Out.drewN (h : Out w W S []) (n : Nat) : Out w (W.drewN n) S [] := h.below_ (pw_below_drewN (Below.refl _ _) n)
theorem Out.drew (h : Out w W S []) : Out w W.drew S [] := h.below_ (below_drew (Below.refl _ _))
theorem Out.alloc (h : Out w W S []) (o : Obj) : Out w (W.alloc o) S [] := h.below_ (below_alloc (Below.refl _ _) o)
theorem Out.blk {g : Nat} {o : Obj} (h : Out w W S L) (hb : w.heap[g]? = some o) (hg : ¬ S g) : W.heap[g]? = some o := (h.block g (blk_lt hb) hg).trans hb
theorem Out.one {c : Chunk} (h : Out w W S []) (hP : c.P W) (hin : ∀ k, c.S k → (S k ∨ w.heap.size ≤ k) ∧ k < W.heap.size) : Out w W S [c] :=
  ⟨h.os, h.tape, h.output, h.size, h.block, fun d hd => by rw [List.mem_singleton.1 hd]; exact hP, fun d hd => by rw [List.mem_singleton.1 hd]; exact hin, List.pairwise_singleton _ _⟩
end
end Go.Proofs.Ytkdahjnmldeklaa.PA
end
section
namespace Go.Proofs.Ytkdahjnmldeklaa.PA
open Go.RowKit Go.Proofs.YtkdahjnmldeklaaW.PrintWords Go.Proofs.YtkdahjnmldeklaaW.PrintLast Go.Proofs.YtkdahjnmldeklaaW.PrintMore
set_option linter.unusedVariables false
set_option linter.unusedSimpArgs false
def look : List (Nat × Value) → Nat → Option Value
  | [], _ => none
  | (d, v) :: F, t => bif Nat.beq d t then some v else look F t
structure FrD (D : List Deferred) (N : Nat) (a : Act) (F : List (Nat × Value)) : Prop where
  defers : a.defers = D
  size : a.tmps.size = N
  at_ : ∀ t v, look F t = some v → a.tmps[t]? = some v
abbrev Fr := FrD []
section
variable {D : List Deferred} {N : Nat} {a : Act} {F : List (Nat × Value)}
theorem FrD.ev (h : FrD D N a F) {t : Nat} {v : Value} (hl : look F t = some v) : a.eval (.tmp t) = v := by
  show a.tmps.getD t undef = v
  rw [Array.getD_eq_getD_getElem?, h.at_ t v hl]
  rfl
theorem ev_c (a : Act) (v : Value) : a.eval (.const v) = v := rfl
theorem FrD.put (h : FrD D N a F) {d : Nat} (hd : d < N) (v : Value) : FrD D N (a.put (some d) v) ((d, v) :: F) := by
  refine ⟨h.defers, by simp [Act.put, h.size], fun t u hl => ?_⟩
  unfold look at hl
  by_cases e : d = t
  · subst e
    have : Nat.beq d d = true := Nat.beq_refl d
    rw [this] at hl
    simp only [cond_true] at hl
    obtain rfl := Option.some.inj hl
    show (a.tmps.setIfInBounds d v)[d]? = some v
    rw [Array.getElem?_setIfInBounds_self_of_lt (by rw [h.size]; exact hd)]
  · have : Nat.beq d t = false := by
      rw [Bool.eq_false_iff]
      intro h2
      exact e (Nat.eq_of_beq_eq_true h2)
    rw [this] at hl
    simp only [cond_false] at hl
    show (a.tmps.setIfInBounds d v)[t]? = some u
    rw [Array.getElem?_setIfInBounds_ne e]
    exact h.at_ t u hl
theorem FrD.nil (h : FrD D N a F) : FrD D N a [] := ⟨h.defers, h.size, fun t v hl => by simp [look] at hl⟩
theorem FrD.pick {F' : List (Nat × Value)} (h : FrD D N a F) {t : Nat} {v : Value} (hl : look F t = some v) (h' : FrD D N a F') : FrD D N a ((t, v) :: F') := by
  refine ⟨h.defers, h.size, fun u x hx => ?_⟩
  unfold look at hx
  by_cases e : t = u
  · subst e
    rw [Nat.beq_refl t] at hx
    simp only [cond_true] at hx
    obtain rfl := Option.some.inj hx
    exact h.at_ t v hl
  · have : Nat.beq t u = false := by
      rw [Bool.eq_false_iff]
      intro h2
      exact e (Nat.eq_of_beq_eq_true h2)
    rw [this] at hx
    exact h'.at_ u x hx
end
def Runs (P : Program) (o : Oper) (a : Act) (w : World) (v : Value) (w1 : World) : Prop := (execOp a.eval o).run P w = .ok (.value v) w1
def Skips (P : Program) (o : Oper) (a : Act) (w : World) (w1 : World) : Prop := (execOp a.eval o).run P w = .ok .skip w1
def Enters (P : Program) (o : Oper) (a : Act) (w : World) (f : FuncId) (args : Array Value) : Prop := (execOp a.eval o).run P w = .ok (.enter f args) w
section
variable {P : Program} {o : Oper} {a : Act} {w : World} {x y : Operand} {t yt : TypeId}
theorem op_move {v : Value} (ho : o.op = .move x) (hx : a.eval x = v) : Runs P o a w v w := by
  unfold Runs execOp
  simp only [ho, hx]
  rfl
theorem op_assign {v : Value} (ho : o.op = .assign x) (hx : a.eval x = v) : Runs P o a w v w := by
  unfold Runs execOp
  simp only [ho, hx]
  rfl
theorem op_pick_t {v : Value} {z : Operand} (ho : o.op = .pick x y z) (hx : a.eval x = .bool true) (hy : a.eval y = v) : Runs P o a w v w := by
  unfold Runs execOp
  simp only [ho, hx, hy]
  simp [go_sem]
theorem op_pick_f {v : Value} {z : Operand} (ho : o.op = .pick x y z) (hx : a.eval x = .bool false) (hy : a.eval z = v) : Runs P o a w v w := by
  unfold Runs execOp
  simp only [ho, hx, hy]
  simp [go_sem]
theorem op_nil {ad : Addr} (ho : o.op = .nilCheck x) (hx : a.eval x = .pointer (some ad)) : Runs P o a w (.pointer (some ad)) w := by
  unfold Runs execOp
  simp only [ho, hx]
  rfl
section
variable {m n : Int} {k : IntKind}
theorem i64_ok {m : Int} (h1 : -9223372036854775808 ≤ m) (h2 : m ≤ 9223372036854775807) : IntKind.i64.wrap m = m := IntWalk.i64_in _ (by omega)
theorem op_addw (ho : o.op = .binOp .add t x y yt) (hx : a.eval x = .int k m) (hy : a.eval y = .int k n) : Runs P o a w (.int k (k.wrap (m + n))) w := by
  unfold Runs execOp
  simp only [ho, hx, hy]
  simp [go_sem]
theorem op_subw (ho : o.op = .binOp .sub t x y yt) (hx : a.eval x = .int k m) (hy : a.eval y = .int k n) : Runs P o a w (.int k (k.wrap (m - n))) w := by
  unfold Runs execOp
  simp only [ho, hx, hy]
  simp [go_sem]
theorem op_add (ho : o.op = .binOp .add t x y yt) (hx : a.eval x = .int .i64 m) (hy : a.eval y = .int .i64 n) (h : -9223372036854775808 ≤ m + n ∧ m + n ≤ 9223372036854775807) : Runs P o a w (.int .i64 (m + n)) w := by
  have := op_addw (P := P) (w := w) ho hx hy
  rwa [i64_ok h.1 h.2] at this
theorem op_sub (ho : o.op = .binOp .sub t x y yt) (hx : a.eval x = .int .i64 m) (hy : a.eval y = .int .i64 n) (h : -9223372036854775808 ≤ m - n ∧ m - n ≤ 9223372036854775807) : Runs P o a w (.int .i64 (m - n)) w := by
  have := op_subw (P := P) (w := w) ho hx hy
  rwa [i64_ok h.1 h.2] at this
theorem op_lss (ho : o.op = .binOp .lss t x y yt) (hx : a.eval x = .int k m) (hy : a.eval y = .int k n) : Runs P o a w (.bool (decide (m < n))) w := by
  unfold Runs execOp
  simp only [ho, hx, hy]
  simp [go_sem]
theorem op_leq (ho : o.op = .binOp .leq t x y yt) (hx : a.eval x = .int k m) (hy : a.eval y = .int k n) : Runs P o a w (.bool (decide (m ≤ n))) w := by
  unfold Runs execOp
  simp only [ho, hx, hy]
  simp [go_sem]
theorem op_gtr (ho : o.op = .binOp .gtr t x y yt) (hx : a.eval x = .int k m) (hy : a.eval y = .int k n) : Runs P o a w (.bool (decide (n < m))) w := by
  unfold Runs execOp
  simp only [ho, hx, hy]
  simp [go_sem]
theorem op_geq (ho : o.op = .binOp .geq t x y yt) (hx : a.eval x = .int k m) (hy : a.eval y = .int k n) : Runs P o a w (.bool (decide (n ≤ m))) w := by
  unfold Runs execOp
  simp only [ho, hx, hy]
  simp [go_sem]
theorem op_eqi (ho : o.op = .binOp .eql t x y yt) (hx : a.eval x = .int k m) (hy : a.eval y = .int k n) : Runs P o a w (.bool (decide (m = n))) w := by
  unfold Runs execOp
  simp only [ho, hx, hy]
  simp [go_sem]
  rfl
theorem op_nei (ho : o.op = .binOp .neq t x y yt) (hx : a.eval x = .int k m) (hy : a.eval y = .int k n) : Runs P o a w (.bool (decide (m ≠ n))) w := by
  unfold Runs execOp
  simp only [ho, hx, hy]
  simp [go_sem]
  rfl
end
section
variable {p q : Bool}
theorem op_neb (ht : P.underlying t = some .bool) (ho : o.op = .binOp .neq t x y yt) (hx : a.eval x = .bool p) (hy : a.eval y = .bool q) : Runs P o a w (.bool (p != q)) w := by
  unfold Runs execOp
  simp only [ho, hx, hy]
  cases p <;> cases q <;> simp [go_sem, ht]
theorem op_not (ho : o.op = .unOp .not t x) (hx : a.eval x = .bool p) : Runs P o a w (.bool (!p)) w := by
  unfold Runs execOp
  simp only [ho, hx]
  simp [go_sem]
end
section
variable {s u : ByteArray}
theorem op_eqs (ho : o.op = .binOp .eql t x y yt) (hx : a.eval x = .string s) (hy : a.eval y = .string u) : Runs P o a w (.bool (s.toList == u.toList)) w := by
  unfold Runs execOp
  simp only [ho, hx, hy]
  simp [go_sem]
theorem op_nes (ho : o.op = .binOp .neq t x y yt) (hx : a.eval x = .string s) (hy : a.eval y = .string u) : Runs P o a w (.bool (!(s.toList == u.toList))) w := by
  unfold Runs execOp
  simp only [ho, hx, hy]
  simp [go_sem]
end
theorem op_eqp_nil {ad : Addr} {e : TypeId} (ht : P.underlying t = some (.pointer e)) (ho : o.op = .binOp .eql t x (.const (.pointer none)) yt) (hx : a.eval x = .pointer (some ad)) : Runs P o a w (.bool false) w := by
  unfold Runs execOp
  simp only [ho, hx]
  simp [go_sem, Act.eval, ht]
theorem op_len {A : Option Addr} {n c : Nat} {e : TypeId} (ht : P.underlying t = some (.slice e)) (ho : o.op = .call { callee := .builtin .len, args := #[x], argTypes := #[t] }) (hx : a.eval x = .slice A n c) : Runs P o a w (.int .i64 n) w := by
  unfold Runs execOp
  simp only [ho, resolve, invoke, builtin, Sem.run_bind, Sem.run_pure, Result.andThen_ok, List.map_toArray, List.map_cons, List.map_nil, hx]
  simp [go_sem, ht]
theorem op_lens {s : ByteArray} (ht : P.underlying t = some .string) (ho : o.op = .call { callee := .builtin .len, args := #[x], argTypes := #[t] }) (hx : a.eval x = .string s) : Runs P o a w (.int .i64 s.size) w := by
  unfold Runs execOp
  simp only [ho, resolve, invoke, builtin, Sem.run_bind, Sem.run_pure, Result.andThen_ok, List.map_toArray, List.map_cons, List.map_nil, hx]
  simp [go_sem, ht]
theorem op_extract {vs : Array Value} {i : Nat} {v : Value} (ho : o.op = .extract x i) (hx : a.eval x = .tuple vs) (hv : vs[i]? = some v) : Runs P o a w v w := by
  unfold Runs execOp
  simp only [ho, hx]
  simp [go_sem, hv]
theorem op_call {f : FuncId} {fn : Func} {args : Array Operand} {tys : Array TypeId} {vs : Array Value} (hf : P.funcs[f]? = some fn) (hname : (fn.name == "runtime.NumGoroutine") = false) (hb : fn.body.isSome = true) (ho : o.op = .call { callee := .value (.func f), args := args, argTypes := tys }) (hv : args.map a.eval = vs) : Enters P o a w f vs := by
  have he := enters_ hf hname hb vs w
  unfold Enters execOp
  simp [ho, resolve, Deferred.ofValue, invoke, Act.eval, hv, he]
theorem op_max {m n : Int} {k : IntKind} (ho : o.op = .call { callee := .builtin .max, args := #[x, y], argTypes := #[t, yt] }) (hx : a.eval x = .int k m) (hy : a.eval y = .int k n) : Runs P o a w (.int k (mx m n)) w := by
  unfold Runs execOp
  simp only [ho, resolve, invoke, builtin, Sem.run_bind, Sem.run_pure, Result.andThen_ok, List.map_toArray, List.map_cons, List.map_nil, hx, hy]
  simp [go_sem, max_two, max2_int, mx]
theorem op_min {m n : Int} {k : IntKind} (ho : o.op = .call { callee := .builtin .min, args := #[x, y], argTypes := #[t, yt] }) (hx : a.eval x = .int k m) (hy : a.eval y = .int k n) : Runs P o a w (.int k (mn m n)) w := by
  unfold Runs execOp
  simp only [ho, resolve, invoke, builtin, Sem.run_bind, Sem.run_pure, Result.andThen_ok, List.map_toArray, List.map_cons, List.map_nil, hx, hy]
  simp [go_sem, min_two, min2_int, mn]
section
variable {ad : Addr} {v u : Value}
theorem op_load1 (hA : ∀ w, (isAgg t).run P w = .ok false w) (ho : o.op = .load t x) (hx : a.eval x = .pointer (some ad)) (hc : w.cell? ad = some v) : Runs P o a w v w := by
  unfold Runs execOp
  simp only [ho, hx]
  simp [go_sem, Instr.loadAt, Instr.sureAddr, loadVar, hA, hc]
theorem op_store1 (hS : ∀ w, (sizeOf t).run P w = .ok 1 w) (ho : o.op = .store t x y) (hx : a.eval x = .pointer (some ad)) (hy : a.eval y = v) (hv : v.oneCell' = true) (hc : w.cell? ad = some u) (hfz : w.frozen? ad = false) : Skips P o a w (w.setCell ad v) := by
  have hcs : v.cells = #[v] := by cases v <;> first | rfl | cases hv
  have hst := run_store P w ad v .plain hv
  have h0 : ad.add 0 = ad := by unfold Addr.add; rfl
  have key : (Instr.storeAt t (.pointer (some ad)) v).run P w = .ok () (w.setCell ad v) := by
    unfold Instr.storeAt Instr.sureAddr storeVar
    simp only [Sem.run_bind, Sem.run_pure, Result.andThen_ok, hS, hcs]
    simp [storeCells, h0, hst, stored, hc, hfz]
  unfold Skips execOp
  simp only [ho, hx, hy, Sem.run_bind, key, Result.andThen_ok, Sem.run_pure]
theorem op_alloc {z : Value} (hz : ∀ w, (zeroValue t).run P w = .ok z w) (ho : o.op = .alloc t) : Runs P o a w (.pointer (some ⟨w.heap.size, 0, none⟩)) (w.alloc (.cells z.cells t (0, 0))) := by
  unfold Runs execOp
  simp only [ho]
  simp [go_sem, Instr.alloc, hz, newVar, newRow]
theorem op_box (ho : o.op = .box t x) (hx : a.eval x = v) : Runs P o a w (.pointer (some ⟨w.heap.size, 0, none⟩)) (w.alloc (.cells v.cells t (0, 0))) := by
  unfold Runs execOp
  simp only [ho, hx]
  simp [go_sem, Instr.box, newVar, newRow]
theorem op_field {f : Nat} {ad' : Addr} (hf : ∀ w, (Instr.fieldAt t (.pointer (some ad)) f).run P w = .ok (.pointer (some ad')) w) (ho : o.op = .fieldAddr t x f) (hx : a.eval x = .pointer (some ad)) : Runs P o a w (.pointer (some ad')) w := by
  unfold Runs execOp
  simp only [ho, hx, Sem.run_bind, hf, Result.andThen_ok, Sem.run_pure]
theorem op_index {A : Option Addr} {n c sz : Nat} {e : TypeId} {k : IntKind} {i : Int} (ht : P.underlying t = some (.slice e)) (hS : ∀ w, (sizeOf e).run P w = .ok sz w) (ho : o.op = .indexAddr t x y) (hx : a.eval x = .slice A n c) (hy : a.eval y = .int k i) (hA : A = some ad) (h : 0 ≤ i ∧ i < n) :
    Runs P o a w (.pointer (some (ad.add (i.toNat * sz)))) w := by
  subst hA
  unfold Runs execOp
  simp only [ho, hx, hy]
  simp [go_sem, Instr.indexAt, asIntOf, run_underlying ht, hS, h.1, h.2]
end
end
section
variable {D : List Deferred} {P : Program} {ops : Array Oper} {Q : Exit → Act → World → Prop} {rest : List Oper} {o : Oper} {N d : Nat} {a : Act} {F : List (Nat × Value)} {w w1 : World} {v : Value} {C : World → Prop} {Q' : Act → Prop}
theorem want_none (hg : o.guard = none) : Region.wanted o (yielded ops a.tmps) = true := by simp [Region.wanted, hg]
theorem yields_of (HF : FrD D N a F) {j dj : Nat} {oj : Oper} {b : Bool} (hj : ops[j]? = some oj) (hdj : oj.dst = some dj) (hl : look F dj = some (.bool b)) : yielded ops a.tmps j = some b := by
  simp [yielded, hj, hdj, HF.at_ _ _ hl]
theorem want_yes (HF : FrD D N a F) {j dj : Nat} {oj : Oper} {b : Bool} (hg : o.guard = some (j, b)) (hj : ops[j]? = some oj) (hdj : oj.dst = some dj) (hl : look F dj = some (.bool b)) : Region.wanted o (yielded ops a.tmps) = true := by
  simp [Region.wanted, hg, yields_of HF hj hdj hl]
theorem gw_ev (HF : FrD D N a F) (hw : Region.wanted o (yielded ops a.tmps) = true) (hd : o.dst = some d) (hN : d < N) (hrun : Runs P o a w v w1) (k : ∀ a', FrD D N a' ((d, v) :: F) → wpList P ops Q rest a' w1) : wpList P ops Q (o :: rest) a w := by
  refine wpList_step fun K hK => ?_
  rw [if_pos hw]
  unfold Oper.wp
  rw [hrun, Oper.upon_value, hd]
  exact hK _ _ (k _ (HF.put hN v))
theorem gw_skip (HF : FrD D N a F) (hw : Region.wanted o (yielded ops a.tmps) = true) (hd : o.dst = none) (hrun : Skips P o a w w1) (k : ∀ a', FrD D N a' F → wpList P ops Q rest a' w1) : wpList P ops Q (o :: rest) a w := by
  refine wpList_step fun K hK => ?_
  rw [if_pos hw]
  unfold Oper.wp
  rw [hrun, Oper.upon_skip, hd]
  exact hK _ _ (k _ HF)
theorem gw_off (HF : FrD D N a F) (hw : Region.wanted o (yielded ops a.tmps) = false) (hd : o.dst = some d) (hN : d < N) (k : ∀ a', FrD D N a' ((d, undef) :: F) → wpList P ops Q rest a' w) : wpList P ops Q (o :: rest) a w := by
  refine wpList_skip hw ?_
  rw [hd]
  exact k _ (HF.put hN undef)
theorem gw_call {f : FuncId} {args : Array Value} {R : Ending → World → Prop} (HF : FrD D N a F) (hw : Region.wanted o (yielded ops a.tmps) = true) (hd : o.dst = some d) (hN : d < N) (hen : Enters P o a w f args) (hc : Calls P f args w R)
    (k : ∀ e w', R e w' → ∃ v, e = .returned v ∧ ∀ a', FrD D N a' ((d, v) :: F) → wpList P ops Q rest a' w') : wpList P ops Q (o :: rest) a w := by
  refine wpList_step fun K hK => ?_
  rw [if_pos hw]
  unfold Oper.wp
  rw [hen, Oper.upon_enter]
  refine hc.mono fun e w'' hh => ?_
  obtain ⟨v, rfl, hk⟩ := k e w'' hh
  show K (a.put o.dst v) w''
  rw [hd]
  exact hK _ _ (hk _ (HF.put hN v))
theorem gw_new {w0 : World} {L : List Chunk} {O : Obj} (HF : FrD D N a F) (HO : Own w0 w L) (hw : Region.wanted o (yielded ops a.tmps) = true) (hd : o.dst = some d) (hN : d < N) (hrun : Runs P o a w (.pointer (some ⟨w.heap.size, 0, none⟩)) (w.alloc O))
    (k : ∀ g a' w1, FrD D N a' ((d, .pointer (some ⟨g, 0, none⟩)) :: F) → Own w0 w1 (Chunk.blk g O :: L) → wpList P ops Q rest a' w1) : wpList P ops Q (o :: rest) a w :=
  gw_ev HF hw hd hN hrun fun a' HF' => k _ a' _ HF' (HO.new O)
theorem gw_set {w0 : World} {L : List Chunk} {g j : Nat} {cs : Array Value} {T : TypeId} (i : Nat) (HF : FrD D N a F) (HO : Own w0 w L) (hi : L[i]? = some (Chunk.blk g (.cells cs T (0, 0)))) (hw : Region.wanted o (yielded ops a.tmps) = true) (hd : o.dst = none) (hrun : Skips P o a w (w.setCell ⟨g, j, none⟩ v))
    (k : ∀ a' w1, FrD D N a' F → Own w0 w1 (L.set i (Chunk.blk g (.cells (cs.setIfInBounds j v) T (0, 0)))) → wpList P ops Q rest a' w1) : wpList P ops Q (o :: rest) a w :=
  gw_skip HF hw hd hrun fun a' HF' => k a' _ HF' (HO.setBlk i hi j v)
theorem gq_ev (HF : FrD D N a F) (hw : Region.wanted o (yielded ops a.tmps) = true) (hd : o.dst = some d) (hN : d < N) (hrun : ∀ w, C w → Runs P o a w v w) (k : ∀ a', FrD D N a' ((d, v) :: F) → wpQuiet P ops C Q' rest a') : wpQuiet P ops C Q' (o :: rest) a := by
  refine wpQuiet_step fun K hK => ?_
  rw [if_pos hw]
  refine ⟨v, fun w hC => ?_, ?_⟩
  · unfold Oper.quietAt
    rw [hrun w hC]
    exact ⟨rfl, rfl⟩
  · rw [hd]
    exact hK _ (k _ (HF.put hN v))
theorem gq_call {f : FuncId} {args : Array Value} (HF : FrD D N a F) (hw : Region.wanted o (yielded ops a.tmps) = true) (hd : o.dst = some d) (hN : d < N) (hen : ∀ w, C w → Enters P o a w f args) (hc : ∀ w, C w → Calls P f args w (fun e w' => e = .returned v ∧ C w')) (k : ∀ a', FrD D N a' ((d, v) :: F) → wpQuiet P ops C Q' rest a') : wpQuiet P ops C Q' (o :: rest) a := by
  refine wpQuiet_step fun K hK => ?_
  rw [if_pos hw]
  refine ⟨v, fun w hC => ?_, ?_⟩
  · unfold Oper.quietAt
    rw [hen w hC]
    exact ⟨rfl, hc w hC⟩
  · rw [hd]
    exact hK _ (k _ (HF.put hN v))
theorem gq_off (HF : FrD D N a F) (hw : Region.wanted o (yielded ops a.tmps) = false) (hd : o.dst = some d) (hN : d < N) (k : ∀ a', FrD D N a' ((d, undef) :: F) → wpQuiet P ops C Q' rest a') : wpQuiet P ops C Q' (o :: rest) a := by
  refine wpQuiet_step fun K hK => ?_
  rw [if_neg (by rw [hw]; simp), hd]
  exact hK _ (k _ (HF.put hN undef))
theorem gw_drawB {w0 : World} {L : List Chunk} {id : Nat} {l : List Oper} (HO : Own w0 w L) (hm : P.follows .mixedOrders = true) (hB : Region.lexB .any l.toArray = true)
    (h : ∀ w1, Own w0 w1 L → wpQuiet P l.toArray (fun wq => Below w1.heap.size w1 wq) (fun a' => ∀ w', Below w1.heap.size w1 w' → Q .normal a' w') l a) : (Code.region id l.toArray true).wp P Q a w :=
  wp_region_quiet (C := fun wq => Below w.drew.heap.size w.drew wq) hm hB (Below.refl _ _) (by simpa using h _ HO.drew)
theorem below_then {w w1 w2 : World} (h : Below w.heap.size w w1) (h2 : Below w1.heap.size w1 w2) : Below w.heap.size w w2 := (((Own.start w).after h).after h2).below
theorem cellb {w wq : World} {p : Addr} {v : Value} (h : Below w.heap.size w wq) (hc : w.cell? p = some v) : wq.cell? p = some v :=
  (h.cell (World.block_lt_of_cell? w p hc)).trans hc
theorem gw_cond {x y : Code} {t : Nat} {b : Bool} (HF : FrD D N a F) (hl : look F t = some (.bool b)) (ht : b = true → x.wp P Q a w) (hf : b = false → y.wp P Q a w) : (Code.cond (.tmp t) x y).wp P Q a w :=
  wp_cond_split (HF.ev hl) ht hf
theorem gw_seq {x y : Code} (h : ∀ K : Act → World → Prop, (∀ a w, y.wp P Q a w → K a w) → x.wp P (Exit.then K Q) a w) : (Code.seq x y).wp P Q a w := wp_seq_k h
theorem gw_in {id : Nat} {a : Act} {w : World} (h : Q .normal a w) : Exit.inBlock id Q (.exit id) a w := by
  show (if id = id then Q .normal a w else Q (.exit id) a w)
  rw [if_pos rfl]
  exact h
theorem gw_loop {c : Code} (J : Nat → Act → World → Prop) (n : Nat) (h0 : J n a w) (round : ∀ n a w, J n a w → c.wp P (Exit.then (fun a' w' => ∃ m, m < n ∧ J m a' w') Q) a w) : (Code.loop c).wp P Q a w := by
  have least : ∀ a w, (∃ n, J n a w) → ∃ n, J n a w ∧ ∀ m, J m a w → n ≤ m := by
    intro a w ⟨n, hn⟩
    induction n using Nat.strongRecOn with
    | _ n ih =>
      by_cases h : ∃ m, m < n ∧ J m a w
      · obtain ⟨m, hm, hj⟩ := h
        exact ih m hm hj
      · exact ⟨n, hn, fun m hm => Nat.le_of_not_lt fun hlt => h ⟨m, hlt, hm⟩⟩
  classical
  refine wp_loop (fun a w => ∃ n, J n a w) (fun a w => if h : ∃ n, J n a w then (least a w h).choose else 0) ⟨n, h0⟩ fun a w hI => ?_
  have hc := (least a w hI).choose_spec
  refine Code.wp_mono ?_ (round _ a w hc.1)
  intro e a' w' hq
  cases e with
  | normal =>
    obtain ⟨m, hm, hj⟩ := hq
    have hI' : ∃ n, J n a' w' := ⟨m, hj⟩
    refine ⟨hI', ?_⟩
    have hc' := (least a' w' hI').choose_spec
    rw [dif_pos hI', dif_pos hI]
    exact Nat.lt_of_le_of_lt (hc'.2 m hj) hm
  | _ => exact hq
end
section
variable {D : List Deferred} {P : Program} {fn : Func} {R : Ending → World → Prop} {N : Nat} {a : Act} {F : List (Nat × Value)} {w : World}
def ixs : Nat → List Value → List (Nat × Value)
  | _, [] => []
  | k, v :: vs => (k, v) :: ixs (k + 1) vs
theorem look_ixs : ∀ (vs : List Value) (k t : Nat) (v : Value), look (ixs k vs) t = some v → ∃ j, t = k + j ∧ vs[j]? = some v
  | [], k, t, v, h => by simp [ixs, look] at h
  | u :: vs, k, t, v, h => by
    unfold ixs look at h
    by_cases e : k = t
    · subst e
      rw [Nat.beq_refl] at h
      exact ⟨0, rfl, h⟩
    · have : Nat.beq k t = false := by
        rw [Bool.eq_false_iff]
        exact fun h2 => e (Nat.eq_of_beq_eq_true h2)
      rw [this] at h
      obtain ⟨j, h1, h2⟩ := look_ixs vs (k + 1) t v h
      exact ⟨j + 1, by omega, h2⟩
theorem Fr.start (vs : List Value) (n : Nat) (h : vs.length ≤ n) : Fr n { tmps := vs.toArray ++ Array.replicate (n - vs.toArray.size) undef, defers := [] } (ixs 0 vs) := by
  refine ⟨rfl, by simp; omega, fun t v hl => ?_⟩
  obtain ⟨j, rfl, hj⟩ := look_ixs vs 0 t v hl
  rw [Nat.zero_add, Array.getElem?_append_left (by simpa using (List.getElem?_eq_some_iff.1 hj).1)]
  simpa using hj
theorem gw_start {f : FuncId} {c : Code} {vs : List Value} (hf : P.funcs[f]? = some fn) (hb : fn.body = some c) (hn : fn.ntmps = N) (hl : vs.length ≤ N)
    (h : ∀ a, Fr N a (ixs 0 vs) → Own w w [] → c.wp P (bodyPost P fn R) a w) : Calls P f vs.toArray w R := by
  refine calls_of_wp hf hb ?_
  rw [hn]
  exact h _ (Fr.start vs N hl) (Own.start w)
theorem gw_ret1 {t : Nat} {v : Value} (HF : Fr N a F) (hr : fn.results = #[.tmp t]) (hl : look F t = some v) (h : R (.returned v) w) : bodyPost P fn R .ret a w := by
  have := results_tmp (P := P) hr a.tmps w
  refine bodyPost_ret (v := v) ?_ HF.defers h
  have he := HF.ev hl
  rw [this]
  exact congrArg (fun v => Result.ok v w) he
theorem gw_ret2 {t u : Nat} {v v' : Value} (HF : Fr N a F) (hr : fn.results = #[.tmp t, .tmp u]) (hl : look F t = some v) (hl' : look F u = some v') (h : R (.returned (.tuple #[v, v'])) w) : bodyPost P fn R .ret a w := by
  have := results_tmp2 hr a.tmps P w
  refine bodyPost_ret (v := .tuple #[v, v']) ?_ HF.defers h
  have he : a.tmps.getD t undef = v := HF.ev hl
  have he' : a.tmps.getD u undef = v' := HF.ev hl'
  rw [this, he, he']
theorem gw_end0 (HF : Fr N a F) (hr : fn.results = #[]) (h : R (.returned (.tuple #[])) w) : bodyPost P fn R .normal a w :=
  bodyPost_end (results_none hr a.tmps P w) HF.defers h
end
section
variable {D : List Deferred} {N d : Nat} {a : Act} {F : List (Nat × Value)} {v v' : Value} {t b : Bool}
theorem FrD.lit (h : FrD D N a ((d, .bool t) :: F)) (e : t = b) : FrD D N a ((d, .bool b) :: F) := e ▸ h
theorem FrD.conv (h : FrD D N a ((d, v) :: F)) (e : v = v') : FrD D N a ((d, v') :: F) := e ▸ h
theorem FrD.subst_ (h : FrD D N a F) (hl : look F d = some (.bool t)) (e : t = b) : FrD D N a ((d, .bool b) :: F) := h.pick (e ▸ hl) h
end
section
variable {P : Program} {K : Act → World → Prop} {Q : Exit → Act → World → Prop} {a : Act} {w : World} {id : Nat}
theorem gw_nx (h : K a w) : Exit.then K Q .normal a w := h
theorem gw_blk (h : Q .normal a w) : Exit.inBlock id Q .normal a w := h
theorem gw_thx {id' : Nat} (h : Q (.exit id') a w) : Exit.then K Q (.exit id') a w := h
theorem gw_thr (h : Q .ret a w) : Exit.then K Q .ret a w := h
theorem gw_blr (h : Q .ret a w) : Exit.inBlock id Q .ret a w := h
end
theorem pw_sel {R : Chunk → Chunk → Prop} (hs : ∀ a b, R a b → R b a) {L : List Chunk} (h : L.Pairwise R) : ∀ (is : List Nat), is.Nodup → (is.filterMap (L[·]?)).Pairwise R
  | [], _ => List.Pairwise.nil
  | i :: is, hn => by
    have hn' := List.nodup_cons.1 hn
    have ih := pw_sel hs h is hn'.2
    cases hi : L[i]? with
    | none => rw [List.filterMap_cons_none hi]; exact ih
    | some c =>
      rw [List.filterMap_cons_some hi]
      refine List.pairwise_cons.2 ⟨fun d hd => ?_, ih⟩
      obtain ⟨j, hj, hjd⟩ := List.mem_filterMap.1 hd
      exact pw_mid hs h i j c d (fun e => hn'.1 (e ▸ hj)) hi hjd
theorem Own.sel {w0 w : World} {L : List Chunk} (h : Own w0 w L) (is : List Nat) (hn : is.Nodup) : Own w0 w (is.filterMap (L[·]?)) := by
  have mem : ∀ c, c ∈ is.filterMap (L[·]?) → c ∈ L := fun c hc => by
    obtain ⟨j, _, hj⟩ := List.mem_filterMap.1 hc
    exact List.mem_of_getElem? hj
  exact ⟨h.below, fun c hc => h.holds c (mem c hc), fun c hc => h.inside c (mem c hc), pw_sel ap_symm h.apart is hn⟩
theorem Own.cell0 {w0 w : World} {L : List Chunk} (h : Own w0 w L) {p : Addr} {v : Value} (hc : w0.cell? p = some v) : w.cell? p = some v :=
  (h.below.cell (World.block_lt_of_cell? w0 p hc)).trans hc
theorem at0 {w : World} {ad : Addr} {m : Nat} {cs : List Value} {v : Value} (h : ∀ j u, cs[j]? = some u → w.cell? (ad.add (m + j)) = some u) (hv : cs[0]? = some v := by rfl) : w.cell? (ad.add m) = some v := h 0 v hv
theorem cells0 {w0 w : World} {L : List Chunk} (ho : Own w0 w L) {ad : Addr} {m : Nat} {cs : List Value} (h : ∀ j u, cs[j]? = some u → w0.cell? (ad.add (m + j)) = some u) : ∀ j u, cs[j]? = some u → w.cell? ((ad.add m).add j) = some u :=
  fun j u hj => by rw [add_add]; exact ho.cell0 (h j u hj)
theorem blk_at {w : World} {g j : Nat} {T : TypeId} {cs : Array Value} {v : Value} (h : w.heap[g]? = some (.cells cs T (0, 0))) (hv : cs[j]? = some v) : w.cell? ⟨g, j, none⟩ = some v := (blk_cell h j).trans hv
theorem blkf {w : World} {g j : Nat} {T : TypeId} {cs : Array Value} (h : w.heap[g]? = some (.cells cs T (0, 0))) : w.frozen? ⟨g, j, none⟩ = false := blk_frozen h j
section
variable {k : IntKind} {e base c : Nat} {S : Nat → Prop} {A : Option Addr} {n : Nat} {xs : List Int} {w : World}
theorem row_cap {α : Type} {d : Kd α} {xs : List α} (h : d.R e w base S (.slice A n c) xs) : xs.length ≤ c := by
  have := Kd.R_reads' h
  omega
theorem row_head {α : Type} {d : Kd α} {xs : List α} (h : d.R e w base S (.slice A n c) xs) (i : Int) (h0 : 0 ≤ i) (h1 : i < xs.length) : ∃ ad, A = some ad := by
  obtain ⟨g, cap, hv, _⟩ := Kd.R_form h (by omega)
  injection hv with hA _ _
  exact ⟨_, hA⟩
theorem row_cell {ad : Addr} (h : (Kd.int k).R e w base S (.slice (some ad) n c) xs) (i : Int) (h0 : 0 ≤ i) (h1 : i < xs.length) : w.cell? (ad.add (i.toNat * 1)) = some (.int k (rd xs i)) ∧ w.frozen? (ad.add (i.toNat * 1)) = false := by
  obtain ⟨g, cap, hv, _⟩ := Kd.R_form h (by omega)
  injection hv with hA hn hc
  injection hA with hA
  subst hA hn hc
  have := Kd.R_cell (0 : Int) h i h0 h1
  rw [Nat.mul_one, add_plain]
  exact this
theorem row_put {ad : Addr} (h : (Kd.int k).R e w base S (.slice (some ad) n c) xs) (i x : Int) (h0 : 0 ≤ i) (h1 : i < xs.length) : (Kd.int k).R e (w.setCell (ad.add (i.toNat * 1)) (.int k x)) base S (.slice (some ad) n c) (xs.set i.toNat x) ∧ S (ad.add (i.toNat * 1)).block := by
  obtain ⟨g, cap, hv, _⟩ := Kd.R_form h (by omega)
  injection hv with hA hn hc
  injection hA with hA
  subst hA hn hc
  have := Kd.R_put h i x
  rw [Nat.mul_one, add_plain]
  exact ⟨this.1, h.1 g rfl⟩
end
section
variable {P : Program} {o : Oper} {a : Act} {w : World} {x y : Operand} {t yt : TypeId}
theorem op_loadn {g off n : Nat} {cs : Array Value} {T : TypeId} {vs : List Value} (hA : ∀ w, (isAgg t).run P w = .ok true w) (hS : ∀ w, (sizeOf t).run P w = .ok n w) (ho : o.op = .load t x) (hx : a.eval x = .pointer (some ⟨g, off, none⟩)) (hb : w.heap[g]? = some (.cells cs T (0, 0))) (hl : (cs.toList.drop off).take n = vs) (hn : vs.length = n) :
    Runs P o a w (.agg vs.toArray) w := by
  have hr := run_loadCells_list (P := P) (w := w) ⟨g, off, none⟩ vs (fun j v hv => by
    rw [add_at, blk_cell hb, ← Array.getElem?_toList]
    rw [← hl, List.getElem?_take] at hv
    split at hv
    · rwa [List.getElem?_drop] at hv
    · cases hv)
  rw [hn] at hr
  unfold Runs execOp
  simp only [ho, hx]
  simp [Instr.loadAt, Instr.sureAddr, loadVar, hA, hS, hr]
theorem op_loadc {n : Nat} {ad : Addr} {cs : List Value} (hA : ∀ w, (isAgg t).run P w = .ok true w) (hS : ∀ w, (sizeOf t).run P w = .ok n w) (ho : o.op = .load t x) (hx : a.eval x = .pointer (some ad)) (hn : cs.length = n) (hc : ∀ j u, cs[j]? = some u → w.cell? (ad.add j) = some u) :
    Runs P o a w (.agg cs.toArray) w := by
  have hr := run_loadCells_list (P := P) (w := w) ad cs hc
  rw [hn] at hr
  unfold Runs execOp
  simp only [ho, hx]
  simp [Instr.loadAt, Instr.sureAddr, loadVar, hA, hS, hr]
theorem op_storen {g off n : Nat} {cs vs : Array Value} {T : TypeId} (hS : ∀ w, (sizeOf t).run P w = .ok n w) (ho : o.op = .store t x y) (hx : a.eval x = .pointer (some ⟨g, off, none⟩)) (hy : a.eval y = .agg vs) (hb : w.heap[g]? = some (.cells cs T (0, 0))) (hn : vs.size = n) (hle : off + n ≤ cs.size) (h1 : ∀ v ∈ vs.toList, v.oneCell' = true) :
    Skips P o a w (w.setRow g (cs.toList.take off ++ vs.toList ++ cs.toList.drop (off + n)).toArray) := by
  have hr := run_storeCells_at (P := P) g off T vs.toList 0 cs w hb (by simpa [hn] using hle) h1
  simp only [Nat.add_zero, Array.length_toList, hn] at hr
  unfold Skips execOp
  simp only [ho, hx, hy]
  simp [Instr.storeAt, Instr.sureAddr, storeVar, hS, Value.cells, hn, hr]
theorem pt_nil {f : Operand → Value} : ([] : List (Nat × Operand)).map (fun p => (p.1, f p.2)) = [] := rfl
theorem pt_cons {f : Operand → Value} {i : Nat} {x : Operand} {v : Value} {l : List (Nat × Operand)} {r : List (Nat × Value)} (h : f x = v) (k : l.map (fun p => (p.1, f p.2)) = r) : ((i, x) :: l).map (fun p => (p.1, f p.2)) = (i, v) :: r := by rw [List.map_cons, k, h]
theorem op_build {parts : List (Nat × Operand)} {vs : List (Nat × Value)} {cells : Array Value} (ho : o.op = .build t parts.toArray) (hp : parts.map (fun p => (p.1, a.eval p.2)) = vs) (hb : P.built t vs = some cells) : Runs P o a w (.agg cells) w := by
  have hq : parts.toArray.map (fun p => (p.1, a.eval p.2)) = vs.toArray := by rw [List.map_toArray, hp]
  have hr := run_build (P := P) w t vs.toArray cells hb
  unfold Runs execOp
  simp only [ho, hq, Sem.run_bind, hr, Result.andThen_ok, Sem.run_pure]
theorem ar_nil {f : Operand → Value} : ([] : List Operand).map f = [] := rfl
theorem ar_cons {f : Operand → Value} {x : Operand} {v : Value} {l : List Operand} {r : List Value} (h : f x = v) (k : l.map f = r) : (x :: l).map f = v :: r := by rw [List.map_cons, k, h]
theorem op_callL {f : FuncId} {fn : Func} {args : List Operand} {tys : Array TypeId} {vs : List Value} (hf : P.funcs[f]? = some fn) (hname : (fn.name == "runtime.NumGoroutine") = false) (hb : fn.body.isSome = true) (ho : o.op = .call { callee := .value (.func f), args := args.toArray, argTypes := tys }) (hv : args.map a.eval = vs) : Enters P o a w f vs.toArray :=
  op_call hf hname hb ho (by rw [List.map_toArray, hv])
end
section
variable {D : List Deferred} {P : Program} {ops : Array Oper} {Q : Exit → Act → World → Prop} {rest : List Oper} {o : Oper} {N : Nat} {a : Act} {F : List (Nat × Value)} {w w0 : World} {L : List Chunk}
theorem gw_setn {g : Nat} {cs cs' : Array Value} {T : TypeId} (i : Nat) (HF : FrD D N a F) (HO : Own w0 w L) (hi : L[i]? = some (Chunk.blk g (.cells cs T (0, 0)))) (hw : Region.wanted o (yielded ops a.tmps) = true) (hd : o.dst = none) (hrun : Skips P o a w (w.setRow g cs'))
    (k : ∀ a' w1, FrD D N a' F → Own w0 w1 (L.set i (Chunk.blk g (.cells cs' T (0, 0)))) → wpList P ops Q rest a' w1) : wpList P ops Q (o :: rest) a w := by
  have hg : w.heap[g]? = some (.cells cs T (0, 0)) := HO.get i hi
  have hl := (HO.lt i hi (k := g) rfl).2
  refine gw_skip HF hw hd hrun fun a' HF' => k a' _ HF' (HO.calls (cs := []) i hi ?_)
  have hsz : (w.setRow g cs').heap.size = w.heap.size := by simp [World.setRow]
  refine (Out.one (S := fun k => k = g) (c := Chunk.blk g (.cells cs' T (0, 0))) ⟨rfl, rfl, rfl, by rw [hsz]; exact Nat.le_refl _, fun q _ hq => ?_, fun _ h => by simp at h, fun _ h => by simp at h, List.Pairwise.nil⟩ ?_ ?_)
  · have hne : q ≠ g := hq
    simp [World.setRow, Array.getElem?_modify, Ne.symm hne]
  · show (w.setRow g cs').heap[g]? = _
    simp [World.setRow, Array.getElem?_modify, hg]
  · intro q hq
    have : q = g := hq
    subst this
    exact ⟨.inl rfl, by rw [hsz]; exact hl⟩
theorem gw_row {k : IntKind} {e base c n : Nat} {S : Nat → Prop} {ad : Addr} {xs : List Int} {t : TypeId} {x y : Operand} {it u : Int} (i : Nat) (HF : FrD D N a F) (HO : Own w0 w L) (hi : L[i]? = some (Chunk.row (Kd.int k) e base S (.slice (some ad) n c) xs)) (hw : Region.wanted o (yielded ops a.tmps) = true) (hd : o.dst = none)
    (hS : ∀ w, (sizeOf t).run P w = .ok 1 w) (h0 : 0 ≤ it) (h1 : it < xs.length) (ho : o.op = .store t x y) (hx : a.eval x = .pointer (some (ad.add (it.toNat * 1)))) (hy : a.eval y = .int k u)
    (kk : ∀ a' w1, FrD D N a' F → Own w0 w1 (L.set i (Chunk.row (Kd.int k) e base S (.slice (some ad) n c) (xs.set it.toNat u))) → wpList P ops Q rest a' w1) : wpList P ops Q (o :: rest) a w := by
  have hR : (Kd.int k).R e w base S (.slice (some ad) n c) xs := HO.get i hi
  have hc := row_cell hR it h0 h1
  have hp := row_put hR it u h0 h1
  refine gw_skip HF hw hd (op_store1 hS ho hx hy rfl hc.1 hc.2) fun a' HF' => kk a' _ HF' (HO.calls (cs := []) i hi ?_)
  refine Out.one (c := Chunk.row (Kd.int k) e base S (.slice (some ad) n c) (xs.set it.toNat u)) ((Out.refl w S).setCell (.inl hp.2) _) hp.1 ?_
  intro q hq
  exact ⟨.inl hq, by have := (HO.lt i hi hq).2; simpa [World.setCell] using this⟩
end
section
variable {P : Program} {o : Oper} {a : Act} {w : World} {x y : Operand} {t e : TypeId}
theorem op_conv_str {A : Option Addr} {n c : Nat} {u : TypeId} {xs : List Int} (hs : P.underlying t = some (.slice e)) (he : P.underlying e = some (.int .u8)) (hd : P.underlying u = some .string) (hC : (Kd.int .u8).C w A n xs) (ho : o.op = .convert t u x) (hx : a.eval x = .slice A n c) : Runs P o a w (.string (strOfNums xs)) w := by
  unfold Runs execOp
  simp only [ho, hx, Sem.run_bind, Kd.C_string hs he hd hC, Result.andThen_ok, Sem.run_pure]
theorem op_cut {v u : Value} {lo hi : Option Operand} {lo' hi' : Option Value} (ht : P.underlying t = some (.slice e)) (hr : ∀ W, (Instr.slice t v lo' hi' none).run P W = .ok u W) (ho : o.op = .slice t x lo hi none) (hx : a.eval x = v) (hlo : lo.map a.eval = lo') (hhi : hi.map a.eval = hi') : Runs P o a w u w := by
  have hel : P.elem t = e := by simp [Program.elem, ht]
  have hu : P.underlying t = some (.slice (P.elem t)) := by rw [hel]; exact ht
  unfold Runs execOp
  simp only [ho, hx, hlo, hhi, Option.map_none, Sem.run_bind, run_sliceAt_slice w t v lo' hi' none hu, hr, Result.andThen_ok, Sem.run_pure]
theorem some_ev {z : Operand} {v : Value} (h : a.eval z = v) : (some z).map a.eval = some v := by rw [Option.map_some, h]
variable {α : Type} {d : Kd α}
theorem cut_lo (ht : P.underlying t = some (.slice e)) (hS : ∀ w, (sizeOf e).run P w = .ok d.sz w) (A : Option Addr) (c : Nat) (xs : List α) (hc : xs.length ≤ c) (j : Int) (h0 : 0 ≤ j) (hj : j ≤ xs.length) :
    ∃ A' c', (∀ W : World, (Instr.slice t (.slice A xs.length c) (some (.int .i64 j)) none none).run P W = .ok (.slice A' (xs.drop j.toNat).length c') W) ∧ (xs.drop j.toNat).length ≤ c' ∧ (∀ W, d.C W A xs.length xs → d.C W A' (xs.drop j.toNat).length (xs.drop j.toNat)) ∧ ∀ ad, A' = some ad → ∃ ad0, A = some ad0 ∧ ad.block = ad0.block := by
  have hl : (xs.drop j.toNat).length = xs.length - j.toNat := List.length_drop
  obtain ⟨i, hi, hz⟩ : ∃ i : TypeInfo, P.info? e = some i ∧ i.size = d.sz := by
    have := hS default
    cases h : P.info? e with
    | none => simp [sizeOf, typeInfo, h] at this
    | some i => exact ⟨i, rfl, by simpa [sizeOf, typeInfo, h] using this⟩
  refine ⟨_, c - j.toNat, fun W => ?_, by omega, fun W h => Kd.C_drop h (m := j.toNat) (by omega) hc, fun ad e => ?_⟩
  · rw [hl]
    exact cut_from t e .i64 ht hi d.sz hz A xs.length c j h0 hj W
  · by_cases hcj : c = j.toNat
    · rw [if_pos hcj] at e
      exact ⟨ad, e, rfl⟩
    · rw [if_neg hcj] at e
      cases A with
      | none => cases e
      | some ad0 =>
        refine ⟨ad0, rfl, ?_⟩
        rw [← Option.some.inj e]
        exact add_block _ _
theorem cut_hi (ht : P.underlying t = some (.slice e)) (hS : ∀ w, (sizeOf e).run P w = .ok d.sz w) (A : Option Addr) (c : Nat) (xs : List α) (hc : xs.length ≤ c) (j : Int) (h0 : 0 ≤ j) (hj : j ≤ xs.length) :
    (∀ W : World, (Instr.slice t (.slice A xs.length c) none (some (.int .i64 j)) none).run P W = .ok (.slice A (xs.take j.toNat).length c) W) ∧ (xs.take j.toNat).length ≤ c ∧ ∀ W, d.C W A xs.length xs → d.C W A (xs.take j.toNat).length (xs.take j.toNat) := by
  have hl : (xs.take j.toNat).length = j.toNat := by rw [List.length_take]; omega
  obtain ⟨i, hi, hz⟩ : ∃ i : TypeInfo, P.info? e = some i ∧ i.size = d.sz := by
    have := hS default
    cases h : P.info? e with
    | none => simp [sizeOf, typeInfo, h] at this
    | some i => exact ⟨i, rfl, by simpa [sizeOf, typeInfo, h] using this⟩
  refine ⟨fun W => ?_, by omega, fun W h => Kd.C_take h (by omega)⟩
  rw [hl]
  exact cut_to t e .i64 ht hi A xs.length c j h0 hj hc W
end
section
variable {D : List Deferred} {P : Program} {ops : Array Oper} {Q : Exit → Act → World → Prop} {rest : List Oper} {o : Oper} {N dd : Nat} {a : Act} {F : List (Nat × Value)} {w w0 : World} {L : List Chunk} {α : Type}
theorem gw_unguard (hw : Region.wanted o (yielded ops a.tmps) = true) (h : wpList P ops Q ({ o with guard := none } :: rest) a w) : wpList P ops Q (o :: rest) a w := by
  have hw2 : Region.wanted { o with guard := none } (yielded ops a.tmps) = true := want_none rfl
  unfold wpList at h ⊢
  rw [if_pos hw2] at h
  rw [if_pos hw]
  exact h
theorem gw_append (d : Kd α) {e base : Nat} {S : Nat → Prop} {A B : Option Addr} {c m cc : Nat} {xs ys : List α} {s x : Operand} {t : TypeId} {z : Value} {bytes : Nat} (i : Nat) (HF : FrD D N a F) (HO : Own w0 w L) (hw : Region.wanted o (yielded ops a.tmps) = true) (hd : o.dst = some dd) (hN : dd < N)
    (ho : o.op = .call { callee := .builtin .append, args := #[s, x], argTypes := #[t, t] })
    (ht : P.underlying t = some (.slice e)) (hinfo : (P.info? e).map (fun i => (i.zero, i.size, i.bytes)) = some (some z, d.sz, bytes)) (hz : z.cells.size = d.sz) (hs0 : 0 < d.sz) (hb0 : 0 < bytes)
    (hi : L[i]? = some (Chunk.row d e base S (.slice A xs.length c) xs)) (hs : a.eval s = .slice A xs.length c) (hx : a.eval x = .slice B m cc) (hC : d.C w B m ys)
    (hKM : ∀ x cs, d.K w x cs → d.M w base (fun _ => False) x cs) (hbase : base ≤ w.heap.size) (hl : (xs.length + m) * bytes ≤ 140737488355328)
    (k : ∀ A' c' S' a' w1, FrD D N a' ((dd, .slice A' (xs ++ ys).length c') :: F) → Own w0 w1 (L.set i (Chunk.row d e base S' (.slice A' (xs ++ ys).length c') (xs ++ ys))) → wpList P ops Q rest a' w1) : wpList P ops Q (o :: rest) a w := by
  have hR : d.R e w base S (.slice A xs.length c) xs := HO.get i hi
  refine gw_unguard hw ?_
  refine Kd.R_append_rows d (Rr := d.K w) (w0 := w) base rfl s x t e z bytes ho ht hinfo hz hs0 hb0 _ xs ys B m cc (fun k => S k ∨ w.heap.size ≤ k) (fun _ => False) hs hx (Kd.R_mono hR (fun k hk => .inl hk)) hC hKM (fun _ hk => hk.elim) (fun k hk => .inr hk) (Below.refl _ _) hbase hl ?_
  intro v1 w1 h1 _ hgr _
  obtain ⟨A', c', rfl⟩ := Kd.R_slice h1
  show wpList P ops Q rest (a.put o.dst _) w1
  rw [hd]
  refine k A' c' (fun k => S k ∨ w.heap.size ≤ k ∧ k < w1.heap.size) _ w1 (HF.put hN _) (HO.calls (cs := []) i hi ?_)
  refine Out.one ((Out.refl w S).grown hgr (fun k e => .inl (hR.1 k e))) ?_ ?_
  · exact Kd.R_mono (Kd.R_bound h1) (fun k hk => hk.1.elim .inl (fun h => .inr ⟨h, hk.2.2.1⟩))
  · intro k hk
    rcases hk with hk | hk
    · exact ⟨.inl hk, Nat.lt_of_lt_of_le (HO.lt i hi hk).2 hgr.size⟩
    · exact ⟨.inr hk.1, hk.2⟩
theorem gw_lit {enc : α → Value} (h1 : ∀ x, (enc x).oneCell' = true) {e : Nat} {xs : List α} (HF : FrD D N a F) (HO : Own w0 w L) (hw : Region.wanted o (yielded ops a.tmps) = true) (hd : o.dst = some dd) (hN : dd < N)
    (hrun : Runs P o a w (.slice (some ⟨w.heap.size, 0, none⟩) xs.length xs.length) (w.alloc (.cells (encs enc xs).toArray e (0, 0)))) (hm : xs.length ≤ 9223372036854775807)
    (k : ∀ A S a' w1, FrD D N a' ((dd, .slice A xs.length xs.length) :: F) → Own w0 w1 (Chunk.row (Kd.scalar enc h1) e w0.heap.size S (.slice A xs.length xs.length) xs :: L) → wpList P ops Q rest a' w1) : wpList P ops Q (o :: rest) a w := by
  refine gw_ev HF hw hd hN hrun fun a' HF' => k _ (fun q => w.heap.size ≤ q ∧ q < (w.alloc (.cells (encs enc xs).toArray e (0, 0))).heap.size) a' _ HF' ?_
  have hb := below_alloc (Below.refl w.heap.size w) (.cells (encs enc xs).toArray e (0, 0))
  have ho := own_lit_of (enc := enc) w w0.heap.size e xs HO.below.size hm
  have hR : (Kd.scalar enc h1).R e (w.alloc (.cells (encs enc xs).toArray e (0, 0))) w0.heap.size (fun q => w.heap.size ≤ q ∧ q < (w.alloc (.cells (encs enc xs).toArray e (0, 0))).heap.size) (.slice (some ⟨w.heap.size, 0, none⟩) xs.length xs.length) xs :=
    Kd.R_of_own ho (fun q hq => by
      have : w.heap.size = q := by simpa [Value.ownBlock] using hq
      subst this
      exact ⟨Nat.le_refl _, by simp⟩)
  refine HO.fresh (cs := [_]) ⟨hb.os, hb.tape, hb.output, hb.size, fun k hk _ => hb.block k hk, fun c hc => ?_, fun c hc q hq => ?_, List.pairwise_singleton _ _⟩
  · rw [List.mem_singleton.1 hc]
    exact hR
  · rw [List.mem_singleton.1 hc] at hq
    exact ⟨.inr hq.1, hq.2⟩
end
section
variable {D : List Deferred} {P : Program} {ops : Array Oper} {Q : Exit → Act → World → Prop} {rest : List Oper} {o o2 : Oper} {N d d2 : Nat} {a : Act} {F : List (Nat × Value)} {w w0 : World} {L : List Chunk} {t e : TypeId}
theorem op_bslice {n : Nat} {parts : List (Nat × Operand)} {vs : List (Nat × Value)} {v : Value} {w1 : World} (hr : (Instr.buildSlice t n vs.toArray).run P w = .ok v w1) (ho : o.op = .buildSlice t n parts.toArray) (hp : parts.map (fun p => (p.1, a.eval p.2)) = vs) : Runs P o a w v w1 := by
  have hq : parts.toArray.map (fun p => (p.1, a.eval p.2)) = vs.toArray := by rw [List.map_toArray, hp]
  unfold Runs execOp
  simp only [ho, hq, Sem.run_bind, hr, Result.andThen_ok, Sem.run_pure]
theorem blkC {g : Nat} {xs : List Int} {fr : Nat × Nat} (h : w.heap[g]? = some (.cells (nums .u8 xs).toArray e fr)) (hm : xs.length ≤ 9223372036854775807) : (Kd.int .u8).C w (some ⟨g, 0, none⟩) xs.length xs := by
  refine Kd.C_of_reads (d := (0 : Int)) (h1 := fun _ => rfl) ⟨rfl, hm, fun _ => ⟨_, rfl, fun j hj => ?_⟩⟩
  rw [add_plain, cell_of_row w g j _ e fr h]
  simp [nums, List.getElem?_eq_getElem hj, List.getD_eq_getElem?_getD]
theorem gw_bytes {xs : List Int} (ht : P.underlying t = some (.slice e)) (he : P.underlying e = some (.int .u8)) (HF : FrD D N a F) (HO : Own w0 w L) (hw : Region.wanted o (yielded ops a.tmps) = true) (hd : o.dst = some d) (hN : d < N)
    (hrun : Runs P o a w (.slice (some ⟨w.heap.size, 0, none⟩) xs.length xs.length) (w.alloc (.cells (nums .u8 xs).toArray e (0, 0))))
    (hw2 : ∀ a', FrD D N a' ((d, .slice (some ⟨w.heap.size, 0, none⟩) xs.length xs.length) :: F) → Region.wanted o2 (yielded ops a'.tmps) = true) (hd2 : o2.dst = some d2) (hN2 : d2 < N) (ho2 : o2.op = .convert t t (.tmp d))
    (k : ∀ g a' w1, FrD D N a' ((d2, .slice (some ⟨g, 0, none⟩) xs.length xs.length) :: (d, .slice (some ⟨g, 0, none⟩) xs.length xs.length) :: F) → Own w0 w1 (Chunk.blk g (.cells (nums .u8 xs).toArray e (xs.length, xs.length + 1)) :: L) → wpList P ops Q rest a' w1) : wpList P ops Q (o :: o2 :: rest) a w := by
  refine gw_ev HF hw hd hN hrun fun a1 HF1 => ?_
  have hl : look ((d, Value.slice (some ⟨w.heap.size, 0, none⟩) xs.length xs.length) :: F) d = some (.slice (some ⟨w.heap.size, 0, none⟩) xs.length xs.length) := by
    show (bif Nat.beq d d then _ else _) = _
    rw [Nat.beq_refl]
    rfl
  have hx := HF1.ev hl
  have hcv := Lib.run_convert_bytes_const (P := P) w t e (nums .u8 xs).toArray xs.length xs.length ht he
  have hsz : (nums .u8 xs).toArray.size = xs.length := by simp [nums]
  rw [hsz] at hcv
  have hrun2 : Runs P o2 a1 (w.alloc (.cells (nums .u8 xs).toArray e (0, 0))) (.slice (some ⟨w.heap.size, 0, none⟩) xs.length xs.length) (w.alloc (.cells (nums .u8 xs).toArray e (xs.length, xs.length + 1))) := by
    unfold Runs execOp
    simp only [ho2, hx, Sem.run_bind, hcv, Result.andThen_ok, Sem.run_pure]
  exact gw_ev HF1 (hw2 a1 HF1) hd2 hN2 hrun2 fun a2 HF2 => k _ a2 _ HF2 (HO.new _)
end
theorem Own.mapc {w0 w : World} {L : List Chunk} {c c' : Chunk} (h : Own w0 w L) (i : Nat) (hi : L[i]? = some c) (hS : ∀ k, c'.S k → c.S k) (hP : ∀ w, c.P w → c'.P w) : Own w0 w (L.set i c') := by
  refine h.calls (cs := []) i hi (Out.one (Out.refl w _) (hP w (h.get i hi)) fun k hk => ⟨.inl (hS k hk), (h.lt i hi (hS k hk)).2⟩)
theorem Own.lowrow {α : Type} {d : Kd α} {e base base' : Nat} {S : Nat → Prop} {v : Value} {xs : List α} {w0 w : World} {L : List Chunk} (h : Own w0 w L) (i : Nat) (hi : L[i]? = some (Chunk.row d e base S v xs)) (hb : base' ≤ base) : Own w0 w (L.set i (Chunk.row d e base' S v xs)) :=
  h.mapc i hi (fun _ hk => hk) (fun _ hr => Kd.R_lower hr hb)
theorem row_in {α : Type} {d : Kd α} {e base n c : Nat} {S : Nat → Prop} {A : Option Addr} {xs : List α} {w : World} (h : d.R e w base S (.slice A n c) xs) {ad : Addr} (e1 : A = some ad) : S ad.block := by
  subst e1
  exact h.1 ad.block (by simp [Value.ownBlock])
end Go.Proofs.Ytkdahjnmldeklaa.PA
end
section
namespace Go.Proofs.Ytkdahjnmldeklaa.PA
open Go.RowKit Go.Proofs.YtkdahjnmldeklaaW.PrintWords Go.Proofs.YtkdahjnmldeklaaW.PrintLast Go.Proofs.YtkdahjnmldeklaaW.PrintMore
set_option linter.unusedVariables false
set_option linter.unusedSimpArgs false
variable {P : Program} {o : Oper} {a : Act} {w : World} {x y : Operand} {t yt : TypeId} {m n : Int} {k k' : IntKind}
section
variable {D : List Deferred} {fn : Func} {R : Ending → World → Prop} {N : Nat} {F : List (Nat × Value)} {v v1 v2 v3 v4 : Value} {r1 r2 r3 r4 : ResultVar}
def RVm (tmps : Array Value) : ResultVar → Sem Value
  | .tmp t => pure (tmps.getD t undef)
  | .cell x t => do loadVar t (← asAddr (tmps.getD x undef))
def RV (P : Program) (a : Act) (w : World) (r : ResultVar) (v : Value) : Prop := (RVm a.tmps r).run P w = .ok v w
theorem results_eq (fn : Func) (tmps : Array Value) : results fn tmps = (do
    let vs ← fn.results.mapM (RVm tmps)
    pure (if h : vs.size = 1 then vs[0] else .tuple vs)) := by
  unfold results
  congr 1
theorem rv_tmp {d : Nat} (HF : FrD D N a F) (hl : look F d = some v) : RV P a w (.tmp d) v := by
  unfold RV RVm
  exact congrArg (fun v => Result.ok v w) (HF.ev hl)
theorem rv_celln {d g n : Nat} {cs : Array Value} {T : TypeId} (HF : FrD D N a F) (hl : look F d = some (.pointer (some ⟨g, 0, none⟩))) (hA : ∀ w, (isAgg t).run P w = .ok true w) (hS : ∀ w, (sizeOf t).run P w = .ok n w)
    (hb : w.heap[g]? = some (.cells cs T (0, 0))) (hn : cs.size = n) : RV P a w (.cell d t) (.agg cs) := by
  have he : a.tmps.getD d undef = .pointer (some ⟨g, 0, none⟩) := HF.ev hl
  have hr := run_loadCells_list (P := P) (w := w) ⟨g, 0, none⟩ cs.toList (fun j v hv => by
    rw [add_at, blk_cell hb, ← Array.getElem?_toList]
    simpa using hv)
  rw [Array.length_toList, hn] at hr
  unfold RV RVm
  simp only [he]
  simp [asAddr, loadVar, hA, hS, hr]
theorem gw_rets1 (HF : Fr N a F) (hr : fn.results = #[r1]) (h1 : RV P a w r1 v1) (h : R (.returned v1) w) : bodyPost P fn R .ret a w := by
  refine bodyPost_ret (v := v1) ?_ HF.defers h
  unfold RV at h1
  rw [results_eq, hr]
  simp [h1]
theorem gw_rets2 (HF : Fr N a F) (hr : fn.results = #[r1, r2]) (h1 : RV P a w r1 v1) (h2 : RV P a w r2 v2) (h : R (.returned (.tuple #[v1, v2])) w) : bodyPost P fn R .ret a w := by
  refine bodyPost_ret (v := .tuple #[v1, v2]) ?_ HF.defers h
  unfold RV at h1 h2
  rw [results_eq, hr]
  simp [h1, h2]
end
section
variable {α : Type} {d : Kd α} {S : Nat → Prop} {A A' : Option Addr} {n n' c c' e base : Nat} {xs ys : List α} {w0 : World} {L : List Chunk}
def Chunk.view (d : Kd α) (S : Nat → Prop) (A : Option Addr) (n c : Nat) (xs : List α) : Chunk := ⟨S, fun w => d.F w S A n xs ∧ n ≤ c ∧ ∀ ad, A = some ad → S ad.block, fun h hm => ⟨Kd.F_step h.1 (fun k hk _ => hm k hk), h.2⟩⟩
theorem Own.row_view (h : Own w0 w L) (i : Nat) (hi : L[i]? = some (Chunk.row d e base S (.slice A n c) xs)) : Own w0 w (L.set i (Chunk.view d S A n c xs)) :=
  h.mapc i hi (fun _ hk => hk) (fun _ hr => ⟨Kd.Q_F (Kd.Q_of_R hr), by have := Kd.R_reads' hr; omega, fun ad e => row_in hr e⟩)
theorem Own.view_nil (h : Own w0 w L) (d : Kd α) : Own w0 w (Chunk.view d (fun _ => False) none 0 0 [] :: L) :=
  h.fresh (cs := [_]) (Out.one (Out.refl w _) (c := Chunk.view d (fun _ => False) none 0 0 []) ⟨fun W' _ => Kd.C_nil _ _, Nat.le_refl _, fun _ e => by cases e⟩ (fun _ hk => hk.elim))
theorem view_C (h : (Chunk.view d S A n c xs).P w) : d.C w A n xs := Kd.F_now h.1
theorem view_le (h : (Chunk.view d S A n c xs).P w) : n ≤ c := h.2.1
theorem Own.out (h : Own w0 w L) : Out w0 w (fun _ => False) L := ⟨h.below.os, h.below.tape, h.below.output, h.below.size, fun k hk _ => h.below.block k hk, h.holds, fun c hc k hk => ⟨.inr (h.inside c hc k hk).1, (h.inside c hc k hk).2⟩, h.apart⟩
theorem getD_mem (xs : List α) (i : Nat) {z : α} (h : i < xs.length) : xs.getD i z ∈ xs := by
  rw [List.getD_eq_getElem?_getD, List.getElem?_eq_getElem h]
  exact List.getElem_mem h
end
end Go.Proofs.Ytkdahjnmldeklaa.PA
end
section
namespace Go.Proofs.Ytkdahjnmldeklaa.PA
open Go.RowKit Go.Proofs.YtkdahjnmldeklaaW.PrintWords Go.Proofs.YtkdahjnmldeklaaW.PrintLast Go.Proofs.YtkdahjnmldeklaaW.PrintMore
set_option linter.unusedVariables false
set_option linter.unusedSimpArgs false
section
variable {P : Program} {ops : Array Oper} {Q : Exit → Act → World → Prop} {md : Region.Mode} {S : World → Prop} {B : Nat → Bool}
def wpX (P : Program) (md : Region.Mode) (ops : Array Oper) (Q : Exit → Act → World → Prop) (S : World → Prop) (B : Nat → Bool) : Nat → Array Bool → Act → World → Prop
  | 0, listed, a, w => Region.ready md ops listed = [] ∧ Q .normal a w
  | fuel + 1, listed, a, w =>
    (Region.ready md ops listed = [] → Q .normal a w) ∧
    ∀ i ∈ Region.ready md ops listed, wpOp P ops Q i (fun a' w' => (B i = false → S w') ∧ wpX P md ops Q S B fuel (listed.setIfInBounds i true) a' w') a w
theorem wpAny_of_X : ∀ (fuel : Nat) (listed : Array Bool) (a : Act) (w : World), wpX P md ops Q S B fuel listed a w → wpAny P md ops Q fuel listed a w
  | 0, _, _, _, h => h
  | fuel + 1, _, _, _, h => ⟨h.1, fun i hi => wpOp_mono (fun a' w' h' => wpAny_of_X fuel _ a' w' h'.2) (h.2 i hi)⟩
theorem wpX_first {i : Nat} {oi : Oper} {v : Value} (hi : ops[i]? = some oi) (hsel : ∀ (j : Nat) (o : Oper) cs b, ops[j]? = some o → o.op ≠ .select cs b)
    (hQ : ∀ c a w, Q (.panic c) (a.put oi.dst v) w → Q (.panic c) a w)
    (hB : ∀ j oj, ops[j]? = some oj → B j = true → j ≠ i → ∃ e ∈ oj.after, Region.binds md e = true ∧ e.on = i) :
    ∀ (fuel : Nat) (listed : Array Bool) (a : Act) (w : World),
      (∀ j oj, ops[j]? = some oj → j ≠ i → listed.getD j true = false → (∀ e ∈ oj.after, Region.binds md e = true → e.on ≠ i) → oi.apart ops oj = true) →
      i ∈ Region.ready md ops listed → YieldsIf P ops S oi v a → S w →
      wpX P md ops Q S B fuel (listed.setIfInBounds i true) (a.put oi.dst v) w → wpX P md ops Q S B (fuel + 1) listed a w := by
  intro fuel
  induction fuel with
  | zero =>
    intro listed a w _ hr hy hS H
    refine ⟨fun h => (by rw [h] at hr; cases hr), fun j hj => ?_⟩
    by_cases hji : j = i
    · subst hji; exact hy.wpOp hi hS ⟨fun _ => hS, H⟩
    · have := ready_mono hj hji
      rw [H.1] at this
      cases this
  | succ fuel ih =>
    intro listed a w hfree hr hy hS H
    refine ⟨fun h => (by rw [h] at hr; cases hr), fun j hj => ?_⟩
    by_cases hji : j = i
    · subst hji; exact hy.wpOp hi hS ⟨fun _ => hS, H⟩
    · have h1 := H.2 j (ready_mono hj hji)
      obtain ⟨hjun, oj, hoj, hall⟩ := mem_ready.1 hj
      have hnot : ∀ e ∈ oj.after, Region.binds md e = true → e.on ≠ i := fun e he hb heq => by
        have h1 := hall e he hb
        have h0 := (mem_ready.1 hr).1
        rw [heq] at h1
        rcases Nat.lt_or_ge i listed.size with h' | h'
        · simp [h'] at h0 h1; rw [h0] at h1; cases h1
        · simp [Array.getElem?_eq_none h'] at h1
      have hBj : B j = false := by
        cases hb : B j with
        | false => rfl
        | true =>
          obtain ⟨e, he, hb1, hb2⟩ := hB j oj hoj hb hji
          exact absurd hb2 (hnot e he hb1)
      have h2 := wpOp_putIf hoj (hfree j oj hoj hji hjun hnot) (fun cs b => hsel i oi cs b hi) (fun cs b => hsel j oj cs b hoj) hQ hy h1
      have hfree' : ∀ k ok, ops[k]? = some ok → k ≠ i → (listed.setIfInBounds j true).getD k true = false →
          (∀ e ∈ ok.after, Region.binds md e = true → e.on ≠ i) → oi.apart ops ok = true := fun k ok hk hki hun hno => by
        refine hfree k ok hk hki ?_ hno
        by_cases hjk : j = k
        · subst hjk; exact hjun
        · rw [getD_set_ne true hjk] at hun; exact hun
      refine wpOp_mono (fun a' w' h3 => ⟨h3.2.1, ih (listed.setIfInBounds j true) a' w' hfree' (ready_mono hr (Ne.symm hji)) h3.1 (h3.2.1 hBj) ?_⟩) h2
      rw [Array.setIfInBounds_comm _ _ hji]
      exact h3.2.2
def waitedB (md : Region.Mode) (ops : Array Oper) (B : Nat → Bool) (i : Nat) : Bool :=
  (List.range ops.size).all fun j => !B j || j == i || match ops[j]? with
    | some oj => oj.after.any (fun e => Region.binds md e && e.on == i)
    | none => true
theorem waitedB_spec {i : Nat} (h : waitedB md ops B i = true) : ∀ j oj, ops[j]? = some oj → B j = true → j ≠ i → ∃ e ∈ oj.after, Region.binds md e = true ∧ e.on = i := by
  intro j oj hj hb hji
  have hlt : j < ops.size := (Array.getElem?_eq_some_iff.1 hj).1
  have := List.all_eq_true.1 h j (List.mem_range.2 hlt)
  rw [hj, hb] at this
  have hne : (j == i) = false := by simpa using hji
  rw [hne] at this
  simp only [Bool.not_true, Bool.false_or] at this
  obtain ⟨e, he, h2⟩ := Array.any_eq_true'.1 this
  simp only [Bool.and_eq_true, beq_iff_eq] at h2
  exact ⟨e, he, h2.1, h2.2⟩
end
section
variable {D : List Deferred} {P : Program} {ops : Array Oper} {Q : Exit → Act → World → Prop} {B : Nat → Bool} {N d : Nat} {a : Act} {F : List (Nat × Value)} {w0 w : World} {L M : List Chunk} {v : Value} {o : Oper}
def Held (w0 : World) (M : List Chunk) : World → Prop := fun w => Own w0 w M
theorem gx_draw {id : Nat} {l : List Oper} {M : List Chunk} (B : Nat → Bool) (HO : Own w0 w L) (hm : P.follows .mixedOrders = true)
    (h : ∀ w', Own w0 w' L → wpX P .any l.toArray (NoPanic Q) (Held w0 M) B l.length (Array.replicate l.length false) a w') : (Code.region id l.toArray true).wp P Q a w :=
  wp_region_noPanic (wp_region_any hm (wpAny_of_X _ _ _ _ (by simpa using h _ HO.drew)))
theorem hQ_no {oi : Oper} : ∀ c a w, NoPanic Q (.panic c) (a.put oi.dst v) w → NoPanic Q (.panic c) a w := fun _ _ _ h => h.elim
theorem gx_take {fuel : Nat} {listed : Array Bool} (i : Nat) (hi : ops[i]? = some o) (hs : (Region.noSelect ops && ((Region.ready .any ops listed).contains i && (Region.free .any ops listed i && waitedB .any ops B i))) = true) (HF : FrD D N a F) (HO : Own w0 w M)
    (hw : Region.wanted o (yielded ops a.tmps) = true) (hd : o.dst = some d) (hN : d < N) (hrun : ∀ w, Own w0 w M → Runs P o a w v w)
    (k : ∀ a', FrD D N a' ((d, v) :: F) → wpX P .any ops (NoPanic Q) (Held w0 M) B fuel (listed.setIfInBounds i true) a' w) : wpX P .any ops (NoPanic Q) (Held w0 M) B (fuel + 1) listed a w := by
  simp only [Bool.and_eq_true] at hs
  refine wpX_first (v := v) hi (Region.noSelect_spec hs.1) hQ_no (waitedB_spec hs.2.2.2) fuel listed a w (Region.free_spec hi hs.2.2.1) (by simpa using hs.2.1) (.inl ⟨hw, fun w h => hrun w h⟩) HO ?_
  rw [hd]
  exact k _ (HF.put hN v)
def Patch (K : Act → World → Prop) (Q : Exit → Act → World → Prop) : Exit → Act → World → Prop
  | .normal, a, w => K a w
  | e, a, w => Q e a w
theorem wpOp_of_list {i : Nat} {K : Act → World → Prop} (hi : ops[i]? = some o) (h : wpList P ops (Patch K Q) [o] a w) : wpOp P ops Q i K a w := by
  unfold wpOp
  simp only [hi]
  unfold wpList at h
  have hK : ∀ a w, wpList P ops (Patch K Q) [] a w → K a w := fun a w h => h
  split
  · rename_i hw
    rw [if_pos hw] at h
    rcases h with h | h
    · refine .inl ?_
      unfold Oper.wp at *
      generalize (execOp a.eval o).run P w = r at *
      cases r with
      | ok n w' =>
        cases n <;> simp only [Oper.upon] at h ⊢ <;>
          first
            | exact h
            | exact Calls.mono h (fun e w'' he => by cases e <;> exact he)
            | exact Rows.mono h (fun _ _ he => he)
      | halt x w' => cases x <;> simp only [Oper.upon] at h ⊢ <;> exact h
    · exact .inr h
  · rename_i hw
    rw [if_neg hw] at h
    exact h
theorem gx_step {fuel : Nat} {listed : Array Bool} (i : Nat) (hi : ops[i]? = some o) (hr : Region.ready .any ops listed = [i])
    (h : wpList P ops (Patch (fun a' w' => (B i = false → Held w0 M w') ∧ wpX P .any ops (NoPanic Q) (Held w0 M) B fuel (listed.setIfInBounds i true) a' w') (NoPanic Q)) [o] a w) : wpX P .any ops (NoPanic Q) (Held w0 M) B (fuel + 1) listed a w :=
  ⟨fun h0 => (by rw [hr] at h0; cases h0), fun j hj => by
    rw [hr] at hj
    obtain rfl : j = i := by simpa using hj
    exact wpOp_of_list hi h⟩
theorem gx_on {fuel i : Nat} {listed : Array Bool} (h1 : B i = false → Own w0 w M) (h2 : wpX P .any ops (NoPanic Q) (Held w0 M) B fuel (listed.setIfInBounds i true) a w) :
    wpList P ops (Patch (fun a' w' => (B i = false → Held w0 M w') ∧ wpX P .any ops (NoPanic Q) (Held w0 M) B fuel (listed.setIfInBounds i true) a' w') (NoPanic Q)) [] a w := wpList_nil ⟨h1, h2⟩
theorem gx_done {fuel : Nat} {listed : Array Bool} (hr : Region.ready .any ops listed = []) (h : Q .normal a w) : wpX P .any ops (NoPanic Q) (Held w0 M) B fuel listed a w := by
  cases fuel with
  | zero => exact ⟨hr, h⟩
  | succ _ => exact ⟨fun _ => h, by rw [hr]; simp⟩
end
end Go.Proofs.Ytkdahjnmldeklaa.PA
end
section
namespace Go.Proofs.Ytkdahjnmldeklaa.PA
open Go.RowKit Go.Proofs.YtkdahjnmldeklaaW.PrintWords Go.Proofs.YtkdahjnmldeklaaW.PrintLast Go.Proofs.YtkdahjnmldeklaaW.PrintMore
set_option linter.unusedVariables false
set_option linter.unusedSimpArgs false
def Chunk.all (A : List Chunk) : Chunk := ⟨fun k => ∃ c ∈ A, c.S k, fun w => (∀ c ∈ A, c.P w) ∧ A.Pairwise (fun (c d : Chunk) => ∀ k : Nat, c.S k → ¬ d.S k), fun h hm => ⟨fun c hc => c.move (h.1 c hc) fun k hk => hm k ⟨c, hc, hk⟩, h.2⟩⟩
section
variable {w0 w : World} {A L : List Chunk} {c d : Chunk}
theorem Own.bundle (h : Own w0 w (A ++ L)) : Own w0 w (Chunk.all A :: L) := by
  obtain ⟨ha, hl, hal⟩ := List.pairwise_append.1 h.apart
  refine ⟨h.below, fun c hc => ?_, fun c hc k hk => ?_, List.pairwise_cons.2 ⟨fun b hb k hk => ?_, hl⟩⟩
  · rcases List.mem_cons.1 hc with rfl | hc
    · exact ⟨fun b hb => h.holds b (List.mem_append_left _ hb), ha⟩
    · exact h.holds c (List.mem_append_right _ hc)
  · rcases List.mem_cons.1 hc with rfl | hc
    · obtain ⟨b, hb, hk⟩ := hk
      exact h.inside b (List.mem_append_left _ hb) k hk
    · exact h.inside c (List.mem_append_right _ hc) k hk
  · obtain ⟨a, ha, hk⟩ := hk
    exact hal a ha b hb k hk
theorem Own.unbundle (h : Own w0 w (Chunk.all A :: L)) : Own w0 w (A ++ L) := by
  obtain ⟨hal, hl⟩ := List.pairwise_cons.1 h.apart
  have hA : (Chunk.all A).P w := h.holds _ (List.mem_cons_self ..)
  refine ⟨h.below, fun c hc => ?_, fun c hc k hk => ?_, List.pairwise_append.2 ⟨hA.2, hl, fun a ha b hb k hk => hal b hb k ⟨a, ha, hk⟩⟩⟩
  · rcases List.mem_append.1 hc with hc | hc
    · exact hA.1 c hc
    · exact h.holds c (List.mem_cons_of_mem _ hc)
  · rcases List.mem_append.1 hc with hc | hc
    · exact h.inside _ (List.mem_cons_self ..) k ⟨c, hc, hk⟩
    · exact h.inside c (List.mem_cons_of_mem _ hc) k hk
def Chunk.void : Chunk := ⟨fun _ => False, fun _ => True, fun _ _ => trivial⟩
theorem Own.void (h : Own w0 w L) : Own w0 w (Chunk.void :: L) := h.fresh (cs := [_]) (Out.one (Out.refl w _) (c := Chunk.void) trivial (fun _ hk => hk.elim))
theorem argblk {g : Nat} {o : Obj} (h : Own w0 w L) (hb : w0.heap[g]? = some o) : w.heap[g]? = some o := (h.below.block g (blk_lt hb)).trans hb
end
section
variable {D : List Deferred} {P : Program} {fn : Func} {R : Ending → World → Prop} {w : World} {N : Nat}
theorem gw_startO {f : FuncId} {c : Code} {vs : List Value} (hf : P.funcs[f]? = some fn) (hb : fn.body = some c) (hn : fn.ntmps = N) (hl : vs.length ≤ N)
    (h : ∀ a, Fr N a (ixs 0 vs) → c.wp P (bodyPost P fn R) a w) : Calls P f vs.toArray w R := by
  refine calls_of_wp hf hb ?_
  rw [hn]
  exact h _ (Fr.start vs N hl)
end
section
variable {α β : Type} {d : Kd α} {d' : Kd β} {S : Nat → Prop} {A A' : Option Addr} {n n' c : Nat} {xs : List α} {ys : List β} {w0 w w1 : World} {L : List Chunk}
def Chunk.viewAt (w1 : World) (d : Kd α) (S : Nat → Prop) (A : Option Addr) (n c : Nat) (xs : List α) : Chunk := ⟨S, fun w => d.F w1 S A n xs ∧ (n ≤ c ∧ ∀ ad, A = some ad → S ad.block) ∧ ∀ k, S k → w.heap[k]? = w1.heap[k]?, fun h hm => ⟨h.1, h.2.1, fun k hk => (hm k hk).trans (h.2.2 k hk)⟩⟩
theorem Own.pin (h : Own w0 w L) (i : Nat) (hi : L[i]? = some (Chunk.view d S A n c xs)) : Own w0 w (L.set i (Chunk.viewAt w d S A n c xs)) :=
  h.calls (cs := []) i hi (Out.one (Out.refl w _) (c := Chunk.viewAt w d S A n c xs) ⟨(h.get i hi).1, (h.get i hi).2, fun _ _ => rfl⟩ fun k hk => ⟨.inl hk, (h.lt i hi hk).2⟩)
theorem Own.unpin (h : Own w0 w L) (i : Nat) (hi : L[i]? = some (Chunk.viewAt w1 d S A n c xs)) : Own w0 w (L.set i (Chunk.view d S A n c xs)) :=
  h.mapc i hi (fun _ hk => hk) (fun _ hp => ⟨Kd.F_step hp.1 (fun k hk _ => hp.2.2 k hk), hp.2.1⟩)
theorem viewAt_F (h : (Chunk.viewAt w1 d S A n c xs).P w) : d.F w1 S A n xs := h.1
theorem pinC (h : (Chunk.viewAt w1 d S A n c xs).P w) (hF : d'.F w1 S A' n' ys) : d'.C w A' n' ys := hF w (fun k hk _ => h.2.2 k hk)
theorem cell_same {p : Addr} (h : w.heap[p.block]? = w1.heap[p.block]?) : w.cell? p = w1.cell? p := by
  unfold World.cell?
  rw [h]
theorem pin_cells {ad : Addr} {m : Nat} {cs : List Value} (h : (Chunk.viewAt w1 d S A n c xs).P w) (hA : A = some ad) (hc : ∀ j u, cs[j]? = some u → w1.cell? (ad.add (m + j)) = some u) : ∀ j u, cs[j]? = some u → w.cell? ((ad.add m).add j) = some u := fun j u hj => by
  rw [add_add, cell_same, hc j u hj]
  rw [add_block]
  exact h.2.2 _ (h.2.1.2 ad hA)
theorem int_openF {k : IntKind} {ok : Nat → Prop} {m : Int} {cs : List Value} (h : Kd.FK (Kd.int k) w ok m cs) : cs = [.int k m] := Kd.FK_now h
end
section
variable {D : List Deferred} {P : Program} {ops : Array Oper} {Q : Exit → Act → World → Prop} {rest : List Oper} {o : Oper} {N dd : Nat} {a : Act} {F : List (Nat × Value)} {w w0 : World} {L : List Chunk} {α : Type}
theorem gw_news {O : Obj} {n : Nat} (HF : FrD D N a F) (HO : Own w0 w L) (hw : Region.wanted o (yielded ops a.tmps) = true) (hd : o.dst = some dd) (hN : dd < N)
    (hrun : Runs P o a w (.slice (some ⟨w.heap.size, 0, none⟩) n n) (w.alloc O)) (k : ∀ g a' w1, FrD D N a' ((dd, .slice (some ⟨g, 0, none⟩) n n) :: F) → Own w0 w1 (Chunk.blk g O :: L) → wpList P ops Q rest a' w1) : wpList P ops Q (o :: rest) a w :=
  gw_ev HF hw hd hN hrun fun a' HF' => k _ a' _ HF' (HO.new O)
end
section
variable {α : Type} {d : Kd α} {w w0 : World} {L : List Chunk}
theorem Own.row_nil (h : Own w0 w L) (d : Kd α) (e base : Nat) : Own w0 w (Chunk.row d e base (fun _ => False) (.slice none 0 0) [] :: L) :=
  h.fresh (cs := [_]) (Out.one (Out.refl w _) (c := Chunk.row d e base (fun _ => False) (.slice none 0 0) []) (Kd.R_nil _ _ _ _ _) (fun _ hk => hk.elim))
theorem reps_none {R : α → List Value → Prop} {sz : Nat} : Reps R sz [] [] := ⟨by simp, fun j p h => by simp at h⟩
theorem reps_more {R : α → List Value → Prop} {sz : Nat} {x : α} {xs : List α} {c cs : List Value} (h : R x c) (hl : c.length = sz) (hs : Reps R sz xs cs) : Reps R sz (x :: xs) (c ++ cs) := by
  refine ⟨?_, fun j p hj => ?_⟩
  · rw [List.length_append, hl, hs.1, List.length_cons, Nat.add_mul, Nat.one_mul, Nat.add_comm]
  · cases j with
    | zero =>
      obtain rfl : x = p := by simpa using hj
      rw [Nat.zero_mul, List.drop_zero, List.take_append_of_le_length (by omega), List.take_of_length_le (by omega)]
      exact h
    | succ j =>
      have := hs.2 j p (by simpa using hj)
      have e : (j + 1) * sz = sz + j * sz := by rw [Nat.add_mul, Nat.one_mul, Nat.add_comm]
      rw [e, List.drop_append, List.drop_of_length_le (by omega), List.nil_append, show sz + j * sz - c.length = j * sz by omega]
      exact this
theorem Cg_lit {g e : Nat} {xs : List α} {cs : List Value} (hb : w.heap[g]? = some (.cells cs.toArray e (0, 0))) (hr : Reps (d.K w) d.sz xs cs) (hm : xs.length ≤ maxLen) : d.C w (some ⟨g, 0, none⟩) xs.length xs := by
  refine ⟨rfl, hm, fun _ => ⟨_, rfl, fun j p hj => ⟨_, ?_, hr.2 j p hj, fun i u hi => ?_⟩⟩⟩
  · exact d.K_len (hr.2 j p hj)
  · rw [add_plain]
    refine blk_at hb ?_
    rw [List.getElem?_take] at hi
    split at hi
    · rw [List.getElem?_drop] at hi
      simpa using hi
    · cases hi
end
end Go.Proofs.Ytkdahjnmldeklaa.PA
end
section
namespace Go.Proofs.Ytkdahjnmldeklaa.PA
open Go.RowKit Go.Proofs.YtkdahjnmldeklaaW.PrintWords Go.Proofs.YtkdahjnmldeklaaW.PrintLast Go.Proofs.YtkdahjnmldeklaaW.PrintMore
set_option linter.unusedVariables false
set_option linter.unusedSimpArgs false
variable {P : Program} {ops : Array Oper} {Q : Exit → Act → World → Prop} {a : Act} {w : World}
theorem gw_joinS {x y : Code} (V : Act → World → Prop) (h1 : x.wp P (Exit.then V Q) a w) (h2 : ∀ a w, V a w → y.wp P Q a w) : (Code.seq x y).wp P Q a w :=
  gw_seq fun K hK => Code.wp_mono (fun e a w h => by cases e <;> first | exact hK _ _ (h2 _ _ h) | exact h) h1
end Go.Proofs.Ytkdahjnmldeklaa.PA
end
section
namespace Go.Proofs.Ytkdahjnmldeklaa.PA
open Go.RowKit Go.Proofs.YtkdahjnmldeklaaW.PrintWords Go.Proofs.YtkdahjnmldeklaaW.PrintLast Go.Proofs.YtkdahjnmldeklaaW.PrintMore
set_option linter.unusedVariables false
set_option linter.unusedSimpArgs false
def gv (g : Bool) (v : Value) : Value := bif g then v else undef
def onb (b : Bool) : Value → Bool
  | .bool x => x == b
  | _ => false
theorem on_t (x : Bool) : onb true (.bool x) = x := by cases x <;> rfl
theorem on_f (x : Bool) : onb false (.bool x) = !x := by cases x <;> rfl
theorem on_gt (g x : Bool) : onb true (gv g (.bool x)) = (g && x) := by cases g <;> cases x <;> rfl
theorem on_gf (g x : Bool) : onb false (gv g (.bool x)) = (g && !x) := by cases g <;> cases x <;> rfl
theorem ev_gv {u v : Value} {g : Bool} (h : u = gv g v) (hg : g = true) : u = v := by
  rw [h, hg]
  rfl
theorem and1 {a b : Bool} (h : (a && b) = true) : a = true := by revert h; cases a <;> simp
theorem and2 {a b : Bool} (h : (a && b) = true) : b = true := by revert h; cases a <;> cases b <;> simp
theorem andi {a b : Bool} (h : a = true) (k : b = true) : (a && b) = true := by rw [h, k]; rfl
theorem not_t {a : Bool} (h : a = false) : (!a) = true := by rw [h]; rfl
section
variable {D : List Deferred} {P : Program} {ops : Array Oper} {Q : Exit → Act → World → Prop} {rest : List Oper} {o oj : Oper} {N d j dj : Nat} {a : Act} {F : List (Nat × Value)} {w w1 : World} {v u : Value} {C : World → Prop} {Q' : Act → Prop} {b g : Bool}
theorem wanted_on (HF : FrD D N a F) (hg : o.guard = some (j, b)) (hj : ops[j]? = some oj) (hdj : oj.dst = some dj) (hl : look F dj = some u) : Region.wanted o (yielded ops a.tmps) = onb b u := by
  have hy : yielded ops a.tmps j = (match u with | .bool x => some x | _ => none) := by
    cases u <;> simp [yielded, hj, hdj, HF.at_ _ _ hl]
  cases u <;> simp [Region.wanted, hg, hy, onb]
theorem FrD.litG {t : Bool} (h : FrD D N a ((d, gv g (.bool t)) :: F)) (e : g = true → t = b) : FrD D N a ((d, gv g (.bool b)) :: F) := by
  cases g
  · exact h
  · exact e rfl ▸ h
theorem gw_evG (HF : FrD D N a F) (hg : o.guard = some (j, b)) (hj : ops[j]? = some oj) (hdj : oj.dst = some dj) (hl : look F dj = some u) (hon : onb b u = g) (hd : o.dst = some d) (hN : d < N) (hrun : g = true → Runs P o a w v w)
    (k : ∀ a', FrD D N a' ((d, gv g v) :: F) → wpList P ops Q rest a' w) : wpList P ops Q (o :: rest) a w := by
  have hw := wanted_on HF hg hj hdj hl
  rw [hon] at hw
  cases g
  · exact gw_off HF hw hd hN k
  · exact gw_ev HF hw hd hN (hrun rfl) k
theorem gq_evG (HF : FrD D N a F) (hg : o.guard = some (j, b)) (hj : ops[j]? = some oj) (hdj : oj.dst = some dj) (hl : look F dj = some u) (hon : onb b u = g) (hd : o.dst = some d) (hN : d < N) (hrun : g = true → ∀ w, C w → Runs P o a w v w)
    (k : ∀ a', FrD D N a' ((d, gv g v) :: F) → wpQuiet P ops C Q' rest a') : wpQuiet P ops C Q' (o :: rest) a := by
  have hw := wanted_on HF hg hj hdj hl
  rw [hon] at hw
  cases g
  · exact gq_off HF hw hd hN k
  · exact gq_ev HF hw hd hN (hrun rfl) k
theorem gw_callG {f : FuncId} {args : Array Value} (HF : FrD D N a F) (hg : o.guard = some (j, b)) (hj : ops[j]? = some oj) (hdj : oj.dst = some dj) (hl : look F dj = some u) (hon : onb b u = g) (hd : o.dst = some d) (hN : d < N) (hen : g = true → Enters P o a w f args)
    (hc : g = true → Calls P f args w (fun e w' => e = .returned v ∧ Below w.heap.size w w')) (k : ∀ a' w', Below w.heap.size w w' → FrD D N a' ((d, gv g v) :: F) → wpList P ops Q rest a' w') : wpList P ops Q (o :: rest) a w := by
  have hw := wanted_on HF hg hj hdj hl
  rw [hon] at hw
  cases g
  · exact gw_off HF hw hd hN fun a' h => k a' w (Below.refl _ _) h
  · refine gw_call HF hw hd hN (hen rfl) (hc rfl) ?_
    rintro e w' ⟨rfl, hb⟩
    exact ⟨_, rfl, fun a' h => k a' w' hb h⟩
theorem gq_callG {f : FuncId} {args : Array Value} (HF : FrD D N a F) (hg : o.guard = some (j, b)) (hj : ops[j]? = some oj) (hdj : oj.dst = some dj) (hl : look F dj = some u) (hon : onb b u = g) (hd : o.dst = some d) (hN : d < N) (hen : g = true → ∀ w, C w → Enters P o a w f args)
    (hc : g = true → ∀ w, C w → Calls P f args w (fun e w' => e = .returned v ∧ C w')) (k : ∀ a', FrD D N a' ((d, gv g v) :: F) → wpQuiet P ops C Q' rest a') : wpQuiet P ops C Q' (o :: rest) a := by
  have hw := wanted_on HF hg hj hdj hl
  rw [hon] at hw
  cases g
  · exact gq_off HF hw hd hN k
  · exact gq_call HF hw hd hN (hen rfl) (hc rfl) k
end
section
variable {P : Program} {o : Oper} {a : Act} {w : World} {x y z : Operand} {p q : Bool}
theorem op_pick_or (ho : o.op = .pick x y z) (hx : a.eval x = .bool p) (hy : a.eval y = .bool true) (hz : p = false → a.eval z = .bool q) : Runs P o a w (.bool (p || q)) w := by
  cases p
  · exact op_pick_f ho hx (hz rfl)
  · exact op_pick_t ho hx hy
theorem op_pick_and (ho : o.op = .pick x y z) (hx : a.eval x = .bool p) (hy : p = true → a.eval y = .bool q) (hz : a.eval z = .bool false) : Runs P o a w (.bool (p && q)) w := by
  cases p
  · exact op_pick_f ho hx hz
  · exact op_pick_t ho hx (hy rfl)
end
section
variable {α : Type} {d : Kd α} {w : World} {A : Option Addr} {n : Nat} {xs : List α} {S : Nat → Prop}
theorem F_getT (h : d.F w S A n xs) (z : α) (i : Int) (hz : ∃ cs, Kd.FK d w S z cs) : ∃ ad cs, ((0 ≤ i ∧ i < n) → A = some ad) ∧ cs.length = d.sz ∧ Kd.FK d w S (xs.getD i.toNat z) cs ∧ ((0 ≤ i ∧ i < n) → ∀ j u, cs[j]? = some u → w.cell? (ad.add (i.toNat * d.sz + j)) = some u) := by
  have hn : xs.length = n := (Kd.F_now h).1
  by_cases hi : 0 ≤ i ∧ i < n
  · obtain ⟨ad, cs, h1, h2, h3, h4, _⟩ := Kd.F_get h z i hi.1 hi.2
    exact ⟨ad, cs, fun _ => h1, h2, h3, fun _ => h4⟩
  · by_cases h0 : i.toNat < xs.length
    · obtain ⟨ad, cs, h1, h2, h3, h4, _⟩ := Kd.F_get h z (i.toNat : Int) (by omega) (by omega)
      rw [Int.toNat_natCast] at h3
      exact ⟨ad, cs, fun k => absurd k hi, h2, h3, fun k => absurd k hi⟩
    · obtain ⟨cs, hk⟩ := hz
      have e : xs.getD i.toNat z = z := by rw [List.getD_eq_getElem?_getD, List.getElem?_eq_none (by omega)]; rfl
      rw [e]
      exact ⟨⟨0, 0, none⟩, cs, fun k => absurd k hi, d.K_len (Kd.FK_now hk), hk, fun k => absurd k hi⟩
end
end Go.Proofs.Ytkdahjnmldeklaa.PA
end
section
namespace Go.Proofs.Ytkdahjnmldeklaa.PA
open Go.RowKit Go.Proofs.YtkdahjnmldeklaaW.PrintWords Go.Proofs.YtkdahjnmldeklaaW.PrintLast Go.Proofs.YtkdahjnmldeklaaW.PrintMore
set_option linter.unusedVariables false
abbrev J (n : Int) : Value := .int .i64 n
abbrev Bk (g : Nat) (cs : List Value) (t : Nat) : Chunk := Chunk.blk g (.cells cs.toArray t (0, 0))
section
variable {D : List Deferred} {P : Program} {ops : Array Oper} {Q : Exit → Act → World → Prop} {Q' : Act → World → Prop} {rest : List Oper} {o : Oper} {N d : Nat} {a : Act} {F : List (Nat × Value)} {w w0 w1 wz : World} {L M : List Chunk} {v : Value} {B : Nat → Bool}
theorem V (HF : FrD D N a F) (hrun : Runs P o a w v w1) (k : ∀ a', FrD D N a' ((d, v) :: F) → wpList P ops Q rest a' w1) (hg : o.guard = none := by rfl) (hd : o.dst = some d := by rfl) (hN : d < N := by decide) : wpList P ops Q (o :: rest) a w := gw_ev HF (want_none hg) hd hN hrun k
theorem V2 (HF : FrD D N a F) (hw : Region.wanted o (yielded ops a.tmps) = true) (hrun : Runs P o a w v w1) (k : ∀ a', FrD D N a' ((d, v) :: F) → wpList P ops Q rest a' w1) (hd : o.dst = some d := by rfl) (hN : d < N := by decide) : wpList P ops Q (o :: rest) a w := gw_ev HF hw hd hN hrun k
end
end Go.Proofs.Ytkdahjnmldeklaa.PA
end
section
namespace Go.Proofs.Ytkdahjnmldeklaa.PA
open Go.RowKit Go.Maps Go.Proofs.YtkdahjnmldeklaaW.PrintWords Go.Proofs.YtkdahjnmldeklaaW.PrintLast Go.Proofs.YtkdahjnmldeklaaW.PrintMore
set_option linter.unusedVariables false
set_option linter.unusedSimpArgs false
def anyR (v : Value) : Option (DataW Value × List MemPlace) := some (.held v, [])
def held1 (p : Lit × Value) : Lit × DataW Value := (p.1, .held p.2)
def lmap (L : List (Lit × Value)) : DataW Value := .map (L.map held1)
def linsert (x : Lit × Value) : List (Lit × Value) → List (Lit × Value)
  | [] => [x]
  | y :: r => if x.1.before y.1 then x :: y :: r else y :: linsert x r
def ldel (k : Lit) (L : List (Lit × Value)) : List (Lit × Value) := L.filter fun p => !p.1.sameKey k
def lput (k : Lit) (v : Value) (L : List (Lit × Value)) : List (Lit × Value) := linsert (k, v) (ldel k L)
def lfind (k : Lit) (L : List (Lit × Value)) : Option Value := (L.find? fun p => p.1.sameKey k).map (·.2)
theorem linsert_map (x : Lit × Value) : ∀ L, (linsert x L).map held1 = DataW.insert (held1 x) (L.map held1)
  | [] => rfl
  | y :: r => by
    unfold linsert
    rw [List.map_cons, DataW.insert]
    show List.map held1 (if _ then _ else _) = if x.1.before y.1 then _ else _
    split
    · rfl
    · rw [List.map_cons, linsert_map x r]
theorem lmap_del (k : Lit) (L : List (Lit × Value)) : (lmap L).del k = lmap (ldel k L) := by
  show DataW.map ((L.map held1).filter fun p => !p.1.sameKey k) = DataW.map ((L.filter fun p => !p.1.sameKey k).map held1)
  rw [List.filter_map]
  rfl
theorem lmap_put (k : Lit) (v : Value) (L : List (Lit × Value)) : (lmap L).put k (.held v) = lmap (lput k v L) := by
  show DataW.map (DataW.insert (k, .held v) ((L.map held1).filter fun p => !p.1.sameKey k)) = DataW.map ((linsert (k, v) (L.filter fun p => !p.1.sameKey k)).map held1)
  rw [linsert_map, List.filter_map]
  rfl
theorem lmap_at (k : Lit) (z : Value) (L : List (Lit × Value)) : (lmap L).atKey k (.held z) = .held ((lfind k L).getD z) := by
  have e : (L.map held1).find? (fun p => p.1.sameKey k) = (L.find? fun p => p.1.sameKey k).map held1 := by rw [List.find?_map]; rfl
  unfold lmap DataW.atKey lfind
  simp only [e]
  cases L.find? (fun p => p.1.sameKey k) <;> rfl
theorem lmap_size (L : List (Lit × Value)) : size (lmap L) = L.length := by simp [lmap, size]
theorem owns_fit {P : Program} {K : TypeId} {w : World} {b n : Nat} {L : List (Lit × Value)} (h : w.ownsMap P K anyR b n (lmap L)) : w.ownsMap P K anyR b L.length (lmap L) := by
  obtain ⟨es, clock, hb, F, hs, hD⟩ := h
  refine ⟨es, clock, hb, F, ?_, hD⟩
  have e1 : (L.map held1) = (es.toList.map (Go.WideElems.rg P K anyR)).foldr DataW.insert [] := by injection hD
  have e2 := congrArg List.length e1
  rw [length_sorted] at e2
  simp at e2
  omega
def Chunk.lmap (P : Program) (K : TypeId) (b : Nat) (L : List (Lit × Value)) : Chunk := ⟨fun k => k = b, fun w => w.ownsMap P K anyR b L.length (PA.lmap L), fun h hm => by
  obtain ⟨es, clock, hb, F, hs, hD⟩ := h
  exact ⟨es, clock, (hm b rfl).trans hb, F, hs, hD⟩⟩
section
variable {D : List Deferred} {P : Program} {ops : Array Oper} {Q : Exit → Act → World → Prop} {rest : List Oper} {o : Oper} {N dd : Nat} {a : Act} {F : List (Nat × Value)} {w w0 : World} {L : List Chunk} {K e t b : Nat} {M : List (Lit × Value)} {key : Value} {kl : Lit} {m x v : Operand}
theorem FrD.putn (HF : FrD D N a F) (v : Value) : FrD D N (a.put none v) F := HF
theorem gw_mkmap (HF : FrD D N a F) (HO : Own w0 w L) (hw : Region.wanted o (yielded ops a.tmps) = true) (hd : o.dst = some dd) (hN : dd < N) (ho : o.op = .makeMap t none)
    (k : ∀ g a' w1, FrD D N a' ((dd, .map (some g)) :: F) → Own w0 w1 (Chunk.lmap P K g [] :: L) → wpList P ops Q rest a' w1) : wpList P ops Q (o :: rest) a w := by
  refine gw_ev HF hw hd hN (v := .map (some w.heap.size)) (w1 := w.alloc (.map #[] 0)) ?_ fun a' HF' => k _ a' _ HF' ?_
  · unfold Runs execOp
    simp only [ho]
    rfl
  · exact HO.fresh (cs := [_]) (Out.one (Out.of_below (below_alloc (Below.refl _ _) _) _) (c := Chunk.lmap P K w.heap.size []) (World.ownsMap_made _ _ _ _) (fun k hk => by
      obtain rfl : k = w.heap.size := hk
      exact ⟨.inr (Nat.le_refl _), by simp⟩))
theorem gw_mput (i : Nat) (KL : Keyed P K) (ht : P.underlying t = some (.map K e)) (HF : FrD D N a F) (HO : Own w0 w L) (hi : L[i]? = some (Chunk.lmap P K b M)) (hw : Region.wanted o (yielded ops a.tmps) = true) (hd : o.dst = none) (ho : o.op = .mapUpdate t m x v)
    {val : Value} (hm : a.eval m = .map (some b)) (hx : a.eval x = key) (hv : a.eval v = val) (hkey : keyOf P K key = some kl) (hn : M.length < 9223372036854775807)
    (k : ∀ a' w1, FrD D N a' F → Own w0 w1 (L.set i (Chunk.lmap P K b (lput kl val M))) → wpList P ops Q rest a' w1) : wpList P ops Q (o :: rest) a w := by
  have hown : w.ownsMap P K anyR b M.length (lmap M) := HO.get i hi
  refine gw_unguard hw ?_
  refine wpList_mapUpdate_own w rfl m x v t ho K e KL ht _ b M.length _ hm hown (by simp only [maxLen]; omega) key val kl hx hv hkey (.held val) [] rfl ?_
  intro w1 h1 hg
  show wpList P ops Q rest (a.put o.dst _) w1
  rw [hd]
  refine k _ w1 (HF.putn _) (HO.calls (cs := []) i hi (Out.one ((Out.refl w _).grown hg (fun k e => .inl (by injection e with e; exact e.symm))) ?_ (fun k hk => ⟨.inl hk, Nat.lt_of_lt_of_le (HO.lt i hi hk).2 hg.size⟩)))
  rw [lmap_put] at h1
  exact owns_fit h1
theorem gw_mdel (i : Nat) (KL : Keyed P K) (ht : P.underlying t = some (.map K e)) (HF : FrD D N a F) (HO : Own w0 w L) (hi : L[i]? = some (Chunk.lmap P K b M)) (hw : Region.wanted o (yielded ops a.tmps) = true) (hd : o.dst = none)
    (ho : o.op = .call { callee := .builtin .delete, args := #[m, x], argTypes := #[t, K] }) (hm : a.eval m = .map (some b)) (hx : a.eval x = key) (hkey : keyOf P K key = some kl)
    (k : ∀ a' w1, FrD D N a' F → Own w0 w1 (L.set i (Chunk.lmap P K b (ldel kl M))) → wpList P ops Q rest a' w1) : wpList P ops Q (o :: rest) a w := by
  have hown : w.ownsMap P K anyR b M.length (lmap M) := HO.get i hi
  refine gw_unguard hw ?_
  refine wpList_delete_own w rfl m x t K ho e KL ht _ b M.length _ hm hown key kl hx hkey ?_
  intro w1 h1 hg
  show wpList P ops Q rest (a.put o.dst _) w1
  rw [hd]
  have hg := hg.grown
  refine k _ w1 (HF.putn _) (HO.calls (cs := []) i hi (Out.one ((Out.refl w _).grown hg (fun k e => .inl (by injection e with e; exact e.symm))) ?_ (fun k hk => ⟨.inl hk, Nat.lt_of_lt_of_le (HO.lt i hi hk).2 hg.size⟩)))
  rw [lmap_del] at h1
  exact owns_fit h1
theorem op_mlook {z : Value} (KL : Keyed P K) (ht : P.underlying t = some (.map K e)) (hz : ∀ w, (zeroValue e).run P w = .ok z w) (ho : o.op = .lookup t m x false) (hm : a.eval m = .map (some b)) (hx : a.eval x = key) (hkey : keyOf P K key = some kl) (hown : (Chunk.lmap P K b M).P w) :
    Runs P o a w ((lfind kl M).getD z) w := by
  have h1 : w.ownsMap P K anyR b M.length (lmap M) := hown
  obtain ⟨v, ps, hrun, hv⟩ := h1.lookup KL ht (hz w) (zd := .held z) (zp := []) rfl hkey
  rw [lmap_at] at hv
  have e1 : v = (lfind kl M).getD z := by
    have := congrArg (Option.map Prod.fst) hv
    injection this with this
    injection this
  subst e1
  unfold Runs execOp
  simp [ho, hm, hx, hrun, Result.andThen]
end
section
variable {P : Program} {o : Oper} {a : Act} {w : World} {K e t b : Nat} {M : List (Lit × Value)} {key z v : Value} {kl : Lit} {m x y : Operand}
theorem op_ml_some (KL : Keyed P K) (ht : P.underlying t = some (.map K e)) (hz : ∀ w, (zeroValue e).run P w = .ok z w) (ho : o.op = .lookup t m x false) (hm : a.eval m = .map (some b)) (hx : a.eval x = key) (hkey : keyOf P K key = some kl) (hown : (Chunk.lmap P K b M).P w) (h : lfind kl M = some v) : Runs P o a w v w := by
  have := op_mlook KL ht hz ho hm hx hkey hown
  rwa [h] at this
theorem op_ml_none (KL : Keyed P K) (ht : P.underlying t = some (.map K e)) (hz : ∀ w, (zeroValue e).run P w = .ok z w) (ho : o.op = .lookup t m x false) (hm : a.eval m = .map (some b)) (hx : a.eval x = key) (hkey : keyOf P K key = some kl) (hown : (Chunk.lmap P K b M).P w) (h : lfind kl M = none) : Runs P o a w z w := by
  have := op_mlook KL ht hz ho hm hx hkey hown
  rwa [h] at this
theorem op_nep_nil {ad : Addr} {e yt : TypeId} (ht : P.underlying t = some (.pointer e)) (ho : o.op = .binOp .neq t x (.const (.pointer none)) yt) (hx : a.eval x = .pointer (some ad)) : Runs P o a w (.bool true) w := by
  unfold Runs execOp
  simp only [ho, hx]
  simp [go_sem, Act.eval, ht]
theorem op_eqp_nils {e yt : TypeId} (ht : P.underlying t = some (.pointer e)) (ho : o.op = .binOp .eql t x (.const (.pointer none)) yt) (hx : a.eval x = .pointer none) : Runs P o a w (.bool true) w := by
  unfold Runs execOp
  simp only [ho, hx]
  simp [go_sem, Act.eval, ht]
theorem op_nep_nils {e yt : TypeId} (ht : P.underlying t = some (.pointer e)) (ho : o.op = .binOp .neq t x (.const (.pointer none)) yt) (hx : a.eval x = .pointer none) : Runs P o a w (.bool false) w := by
  unfold Runs execOp
  simp only [ho, hx]
  simp [go_sem, Act.eval, ht]
end
theorem lmap_arg {P : Program} {K b : Nat} {M : List (Lit × Value)} {w0 w : World} {L : List Chunk} (HO : Own w0 w L) (h : (Chunk.lmap P K b M).P w0) : (Chunk.lmap P K b M).P w :=
  (Chunk.lmap P K b M).move h fun k hk => by
    obtain rfl : k = b := hk
    exact HO.below.block _ (World.ownsMap.lt h)
def risingL (L : List (Lit × Value)) : Prop := L.Pairwise fun p q => p.1.before q.1 = true
theorem lmap_rising {P : Program} {K b : Nat} {w : World} {L : List (Lit × Value)} (KL : Keyed P K) (h : (Chunk.lmap P K b L).P w) : risingL L ∧ ∀ p ∈ L, KeysOf P K p.1 := by
  obtain ⟨es, clock, hb, F, hs, hD⟩ := h
  have e1 : (L.map held1) = (es.toList.map (Go.WideElems.rg P K anyR)).foldr DataW.insert [] := by injection hD
  have hk : ∀ p ∈ L.map held1, KeysOf P K p.1 := fun p hp => Go.Maps.fit_keys F p (by rw [e1] at hp; exact (Go.WideShapes.sorted_perm _).mem_iff.1 hp)
  have hs2 : (L.map held1).Pairwise (fun p q => p.1.before q.1 = true) := by
    rw [e1]
    exact Go.Maps.sorted_sorted KL.one _ (fun p hp => Go.Maps.fit_keys F p hp) (Go.Maps.fit_apart KL F)
  exact ⟨by simpa [risingL, List.pairwise_map, held1] using hs2, fun p hp => hk (held1 p) (List.mem_map_of_mem hp)⟩
end Go.Proofs.Ytkdahjnmldeklaa.PA
end
section
namespace Go.Proofs.Ytkdahjnmldeklaa.PA
open Go.RowKit Go.Maps Go.Proofs.YtkdahjnmldeklaaW.PrintWords Go.Proofs.YtkdahjnmldeklaaW.PrintLast Go.Proofs.YtkdahjnmldeklaaW.PrintMore
set_option linter.unusedVariables false
set_option linter.unusedSimpArgs false
def litS (s : ByteArray) : Lit := .string s.data.toList
theorem litS_inj {s t : ByteArray} (h : litS s = litS t) : s = t := by
  have : s.data.toList = t.data.toList := by injection h
  have := Array.toList_inj.1 this
  cases s; cases t; simp_all
theorem litS_same (s t : ByteArray) : (litS s).sameKey (litS t) = decide (s = t) := by
  show (s.data.toList == t.data.toList) = _
  by_cases h : s = t
  · subst h; simp
  · rw [decide_eq_false h]
    simp only [beq_eq_false_iff_ne, ne_eq]
    intro e
    exact h (litS_inj (congrArg Lit.string e))
structure PF where
  nm : ByteArray
  b : List Int
  sf : Int
structure PD where
  fs : List PF
  most : Int
  used : Int
  fuse : Int
  down : Bool
structure XF where
  p : PF
  g : Nat
  A : Option Addr
  c : Nat
  S : Nat → Prop
def XF.ent (x : XF) : Lit × Value := (litS x.p.nm, .pointer (some ⟨x.g, 0, none⟩))
def getF (nm : ByteArray) (fs : List PF) : Option PF := fs.find? fun f => decide (f.nm = nm)
def updF (nm : ByteArray) (h : PF → PF) (fs : List PF) : List PF := fs.map fun f => if f.nm = nm then h f else f
def delF (nm : ByteArray) (fs : List PF) : List PF := fs.filter fun f => !decide (f.nm = nm)
def insF (f : PF) : List PF → List PF
  | [] => [f]
  | y :: r => if (litS f.nm).before (litS y.nm) then f :: y :: r else y :: insF f r
def insX (x : XF) : List XF → List XF
  | [] => [x]
  | y :: r => if (litS x.p.nm).before (litS y.p.nm) then x :: y :: r else y :: insX x r
theorem insX_p (x : XF) : ∀ l, (insX x l).map XF.p = insF x.p (l.map XF.p)
  | [] => rfl
  | y :: r => by
    unfold insX
    rw [List.map_cons, insF]
    split
    · rfl
    · rw [List.map_cons, insX_p x r]
theorem insX_ent (x : XF) : ∀ l, (insX x l).map XF.ent = linsert x.ent (l.map XF.ent)
  | [] => rfl
  | y :: r => by
    unfold insX
    rw [List.map_cons, linsert]
    show _ = if (litS x.p.nm).before (litS y.p.nm) then _ else _
    split
    · rfl
    · rw [List.map_cons, insX_ent x r]
theorem insX_perm (x : XF) : ∀ l, (insX x l).Perm (x :: l)
  | [] => List.Perm.refl _
  | y :: r => by
    unfold insX
    split
    · exact List.Perm.refl _
    · exact ((insX_perm x r).cons y).trans (List.Perm.swap x y r)
def delX (nm : ByteArray) (xs : List XF) : List XF := xs.filter fun x => !decide (x.p.nm = nm)
theorem delX_p (nm : ByteArray) (xs : List XF) : (delX nm xs).map XF.p = delF nm (xs.map XF.p) := by
  unfold delX delF
  rw [List.filter_map]
  rfl
theorem delX_ent (nm : ByteArray) (xs : List XF) : (delX nm xs).map XF.ent = ldel (litS nm) (xs.map XF.ent) := by
  unfold delX ldel
  rw [List.filter_map]
  congr 1
  refine List.filter_congr fun x _ => ?_
  show _ = !(litS x.p.nm).sameKey (litS nm)
  rw [litS_same]
def onceX (xs : List XF) : Prop := xs.Pairwise fun x y => x.p.nm ≠ y.p.nm
theorem once_of_rising {xs : List XF} (h : risingL (xs.map XF.ent)) : onceX xs := by
  have := List.pairwise_map.1 h
  refine this.imp fun {x y} hb e => ?_
  have hb' : (litS x.p.nm).before (litS y.p.nm) = true := hb
  rw [e, Go.WideShapes.before_irrefl] at hb'
  cases hb'
theorem look_cases (nm : ByteArray) {xs : List XF} (h : onceX xs) : (lfind (litS nm) (xs.map XF.ent) = none ∧ getF nm (xs.map XF.p) = none ∧ ∀ x ∈ xs, x.p.nm ≠ nm) ∨
    ∃ pre x post, xs = pre ++ x :: post ∧ x.p.nm = nm ∧ lfind (litS nm) (xs.map XF.ent) = some (.pointer (some ⟨x.g, 0, none⟩)) ∧ getF nm (xs.map XF.p) = some x.p ∧ (∀ y ∈ pre ++ post, y.p.nm ≠ nm) := by
  have e1 : lfind (litS nm) (xs.map XF.ent) = (xs.find? fun x => decide (x.p.nm = nm)).map fun x => .pointer (some ⟨x.g, 0, none⟩) := by
    unfold lfind
    rw [List.find?_map, Option.map_map]
    congr 1
    congr 1
    funext x
    exact litS_same _ _
  have e2 : getF nm (xs.map XF.p) = (xs.find? fun x => decide (x.p.nm = nm)).map XF.p := by
    unfold getF
    rw [List.find?_map]
    rfl
  rw [e1, e2]
  cases hf : xs.find? fun x => decide (x.p.nm = nm) with
  | none =>
    refine .inl ⟨rfl, rfl, fun x hx => ?_⟩
    have := List.find?_eq_none.1 hf x hx
    simpa using this
  | some x =>
    obtain ⟨hx, pre, post, rfl, hpre⟩ := List.find?_eq_some_iff_append.1 hf
    have hx : x.p.nm = nm := by simpa using hx
    refine .inr ⟨pre, x, post, rfl, hx, rfl, rfl, fun y hy => ?_⟩
    rcases List.mem_append.1 hy with hy | hy
    · simpa using hpre y hy
    · obtain ⟨_, h2, _⟩ := List.pairwise_append.1 h
      have := (List.pairwise_cons.1 h2).1 y hy
      rw [hx] at this
      exact fun e => this e.symm
theorem upd_mid {nm : ByteArray} {h : PF → PF} {pre post : List XF} {x : XF} (hx : x.p.nm = nm) (ho : ∀ y ∈ pre ++ post, y.p.nm ≠ nm) : updF nm h ((pre ++ x :: post).map XF.p) = pre.map XF.p ++ h x.p :: post.map XF.p := by
  have hs : ∀ l : List XF, (∀ y ∈ l, y.p.nm ≠ nm) → updF nm h (l.map XF.p) = l.map XF.p := fun l hl => by
    unfold updF
    rw [List.map_map]
    exact List.map_congr_left fun y hy => if_neg (hl y hy)
  have e1 := hs pre fun y hy => ho y (List.mem_append_left _ hy)
  have e2 := hs post fun y hy => ho y (List.mem_append_right _ hy)
  unfold updF at e1 e2 ⊢
  rw [List.map_append, List.map_cons, List.map_append, List.map_cons, e1, e2, if_pos hx]
theorem delX_mid {nm : ByteArray} {pre post : List XF} {x : XF} (hx : x.p.nm = nm) (ho : ∀ y ∈ pre ++ post, y.p.nm ≠ nm) : delX nm (pre ++ x :: post) = pre ++ post := by
  have hs : ∀ l : List XF, (∀ y ∈ l, y.p.nm ≠ nm) → delX nm l = l := fun l hl => List.filter_eq_self.2 fun y hy => by simp [hl y hy]
  have e1 := hs pre fun y hy => ho y (List.mem_append_left _ hy)
  have e2 := hs post fun y hy => ho y (List.mem_append_right _ hy)
  unfold delX at e1 e2 ⊢
  rw [List.filter_append, List.filter_cons, e1, e2]
  simp [hx]
theorem delX_none {nm : ByteArray} {xs : List XF} (ho : ∀ y ∈ xs, y.p.nm ≠ nm) : delX nm xs = xs := List.filter_eq_self.2 fun y hy => by simp [ho y hy]
def namedB (s : ByteArray) : Bool := decide (1 ≤ s.size) && decide (s.size ≤ 40)
def stepD (d : PD) (k : PD → PD) : PD × Int := if 0 < d.fuse then (if d.fuse = 1 then ({ d with fuse := 0, down := true }, 70) else (k { d with fuse := d.fuse - 1 }, 0)) else (k d, 0)
def newD (room : Int) : PD := ⟨[], mx room 0, 0, 0, false⟩
def createD (nm : ByteArray) (d : PD) : PD × Int :=
  if d.down = true then (d, 70) else if namedB nm = false then (d, 1) else if (getF nm d.fs).isSome = true then (d, 5) else stepD d fun d => { d with fs := insF ⟨nm, [], 0⟩ (delF nm d.fs) }
def withF (nm : ByteArray) (d : PD) (k : PF → PD × Int) : PD × Int := if d.down = true then (d, 70) else match getF nm d.fs with | none => (d, 4) | some f => k f
def appendD (nm : ByteArray) (y : List Int) (d : PD) : PD × Int :=
  withF nm d fun _ => if d.most - d.used < y.length then (d, 71) else stepD d fun d => { d with fs := updF nm (fun f => { f with b := f.b ++ y }) d.fs, used := d.used + y.length }
def syncD (nm : ByteArray) (d : PD) : PD × Int := withF nm d fun _ => stepD d fun d => { d with fs := updF nm (fun f => { f with sf := f.b.length }) d.fs }
def dropD (nm : ByteArray) (d : PD) : PD := match getF nm d.fs with | none => d | some f => { d with fs := delF nm d.fs, used := d.used - f.b.length }
def removeD (nm : ByteArray) (d : PD) : PD × Int := withF nm d fun _ => stepD d (dropD nm)
def renameD (from_ dest : ByteArray) (d : PD) : PD × Int :=
  if d.down = true then (d, 70) else if namedB dest = false then (d, 1) else match getF from_ d.fs with
    | none => (d, 4)
    | some f => stepD d fun d => if from_ = dest then d else { dropD dest d with fs := insF { f with nm := dest } (delF dest (delF from_ (dropD dest d).fs)) }
def cutD (nm : ByteArray) (n : Int) (d : PD) : PD × Int :=
  withF nm d fun f => if n < 0 ∨ (f.b.length : Int) < n then (d, 1) else stepD d fun d => { d with fs := updF nm (fun f => { f with b := f.b.take n.toNat, sf := mn f.sf n }) d.fs, used := d.used - (f.b.length - n) }
def crashF : List PF → List Int → List PF × Int
  | [], _ => ([], 0)
  | f :: r, keep =>
    if (f.b.length : Int) - f.sf = 0 then (f :: (crashF r keep).1, (crashF r keep).2)
    else
      let loose := (f.b.length : Int) - f.sf
      let n := match keep with | [] => 0 | k :: _ => mn (mx k 0) loose
      let q := crashF r (keep.drop 1)
      ({ f with b := f.b.take (f.sf + n).toNat, sf := f.sf + n } :: q.1, loose - n + q.2)
def crashD (keep : List Int) (d : PD) : PD := { d with down := false, fuse := 0, fs := (crashF d.fs keep).1, used := d.used - (crashF d.fs keep).2 }
def readD (nm : ByteArray) (d : PD) : List Int × Int := if d.down = true then ([], 70) else match getF nm d.fs with | none => ([], 4) | some f => (f.b, 0)
structure wfD (d : PD) : Prop where
  used : d.used = ((d.fs.map fun f => f.b.length).sum : Nat)
  most : d.used ≤ d.most ∧ d.most ≤ 9223372036854775807
  fuse : 0 ≤ d.fuse ∧ d.fuse ≤ 9223372036854775807
  sf : ∀ f ∈ d.fs, 0 ≤ f.sf ∧ f.sf ≤ f.b.length
  nm : ∀ f ∈ d.fs, f.nm.size ≤ 40
  ris : d.fs.Pairwise fun a b => (litS a.nm).before (litS b.nm) = true
def XF.cells (x : XF) : Array Value := #[.slice x.A x.p.b.length x.c, .int .i64 x.p.sf]
def Chunk.fblk (x : XF) : Chunk := Chunk.blk x.g (.cells x.cells 81 (0, 0))
def Chunk.frow (base : Nat) (x : XF) : Chunk := Chunk.row (Kd.int .u8) 5 base x.S (.slice x.A x.p.b.length x.c) x.p.b
def Chunk.file (base : Nat) (x : XF) : Chunk := Chunk.all [Chunk.fblk x, Chunk.frow base x]
def Chunk.files (base : Nat) (xs : List XF) : Chunk := Chunk.all (xs.map (Chunk.file base))
def dcells (gm : Nat) (d : PD) : Array Value := #[.map (some gm), .int .i64 d.most, .int .i64 d.used, .int .i64 d.fuse, .bool d.down]
def diskL (base gd gm : Nat) (d : PD) (xs : List XF) : List Chunk := [Chunk.blk gd (.cells (dcells gm d) 76 (0, 0)), Chunk.lmap Try.prog 9 gm (xs.map XF.ent), Chunk.files base xs]
def Chunk.disk (base gd : Nat) (S : Nat → Prop) (d : PD) : Chunk := ⟨S, fun w => ∃ gm xs, xs.map XF.p = d.fs ∧ (Chunk.all (diskL base gd gm d xs)).P w ∧ ∀ k, (Chunk.all (diskL base gd gm d xs)).S k → S k, fun h hm => by
  obtain ⟨gm, xs, h1, h2, h3⟩ := h
  exact ⟨gm, xs, h1, (Chunk.all _).move h2 (fun k hk => hm k (h3 k hk)), h3⟩⟩
theorem strKey : Keyed Try.prog 9 := string_keyed Try.underlying9
theorem keyS {s : ByteArray} (h : s.size ≤ 9223372036854775807) : keyOf Try.prog 9 (.string s) = some (litS s) := Go.WideMaps.keyOf_string_mk Try.underlying9 (by simpa only [maxLen] using h)
section
variable {w0 w : World} {base gd gm : Nat} {S : Nat → Prop} {d : PD} {L A B : List Chunk} {xs pre post : List XF} {x x' : XF}
theorem Own.perm (h : Own w0 w A) (hp : A.Perm B) : Own w0 w B :=
  ⟨h.below, fun c hc => h.holds c (hp.mem_iff.2 hc), fun c hc => h.inside c (hp.mem_iff.2 hc), (hp.pairwise_iff (fun {a b} hab => ap_symm a b hab)).1 h.apart⟩
theorem Own.allPerm (h : Own w0 w (Chunk.all A :: L)) (hp : A.Perm B) : Own w0 w (Chunk.all B :: L) := (h.unbundle.perm (hp.append_right L)).bundle
theorem Own.disk_open (h : Own w0 w (Chunk.disk base gd S d :: L)) : ∃ gm xs, xs.map XF.p = d.fs ∧ onceX xs ∧ Own w0 w (diskL base gd gm d xs ++ L) := by
  obtain ⟨gm, xs, h1, h2, h3⟩ := h.get 0 rfl
  have h4 : Own w0 w (Chunk.all (diskL base gd gm d xs) :: L) := h.calls (cs := []) 0 rfl (Out.one (Out.refl w _) h2 fun k hk => ⟨.inl (h3 k hk), (h.lt 0 rfl (h3 k hk)).2⟩)
  have h5 := h4.unbundle
  exact ⟨gm, xs, h1, once_of_rising (lmap_rising strKey (h5.get 1 rfl)).1, h5⟩
theorem Own.disk_close (h : Own w0 w (diskL base gd gm d xs ++ L)) (hx : xs.map XF.p = d.fs) : ∃ S, Own w0 w (Chunk.disk base gd S d :: L) := by
  have h1 := h.bundle
  exact ⟨(Chunk.all (diskL base gd gm d xs)).S, h1.calls (cs := []) 0 rfl (Out.one (Out.refl w _) (c := Chunk.disk base gd (Chunk.all (diskL base gd gm d xs)).S d) ⟨gm, xs, hx, h1.get 0 rfl, fun k hk => hk⟩ fun k hk => ⟨.inl hk, (h1.lt 0 rfl hk).2⟩)⟩
theorem Own.file_open (h : Own w0 w (Chunk.files base (pre ++ x :: post) :: L)) : Own w0 w (Chunk.fblk x :: Chunk.frow base x :: Chunk.files base (pre ++ post) :: L) := by
  have h1 : Own w0 w (Chunk.all (Chunk.file base x :: (pre ++ post).map (Chunk.file base)) :: L) := by
    refine Own.allPerm (A := (pre ++ x :: post).map (Chunk.file base)) h ?_
    rw [← List.map_cons]
    exact (List.perm_middle).map _
  have h2 : Own w0 w (Chunk.file base x :: ((pre ++ post).map (Chunk.file base) ++ L)) := h1.unbundle
  have h3 : Own w0 w ([Chunk.fblk x, Chunk.frow base x] ++ ((pre ++ post).map (Chunk.file base) ++ L)) := h2.unbundle
  have h4 : Own w0 w ((pre ++ post).map (Chunk.file base) ++ (Chunk.fblk x :: Chunk.frow base x :: L)) := h3.perm (by
    exact List.perm_append_comm_assoc [Chunk.fblk x, Chunk.frow base x] _ L)
  exact h4.bundle.perm ((List.Perm.swap _ _ _).trans ((List.Perm.swap _ _ _).cons _))
theorem Own.file_close (h : Own w0 w (Chunk.fblk x :: Chunk.frow base x :: Chunk.files base (pre ++ post) :: L)) : Own w0 w (Chunk.files base (pre ++ x :: post) :: L) := by
  have h1 : Own w0 w (Chunk.files base (pre ++ post) :: (Chunk.fblk x :: Chunk.frow base x :: L)) := h.perm (((List.Perm.swap _ _ _).cons _).trans (List.Perm.swap _ _ _))
  have h2 : Own w0 w ((pre ++ post).map (Chunk.file base) ++ (Chunk.fblk x :: Chunk.frow base x :: L)) := h1.unbundle
  have h3 : Own w0 w ([Chunk.fblk x, Chunk.frow base x] ++ ((pre ++ post).map (Chunk.file base) ++ L)) := h2.perm (by
    exact List.perm_append_comm_assoc _ [Chunk.fblk x, Chunk.frow base x] L)
  have h4 : Own w0 w (Chunk.file base x :: ((pre ++ post).map (Chunk.file base) ++ L)) := h3.bundle
  have h5 : Own w0 w (Chunk.all (Chunk.file base x :: (pre ++ post).map (Chunk.file base)) :: L) := Own.bundle (A := _ :: _) h4
  refine Own.allPerm h5 ?_
  rw [← List.map_cons]
  exact (List.perm_middle.symm).map _
theorem Own.files_perm {ys : List XF} (h : Own w0 w (Chunk.files base xs :: L)) (hp : xs.Perm ys) : Own w0 w (Chunk.files base ys :: L) := Own.allPerm h (hp.map _)
theorem Own.files_nil (h : Own w0 w L) (base : Nat) : Own w0 w (Chunk.files base [] :: L) :=
  h.fresh (cs := [_]) (Out.one (Out.refl w _) (c := Chunk.files base []) ⟨fun c hc => by simp at hc, by simp⟩ (fun k hk => by obtain ⟨c, hc, _⟩ := hk; simp at hc))
theorem Own.row_take {α : Type} {d : Kd α} {e base n c : Nat} {S : Nat → Prop} {A : Option Addr} {xs : List α} (h : Own w0 w L) (i : Nat) (hi : L[i]? = some (Chunk.row d e base S (.slice A n c) xs)) (m : Nat) (hm : m ≤ xs.length) : Own w0 w (L.set i (Chunk.row d e base S (.slice A m c) (xs.take m))) :=
  h.mapc i hi (fun _ hk => hk) (fun _ hr => Kd.R_take hr hm)
end
end Go.Proofs.Ytkdahjnmldeklaa.PA
end
section
namespace Go.Proofs.Ytkdahjnmldeklaa.PA
open Go.RowKit Go.Proofs.YtkdahjnmldeklaaW.PrintWords Go.Proofs.YtkdahjnmldeklaaW.PrintLast Go.Proofs.YtkdahjnmldeklaaW.PrintMore
set_option linter.unusedVariables false
set_option linter.unusedSimpArgs false
section
variable {P : Program} {o : Oper} {a : Act} {w : World} {x y z : Operand} {t yt : TypeId} {v : Value}
theorem op_func {f : FuncId} {caps : List Operand} {vs : List Value} (ho : o.op = .makeFunc (.func f) #[] caps.toArray) (hc : caps.map a.eval = vs) : Runs P o a w (.func (.func f) #[] vs.toArray) w := by
  unfold Runs execOp
  simp only [ho]
  simp [go_sem, Instr.makeFunc, hc]
theorem op_callV {f : FuncId} {fn : Func} {c : Operand} {args : List Operand} {tys : Array TypeId} {vs caps : List Value} (hf : P.funcs[f]? = some fn) (hname : (fn.name == "runtime.NumGoroutine") = false) (hb : fn.body.isSome = true) (ho : o.op = .call { callee := .value c, args := args.toArray, argTypes := tys }) (hc : a.eval c = .func (.func f) #[] caps.toArray) (hv : args.map a.eval = vs) : Enters P o a w f (vs ++ caps).toArray := by
  have he := enters_ hf hname hb (vs ++ caps).toArray w
  unfold Enters execOp
  simp [ho, resolve, Deferred.ofValue, invoke, hc, hv, he]
end
end Go.Proofs.Ytkdahjnmldeklaa.PA
end
section
namespace Go.Proofs.Ytkdahjnmldeklaa.PA
open Go.RowKit Go.Maps Go.Proofs.YtkdahjnmldeklaaW.PrintWords Go.Proofs.YtkdahjnmldeklaaW.PrintLast Go.Proofs.YtkdahjnmldeklaaW.PrintMore
set_option linter.unusedVariables false
set_option linter.unusedSimpArgs false
theorem named_i (s : ByteArray) : (decide ((1 : Int) ≤ (s.size : Int)) && decide ((s.size : Int) ≤ 40)) = namedB s := by
  unfold namedB
  congr 1 <;> (rw [decide_eq_decide]; omega)
def decF (n : Int) : Int := if 0 < n then n - 1 else n
section
variable {d : PD} {k : PD → PD} {nm to_ : ByteArray} {f : PF} {y : List Int} {n : Int} {q : PF → PD × Int}
theorem step_off (h : d.fuse = 1) : stepD d k = ({ d with fuse := 0, down := true }, 70) := by
  unfold stepD
  rw [if_pos (by omega), if_pos h]
theorem step_on (h : d.fuse ≠ 1) (h0 : 0 ≤ d.fuse) : stepD d k = (k { d with fuse := decF d.fuse }, 0) := by
  unfold stepD decF
  by_cases h1 : 0 < d.fuse
  · rw [if_pos h1, if_neg h, if_pos h1]
  · rw [if_neg h1, if_neg h1]
theorem create_down (h : d.down = true) : createD nm d = (d, 70) := if_pos h
theorem create_bad (h : d.down = false) (hb : namedB nm = false) : createD nm d = (d, 1) := by
  unfold createD
  rw [if_neg (by simp [h]), if_pos hb]
theorem create_twice (h : d.down = false) (hb : namedB nm = true) (hg : getF nm d.fs = some f) : createD nm d = (d, 5) := by
  unfold createD
  rw [if_neg (by simp [h]), if_neg (by simp [hb]), if_pos (by rw [hg]; rfl)]
theorem create_go (h : d.down = false) (hb : namedB nm = true) (hg : getF nm d.fs = none) : createD nm d = stepD d fun d => { d with fs := insF ⟨nm, [], 0⟩ (delF nm d.fs) } := by
  unfold createD
  rw [if_neg (by simp [h]), if_neg (by simp [hb]), if_neg (by simp [hg])]
theorem with_down (h : d.down = true) : withF nm d q = (d, 70) := if_pos h
theorem with_none (h : d.down = false) (hg : getF nm d.fs = none) : withF nm d q = (d, 4) := by
  unfold withF
  rw [if_neg (by simp [h]), hg]
theorem with_some (h : d.down = false) (hg : getF nm d.fs = some f) : withF nm d q = q f := by
  unfold withF
  rw [if_neg (by simp [h]), hg]
theorem append_full (h : d.down = false) (hg : getF nm d.fs = some f) (hr : d.most - d.used < y.length) : appendD nm y d = (d, 71) := (with_some h hg).trans (if_pos hr)
theorem append_go (h : d.down = false) (hg : getF nm d.fs = some f) (hr : ¬ d.most - d.used < y.length) : appendD nm y d = stepD d fun d => { d with fs := updF nm (fun f => { f with b := f.b ++ y }) d.fs, used := d.used + y.length } := (with_some h hg).trans (if_neg hr)
theorem sync_go (h : d.down = false) (hg : getF nm d.fs = some f) : syncD nm d = stepD d fun d => { d with fs := updF nm (fun f => { f with sf := f.b.length }) d.fs } := with_some h hg
theorem cut_bad (h : d.down = false) (hg : getF nm d.fs = some f) (hn : n < 0 ∨ (f.b.length : Int) < n) : cutD nm n d = (d, 1) := (with_some h hg).trans (if_pos hn)
theorem cut_go (h : d.down = false) (hg : getF nm d.fs = some f) (hn : ¬ (n < 0 ∨ (f.b.length : Int) < n)) : cutD nm n d = stepD d fun d => { d with fs := updF nm (fun f => { f with b := f.b.take n.toNat, sf := mn f.sf n }) d.fs, used := d.used - (f.b.length - n) } := (with_some h hg).trans (if_neg hn)
theorem remove_go (h : d.down = false) (hg : getF nm d.fs = some f) : removeD nm d = stepD d (dropD nm) := with_some h hg
theorem rename_down (h : d.down = true) : renameD nm to_ d = (d, 70) := if_pos h
theorem rename_bad (h : d.down = false) (hb : namedB to_ = false) : renameD nm to_ d = (d, 1) := by
  unfold renameD
  rw [if_neg (by simp [h]), if_pos hb]
theorem rename_none (h : d.down = false) (hb : namedB to_ = true) (hg : getF nm d.fs = none) : renameD nm to_ d = (d, 4) := by
  unfold renameD
  rw [if_neg (by simp [h]), if_neg (by simp [hb]), hg]
def renK (nm to_ : ByteArray) (f : PF) (d : PD) : PD := if nm = to_ then d else { dropD to_ d with fs := insF { f with nm := to_ } (delF to_ (delF nm (dropD to_ d).fs)) }
theorem rename_go (h : d.down = false) (hb : namedB to_ = true) (hg : getF nm d.fs = some f) : renameD nm to_ d = stepD d (renK nm to_ f) := by
  unfold renameD
  rw [if_neg (by simp [h]), if_neg (by simp [hb]), hg]
  rfl
theorem drop_none (hg : getF nm d.fs = none) : dropD nm d = d := by
  unfold dropD
  rw [hg]
theorem drop_some (hg : getF nm d.fs = some f) : dropD nm d = { d with fs := delF nm d.fs, used := d.used - f.b.length } := by
  unfold dropD
  rw [hg]
end
section
variable {w0 w : World} {base gd gm : Nat} {S : Nat → Prop} {d d' : PD} {R : Chunk} {xs : List XF} {r : PD × Int} {c : Int}
theorem disk_open2 (h : Own w0 w [R, Chunk.disk base gd S d]) : ∃ gm xs, xs.map XF.p = d.fs ∧ onceX xs ∧ Own w0 w (R :: diskL base gd gm d xs) := by
  obtain ⟨gm, xs, h1, h2, h3⟩ := Own.disk_open (L := [R]) (h.sel [1, 0] (by decide))
  exact ⟨gm, xs, h1, h2, h3.sel [3, 0, 1, 2] (by decide)⟩
theorem disk_close2 (hx : xs.map XF.p = d.fs) (h : Own w0 w (R :: diskL base gd gm d xs)) : ∃ S, Own w0 w [R, Chunk.disk base gd S d] := by
  obtain ⟨S, h1⟩ := Own.disk_close (L := [R]) (d := d) (xs := xs) (gm := gm) (gd := gd) (base := base) (h.sel [1, 2, 3, 0] (by decide)) hx
  exact ⟨S, h1.sel [1, 0] (by decide)⟩
theorem disk_fin (hr : r = (d', c)) (hx : xs.map XF.p = d'.fs) (h : Own w0 w (R :: diskL base gd gm d' xs)) : (Ending.returned (.int .i64 c) = Ending.returned (.int .i64 r.2)) ∧ ∃ S, Own w0 w [R, Chunk.disk base gd S r.1] := by
  rw [hr]
  exact ⟨rfl, disk_close2 hx h⟩
theorem look3 (nm : ByteArray) (d : PD) {xs : List XF} (hx : xs.map XF.p = d.fs) (h : onceX xs) : d.down = true ∨ (d.down = false ∧ lfind (litS nm) (xs.map XF.ent) = none ∧ getF nm d.fs = none ∧ ∀ x ∈ xs, x.p.nm ≠ nm) ∨
    (d.down = false ∧ ∃ pre x post, xs = pre ++ x :: post ∧ x.p.nm = nm ∧ lfind (litS nm) (xs.map XF.ent) = some (.pointer (some ⟨x.g, 0, none⟩)) ∧ getF nm d.fs = some x.p ∧ (∀ y ∈ pre ++ post, y.p.nm ≠ nm)) := by
  cases hd : d.down
  · rw [← hx]
    rcases look_cases nm h with h1 | h1
    · exact .inr (.inl ⟨rfl, h1⟩)
    · exact .inr (.inr ⟨rfl, h1⟩)
  · exact .inl rfl
theorem delF_eq (nm : ByteArray) {xs : List XF} {fs : List PF} (h : xs.map XF.p = fs) : (delX nm xs).map XF.p = delF nm fs := by rw [delX_p, h]
theorem once_del {xs : List XF} (h : onceX xs) (nm : ByteArray) : onceX (delX nm xs) := h.sublist List.filter_sublist
theorem drop_fs {xs : List XF} {d : PD} {nm : ByteArray} (hx : xs.map XF.p = d.fs) : (delX nm xs).map XF.p = (dropD nm d).fs := by
  unfold dropD
  cases hg : getF nm d.fs with
  | none =>
    have : ∀ f ∈ d.fs, f.nm ≠ nm := fun f hf => by simpa using List.find?_eq_none.1 hg f hf
    rw [delX_p, hx]
    exact List.filter_eq_self.2 fun f hf => by simp [this f hf]
  | some f => exact delF_eq nm hx
theorem rename_files {w0 w : World} {base : Nat} {L : List Chunk} {xs : List XF} {x : XF} {from_ dest : ByteArray} (hon : onceX xs) (hx : x ∈ xs) (hf : x.p.nm = from_) (hne : from_ ≠ dest) (h : Own w0 w (Chunk.files base (delX dest xs) :: L)) :
    Own w0 w (Chunk.files base (insX ⟨⟨dest, x.p.b, x.p.sf⟩, x.g, x.A, x.c, x.S⟩ (delX dest (delX from_ (delX dest xs)))) :: L) := by
  have hm : x ∈ delX dest xs := List.mem_filter.2 ⟨hx, by simp [hf, hne]⟩
  have ho := once_del hon dest
  obtain ⟨pre, post, e⟩ := List.append_of_mem hm
  rw [e] at h ho
  have hoth : ∀ y ∈ pre ++ post, y.p.nm ≠ from_ := by
    intro y hy
    obtain ⟨_, h2, h3⟩ := List.pairwise_append.1 ho
    rcases List.mem_append.1 hy with hy | hy
    · have := h3 y hy x (List.mem_cons_self ..)
      rwa [hf] at this
    · have := (List.pairwise_cons.1 h2).1 y hy
      rw [hf] at this
      exact fun e => this e.symm
  have e2 : delX dest (delX from_ (delX dest xs)) = pre ++ post := by
    rw [e, delX_mid hf hoth]
    refine delX_none fun y hy => ?_
    have : y ∈ delX dest xs := by
      rw [e]
      rcases List.mem_append.1 hy with hy | hy
      · exact List.mem_append_left _ hy
      · exact List.mem_append_right _ (List.mem_cons_of_mem _ hy)
    simpa using (List.mem_filter.1 this).2
  rw [e2]
  have h1 := Own.files_perm h (List.perm_middle (a := x) (l₁ := pre) (l₂ := post))
  have h2 : Own w0 w (Chunk.files base ((⟨⟨dest, x.p.b, x.p.sf⟩, x.g, x.A, x.c, x.S⟩ : XF) :: (pre ++ post)) :: L) := h1
  exact Own.files_perm h2 (insX_perm _ _).symm
theorem total_mid {pre post : List PF} {f : PF} : ((pre ++ f :: post).map fun f => f.b.length).sum = ((pre ++ post).map fun f => f.b.length).sum + f.b.length := by
  simp only [List.map_append, List.map_cons, List.sum_append, List.sum_cons]
  omega
theorem wf_len (h : wfD d) {f : PF} (hf : f ∈ d.fs) : (f.b.length : Int) ≤ d.used := by
  obtain ⟨pre, post, e⟩ := List.append_of_mem hf
  have := h.used
  rw [e, total_mid] at this
  omega
theorem getF_mem {nm : ByteArray} {fs : List PF} {f : PF} (h : getF nm fs = some f) : f ∈ fs ∧ f.nm = nm := by
  refine ⟨List.mem_of_find?_eq_some h, ?_⟩
  simpa using List.find?_some h
end
theorem bytes_ext {s t : ByteArray} (h : s.toList = t.toList) : s = t := by
  rw [ByteArray.toList_eq, ByteArray.toList_eq] at h
  exact litS_inj (congrArg Lit.string h)
theorem Own.row_takeL {α : Type} {d : Kd α} {e base n c : Nat} {S : Nat → Prop} {A : Option Addr} {xs : List α} {w0 w : World} {L : List Chunk} (h : Own w0 w L) (i : Nat) (hi : L[i]? = some (Chunk.row d e base S (.slice A n c) xs)) (m : Nat) (hm : m ≤ xs.length) : Own w0 w (L.set i (Chunk.row d e base S (.slice A (xs.take m).length c) (xs.take m))) := by
  have := h.row_take i hi m hm
  rwa [show (xs.take m).length = m by rw [List.length_take]; omega]
theorem disk_blk {base gd : Nat} {S : Nat → Prop} {d : PD} {w : World} (h : (Chunk.disk base gd S d).P w) : ∃ gm xs, xs.map XF.p = d.fs ∧ onceX xs ∧ w.heap[gd]? = some (.cells (dcells gm d) 76 (0, 0)) ∧ (Chunk.lmap Try.prog 9 gm (xs.map XF.ent)).P w ∧ ∀ x ∈ xs, w.heap[x.g]? = some (.cells x.cells 81 (0, 0)) ∧ (Kd.int .u8).C w x.A x.p.b.length x.p.b ∧ x.p.b.length ≤ x.c := by
  obtain ⟨gm, xs, h1, h2, h3⟩ := h
  have hl : (Chunk.lmap Try.prog 9 gm (xs.map XF.ent)).P w := h2.1 _ (by simp [diskL])
  refine ⟨gm, xs, h1, once_of_rising (lmap_rising strKey hl).1, h2.1 (Chunk.blk gd _) (by simp [diskL]), hl, fun x hx => ?_⟩
  have hf : (Chunk.files base xs).P w := h2.1 _ (by simp [diskL])
  have hx2 : (Chunk.file base x).P w := hf.1 _ (List.mem_map_of_mem hx)
  have hr : (Kd.int .u8).R 5 w base x.S (.slice x.A x.p.b.length x.c) x.p.b := hx2.1 (Chunk.frow base x) (by simp)
  exact ⟨hx2.1 (Chunk.fblk x) (by simp), (Kd.R_reads' hr).2.2, row_cap hr⟩
theorem read_down {d : PD} {nm : ByteArray} (h : d.down = true) : readD nm d = ([], 70) := if_pos h
theorem read_none {d : PD} {nm : ByteArray} (h : d.down = false) (hg : getF nm d.fs = none) : readD nm d = ([], 4) := by
  unfold readD
  rw [if_neg (by simp [h]), hg]
theorem read_some {d : PD} {nm : ByteArray} {f : PF} (h : d.down = false) (hg : getF nm d.fs = some f) : readD nm d = (f.b, 0) := by
  unfold readD
  rw [if_neg (by simp [h]), hg]
def namesD (d : PD) : List ByteArray := d.fs.map PF.nm
def keepN (kl : List Int) (loose : Int) : Int := match kl with | [] => 0 | k :: _ => mn (mx k 0) loose
theorem crash_nil (kl : List Int) : crashF [] kl = ([], 0) := rfl
theorem crash_keep {f : PF} {r : List PF} {kl : List Int} (h : (f.b.length : Int) - f.sf = 0) : crashF (f :: r) kl = (f :: (crashF r kl).1, (crashF r kl).2) := by
  rw [crashF, if_pos h]
theorem crash_cut {f : PF} {r : List PF} {kl : List Int} (h : ¬ (f.b.length : Int) - f.sf = 0) : crashF (f :: r) kl = ({ f with b := f.b.take (f.sf + keepN kl ((f.b.length : Int) - f.sf)).toNat, sf := f.sf + keepN kl ((f.b.length : Int) - f.sf) } :: (crashF r (kl.drop 1)).1, (f.b.length : Int) - f.sf - keepN kl ((f.b.length : Int) - f.sf) + (crashF r (kl.drop 1)).2) := by
  rw [crashF, if_neg h]
  rfl
theorem keepN_in (kl : List Int) {loose : Int} (h : 0 ≤ loose) : 0 ≤ keepN kl loose ∧ keepN kl loose ≤ loose := by
  unfold keepN
  split
  · omega
  · unfold mn mx
    (repeat' split) <;> omega
theorem crash_used : ∀ (fs : List PF) (kl : List Int), (∀ f ∈ fs, 0 ≤ f.sf ∧ f.sf ≤ f.b.length) → 0 ≤ (crashF fs kl).2
  | [], _, _ => Int.le_refl _
  | f :: r, kl, h => by
    have h1 := h f (List.mem_cons_self ..)
    have hr : ∀ kl, 0 ≤ (crashF r kl).2 := fun kl => crash_used r kl fun g hg => h g (List.mem_cons_of_mem _ hg)
    by_cases hl : (f.b.length : Int) - f.sf = 0
    · rw [crash_keep hl]; exact hr kl
    · rw [crash_cut hl]
      have := keepN_in kl (loose := (f.b.length : Int) - f.sf) (by omega)
      have := hr (kl.drop 1)
      show 0 ≤ _ + _
      omega
theorem totalX_mid {pre post : List XF} {f : XF} : ((pre ++ f :: post).map fun f => f.p.b.length).sum = ((pre ++ post).map fun f => f.p.b.length).sum + f.p.b.length := by
  simp only [List.map_append, List.map_cons, List.sum_append, List.sum_cons]
  omega
theorem look_mid {pre post : List XF} {x : XF} (h : onceX (pre ++ x :: post)) : lfind (litS x.p.nm) ((pre ++ x :: post).map XF.ent) = some (.pointer (some ⟨x.g, 0, none⟩)) := by
  have hp : ∀ y ∈ pre, y.p.nm ≠ x.p.nm := fun y hy => (List.pairwise_append.1 h).2.2 y hy x (List.mem_cons_self ..)
  unfold lfind
  rw [List.find?_map, List.find?_append]
  have e1 : pre.find? ((fun p => p.1.sameKey (litS x.p.nm)) ∘ XF.ent) = none := List.find?_eq_none.2 fun y hy => by
    show ¬ (litS y.p.nm).sameKey (litS x.p.nm) = true
    rw [litS_same]
    simpa using hp y hy
  have e2 : ((fun p => p.1.sameKey (litS x.p.nm)) ∘ XF.ent) x = true := by
    show (litS x.p.nm).sameKey (litS x.p.nm) = true
    rw [litS_same]
    simp
  rw [e1, List.find?_cons_of_pos e2]
  rfl
theorem once_same {pre post : List XF} {x y : XF} (h : onceX (pre ++ x :: post)) (e : y.p.nm = x.p.nm) : onceX (pre ++ y :: post) := by
  have h1 : ((pre ++ x :: post).map fun x => x.p.nm).Pairwise (· ≠ ·) := List.pairwise_map.2 h
  have e1 : ((pre ++ y :: post).map fun x => x.p.nm) = ((pre ++ x :: post).map fun x => x.p.nm) := by simp [e]
  rw [← e1] at h1
  exact List.pairwise_map.1 h1
theorem keepN_pos {kl : List Int} {loose : Int} (h : 0 < kl.length) : mn (mx (kl.getD (0 : Int).toNat (0 : Int)) 0) loose = keepN kl loose := by
  cases kl with
  | nil => simp at h
  | cons a r => rfl
theorem keepN_zero {kl : List Int} {loose : Int} (h : kl.length = 0) : keepN kl loose = 0 := by
  cases kl with
  | nil => rfl
  | cons a r => simp at h
theorem crash_go {x : PF} {r : List PF} {kl kl2 : List Int} {n : Int} (h : ¬ (x.b.length : Int) - x.sf = 0) (hn : keepN kl ((x.b.length : Int) - x.sf) = n) (hk : kl.drop 1 = kl2) :
    crashF (x :: r) kl = ({ x with b := x.b.take (x.sf + n).toNat, sf := x.sf + n } :: (crashF r kl2).1, (x.b.length : Int) - x.sf - n + (crashF r kl2).2) := by
  subst hn hk
  exact crash_cut h
theorem str_openF {w : World} {ok : Nat → Prop} {m : ByteArray} {cs : List Value} (h : Kd.FK Kd.string w ok m cs) : cs = [.string m] := Kd.FK_now h
end Go.Proofs.Ytkdahjnmldeklaa.PA
end
section
namespace Go.Proofs.Ytkdahjnmldeklaa.PA
open Go.RowKit Go.Proofs.YtkdahjnmldeklaaW.PrintWords Go.Proofs.YtkdahjnmldeklaaW.PrintLast Go.Proofs.YtkdahjnmldeklaaW.PrintMore
set_option linter.unusedVariables false
set_option linter.unusedSimpArgs false
namespace GVfs0_
theorem gwagg3 : ∀ w, (isAgg 3).run Try.prog w = .ok false w := fun _ => by kernel_rfl
theorem gwagg4 : ∀ w, (isAgg 4).run Try.prog w = .ok false w := fun _ => by kernel_rfl
theorem gwagg74 : ∀ w, (isAgg 74).run Try.prog w = .ok false w := fun _ => by kernel_rfl
theorem gwfld76_0 (g off : Nat) : ∀ w, (Instr.fieldAt 76 (.pointer (some ⟨g, off, none⟩)) 0).run Try.prog w = .ok (.pointer (some ⟨g, off + 0, none⟩)) w := fun _ => by kernel_rfl
theorem gwfld76_3 (g off : Nat) : ∀ w, (Instr.fieldAt 76 (.pointer (some ⟨g, off, none⟩)) 3).run Try.prog w = .ok (.pointer (some ⟨g, off + 3, none⟩)) w := fun _ => by kernel_rfl
theorem gwfld76_4 (g off : Nat) : ∀ w, (Instr.fieldAt 76 (.pointer (some ⟨g, off, none⟩)) 4).run Try.prog w = .ok (.pointer (some ⟨g, off + 4, none⟩)) w := fun _ => by kernel_rfl
theorem gwsiz3 : ∀ w, (sizeOf 3).run Try.prog w = .ok 1 w := fun _ => by kernel_rfl
theorem gwsiz4 : ∀ w, (sizeOf 4).run Try.prog w = .ok 1 w := fun _ => by kernel_rfl
theorem gwzer78 : ∀ w, (zeroValue 78).run Try.prog w = .ok (.pointer none) w := fun _ => by kernel_rfl
set_option maxHeartbeats 4000000 in
set_option maxRecDepth 100000 in
theorem named_calls (s : ByteArray) (w : World) :
    Calls Try.prog 39 #[.string s] w fun e w' => e = .returned (.bool (namedB s)) ∧ Below w.heap.size w w' := by
 refine gw_start (N := 11) (vs := [.string s]) Try.func39 rfl rfl (by simp) fun a HF HO => ?_
 replace HO : Own w w [] := HO
 refine gw_seq fun K1 hK1 => ?_
 refine wp_region_lit ?_
 refine V HF (op_assign rfl (ev_c _ _)) ?_
 intro _ H3; clear HF
 refine wpList_nil ?_
 refine gw_nx (hK1 _ _ ?_)
 refine gw_seq fun K4 hK4 => ?_
 refine wp_region_lit ?_
 refine V H3 (op_move rfl (H3.ev rfl)) ?_
 intro _ H6; clear H3
 refine V H6 (op_lens Try.underlying9 rfl (H6.ev rfl)) ?_
 intro _ H8; clear H6
 refine V H8 (op_geq rfl (H8.ev rfl) (ev_c _ _)) ?_
 intro _ H10; clear H8
 refine V H10 (op_move rfl (H10.ev rfl)) ?_
 intro _ H12; clear H10
 refine gw_evG H12 rfl rfl rfl rfl (on_t _) rfl (by decide) (fun h_ => (op_move rfl (H12.ev rfl))) ?_
 intro _ H14; clear H12
 refine gw_evG H14 rfl rfl rfl rfl (on_t _) rfl (by decide) (fun h_ => (op_lens Try.underlying9 rfl (ev_gv (H14.ev rfl) h_))) ?_
 intro _ H16; clear H14
 refine gw_evG H16 rfl rfl rfl rfl (on_t _) rfl (by decide) (fun h_ => (op_leq rfl (ev_gv (H16.ev rfl) h_) (ev_c _ _))) ?_
 intro _ H18; clear H16
 refine V H18 (op_pick_and rfl (H18.ev rfl) (fun hp_ => (ev_gv (H18.ev rfl) hp_)) (ev_c _ _)) ?_
 intro _ H20; clear H18
 refine V H20 (op_assign rfl (H20.ev rfl)) ?_
 intro _ H22; clear H20
 refine wpList_nil ?_
 refine gw_nx (hK4 _ _ ?_)
 refine wp_ret ?_
 refine gw_ret1 H22 rfl rfl ?_
 exact ⟨by rw [named_i], HO.below⟩
set_option maxHeartbeats 4000000 in
set_option maxRecDepth 100000 in
theorem new_own (w0 w : World) (R : Chunk) (room : Int) (HO : Own w0 w [R]) :
    Calls Try.prog 11 #[.int .i64 room] w fun e w' => ∃ gd S, e = .returned (.pointer (some ⟨gd, 0, none⟩)) ∧ Own w0 w' [R, Chunk.disk w0.heap.size gd S (newD room)] := by
 refine gw_startO (N := 8) (vs := [J room]) Try.func11 rfl rfl (by simp) fun a HF => ?_
 refine gw_seq fun K1 hK1 => ?_
 refine wp_region_lit ?_
 refine V HF (op_assign rfl (ev_c _ _)) ?_
 intro _ H3; clear HF
 refine wpList_nil ?_
 refine gw_nx (hK1 _ _ ?_)
 refine gw_seq fun K4 hK4 => ?_
 refine wp_region_lit ?_
 refine gw_mkmap (K := 9) H3 HO (want_none rfl) rfl (by decide) rfl ?_
 intro g5 _ w7 H8 O9; clear H3 HO
 have O10 : Own w0 w7 [Chunk.lmap Try.prog 9 g5 ([] : List (Lit × Value)), R] := O9
 clear O9
 refine V H8 (op_move rfl (H8.ev rfl)) ?_
 intro _ H12; clear H8
 refine V H12 (op_max rfl (H12.ev rfl) (ev_c _ _)) ?_
 intro _ H14; clear H12
 refine V H14 (op_build (cells := #[.map (some g5), J (mx room 0), J 0, J 0, .bool false]) rfl (pt_cons (H14.ev rfl) (pt_cons (H14.ev rfl) pt_nil)) (by kernel_rfl)) ?_
 intro _ H16; clear H14
 refine gw_new H16 O10 (want_none rfl) rfl (by decide) (op_box rfl (H16.ev rfl)) ?_
 intro g17 _ w19 H20 O21; clear H16 O10
 have O22 : Own w0 w19 [Bk g17 [.map (some g5), J (mx room 0), J 0, J 0, .bool false] 76, Chunk.lmap Try.prog 9 g5 ([] : List (Lit × Value)), R] := O21
 clear O21
 refine V H20 (op_assign rfl (H20.ev rfl)) ?_
 intro _ H24; clear H20
 refine wpList_nil ?_
 refine gw_nx (hK4 _ _ ?_)
 refine wp_ret ?_
 refine gw_ret1 H24 rfl rfl ?_
 have HOf := Own.files_nil O22 w0.heap.size
 obtain ⟨S', HOd⟩ := disk_close2 (R := R) (base := w0.heap.size) (gd := g17) (gm := g5) (d := newD room) (xs := []) rfl (by exact HOf.sel [3, 1, 2, 0] (by decide))
 exact ⟨_, S', rfl, HOd⟩
set_option maxHeartbeats 4000000 in
set_option maxRecDepth 100000 in
theorem step_calls (w0 w : World) (R : Chunk) (gd gm : Nat) (d : PD) (fid : Nat) (fn0 : Func) (cap : List Value) (Q : World → Prop) (h1 : Try.prog.funcs[fid]? = some fn0) (h2 : (fn0.name == "runtime.NumGoroutine") = false) (h3 : fn0.body.isSome = true) (hfu : 0 ≤ d.fuse ∧ d.fuse ≤ 9223372036854775807) (hdo : d.fuse ≠ 1 → ∀ w1, Own w0 w1 [R, Chunk.blk gd (.cells (dcells gm { d with fuse := decF d.fuse }) 76 (0, 0))] → Calls Try.prog fid cap.toArray w1 fun e w2 => e = .returned (.tuple #[]) ∧ Q w2) (HO : Own w0 w [R, Bk gd [.map (some gm), .int .i64 d.most, .int .i64 d.used, .int .i64 d.fuse, .bool d.down] 76]) :
    Calls Try.prog 40 #[.pointer (some ⟨gd, 0, none⟩), .func (.func fid) #[] cap.toArray] w fun e w' => (d.fuse = 1 ∧ e = .returned (.int .i64 70) ∧ Own w0 w' [R, Chunk.blk gd (.cells (dcells gm { d with fuse := 0, down := true }) 76 (0, 0))]) ∨ (d.fuse ≠ 1 ∧ e = .returned (.int .i64 0) ∧ Q w') := by
 refine gw_startO (N := 27) (vs := [.pointer (some ⟨gd, 0, none⟩), .func (.func fid) #[] cap.toArray]) Try.func40 rfl rfl (by simp) fun a HF => ?_
 refine gw_seq fun K1 hK1 => ?_
 refine wp_region_lit ?_
 refine V HF (op_assign rfl (ev_c _ _)) ?_
 intro _ H3; clear HF
 refine wpList_nil ?_
 refine gw_nx (hK1 _ _ ?_)
 refine gw_seq fun K4 hK4 => ?_
 refine gw_seq fun K5 hK5 => ?_
 refine wp_region_lit ?_
 refine V H3 (op_move rfl (H3.ev rfl)) ?_
 intro _ H7; clear H3
 refine V H7 (op_nil rfl (H7.ev rfl)) ?_
 intro _ H9; clear H7
 refine V H9 (op_field (gwfld76_3 _ _) rfl (H9.ev rfl)) ?_
 intro _ H11; clear H9
 refine V H11 (op_load1 gwagg3 rfl (H11.ev rfl) (blk_at (HO.get 1 rfl) rfl)) ?_
 intro _ H13; clear H11
 refine V H13 (op_gtr rfl (H13.ev rfl) (ev_c _ _)) ?_
 intro _ H15; clear H13
 refine wpList_nil ?_
 refine gw_nx (hK5 _ _ ?_)
 refine gw_cond H15 rfl (fun hb16 => ?_) (fun hb16 => ?_)
 ·
  have H17 := H15.subst_ (d := 9) (b := true) rfl hb16
  clear H15
  (try simp only [decide_eq_true_eq] at hb16)
  refine gw_seq fun K18 hK18 => ?_
  refine wp_region_lit ?_
  refine V H17 (op_move rfl (H17.ev rfl)) ?_
  intro _ H20; clear H17
  refine V H20 (op_nil rfl (H20.ev rfl)) ?_
  intro _ H22; clear H20
  refine V H22 (op_field (gwfld76_3 _ _) rfl (H22.ev rfl)) ?_
  intro _ H24; clear H22
  refine V H24 (op_load1 gwagg3 rfl (H24.ev rfl) (blk_at (HO.get 1 rfl) rfl)) ?_
  intro _ H26; clear H24
  refine V H26 (op_sub rfl (H26.ev rfl) (ev_c _ _) (by omega)) ?_
  intro _ H28; clear H26
  refine V H28 (op_nil rfl (H28.ev rfl)) ?_
  intro _ H30; clear H28
  refine V H30 (op_field (gwfld76_3 _ _) rfl (H30.ev rfl)) ?_
  intro _ H32; clear H30
  refine gw_set 1 H32 HO rfl (want_none rfl) rfl (op_store1 gwsiz3 rfl (H32.ev rfl) (H32.ev rfl) rfl (blk_at (HO.get 1 rfl) rfl) (blkf (HO.get 1 rfl))) ?_
  intro _ w35 H34 O36; clear H32 HO
  have O37 : Own w0 w35 [R, Bk gd [.map (some gm), J d.most, J d.used, J (d.fuse - 1), .bool d.down] 76] := O36
  clear O36
  refine wpList_nil ?_
  refine gw_nx (hK18 _ _ ?_)
  refine gw_seq fun K38 hK38 => ?_
  refine wp_region_lit ?_
  refine V H34 (op_move rfl (H34.ev rfl)) ?_
  intro _ H40; clear H34
  refine V H40 (op_nil rfl (H40.ev rfl)) ?_
  intro _ H42; clear H40
  refine V H42 (op_field (gwfld76_3 _ _) rfl (H42.ev rfl)) ?_
  intro _ H44; clear H42
  refine V H44 (op_load1 gwagg3 rfl (H44.ev rfl) (blk_at (O37.get 1 rfl) rfl)) ?_
  intro _ H46; clear H44
  refine V H46 (op_eqi rfl (H46.ev rfl) (ev_c _ _)) ?_
  intro _ H48; clear H46
  refine wpList_nil ?_
  refine gw_nx (hK38 _ _ ?_)
  refine gw_cond H48 rfl (fun hb49 => ?_) (fun hb49 => ?_)
  ·
   have H50 := H48.subst_ (d := 21) (b := true) rfl hb49
   clear H48
   (try simp only [decide_eq_true_eq] at hb49)
   refine gw_seq fun K51 hK51 => ?_
   refine wp_region_lit ?_
   refine V H50 (op_move rfl (H50.ev rfl)) ?_
   intro _ H53; clear H50
   refine V H53 (op_nil rfl (H53.ev rfl)) ?_
   intro _ H55; clear H53
   refine V H55 (op_field (gwfld76_4 _ _) rfl (H55.ev rfl)) ?_
   intro _ H57; clear H55
   refine gw_set 1 H57 O37 rfl (want_none rfl) rfl (op_store1 gwsiz4 rfl (H57.ev rfl) (ev_c _ _) rfl (blk_at (O37.get 1 rfl) rfl) (blkf (O37.get 1 rfl))) ?_
   intro _ w60 H59 O61; clear H57 O37
   have O62 : Own w0 w60 [R, Bk gd [.map (some gm), J d.most, J d.used, J (d.fuse - 1), .bool true] 76] := O61
   clear O61
   refine wpList_nil ?_
   refine gw_nx (hK51 _ _ ?_)
   refine gw_seq fun K63 hK63 => ?_
   refine wp_region_lit ?_
   refine V H59 (op_assign rfl (ev_c _ _)) ?_
   intro _ H65; clear H59
   refine wpList_nil ?_
   refine gw_nx (hK63 _ _ ?_)
   refine wp_ret ?_
   refine gw_thr ?_
   refine gw_ret1 H65 rfl rfl ?_
   have e_ : d.fuse - 1 = 0 := by omega
   exact .inl ⟨by omega, rfl, by rw [e_] at O62; exact O62.sel [0, 1] (by decide)⟩
  ·
   have H66 := H48.subst_ (d := 21) (b := false) rfl hb49
   clear H48
   (try simp only [decide_eq_false_iff_not] at hb49)
   refine wp_skip ?_
   refine gw_nx (hK4 _ _ ?_)
   refine gw_seq fun K67 hK67 => ?_
   refine wp_region_lit ?_
   refine V H66 (op_move rfl (H66.ev rfl)) ?_
   intro _ H69; clear H66
   refine gw_call H69 (want_none rfl) rfl (by decide) (op_callV h1 h2 h3 rfl (H69.ev rfl) ar_nil) (hdo (by omega) _ (by rw [show decF d.fuse = d.fuse - 1 by (unfold decF; split <;> omega)]; exact O37.sel [0, 1] (by decide))) ?_
   rintro _ w71 ⟨rfl, hq⟩
   refine ⟨_, rfl, fun _ H74 => ?_⟩
   clear H69 O37
   refine wpList_nil ?_
   refine gw_nx (hK67 _ _ ?_)
   refine gw_seq fun K76 hK76 => ?_
   refine wp_region_lit ?_
   refine V H74 (op_assign rfl (ev_c _ _)) ?_
   intro _ H78; clear H74
   refine wpList_nil ?_
   refine gw_nx (hK76 _ _ ?_)
   refine wp_ret ?_
   refine gw_ret1 H78 rfl rfl ?_
   exact .inr ⟨by omega, rfl, hq⟩
 ·
  have H79 := H15.subst_ (d := 9) (b := false) rfl hb16
  clear H15
  (try simp only [decide_eq_false_iff_not, Int.not_lt] at hb16)
  refine wp_skip ?_
  refine gw_nx (hK4 _ _ ?_)
  refine gw_seq fun K80 hK80 => ?_
  refine wp_region_lit ?_
  refine V H79 (op_move rfl (H79.ev rfl)) ?_
  intro _ H82; clear H79
  refine gw_call H82 (want_none rfl) rfl (by decide) (op_callV h1 h2 h3 rfl (H82.ev rfl) ar_nil) (hdo (by omega) _ (by rw [show decF d.fuse = d.fuse by (unfold decF; split <;> omega)]; exact HO.sel [0, 1] (by decide))) ?_
  rintro _ w84 ⟨rfl, hq⟩
  refine ⟨_, rfl, fun _ H87 => ?_⟩
  clear H82 HO
  refine wpList_nil ?_
  refine gw_nx (hK80 _ _ ?_)
  refine gw_seq fun K89 hK89 => ?_
  refine wp_region_lit ?_
  refine V H87 (op_assign rfl (ev_c _ _)) ?_
  intro _ H91; clear H87
  refine wpList_nil ?_
  refine gw_nx (hK89 _ _ ?_)
  refine wp_ret ?_
  refine gw_ret1 H91 rfl rfl ?_
  exact .inr ⟨by omega, rfl, hq⟩
set_option maxHeartbeats 4000000 in
set_option maxRecDepth 100000 in
theorem find_down (gd gm : Nat) (d : PD) (nm : ByteArray) (M : List (Lit × Value)) (w : World) (hD : w.heap[gd]? = some (.cells (dcells gm d) 76 (0, 0))) (hL : (Chunk.lmap Try.prog 9 gm M).P w) (hdn : d.down = true) (hn : nm.size ≤ 9223372036854775807) :
    Calls Try.prog 42 #[.pointer (some ⟨gd, 0, none⟩), .string nm] w fun e w' => e = .returned (.tuple #[.pointer none, .int .i64 70]) ∧ Below w.heap.size w w' := by
 refine gw_start (N := 20) (vs := [.pointer (some ⟨gd, 0, none⟩), .string nm]) Try.func42 rfl rfl (by simp) fun a HF HO => ?_
 replace HO : Own w w [] := HO
 refine gw_seq fun K1 hK1 => ?_
 refine wp_region_lit ?_
 refine V HF (op_assign rfl (ev_c _ _)) ?_
 intro _ H3; clear HF
 refine V H3 (op_assign rfl (ev_c _ _)) ?_
 intro _ H5; clear H3
 refine wpList_nil ?_
 refine gw_nx (hK1 _ _ ?_)
 refine gw_seq fun K6 hK6 => ?_
 refine gw_seq fun K7 hK7 => ?_
 refine wp_region_lit ?_
 refine V H5 (op_move rfl (H5.ev rfl)) ?_
 intro _ H9; clear H5
 refine V H9 (op_nil rfl (H9.ev rfl)) ?_
 intro _ H11; clear H9
 refine V H11 (op_field (gwfld76_4 _ _) rfl (H11.ev rfl)) ?_
 intro _ H13; clear H11
 refine V H13 (op_load1 gwagg4 rfl (H13.ev rfl) (blk_at (argblk HO hD) rfl)) ?_
 intro _ H15; clear H13
 have H16 := H15.lit (b := true) (hdn)
 clear H15
 refine wpList_nil ?_
 refine gw_nx (hK7 _ _ ?_)
 refine gw_cond H16 rfl (fun hb17 => ?_) (fun hb17 => ?_)
 rotate_left
 ·
  cases hb17
 refine gw_seq fun K18 hK18 => ?_
 refine wp_region_lit ?_
 refine V H16 (op_assign rfl (ev_c _ _)) ?_
 intro _ H20; clear H16
 refine V H20 (op_assign rfl (ev_c _ _)) ?_
 intro _ H22; clear H20
 refine wpList_nil ?_
 refine gw_nx (hK18 _ _ ?_)
 refine wp_ret ?_
 refine gw_thr ?_
 refine gw_ret2 H22 rfl rfl rfl ?_
 exact ⟨rfl, HO.below⟩
set_option maxHeartbeats 4000000 in
set_option maxRecDepth 100000 in
theorem find_none (gd gm : Nat) (d : PD) (nm : ByteArray) (M : List (Lit × Value)) (w : World) (hD : w.heap[gd]? = some (.cells (dcells gm d) 76 (0, 0))) (hL : (Chunk.lmap Try.prog 9 gm M).P w) (hdn : d.down = false) (hl : lfind (litS nm) M = none) (hn : nm.size ≤ 9223372036854775807) :
    Calls Try.prog 42 #[.pointer (some ⟨gd, 0, none⟩), .string nm] w fun e w' => e = .returned (.tuple #[.pointer none, .int .i64 4]) ∧ Below w.heap.size w w' := by
 refine gw_start (N := 20) (vs := [.pointer (some ⟨gd, 0, none⟩), .string nm]) Try.func42 rfl rfl (by simp) fun a HF HO => ?_
 replace HO : Own w w [] := HO
 refine gw_seq fun K1 hK1 => ?_
 refine wp_region_lit ?_
 refine V HF (op_assign rfl (ev_c _ _)) ?_
 intro _ H3; clear HF
 refine V H3 (op_assign rfl (ev_c _ _)) ?_
 intro _ H5; clear H3
 refine wpList_nil ?_
 refine gw_nx (hK1 _ _ ?_)
 refine gw_seq fun K6 hK6 => ?_
 refine gw_seq fun K7 hK7 => ?_
 refine wp_region_lit ?_
 refine V H5 (op_move rfl (H5.ev rfl)) ?_
 intro _ H9; clear H5
 refine V H9 (op_nil rfl (H9.ev rfl)) ?_
 intro _ H11; clear H9
 refine V H11 (op_field (gwfld76_4 _ _) rfl (H11.ev rfl)) ?_
 intro _ H13; clear H11
 refine V H13 (op_load1 gwagg4 rfl (H13.ev rfl) (blk_at (argblk HO hD) rfl)) ?_
 intro _ H15; clear H13
 have H16 := H15.lit (b := false) (hdn)
 clear H15
 refine wpList_nil ?_
 refine gw_nx (hK7 _ _ ?_)
 refine gw_cond H16 rfl (fun hb17 => ?_) (fun hb17 => ?_)
 skip
 ·
  cases hb17
 refine wp_skip ?_
 refine gw_nx (hK6 _ _ ?_)
 refine gw_seq fun K18 hK18 => ?_
 refine wp_region_lit ?_
 refine V H16 (op_move rfl (H16.ev rfl)) ?_
 intro _ H20; clear H16
 refine V H20 (op_nil rfl (H20.ev rfl)) ?_
 intro _ H22; clear H20
 refine V H22 (op_field (gwfld76_0 _ _) rfl (H22.ev rfl)) ?_
 intro _ H24; clear H22
 refine V H24 (op_load1 gwagg74 rfl (H24.ev rfl) (blk_at (argblk HO hD) rfl)) ?_
 intro _ H26; clear H24
 refine V H26 (op_move rfl (H26.ev rfl)) ?_
 intro _ H28; clear H26
 refine V H28 (op_ml_none strKey Try.underlying74 gwzer78 rfl (H28.ev rfl) (H28.ev rfl) (keyS (by omega)) (lmap_arg HO hL) (hl)) ?_
 intro _ H30; clear H28
 refine V H30 (op_assign rfl (H30.ev rfl)) ?_
 intro _ H32; clear H30
 refine wpList_nil ?_
 refine gw_nx (hK18 _ _ ?_)
 refine gw_seq fun K33 hK33 => ?_
 refine gw_seq fun K34 hK34 => ?_
 refine wp_region_lit ?_
 refine V H32 (op_move rfl (H32.ev rfl)) ?_
 intro _ H36; clear H32
 refine V H36 (op_eqp_nils Try.underlying78 rfl (H36.ev rfl)) ?_
 intro _ H38; clear H36
 refine wpList_nil ?_
 refine gw_nx (hK34 _ _ ?_)
 refine gw_cond H38 rfl (fun hb39 => ?_) (fun hb39 => ?_)
 rotate_left
 ·
  cases hb39
 refine gw_seq fun K40 hK40 => ?_
 refine wp_region_lit ?_
 refine V H38 (op_assign rfl (ev_c _ _)) ?_
 intro _ H42; clear H38
 refine V H42 (op_assign rfl (ev_c _ _)) ?_
 intro _ H44; clear H42
 refine wpList_nil ?_
 refine gw_nx (hK40 _ _ ?_)
 refine wp_ret ?_
 refine gw_thr ?_
 refine gw_ret2 H44 rfl rfl rfl ?_
 exact ⟨rfl, HO.below⟩
set_option maxHeartbeats 4000000 in
set_option maxRecDepth 100000 in
theorem find_some (gd gm : Nat) (d : PD) (nm : ByteArray) (M : List (Lit × Value)) (g : Nat) (w : World) (hD : w.heap[gd]? = some (.cells (dcells gm d) 76 (0, 0))) (hL : (Chunk.lmap Try.prog 9 gm M).P w) (hdn : d.down = false) (hl : lfind (litS nm) M = some (.pointer (some ⟨g, 0, none⟩))) (hn : nm.size ≤ 9223372036854775807) :
    Calls Try.prog 42 #[.pointer (some ⟨gd, 0, none⟩), .string nm] w fun e w' => e = .returned (.tuple #[.pointer (some ⟨g, 0, none⟩), .int .i64 0]) ∧ Below w.heap.size w w' := by
 refine gw_start (N := 20) (vs := [.pointer (some ⟨gd, 0, none⟩), .string nm]) Try.func42 rfl rfl (by simp) fun a HF HO => ?_
 replace HO : Own w w [] := HO
 refine gw_seq fun K1 hK1 => ?_
 refine wp_region_lit ?_
 refine V HF (op_assign rfl (ev_c _ _)) ?_
 intro _ H3; clear HF
 refine V H3 (op_assign rfl (ev_c _ _)) ?_
 intro _ H5; clear H3
 refine wpList_nil ?_
 refine gw_nx (hK1 _ _ ?_)
 refine gw_seq fun K6 hK6 => ?_
 refine gw_seq fun K7 hK7 => ?_
 refine wp_region_lit ?_
 refine V H5 (op_move rfl (H5.ev rfl)) ?_
 intro _ H9; clear H5
 refine V H9 (op_nil rfl (H9.ev rfl)) ?_
 intro _ H11; clear H9
 refine V H11 (op_field (gwfld76_4 _ _) rfl (H11.ev rfl)) ?_
 intro _ H13; clear H11
 refine V H13 (op_load1 gwagg4 rfl (H13.ev rfl) (blk_at (argblk HO hD) rfl)) ?_
 intro _ H15; clear H13
 have H16 := H15.lit (b := false) (hdn)
 clear H15
 refine wpList_nil ?_
 refine gw_nx (hK7 _ _ ?_)
 refine gw_cond H16 rfl (fun hb17 => ?_) (fun hb17 => ?_)
 skip
 ·
  cases hb17
 refine wp_skip ?_
 refine gw_nx (hK6 _ _ ?_)
 refine gw_seq fun K18 hK18 => ?_
 refine wp_region_lit ?_
 refine V H16 (op_move rfl (H16.ev rfl)) ?_
 intro _ H20; clear H16
 refine V H20 (op_nil rfl (H20.ev rfl)) ?_
 intro _ H22; clear H20
 refine V H22 (op_field (gwfld76_0 _ _) rfl (H22.ev rfl)) ?_
 intro _ H24; clear H22
 refine V H24 (op_load1 gwagg74 rfl (H24.ev rfl) (blk_at (argblk HO hD) rfl)) ?_
 intro _ H26; clear H24
 refine V H26 (op_move rfl (H26.ev rfl)) ?_
 intro _ H28; clear H26
 refine V H28 (op_ml_some strKey Try.underlying74 gwzer78 rfl (H28.ev rfl) (H28.ev rfl) (keyS (by omega)) (lmap_arg HO hL) (hl)) ?_
 intro _ H30; clear H28
 refine V H30 (op_assign rfl (H30.ev rfl)) ?_
 intro _ H32; clear H30
 refine wpList_nil ?_
 refine gw_nx (hK18 _ _ ?_)
 refine gw_seq fun K33 hK33 => ?_
 refine gw_seq fun K34 hK34 => ?_
 refine wp_region_lit ?_
 refine V H32 (op_move rfl (H32.ev rfl)) ?_
 intro _ H36; clear H32
 refine V H36 (op_eqp_nil Try.underlying78 rfl (H36.ev rfl)) ?_
 intro _ H38; clear H36
 refine wpList_nil ?_
 refine gw_nx (hK34 _ _ ?_)
 refine gw_cond H38 rfl (fun hb39 => ?_) (fun hb39 => ?_)
 skip
 ·
  cases hb39
 refine wp_skip ?_
 refine gw_nx (hK33 _ _ ?_)
 refine gw_seq fun K40 hK40 => ?_
 refine wp_region_lit ?_
 refine V H38 (op_move rfl (H38.ev rfl)) ?_
 intro _ H42; clear H38
 refine V H42 (op_assign rfl (H42.ev rfl)) ?_
 intro _ H44; clear H42
 refine V H44 (op_assign rfl (ev_c _ _)) ?_
 intro _ H46; clear H44
 refine wpList_nil ?_
 refine gw_nx (hK40 _ _ ?_)
 refine wp_ret ?_
 refine gw_ret2 H46 rfl rfl rfl ?_
 exact ⟨rfl, HO.below⟩
end GVfs0_
export GVfs0_ (named_calls new_own step_calls find_down find_none find_some)
end Go.Proofs.Ytkdahjnmldeklaa.PA
end
section
namespace Go.Proofs.Ytkdahjnmldeklaa.PA
open Go.RowKit Go.Proofs.YtkdahjnmldeklaaW.PrintWords Go.Proofs.YtkdahjnmldeklaaW.PrintLast Go.Proofs.YtkdahjnmldeklaaW.PrintMore
set_option linter.unusedVariables false
set_option linter.unusedSimpArgs false
namespace GVfs1_
theorem gwagg23 : ∀ w, (isAgg 23).run Try.prog w = .ok false w := fun _ => by kernel_rfl
theorem gwagg4 : ∀ w, (isAgg 4).run Try.prog w = .ok false w := fun _ => by kernel_rfl
theorem gwagg74 : ∀ w, (isAgg 74).run Try.prog w = .ok false w := fun _ => by kernel_rfl
theorem gwagg9 : ∀ w, (isAgg 9).run Try.prog w = .ok false w := fun _ => by kernel_rfl
theorem gwfld76_0 (g off : Nat) : ∀ w, (Instr.fieldAt 76 (.pointer (some ⟨g, off, none⟩)) 0).run Try.prog w = .ok (.pointer (some ⟨g, off + 0, none⟩)) w := fun _ => by kernel_rfl
theorem gwfld76_4 (g off : Nat) : ∀ w, (Instr.fieldAt 76 (.pointer (some ⟨g, off, none⟩)) 4).run Try.prog w = .ok (.pointer (some ⟨g, off + 4, none⟩)) w := fun _ => by kernel_rfl
theorem gwzer78 : ∀ w, (zeroValue 78).run Try.prog w = .ok (.pointer none) w := fun _ => by kernel_rfl
set_option maxHeartbeats 4000000 in
set_option maxRecDepth 100000 in
theorem create1 (w0 w : World) (R : Chunk) (gd gm : Nat) (d : PD) (xs : List XF) (nm : ByteArray) (bd bn : Nat) (hn : nm.size ≤ 9223372036854775807) (hl : xs.length < 9223372036854775807) (HO : Own w0 w [R, Bk gd [.map (some gm), .int .i64 d.most, .int .i64 d.used, .int .i64 d.fuse, .bool d.down] 76, Chunk.lmap Try.prog 9 gm (xs.map XF.ent), Bk bd [.pointer (some ⟨gd, 0, none⟩)] 23, Bk bn [.string nm] 9]) :
    Calls Try.prog 41 #[.pointer (some ⟨bd, 0, none⟩), .pointer (some ⟨bn, 0, none⟩)] w fun e w' => e = .returned (.tuple #[]) ∧ ∃ g : Nat, Own w0 w' [R, Chunk.blk g (.cells #[.slice none 0 0, .int .i64 0] 81 (0, 0)), Chunk.blk gd (.cells (dcells gm d) 76 (0, 0)), Chunk.lmap Try.prog 9 gm (lput (litS nm) (.pointer (some ⟨g, 0, none⟩)) (xs.map XF.ent))] := by
 refine gw_startO (N := 9) (vs := [.pointer (some ⟨bd, 0, none⟩), .pointer (some ⟨bn, 0, none⟩)]) Try.func41 rfl rfl (by simp) fun a HF => ?_
 refine gx_draw (M := [R, Bk gd [.map (some gm), J d.most, J d.used, J d.fuse, .bool d.down] 76, Chunk.lmap Try.prog 9 gm (xs.map XF.ent), Bk bd [.pointer (some ⟨gd, 0, none⟩)] 23, Bk bn [.string nm] 9]) (fun j_ => j_ == 7) HO (by kernel_rfl) fun w1 O2 => ?_
 clear HO
 refine gx_take 0 rfl (by kernel_rfl) HF (by exact O2.sel [0, 1, 2, 3, 4] (by decide)) (want_none rfl) rfl (by decide) (fun wq HO => (op_load1 gwagg23 rfl (HF.ev rfl) (blk_at (HO.get 3 rfl) rfl))) ?_
 intro _ H4; clear HF
 refine gx_take 1 rfl (by kernel_rfl) H4 (by exact O2.sel [0, 1, 2, 3, 4] (by decide)) (want_none rfl) rfl (by decide) (fun wq HO => (op_nil rfl (H4.ev rfl))) ?_
 intro _ H6; clear H4
 refine gx_take 2 rfl (by kernel_rfl) H6 (by exact O2.sel [0, 1, 2, 3, 4] (by decide)) (want_none rfl) rfl (by decide) (fun wq HO => (op_field (gwfld76_0 _ _) rfl (H6.ev rfl))) ?_
 intro _ H8; clear H6
 refine gx_take 3 rfl (by kernel_rfl) H8 (by exact O2.sel [0, 1, 2, 3, 4] (by decide)) (want_none rfl) rfl (by decide) (fun wq HO => (op_load1 gwagg74 rfl (H8.ev rfl) (blk_at (HO.get 1 rfl) rfl))) ?_
 intro _ H10; clear H8
 refine gx_take 4 rfl (by kernel_rfl) H10 (by exact O2.sel [0, 1, 2, 3, 4] (by decide)) (want_none rfl) rfl (by decide) (fun wq HO => (op_load1 gwagg9 rfl (H10.ev rfl) (blk_at (HO.get 4 rfl) rfl))) ?_
 intro _ H12; clear H10
 refine gx_take 5 rfl (by kernel_rfl) H12 (by exact O2.sel [0, 1, 2, 3, 4] (by decide)) (want_none rfl) rfl (by decide) (fun wq HO => (op_build (cells := #[.slice none 0 0, J 0]) rfl pt_nil (by kernel_rfl))) ?_
 intro _ H14; clear H12
 refine gx_step 6 rfl (by kernel_rfl) ?_
 refine gw_new H14 O2 (want_none rfl) rfl (by decide) (op_box rfl (H14.ev rfl)) ?_
 intro g15 _ w17 H18 O19; clear H14 O2
 have O20 : Own w0 w17 [Bk g15 [.slice none 0 0, J 0] 81, R, Bk gd [.map (some gm), J d.most, J d.used, J d.fuse, .bool d.down] 76, Chunk.lmap Try.prog 9 gm (xs.map XF.ent), Bk bd [.pointer (some ⟨gd, 0, none⟩)] 23, Bk bn [.string nm] 9] := O19
 clear O19
 refine gx_on (i := 6) (B := (fun j_ => j_ == 7)) (M := [R, Bk gd [.map (some gm), J d.most, J d.used, J d.fuse, .bool d.down] 76, Chunk.lmap Try.prog 9 gm (xs.map XF.ent), Bk bd [.pointer (some ⟨gd, 0, none⟩)] 23, Bk bn [.string nm] 9]) (fun _ => (by exact O20.sel [1, 2, 3, 4, 5] (by decide))) ?_
 refine gx_step 7 rfl (by kernel_rfl) ?_
 refine gw_mput 3 strKey Try.underlying74 H18 O20 rfl (want_none rfl) rfl rfl (H18.ev rfl) (H18.ev rfl) (H18.ev rfl) (keyS (hn)) (by simpa using hl) ?_
 intro _ w22 H23 O24; clear H18 O20
 have O25 : Own w0 w22 [Bk g15 [.slice none 0 0, J 0] 81, R, Bk gd [.map (some gm), J d.most, J d.used, J d.fuse, .bool d.down] 76, Chunk.lmap Try.prog 9 gm (lput (litS nm) (.pointer (some ⟨g15, 0, none⟩)) (xs.map XF.ent)), Bk bd [.pointer (some ⟨gd, 0, none⟩)] 23, Bk bn [.string nm] 9] := O24
 clear O24
 refine gx_on (i := 7) (B := (fun j_ => j_ == 7)) (M := [R, Bk gd [.map (some gm), J d.most, J d.used, J d.fuse, .bool d.down] 76, Chunk.lmap Try.prog 9 gm (xs.map XF.ent), Bk bd [.pointer (some ⟨gd, 0, none⟩)] 23, Bk bn [.string nm] 9]) (fun h_ => by cases h_) ?_
 refine gx_done (by kernel_rfl) ?_
 refine gw_end0 H23 rfl ?_
 exact ⟨rfl, _, O25.sel [1, 0, 2, 3] (by decide)⟩
set_option maxHeartbeats 4000000 in
set_option maxRecDepth 100000 in
theorem create_calls (w0 w : World) (R : Chunk) (gd : Nat) (S : Nat → Prop) (d : PD) (nm : ByteArray) (hw : wfD d) (hn : nm.size ≤ 9223372036854775807) (hlen : d.fs.length ≤ 1000000) (HO : Own w0 w [R, Chunk.disk w0.heap.size gd S d]) :
    Calls Try.prog 13 #[.pointer (some ⟨gd, 0, none⟩), .string nm] w fun e w' => e = .returned (.int .i64 (createD nm d).2) ∧ ∃ S', Own w0 w' [R, Chunk.disk w0.heap.size gd S' (createD nm d).1] := by
 have hu0 := hw.used
 have hm0 := hw.most
 have hfu := hw.fuse
 obtain ⟨gm, xs, hxs, hon, HO⟩ := disk_open2 HO
 have hxl : xs.length ≤ 1000000 := by rw [← hxs, List.length_map] at hlen; exact hlen
 refine gw_startO (N := 25) (vs := [.pointer (some ⟨gd, 0, none⟩), .string nm]) Try.func13 rfl rfl (by simp) fun a HF => ?_
 rcases look3 nm d hxs hon with hdn | ⟨hdn, hl, hgd, hno⟩ | ⟨hdn, pre, x, post, rfl, hnm, hl, hgd, hoth⟩
 ·
  refine gw_seq fun K1 hK1 => ?_
  refine wp_region_lit ?_
  refine gw_new HF HO (want_none rfl) rfl (by decide) (op_box rfl (HF.ev rfl)) ?_
  intro g2 _ w4 H5 O6; clear HF HO
  have O7 : Own w0 w4 [Bk g2 [.pointer (some ⟨gd, 0, none⟩)] 23, R, Bk gd [.map (some gm), J d.most, J d.used, J d.fuse, .bool d.down] 76, Chunk.lmap Try.prog 9 gm (xs.map XF.ent), Chunk.files w0.heap.size xs] := O6
  clear O6
  refine gw_new H5 O7 (want_none rfl) rfl (by decide) (op_box rfl (H5.ev rfl)) ?_
  intro g8 _ w10 H11 O12; clear H5 O7
  have O13 : Own w0 w10 [Bk g8 [.string nm] 9, Bk g2 [.pointer (some ⟨gd, 0, none⟩)] 23, R, Bk gd [.map (some gm), J d.most, J d.used, J d.fuse, .bool d.down] 76, Chunk.lmap Try.prog 9 gm (xs.map XF.ent), Chunk.files w0.heap.size xs] := O12
  clear O12
  refine V H11 (op_assign rfl (ev_c _ _)) ?_
  intro _ H15; clear H11
  refine wpList_nil ?_
  refine gw_nx (hK1 _ _ ?_)
  refine gw_seq fun K16 hK16 => ?_
  refine wp_block ?_
  refine gw_seq fun K17 hK17 => ?_
  refine wp_region_lit ?_
  refine V H15 (op_load1 gwagg23 rfl (H15.ev rfl) (blk_at (O13.get 1 rfl) rfl)) ?_
  intro _ H19; clear H15
  refine V H19 (op_nil rfl (H19.ev rfl)) ?_
  intro _ H21; clear H19
  refine V H21 (op_field (gwfld76_4 _ _) rfl (H21.ev rfl)) ?_
  intro _ H23; clear H21
  refine V H23 (op_load1 gwagg4 rfl (H23.ev rfl) (blk_at (O13.get 3 rfl) rfl)) ?_
  intro _ H25; clear H23
  have H26 := H25.lit (b := true) (hdn)
  clear H25
  refine V H26 (op_assign rfl (H26.ev rfl)) ?_
  intro _ H28; clear H26
  refine wpList_nil ?_
  refine gw_nx (hK17 _ _ ?_)
  refine gw_cond H28 rfl (fun hb29 => ?_) (fun hb29 => ?_)
  rotate_left
  ·
   cases hb29
  refine gw_seq fun K30 hK30 => ?_
  refine wp_region_lit ?_
  refine V H28 (op_assign rfl (ev_c _ _)) ?_
  intro _ H32; clear H28
  refine wpList_nil ?_
  refine gw_nx (hK30 _ _ ?_)
  refine wp_ret ?_
  refine gw_blr ?_
  refine gw_thr ?_
  refine gw_ret1 H32 rfl rfl ?_
  exact disk_fin (gd := gd) (gm := gm) (d' := d) (xs := xs) (create_down hdn) hxs (by exact O13.sel [2, 3, 4, 5] (by decide))
 ·
  refine gw_seq fun K33 hK33 => ?_
  refine wp_region_lit ?_
  refine gw_new HF HO (want_none rfl) rfl (by decide) (op_box rfl (HF.ev rfl)) ?_
  intro g34 _ w36 H37 O38; clear HF HO
  have O39 : Own w0 w36 [Bk g34 [.pointer (some ⟨gd, 0, none⟩)] 23, R, Bk gd [.map (some gm), J d.most, J d.used, J d.fuse, .bool d.down] 76, Chunk.lmap Try.prog 9 gm (xs.map XF.ent), Chunk.files w0.heap.size xs] := O38
  clear O38
  refine gw_new H37 O39 (want_none rfl) rfl (by decide) (op_box rfl (H37.ev rfl)) ?_
  intro g40 _ w42 H43 O44; clear H37 O39
  have O45 : Own w0 w42 [Bk g40 [.string nm] 9, Bk g34 [.pointer (some ⟨gd, 0, none⟩)] 23, R, Bk gd [.map (some gm), J d.most, J d.used, J d.fuse, .bool d.down] 76, Chunk.lmap Try.prog 9 gm (xs.map XF.ent), Chunk.files w0.heap.size xs] := O44
  clear O44
  refine V H43 (op_assign rfl (ev_c _ _)) ?_
  intro _ H47; clear H43
  refine wpList_nil ?_
  refine gw_nx (hK33 _ _ ?_)
  refine gw_seq fun K48 hK48 => ?_
  refine wp_block ?_
  refine gw_seq fun K49 hK49 => ?_
  refine wp_region_lit ?_
  refine V H47 (op_load1 gwagg23 rfl (H47.ev rfl) (blk_at (O45.get 1 rfl) rfl)) ?_
  intro _ H51; clear H47
  refine V H51 (op_nil rfl (H51.ev rfl)) ?_
  intro _ H53; clear H51
  refine V H53 (op_field (gwfld76_4 _ _) rfl (H53.ev rfl)) ?_
  intro _ H55; clear H53
  refine V H55 (op_load1 gwagg4 rfl (H55.ev rfl) (blk_at (O45.get 3 rfl) rfl)) ?_
  intro _ H57; clear H55
  have H58 := H57.lit (b := false) (hdn)
  clear H57
  refine V H58 (op_assign rfl (H58.ev rfl)) ?_
  intro _ H60; clear H58
  refine wpList_nil ?_
  refine gw_nx (hK49 _ _ ?_)
  refine gw_cond H60 rfl (fun hb61 => ?_) (fun hb61 => ?_)
  skip
  ·
   cases hb61
  refine gw_seq fun K62 hK62 => ?_
  refine wp_region_lit ?_
  refine V H60 (op_load1 gwagg9 rfl (H60.ev rfl) (blk_at (O45.get 0 rfl) rfl)) ?_
  intro _ H64; clear H60
  refine gw_call H64 (want_none rfl) rfl (by decide) (op_callL Try.func39 (by kernel_rfl) rfl rfl (ar_cons (H64.ev rfl) ar_nil)) (named_calls nm _) ?_
  rintro e65 w66 ⟨rfl, hb67⟩
  refine ⟨_, rfl, fun _ H69 => ?_⟩
  have O70 := O45.after hb67
  clear H64 O45 hb67
  refine V H69 (op_not rfl (H69.ev rfl)) ?_
  intro _ H73; clear H69
  refine V H73 (op_assign rfl (H73.ev rfl)) ?_
  intro _ H75; clear H73
  refine wpList_nil ?_
  refine gw_nx (hK62 _ _ ?_)
  refine gw_cond H75 rfl (fun hb76 => ?_) (fun hb76 => ?_)
  ·
   have H77 := H75.subst_ (d := 10) (b := true) rfl hb76
   clear H75
   (try simp only [Bool.and_eq_true, Bool.or_eq_true, Bool.and_eq_false_iff, Bool.or_eq_false_iff, Bool.not_and, Bool.not_or, Bool.not_not, decide_eq_true_eq, decide_eq_false_iff_not, Bool.not_eq_true', Bool.not_eq_false', Bool.not_eq_true, Bool.not_eq_false, ne_eq, Decidable.not_not, Int.not_lt, Int.not_le, not_true_eq_false, not_false_eq_true, bne_iff_ne, beq_iff_eq, bne_eq_false_iff_eq, beq_eq_false_iff_ne] at hb76)
   have hnb : namedB nm = false := by simpa using hb76
   refine gw_seq fun K78 hK78 => ?_
   refine wp_region_lit ?_
   refine V H77 (op_assign rfl (ev_c _ _)) ?_
   intro _ H80; clear H77
   refine wpList_nil ?_
   refine gw_nx (hK78 _ _ ?_)
   refine wp_ret ?_
   refine gw_blr ?_
   refine gw_thr ?_
   refine gw_ret1 H80 rfl rfl ?_
   exact disk_fin (gd := gd) (gm := gm) (d' := d) (xs := xs) (create_bad hdn hnb) hxs (by exact O70.sel [2, 3, 4, 5] (by decide))
  ·
   have H81 := H75.subst_ (d := 10) (b := false) rfl hb76
   clear H75
   (try simp only [Bool.and_eq_true, Bool.or_eq_true, Bool.and_eq_false_iff, Bool.or_eq_false_iff, Bool.not_and, Bool.not_or, Bool.not_not, decide_eq_true_eq, decide_eq_false_iff_not, Bool.not_eq_true', Bool.not_eq_false', Bool.not_eq_true, Bool.not_eq_false, ne_eq, Decidable.not_not, Int.not_lt, Int.not_le, not_true_eq_false, not_false_eq_true, bne_iff_ne, beq_iff_eq, bne_eq_false_iff_eq, beq_eq_false_iff_ne] at hb76)
   have hnb : namedB nm = true := by simpa using hb76
   refine gw_seq fun K82 hK82 => ?_
   refine gw_drawB O70 (by kernel_rfl) (by kernel_rfl) fun w83 O84 => ?_
   clear O70
   refine gq_ev H81 (want_none rfl) rfl (by decide) (fun wq hq => have HO := O84.after hq; (op_load1 gwagg23 rfl (H81.ev rfl) (blk_at (HO.get 1 rfl) rfl))) ?_
   intro _ H86; clear H81
   refine gq_ev H86 (want_none rfl) rfl (by decide) (fun wq hq => have HO := O84.after hq; (op_nil rfl (H86.ev rfl))) ?_
   intro _ H88; clear H86
   refine gq_ev H88 (want_none rfl) rfl (by decide) (fun wq hq => have HO := O84.after hq; (op_field (gwfld76_0 _ _) rfl (H88.ev rfl))) ?_
   intro _ H90; clear H88
   refine gq_ev H90 (want_none rfl) rfl (by decide) (fun wq hq => have HO := O84.after hq; (op_load1 gwagg74 rfl (H90.ev rfl) (blk_at (HO.get 3 rfl) rfl))) ?_
   intro _ H92; clear H90
   refine gq_ev H92 (want_none rfl) rfl (by decide) (fun wq hq => have HO := O84.after hq; (op_load1 gwagg9 rfl (H92.ev rfl) (blk_at (HO.get 0 rfl) rfl))) ?_
   intro _ H94; clear H92
   refine gq_ev H94 (want_none rfl) rfl (by decide) (fun wq hq => have HO := O84.after hq; (op_ml_none strKey Try.underlying74 gwzer78 rfl (H94.ev rfl) (H94.ev rfl) (keyS (hn)) (HO.get 4 rfl) (hl))) ?_
   intro _ H96; clear H94
   refine gq_ev H96 (want_none rfl) rfl (by decide) (fun wq hq => have HO := O84.after hq; (op_nep_nils Try.underlying78 rfl (H96.ev rfl))) ?_
   intro _ H98; clear H96
   refine gq_ev H98 (want_none rfl) rfl (by decide) (fun wq hq => have HO := O84.after hq; (op_assign rfl (H98.ev rfl))) ?_
   intro _ H100; clear H98
   refine wpQuiet_nil ?_
   intro w101 hq
   have O102 := O84.after hq
   clear O84 hq
   refine gw_nx (hK82 _ _ ?_)
   refine gw_cond H100 rfl (fun hb103 => ?_) (fun hb103 => ?_)
   skip
   ·
    cases hb103
   refine wp_skip ?_
   refine gw_blk ?_
   refine gw_nx (hK48 _ _ ?_)
   refine gw_seq fun K104 hK104 => ?_
   refine wp_region_lit ?_
   refine V H100 (op_load1 gwagg23 rfl (H100.ev rfl) (blk_at (O102.get 1 rfl) rfl)) ?_
   intro _ H106; clear H100
   refine V H106 (op_func rfl (ar_cons (H106.ev rfl) (ar_cons (H106.ev rfl) ar_nil))) ?_
   intro _ H108; clear H106
   have O115 : Own w0 _ [(Chunk.all [Bk g40 [.string nm] 9, Bk g34 [.pointer (some ⟨gd, 0, none⟩)] 23, R, Chunk.lmap Try.prog 9 gm (xs.map XF.ent), Chunk.files w0.heap.size xs]), Bk gd [.map (some gm), J d.most, J d.used, J d.fuse, .bool d.down] 76] := Own.bundle (A := [Bk g40 [.string nm] 9, Bk g34 [.pointer (some ⟨gd, 0, none⟩)] 23, R, Chunk.lmap Try.prog 9 gm (xs.map XF.ent), Chunk.files w0.heap.size xs]) (L := [Bk gd [.map (some gm), J d.most, J d.used, J d.fuse, .bool d.down] 76]) (O102.sel [0, 1, 2, 4, 5, 3] (by decide))
   refine gw_call H108 (want_none rfl) rfl (by decide) (op_callL Try.func40 (by kernel_rfl) rfl rfl (ar_cons (H108.ev rfl) (ar_cons (H108.ev rfl) ar_nil))) (step_calls w0 _ (Chunk.all [Bk g40 [.string nm] 9, Bk g34 [.pointer (some ⟨gd, 0, none⟩)] 23, R, Chunk.lmap Try.prog 9 gm (xs.map XF.ent), Chunk.files w0.heap.size xs]) gd gm d 41 _ [.pointer (some ⟨g34, 0, none⟩), .pointer (some ⟨g40, 0, none⟩)] (fun w_ => ∃ g, Own w0 w_ [(Chunk.all [R, Chunk.files w0.heap.size xs]), Bk g [.slice none 0 0, J 0] 81, Bk gd [.map (some gm), J (({ d with fuse := decF d.fuse } : PD).most), J (({ d with fuse := decF d.fuse } : PD).used), J (({ d with fuse := decF d.fuse } : PD).fuse), .bool (({ d with fuse := decF d.fuse } : PD).down)] 76, Chunk.lmap Try.prog 9 gm (lput (litS nm) (.pointer (some ⟨g, 0, none⟩)) (xs.map XF.ent))]) Try.func41 (by kernel_rfl) rfl hfu (fun hf1 w1 h_ => create1 w0 w1 (Chunk.all [R, Chunk.files w0.heap.size xs]) gd gm ({ d with fuse := decF d.fuse } : PD) xs nm g34 g40 hn (by omega) (Own.bundle (A := [R, Chunk.files w0.heap.size xs]) (L := [Bk gd [.map (some gm), J (({ d with fuse := decF d.fuse } : PD).most), J (({ d with fuse := decF d.fuse } : PD).used), J (({ d with fuse := decF d.fuse } : PD).fuse), .bool (({ d with fuse := decF d.fuse } : PD).down)] 76, Chunk.lmap Try.prog 9 gm (xs.map XF.ent), Bk g34 [.pointer (some ⟨gd, 0, none⟩)] 23, Bk g40 [.string nm] 9]) ((Own.unbundle (A := [Bk g40 [.string nm] 9, Bk g34 [.pointer (some ⟨gd, 0, none⟩)] 23, R, Chunk.lmap Try.prog 9 gm (xs.map XF.ent), Chunk.files w0.heap.size xs]) (L := [Bk gd [.map (some gm), J (({ d with fuse := decF d.fuse } : PD).most), J (({ d with fuse := decF d.fuse } : PD).used), J (({ d with fuse := decF d.fuse } : PD).fuse), .bool (({ d with fuse := decF d.fuse } : PD).down)] 76]) (by exact h_)).sel [2, 4, 5, 3, 1, 0] (by decide)))) (by exact O115)) ?_
   rintro e109 w110 (⟨hf1, rfl, hb111⟩ | ⟨hf1, rfl, ⟨g, hb111⟩⟩)
   ·
    refine ⟨_, rfl, fun _ H113 => ?_⟩
    have O114 : Own w0 w110 [Bk g40 [.string nm] 9, Bk g34 [.pointer (some ⟨gd, 0, none⟩)] 23, R, Chunk.lmap Try.prog 9 gm (xs.map XF.ent), Chunk.files w0.heap.size xs, Bk gd [.map (some gm), J d.most, J d.used, J 0, .bool true] 76] := Own.unbundle (A := [Bk g40 [.string nm] 9, Bk g34 [.pointer (some ⟨gd, 0, none⟩)] 23, R, Chunk.lmap Try.prog 9 gm (xs.map XF.ent), Chunk.files w0.heap.size xs]) (L := [Bk gd [.map (some gm), J d.most, J d.used, J 0, .bool true] 76]) (by exact hb111)
    clear O115 hb111
    clear H108 O102
    refine V H113 (op_assign rfl (H113.ev rfl)) ?_
    intro _ H117; clear H113
    refine wpList_nil ?_
    refine gw_nx (hK104 _ _ ?_)
    refine wp_ret ?_
    refine gw_ret1 H117 rfl rfl ?_
    exact disk_fin (gd := gd) (gm := gm) (d' := { d with fuse := 0, down := true }) (xs := xs) ((create_go hdn hnb hgd).trans (step_off hf1)) hxs (by exact O114.sel [2, 5, 3, 4] (by decide))
   ·
    refine ⟨_, rfl, fun _ H113 => ?_⟩
    have O114 : Own w0 w110 [R, Chunk.files w0.heap.size xs, Bk g [.slice none 0 0, J 0] 81, Bk gd [.map (some gm), J (({ d with fuse := decF d.fuse } : PD).most), J (({ d with fuse := decF d.fuse } : PD).used), J (({ d with fuse := decF d.fuse } : PD).fuse), .bool (({ d with fuse := decF d.fuse } : PD).down)] 76, Chunk.lmap Try.prog 9 gm (lput (litS nm) (.pointer (some ⟨g, 0, none⟩)) (xs.map XF.ent))] := Own.unbundle (A := [R, Chunk.files w0.heap.size xs]) (L := [Bk g [.slice none 0 0, J 0] 81, Bk gd [.map (some gm), J (({ d with fuse := decF d.fuse } : PD).most), J (({ d with fuse := decF d.fuse } : PD).used), J (({ d with fuse := decF d.fuse } : PD).fuse), .bool (({ d with fuse := decF d.fuse } : PD).down)] 76, Chunk.lmap Try.prog 9 gm (lput (litS nm) (.pointer (some ⟨g, 0, none⟩)) (xs.map XF.ent))]) hb111
    clear O115 hb111
    clear H108 O102
    refine V H113 (op_assign rfl (H113.ev rfl)) ?_
    intro _ H119; clear H113
    refine wpList_nil ?_
    refine gw_nx (hK104 _ _ ?_)
    refine wp_ret ?_
    refine gw_ret1 H119 rfl rfl ?_
    have O120 := Own.file_close (x := (⟨⟨nm, [], 0⟩, g, none, 0, fun _ => False⟩ : XF)) (pre := []) (post := xs) (by exact (O114.row_nil (Kd.int .u8) 5 w0.heap.size).sel [3, 0, 2, 1, 4, 5] (by decide))
    have O121 := Own.files_perm (ys := insX (⟨⟨nm, [], 0⟩, g, none, 0, fun _ => False⟩ : XF) xs) O120 (insX_perm _ _).symm
    have el_ : lput (litS nm) (.pointer (some ⟨g, 0, none⟩)) (xs.map XF.ent) = (insX (⟨⟨nm, [], 0⟩, g, none, 0, fun _ => False⟩ : XF) xs).map XF.ent := by rw [insX_ent]; unfold lput; rw [← delX_ent, delX_none hno]; rfl
    rw [el_] at O121
    exact disk_fin (gd := gd) (gm := gm) (d' := _) (xs := insX (⟨⟨nm, [], 0⟩, g, none, 0, fun _ => False⟩ : XF) xs) ((create_go hdn hnb hgd).trans (step_on hf1 hfu.1)) (by rw [insX_p, hxs]; show _ = insF _ (delF nm d.fs); rw [← hxs, ← delX_p, delX_none hno]) (by exact O121.sel [1, 2, 3, 0] (by decide))
 ·
  have HO := Own.sel (Own.file_open (Own.sel HO [3, 0, 1, 2] (by decide))) [3, 4, 5, 0, 1, 2] (by decide)
  have O122 : Own w0 w [R, Bk gd [.map (some gm), J d.most, J d.used, J d.fuse, .bool d.down] 76, Chunk.lmap Try.prog 9 gm ((pre ++ x :: post).map XF.ent), Bk x.g [.slice x.A x.p.b.length x.c, J x.p.sf] 81, Chunk.row (Kd.int .u8) 5 w0.heap.size x.S (.slice x.A x.p.b.length x.c) x.p.b, Chunk.files w0.heap.size (pre ++ post)] := HO
  clear HO
  refine gw_seq fun K123 hK123 => ?_
  refine wp_region_lit ?_
  refine gw_new HF O122 (want_none rfl) rfl (by decide) (op_box rfl (HF.ev rfl)) ?_
  intro g124 _ w126 H127 O128; clear HF O122
  have O129 : Own w0 w126 [Bk g124 [.pointer (some ⟨gd, 0, none⟩)] 23, R, Bk gd [.map (some gm), J d.most, J d.used, J d.fuse, .bool d.down] 76, Chunk.lmap Try.prog 9 gm ((pre ++ x :: post).map XF.ent), Bk x.g [.slice x.A x.p.b.length x.c, J x.p.sf] 81, Chunk.row (Kd.int .u8) 5 w0.heap.size x.S (.slice x.A x.p.b.length x.c) x.p.b, Chunk.files w0.heap.size (pre ++ post)] := O128
  clear O128
  refine gw_new H127 O129 (want_none rfl) rfl (by decide) (op_box rfl (H127.ev rfl)) ?_
  intro g130 _ w132 H133 O134; clear H127 O129
  have O135 : Own w0 w132 [Bk g130 [.string nm] 9, Bk g124 [.pointer (some ⟨gd, 0, none⟩)] 23, R, Bk gd [.map (some gm), J d.most, J d.used, J d.fuse, .bool d.down] 76, Chunk.lmap Try.prog 9 gm ((pre ++ x :: post).map XF.ent), Bk x.g [.slice x.A x.p.b.length x.c, J x.p.sf] 81, Chunk.row (Kd.int .u8) 5 w0.heap.size x.S (.slice x.A x.p.b.length x.c) x.p.b, Chunk.files w0.heap.size (pre ++ post)] := O134
  clear O134
  refine V H133 (op_assign rfl (ev_c _ _)) ?_
  intro _ H137; clear H133
  refine wpList_nil ?_
  refine gw_nx (hK123 _ _ ?_)
  refine gw_seq fun K138 hK138 => ?_
  refine wp_block ?_
  refine gw_seq fun K139 hK139 => ?_
  refine wp_region_lit ?_
  refine V H137 (op_load1 gwagg23 rfl (H137.ev rfl) (blk_at (O135.get 1 rfl) rfl)) ?_
  intro _ H141; clear H137
  refine V H141 (op_nil rfl (H141.ev rfl)) ?_
  intro _ H143; clear H141
  refine V H143 (op_field (gwfld76_4 _ _) rfl (H143.ev rfl)) ?_
  intro _ H145; clear H143
  refine V H145 (op_load1 gwagg4 rfl (H145.ev rfl) (blk_at (O135.get 3 rfl) rfl)) ?_
  intro _ H147; clear H145
  have H148 := H147.lit (b := false) (hdn)
  clear H147
  refine V H148 (op_assign rfl (H148.ev rfl)) ?_
  intro _ H150; clear H148
  refine wpList_nil ?_
  refine gw_nx (hK139 _ _ ?_)
  refine gw_cond H150 rfl (fun hb151 => ?_) (fun hb151 => ?_)
  skip
  ·
   cases hb151
  refine gw_seq fun K152 hK152 => ?_
  refine wp_region_lit ?_
  refine V H150 (op_load1 gwagg9 rfl (H150.ev rfl) (blk_at (O135.get 0 rfl) rfl)) ?_
  intro _ H154; clear H150
  refine gw_call H154 (want_none rfl) rfl (by decide) (op_callL Try.func39 (by kernel_rfl) rfl rfl (ar_cons (H154.ev rfl) ar_nil)) (named_calls nm _) ?_
  rintro e155 w156 ⟨rfl, hb157⟩
  refine ⟨_, rfl, fun _ H159 => ?_⟩
  have O160 := O135.after hb157
  clear H154 O135 hb157
  refine V H159 (op_not rfl (H159.ev rfl)) ?_
  intro _ H163; clear H159
  refine V H163 (op_assign rfl (H163.ev rfl)) ?_
  intro _ H165; clear H163
  refine wpList_nil ?_
  refine gw_nx (hK152 _ _ ?_)
  refine gw_cond H165 rfl (fun hb166 => ?_) (fun hb166 => ?_)
  ·
   have H167 := H165.subst_ (d := 10) (b := true) rfl hb166
   clear H165
   (try simp only [Bool.and_eq_true, Bool.or_eq_true, Bool.and_eq_false_iff, Bool.or_eq_false_iff, Bool.not_and, Bool.not_or, Bool.not_not, decide_eq_true_eq, decide_eq_false_iff_not, Bool.not_eq_true', Bool.not_eq_false', Bool.not_eq_true, Bool.not_eq_false, ne_eq, Decidable.not_not, Int.not_lt, Int.not_le, not_true_eq_false, not_false_eq_true, bne_iff_ne, beq_iff_eq, bne_eq_false_iff_eq, beq_eq_false_iff_ne] at hb166)
   have hnb : namedB nm = false := by simpa using hb166
   refine gw_seq fun K168 hK168 => ?_
   refine wp_region_lit ?_
   refine V H167 (op_assign rfl (ev_c _ _)) ?_
   intro _ H170; clear H167
   refine wpList_nil ?_
   refine gw_nx (hK168 _ _ ?_)
   refine wp_ret ?_
   refine gw_blr ?_
   refine gw_thr ?_
   refine gw_ret1 H170 rfl rfl ?_
   have O171 := Own.file_close (x := x) (pre := pre) (post := post) (by exact O160.sel [5, 6, 7, 0, 1, 2, 3, 4] (by decide))
   exact disk_fin (gd := gd) (gm := gm) (d' := d) (xs := pre ++ x :: post) (create_bad hdn hnb) hxs (by exact O171.sel [3, 4, 5, 0] (by decide))
  ·
   have H172 := H165.subst_ (d := 10) (b := false) rfl hb166
   clear H165
   (try simp only [Bool.and_eq_true, Bool.or_eq_true, Bool.and_eq_false_iff, Bool.or_eq_false_iff, Bool.not_and, Bool.not_or, Bool.not_not, decide_eq_true_eq, decide_eq_false_iff_not, Bool.not_eq_true', Bool.not_eq_false', Bool.not_eq_true, Bool.not_eq_false, ne_eq, Decidable.not_not, Int.not_lt, Int.not_le, not_true_eq_false, not_false_eq_true, bne_iff_ne, beq_iff_eq, bne_eq_false_iff_eq, beq_eq_false_iff_ne] at hb166)
   have hnb : namedB nm = true := by simpa using hb166
   refine gw_seq fun K173 hK173 => ?_
   refine gw_drawB O160 (by kernel_rfl) (by kernel_rfl) fun w174 O175 => ?_
   clear O160
   refine gq_ev H172 (want_none rfl) rfl (by decide) (fun wq hq => have HO := O175.after hq; (op_load1 gwagg23 rfl (H172.ev rfl) (blk_at (HO.get 1 rfl) rfl))) ?_
   intro _ H177; clear H172
   refine gq_ev H177 (want_none rfl) rfl (by decide) (fun wq hq => have HO := O175.after hq; (op_nil rfl (H177.ev rfl))) ?_
   intro _ H179; clear H177
   refine gq_ev H179 (want_none rfl) rfl (by decide) (fun wq hq => have HO := O175.after hq; (op_field (gwfld76_0 _ _) rfl (H179.ev rfl))) ?_
   intro _ H181; clear H179
   refine gq_ev H181 (want_none rfl) rfl (by decide) (fun wq hq => have HO := O175.after hq; (op_load1 gwagg74 rfl (H181.ev rfl) (blk_at (HO.get 3 rfl) rfl))) ?_
   intro _ H183; clear H181
   refine gq_ev H183 (want_none rfl) rfl (by decide) (fun wq hq => have HO := O175.after hq; (op_load1 gwagg9 rfl (H183.ev rfl) (blk_at (HO.get 0 rfl) rfl))) ?_
   intro _ H185; clear H183
   refine gq_ev H185 (want_none rfl) rfl (by decide) (fun wq hq => have HO := O175.after hq; (op_ml_some strKey Try.underlying74 gwzer78 rfl (H185.ev rfl) (H185.ev rfl) (keyS (hn)) (HO.get 4 rfl) (hl))) ?_
   intro _ H187; clear H185
   refine gq_ev H187 (want_none rfl) rfl (by decide) (fun wq hq => have HO := O175.after hq; (op_nep_nil Try.underlying78 rfl (H187.ev rfl))) ?_
   intro _ H189; clear H187
   refine gq_ev H189 (want_none rfl) rfl (by decide) (fun wq hq => have HO := O175.after hq; (op_assign rfl (H189.ev rfl))) ?_
   intro _ H191; clear H189
   refine wpQuiet_nil ?_
   intro w192 hq
   have O193 := O175.after hq
   clear O175 hq
   refine gw_nx (hK173 _ _ ?_)
   refine gw_cond H191 rfl (fun hb194 => ?_) (fun hb194 => ?_)
   rotate_left
   ·
    cases hb194
   refine gw_seq fun K195 hK195 => ?_
   refine wp_region_lit ?_
   refine V H191 (op_assign rfl (ev_c _ _)) ?_
   intro _ H197; clear H191
   refine wpList_nil ?_
   refine gw_nx (hK195 _ _ ?_)
   refine wp_ret ?_
   refine gw_blr ?_
   refine gw_thr ?_
   refine gw_ret1 H197 rfl rfl ?_
   have O198 := Own.file_close (x := x) (pre := pre) (post := post) (by exact O193.sel [5, 6, 7, 0, 1, 2, 3, 4] (by decide))
   exact disk_fin (gd := gd) (gm := gm) (d' := d) (xs := pre ++ x :: post) (create_twice hdn hnb hgd) hxs (by exact O198.sel [3, 4, 5, 0] (by decide))
end GVfs1_
export GVfs1_ (create1 create_calls)
end Go.Proofs.Ytkdahjnmldeklaa.PA
end
section
namespace Go.Proofs.Ytkdahjnmldeklaa.PA
open Go.RowKit Go.Proofs.YtkdahjnmldeklaaW.PrintWords Go.Proofs.YtkdahjnmldeklaaW.PrintLast Go.Proofs.YtkdahjnmldeklaaW.PrintMore
set_option linter.unusedVariables false
set_option linter.unusedSimpArgs false
namespace GVfs2_
theorem gwagg23 : ∀ w, (isAgg 23).run Try.prog w = .ok false w := fun _ => by kernel_rfl
theorem gwagg28 : ∀ w, (isAgg 28).run Try.prog w = .ok false w := fun _ => by kernel_rfl
theorem gwagg3 : ∀ w, (isAgg 3).run Try.prog w = .ok false w := fun _ => by kernel_rfl
theorem gwagg78 : ∀ w, (isAgg 78).run Try.prog w = .ok false w := fun _ => by kernel_rfl
theorem gwfld76_1 (g off : Nat) : ∀ w, (Instr.fieldAt 76 (.pointer (some ⟨g, off, none⟩)) 1).run Try.prog w = .ok (.pointer (some ⟨g, off + 1, none⟩)) w := fun _ => by kernel_rfl
theorem gwfld76_2 (g off : Nat) : ∀ w, (Instr.fieldAt 76 (.pointer (some ⟨g, off, none⟩)) 2).run Try.prog w = .ok (.pointer (some ⟨g, off + 2, none⟩)) w := fun _ => by kernel_rfl
theorem gwfld81_0 (g off : Nat) : ∀ w, (Instr.fieldAt 81 (.pointer (some ⟨g, off, none⟩)) 0).run Try.prog w = .ok (.pointer (some ⟨g, off + 0, none⟩)) w := fun _ => by kernel_rfl
theorem gwfld81_1 (g off : Nat) : ∀ w, (Instr.fieldAt 81 (.pointer (some ⟨g, off, none⟩)) 1).run Try.prog w = .ok (.pointer (some ⟨g, off + 1, none⟩)) w := fun _ => by kernel_rfl
theorem gwinfo5 : (Try.prog.info? 5).map (fun i => (i.zero, i.size, i.bytes)) = some (some (.int .u8 0), 1, 1) := by kernel_rfl
theorem gwsiz28 : ∀ w, (sizeOf 28).run Try.prog w = .ok 1 w := fun _ => by kernel_rfl
theorem gwsiz3 : ∀ w, (sizeOf 3).run Try.prog w = .ok 1 w := fun _ => by kernel_rfl
theorem gwsiz78 : ∀ w, (sizeOf 78).run Try.prog w = .ok 1 w := fun _ => by kernel_rfl
theorem gwzer78 : ∀ w, (zeroValue 78).run Try.prog w = .ok (.pointer none) w := fun _ => by kernel_rfl
set_option maxHeartbeats 4000000 in
set_option maxRecDepth 100000 in
theorem append1 (w0 w : World) (R : Chunk) (gd gm : Nat) (d : PD) (x : XF) (bf by_ bd : Nat) (Ay : Option Addr) (cy : Nat) (y : List Int) (hy : ∀ w1, Own w0 w1 [R] → Kd.C (Kd.int .u8) w1 Ay y.length y) (hcy : y.length ≤ cy) (hroom : x.p.b.length + y.length ≤ 140737488355327) (hu : 0 ≤ d.used ∧ d.used + y.length ≤ 9223372036854775807) (HO : Own w0 w [R, Bk gd [.map (some gm), .int .i64 d.most, .int .i64 d.used, .int .i64 d.fuse, .bool d.down] 76, Bk x.g [.slice x.A x.p.b.length x.c, .int .i64 x.p.sf] 81, Chunk.row (Kd.int .u8) 5 w0.heap.size x.S (.slice x.A x.p.b.length x.c) x.p.b, Bk bf [.pointer (some ⟨x.g, 0, none⟩)] 78, Bk by_ [.slice Ay y.length cy] 28, Bk bd [.pointer (some ⟨gd, 0, none⟩)] 23]) :
    Calls Try.prog 43 #[.pointer (some ⟨bf, 0, none⟩), .pointer (some ⟨by_, 0, none⟩), .pointer (some ⟨bd, 0, none⟩)] w fun e w' => e = .returned (.tuple #[]) ∧ ∃ A' c' S', Own w0 w' [R, Chunk.blk x.g (.cells #[.slice A' (x.p.b ++ y).length c', .int .i64 x.p.sf] 81 (0, 0)), Chunk.row (Kd.int .u8) 5 w0.heap.size S' (.slice A' (x.p.b ++ y).length c') (x.p.b ++ y), Chunk.blk gd (.cells (dcells gm { d with used := d.used + (y.length : Int) }) 76 (0, 0))] := by
 refine gw_startO (N := 21) (vs := [.pointer (some ⟨bf, 0, none⟩), .pointer (some ⟨by_, 0, none⟩), .pointer (some ⟨bd, 0, none⟩)]) Try.func43 rfl rfl (by simp) fun a HF => ?_
 refine gw_seq fun K1 hK1 => ?_
 refine gx_draw (M := [R, Bk gd [.map (some gm), J d.most, J d.used, J d.fuse, .bool d.down] 76, Bk x.g [.slice x.A x.p.b.length x.c, J x.p.sf] 81, Bk bf [.pointer (some ⟨x.g, 0, none⟩)] 78, Bk by_ [.slice Ay y.length cy] 28, Bk bd [.pointer (some ⟨gd, 0, none⟩)] 23]) (fun j_ => j_ == 9) HO (by kernel_rfl) fun w2 O3 => ?_
 clear HO
 refine gx_take 0 rfl (by kernel_rfl) HF (by exact O3.sel [0, 1, 2, 4, 5, 6] (by decide)) (want_none rfl) rfl (by decide) (fun wq HO => (op_load1 gwagg78 rfl (HF.ev rfl) (blk_at (HO.get 3 rfl) rfl))) ?_
 intro _ H5; clear HF
 refine gx_take 1 rfl (by kernel_rfl) H5 (by exact O3.sel [0, 1, 2, 4, 5, 6] (by decide)) (want_none rfl) rfl (by decide) (fun wq HO => (op_load1 gwagg78 rfl (H5.ev rfl) (blk_at (HO.get 3 rfl) rfl))) ?_
 intro _ H7; clear H5
 refine gx_take 2 rfl (by kernel_rfl) H7 (by exact O3.sel [0, 1, 2, 4, 5, 6] (by decide)) (want_none rfl) rfl (by decide) (fun wq HO => (op_nil rfl (H7.ev rfl))) ?_
 intro _ H9; clear H7
 refine gx_take 3 rfl (by kernel_rfl) H9 (by exact O3.sel [0, 1, 2, 4, 5, 6] (by decide)) (want_none rfl) rfl (by decide) (fun wq HO => (op_field (gwfld81_0 _ _) rfl (H9.ev rfl))) ?_
 intro _ H11; clear H9
 refine gx_take 4 rfl (by kernel_rfl) H11 (by exact O3.sel [0, 1, 2, 4, 5, 6] (by decide)) (want_none rfl) rfl (by decide) (fun wq HO => (op_load1 gwagg28 rfl (H11.ev rfl) (blk_at (HO.get 2 rfl) rfl))) ?_
 intro _ H13; clear H11
 refine gx_take 5 rfl (by kernel_rfl) H13 (by exact O3.sel [0, 1, 2, 4, 5, 6] (by decide)) (want_none rfl) rfl (by decide) (fun wq HO => (op_load1 gwagg28 rfl (H13.ev rfl) (blk_at (HO.get 4 rfl) rfl))) ?_
 intro _ H15; clear H13
 refine gx_step 6 rfl (by kernel_rfl) ?_
 refine gw_append (Kd.int .u8) 3 H15 O3 (want_none rfl) rfl (by decide) rfl Try.underlying28 gwinfo5 rfl (by decide) (by decide) rfl (H15.ev rfl) (H15.ev rfl) (hy _ (O3.sel [0] (by decide))) (fun _ _ h => h) O3.below.size (by first | omega | (simp; omega)) ?_
 intro A16 c17 S18 _ w20 H21 O22; clear H15 O3
 have O23 : Own w0 w20 [R, Bk gd [.map (some gm), J d.most, J d.used, J d.fuse, .bool d.down] 76, Bk x.g [.slice x.A x.p.b.length x.c, J x.p.sf] 81, Chunk.row (Kd.int .u8) 5 w0.heap.size S18 (.slice A16 ((x.p.b ++ y).length) c17) (x.p.b ++ y), Bk bf [.pointer (some ⟨x.g, 0, none⟩)] 78, Bk by_ [.slice Ay y.length cy] 28, Bk bd [.pointer (some ⟨gd, 0, none⟩)] 23] := O22
 clear O22
 refine gx_on (i := 6) (B := (fun j_ => j_ == 9)) (M := [R, Bk gd [.map (some gm), J d.most, J d.used, J d.fuse, .bool d.down] 76, Bk x.g [.slice x.A x.p.b.length x.c, J x.p.sf] 81, Bk bf [.pointer (some ⟨x.g, 0, none⟩)] 78, Bk by_ [.slice Ay y.length cy] 28, Bk bd [.pointer (some ⟨gd, 0, none⟩)] 23]) (fun _ => (by exact O23.sel [0, 1, 2, 4, 5, 6] (by decide))) ?_
 refine gx_step 7 rfl (by kernel_rfl) ?_
 refine V H21 (op_nil rfl (H21.ev rfl)) ?_
 intro _ H25; clear H21
 refine gx_on (i := 7) (B := (fun j_ => j_ == 9)) (M := [R, Bk gd [.map (some gm), J d.most, J d.used, J d.fuse, .bool d.down] 76, Bk x.g [.slice x.A x.p.b.length x.c, J x.p.sf] 81, Bk bf [.pointer (some ⟨x.g, 0, none⟩)] 78, Bk by_ [.slice Ay y.length cy] 28, Bk bd [.pointer (some ⟨gd, 0, none⟩)] 23]) (fun _ => (by exact O23.sel [0, 1, 2, 4, 5, 6] (by decide))) ?_
 refine gx_take 8 rfl (by kernel_rfl) H25 (by exact O23.sel [0, 1, 2, 4, 5, 6] (by decide)) (want_none rfl) rfl (by decide) (fun wq HO => (op_field (gwfld81_0 _ _) rfl (H25.ev rfl))) ?_
 intro _ H27; clear H25
 refine gx_step 9 rfl (by kernel_rfl) ?_
 refine gw_set 2 H27 O23 rfl (want_none rfl) rfl (op_store1 gwsiz28 rfl (H27.ev rfl) (H27.ev rfl) rfl (blk_at (O23.get 2 rfl) rfl) (blkf (O23.get 2 rfl))) ?_
 intro _ w30 H29 O31; clear H27 O23
 have O32 : Own w0 w30 [R, Bk gd [.map (some gm), J d.most, J d.used, J d.fuse, .bool d.down] 76, Bk x.g [.slice A16 ((x.p.b ++ y).length) c17, J x.p.sf] 81, Chunk.row (Kd.int .u8) 5 w0.heap.size S18 (.slice A16 ((x.p.b ++ y).length) c17) (x.p.b ++ y), Bk bf [.pointer (some ⟨x.g, 0, none⟩)] 78, Bk by_ [.slice Ay y.length cy] 28, Bk bd [.pointer (some ⟨gd, 0, none⟩)] 23] := O31
 clear O31
 refine gx_on (i := 9) (B := (fun j_ => j_ == 9)) (M := [R, Bk gd [.map (some gm), J d.most, J d.used, J d.fuse, .bool d.down] 76, Bk x.g [.slice x.A x.p.b.length x.c, J x.p.sf] 81, Bk bf [.pointer (some ⟨x.g, 0, none⟩)] 78, Bk by_ [.slice Ay y.length cy] 28, Bk bd [.pointer (some ⟨gd, 0, none⟩)] 23]) (fun h_ => by cases h_) ?_
 refine gx_done (by kernel_rfl) ?_
 refine gw_nx (hK1 _ _ ?_)
 refine gx_draw (M := [R, Bk gd [.map (some gm), J d.most, J d.used, J d.fuse, .bool d.down] 76, Bk x.g [.slice A16 ((x.p.b ++ y).length) c17, J x.p.sf] 81, Chunk.row (Kd.int .u8) 5 w0.heap.size S18 (.slice A16 ((x.p.b ++ y).length) c17) (x.p.b ++ y), Bk bf [.pointer (some ⟨x.g, 0, none⟩)] 78, Bk by_ [.slice Ay y.length cy] 28, Bk bd [.pointer (some ⟨gd, 0, none⟩)] 23]) (fun j_ => j_ == 9) O32 (by kernel_rfl) fun w33 O34 => ?_
 clear O32
 refine gx_take 0 rfl (by kernel_rfl) H29 (by exact O34.sel [0, 1, 2, 3, 4, 5, 6] (by decide)) (want_none rfl) rfl (by decide) (fun wq HO => (op_load1 gwagg23 rfl (H29.ev rfl) (blk_at (HO.get 6 rfl) rfl))) ?_
 intro _ H36; clear H29
 refine gx_take 1 rfl (by kernel_rfl) H36 (by exact O34.sel [0, 1, 2, 3, 4, 5, 6] (by decide)) (want_none rfl) rfl (by decide) (fun wq HO => (op_nil rfl (H36.ev rfl))) ?_
 intro _ H38; clear H36
 refine gx_take 2 rfl (by kernel_rfl) H38 (by exact O34.sel [0, 1, 2, 3, 4, 5, 6] (by decide)) (want_none rfl) rfl (by decide) (fun wq HO => (op_field (gwfld76_2 _ _) rfl (H38.ev rfl))) ?_
 intro _ H40; clear H38
 refine gx_take 3 rfl (by kernel_rfl) H40 (by exact O34.sel [0, 1, 2, 3, 4, 5, 6] (by decide)) (want_none rfl) rfl (by decide) (fun wq HO => (op_load1 gwagg3 rfl (H40.ev rfl) (blk_at (HO.get 1 rfl) rfl))) ?_
 intro _ H42; clear H40
 refine gx_take 4 rfl (by kernel_rfl) H42 (by exact O34.sel [0, 1, 2, 3, 4, 5, 6] (by decide)) (want_none rfl) rfl (by decide) (fun wq HO => (op_load1 gwagg28 rfl (H42.ev rfl) (blk_at (HO.get 5 rfl) rfl))) ?_
 intro _ H44; clear H42
 refine gx_take 5 rfl (by kernel_rfl) H44 (by exact O34.sel [0, 1, 2, 3, 4, 5, 6] (by decide)) (want_none rfl) rfl (by decide) (fun wq HO => (op_len Try.underlying28 rfl (H44.ev rfl))) ?_
 intro _ H46; clear H44
 refine gx_take 6 rfl (by kernel_rfl) H46 (by exact O34.sel [0, 1, 2, 3, 4, 5, 6] (by decide)) (want_none rfl) rfl (by decide) (fun wq HO => (op_add rfl (H46.ev rfl) (H46.ev rfl) (by omega))) ?_
 intro _ H48; clear H46
 refine gx_step 7 rfl (by kernel_rfl) ?_
 refine V H48 (op_nil rfl (H48.ev rfl)) ?_
 intro _ H50; clear H48
 refine gx_on (i := 7) (B := (fun j_ => j_ == 9)) (M := [R, Bk gd [.map (some gm), J d.most, J d.used, J d.fuse, .bool d.down] 76, Bk x.g [.slice A16 ((x.p.b ++ y).length) c17, J x.p.sf] 81, Chunk.row (Kd.int .u8) 5 w0.heap.size S18 (.slice A16 ((x.p.b ++ y).length) c17) (x.p.b ++ y), Bk bf [.pointer (some ⟨x.g, 0, none⟩)] 78, Bk by_ [.slice Ay y.length cy] 28, Bk bd [.pointer (some ⟨gd, 0, none⟩)] 23]) (fun _ => (by exact O34.sel [0, 1, 2, 3, 4, 5, 6] (by decide))) ?_
 refine gx_take 8 rfl (by kernel_rfl) H50 (by exact O34.sel [0, 1, 2, 3, 4, 5, 6] (by decide)) (want_none rfl) rfl (by decide) (fun wq HO => (op_field (gwfld76_2 _ _) rfl (H50.ev rfl))) ?_
 intro _ H52; clear H50
 refine gx_step 9 rfl (by kernel_rfl) ?_
 refine gw_set 1 H52 O34 rfl (want_none rfl) rfl (op_store1 gwsiz3 rfl (H52.ev rfl) (H52.ev rfl) rfl (blk_at (O34.get 1 rfl) rfl) (blkf (O34.get 1 rfl))) ?_
 intro _ w55 H54 O56; clear H52 O34
 have O57 : Own w0 w55 [R, Bk gd [.map (some gm), J d.most, J (d.used + (y.length : Int)), J d.fuse, .bool d.down] 76, Bk x.g [.slice A16 ((x.p.b ++ y).length) c17, J x.p.sf] 81, Chunk.row (Kd.int .u8) 5 w0.heap.size S18 (.slice A16 ((x.p.b ++ y).length) c17) (x.p.b ++ y), Bk bf [.pointer (some ⟨x.g, 0, none⟩)] 78, Bk by_ [.slice Ay y.length cy] 28, Bk bd [.pointer (some ⟨gd, 0, none⟩)] 23] := O56
 clear O56
 refine gx_on (i := 9) (B := (fun j_ => j_ == 9)) (M := [R, Bk gd [.map (some gm), J d.most, J d.used, J d.fuse, .bool d.down] 76, Bk x.g [.slice A16 ((x.p.b ++ y).length) c17, J x.p.sf] 81, Chunk.row (Kd.int .u8) 5 w0.heap.size S18 (.slice A16 ((x.p.b ++ y).length) c17) (x.p.b ++ y), Bk bf [.pointer (some ⟨x.g, 0, none⟩)] 78, Bk by_ [.slice Ay y.length cy] 28, Bk bd [.pointer (some ⟨gd, 0, none⟩)] 23]) (fun h_ => by cases h_) ?_
 refine gx_done (by kernel_rfl) ?_
 refine gw_end0 H54 rfl ?_
 exact ⟨rfl, _, _, _, O57.sel [0, 2, 3, 1] (by decide)⟩
set_option maxHeartbeats 4000000 in
set_option maxRecDepth 100000 in
theorem append_calls (w0 w : World) (R : Chunk) (gd : Nat) (S : Nat → Prop) (d : PD) (nm : ByteArray) (Ay : Option Addr) (cy : Nat) (y : List Int) (hy : ∀ w1, Own w0 w1 [R] → Kd.C (Kd.int .u8) w1 Ay y.length y) (hcy : y.length ≤ cy) (hw : wfD d) (hn : nm.size ≤ 9223372036854775807) (hroom : d.used + y.length ≤ 140737488355327) (HO : Own w0 w [R, Chunk.disk w0.heap.size gd S d]) :
    Calls Try.prog 15 #[.pointer (some ⟨gd, 0, none⟩), .string nm, .slice Ay y.length cy] w fun e w' => e = .returned (.int .i64 (appendD nm y d).2) ∧ ∃ S', Own w0 w' [R, Chunk.disk w0.heap.size gd S' (appendD nm y d).1] := by
 have hu0 := hw.used
 have hm0 := hw.most
 have hfu := hw.fuse
 obtain ⟨gm, xs, hxs, hon, HO⟩ := disk_open2 HO
 refine gw_startO (N := 35) (vs := [.pointer (some ⟨gd, 0, none⟩), .string nm, .slice Ay y.length cy]) Try.func15 rfl rfl (by simp) fun a HF => ?_
 rcases look3 nm d hxs hon with hdn | ⟨hdn, hl, hgd, hno⟩ | ⟨hdn, pre, x, post, rfl, hnm, hl, hgd, hoth⟩
 ·
  refine gw_seq fun K1 hK1 => ?_
  refine wp_region_lit ?_
  refine gw_new HF HO (want_none rfl) rfl (by decide) (op_box rfl (HF.ev rfl)) ?_
  intro g2 _ w4 H5 O6; clear HF HO
  have O7 : Own w0 w4 [Bk g2 [.pointer (some ⟨gd, 0, none⟩)] 23, R, Bk gd [.map (some gm), J d.most, J d.used, J d.fuse, .bool d.down] 76, Chunk.lmap Try.prog 9 gm (xs.map XF.ent), Chunk.files w0.heap.size xs] := O6
  clear O6
  refine gw_new H5 O7 (want_none rfl) rfl (by decide) (op_box rfl (H5.ev rfl)) ?_
  intro g8 _ w10 H11 O12; clear H5 O7
  have O13 : Own w0 w10 [Bk g8 [.slice Ay y.length cy] 28, Bk g2 [.pointer (some ⟨gd, 0, none⟩)] 23, R, Bk gd [.map (some gm), J d.most, J d.used, J d.fuse, .bool d.down] 76, Chunk.lmap Try.prog 9 gm (xs.map XF.ent), Chunk.files w0.heap.size xs] := O12
  clear O12
  refine V H11 (op_assign rfl (ev_c _ _)) ?_
  intro _ H15; clear H11
  refine wpList_nil ?_
  refine gw_nx (hK1 _ _ ?_)
  refine gw_seq fun K16 hK16 => ?_
  refine wp_region_lit ?_
  refine V H15 (op_load1 gwagg23 rfl (H15.ev rfl) (blk_at (O13.get 1 rfl) rfl)) ?_
  intro _ H18; clear H15
  refine V H18 (op_move rfl (H18.ev rfl)) ?_
  intro _ H20; clear H18
  refine gw_call H20 (want_none rfl) rfl (by decide) (op_callL Try.func42 (by kernel_rfl) rfl rfl (ar_cons (H20.ev rfl) (ar_cons (H20.ev rfl) ar_nil))) (find_down gd gm d nm (xs.map XF.ent) _ (by exact O13.get 3 rfl) (O13.get 4 rfl) hdn hn) ?_
  rintro e21 w22 ⟨rfl, hb23⟩
  refine ⟨_, rfl, fun _ H25 => ?_⟩
  have O26 := O13.after hb23
  clear H20 O13 hb23
  refine V H25 (op_move rfl (H25.ev rfl)) ?_
  intro _ H29; clear H25
  refine V H29 (op_extract rfl (H29.ev rfl) rfl) ?_
  intro _ H31; clear H29
  refine V H31 (op_extract rfl (H31.ev rfl) rfl) ?_
  intro _ H33; clear H31
  refine gw_new H33 O26 (want_none rfl) rfl (by decide) (op_alloc gwzer78 rfl) ?_
  intro g34 _ w36 H37 O38; clear H33 O26
  have O39 : Own w0 w36 [Bk g34 [.pointer none] 78, Bk g8 [.slice Ay y.length cy] 28, Bk g2 [.pointer (some ⟨gd, 0, none⟩)] 23, R, Bk gd [.map (some gm), J d.most, J d.used, J d.fuse, .bool d.down] 76, Chunk.lmap Try.prog 9 gm (xs.map XF.ent), Chunk.files w0.heap.size xs] := O38
  clear O38
  refine gw_set 0 H37 O39 rfl (want_none rfl) rfl (op_store1 gwsiz78 rfl (H37.ev rfl) (H37.ev rfl) rfl (blk_at (O39.get 0 rfl) rfl) (blkf (O39.get 0 rfl))) ?_
  intro _ w42 H41 O43; clear H37 O39
  have O44 : Own w0 w42 [Bk g34 [.pointer none] 78, Bk g8 [.slice Ay y.length cy] 28, Bk g2 [.pointer (some ⟨gd, 0, none⟩)] 23, R, Bk gd [.map (some gm), J d.most, J d.used, J d.fuse, .bool d.down] 76, Chunk.lmap Try.prog 9 gm (xs.map XF.ent), Chunk.files w0.heap.size xs] := O43
  clear O43
  refine V H41 (op_assign rfl (H41.ev rfl)) ?_
  intro _ H46; clear H41
  refine wpList_nil ?_
  refine gw_nx (hK16 _ _ ?_)
  refine gw_seq fun K47 hK47 => ?_
  refine wp_block ?_
  refine gw_seq fun K48 hK48 => ?_
  refine wp_region_lit ?_
  refine V H46 (op_move rfl (H46.ev rfl)) ?_
  intro _ H50; clear H46
  refine V H50 (op_nei rfl (H50.ev rfl) (ev_c _ _)) ?_
  intro _ H52; clear H50
  have H53 := H52.lit (b := true) (by decide)
  clear H52
  refine V H53 (op_assign rfl (H53.ev rfl)) ?_
  intro _ H55; clear H53
  refine wpList_nil ?_
  refine gw_nx (hK48 _ _ ?_)
  refine gw_cond H55 rfl (fun hb56 => ?_) (fun hb56 => ?_)
  rotate_left
  ·
   cases hb56
  refine gw_seq fun K57 hK57 => ?_
  refine wp_region_lit ?_
  refine V H55 (op_move rfl (H55.ev rfl)) ?_
  intro _ H59; clear H55
  refine V H59 (op_assign rfl (H59.ev rfl)) ?_
  intro _ H61; clear H59
  refine wpList_nil ?_
  refine gw_nx (hK57 _ _ ?_)
  refine wp_ret ?_
  refine gw_blr ?_
  refine gw_thr ?_
  refine gw_ret1 H61 rfl rfl ?_
  exact disk_fin (gd := gd) (gm := gm) (d' := d) (xs := xs) (with_down hdn) hxs (by exact O44.sel [3, 4, 5, 6] (by decide))
 ·
  refine gw_seq fun K62 hK62 => ?_
  refine wp_region_lit ?_
  refine gw_new HF HO (want_none rfl) rfl (by decide) (op_box rfl (HF.ev rfl)) ?_
  intro g63 _ w65 H66 O67; clear HF HO
  have O68 : Own w0 w65 [Bk g63 [.pointer (some ⟨gd, 0, none⟩)] 23, R, Bk gd [.map (some gm), J d.most, J d.used, J d.fuse, .bool d.down] 76, Chunk.lmap Try.prog 9 gm (xs.map XF.ent), Chunk.files w0.heap.size xs] := O67
  clear O67
  refine gw_new H66 O68 (want_none rfl) rfl (by decide) (op_box rfl (H66.ev rfl)) ?_
  intro g69 _ w71 H72 O73; clear H66 O68
  have O74 : Own w0 w71 [Bk g69 [.slice Ay y.length cy] 28, Bk g63 [.pointer (some ⟨gd, 0, none⟩)] 23, R, Bk gd [.map (some gm), J d.most, J d.used, J d.fuse, .bool d.down] 76, Chunk.lmap Try.prog 9 gm (xs.map XF.ent), Chunk.files w0.heap.size xs] := O73
  clear O73
  refine V H72 (op_assign rfl (ev_c _ _)) ?_
  intro _ H76; clear H72
  refine wpList_nil ?_
  refine gw_nx (hK62 _ _ ?_)
  refine gw_seq fun K77 hK77 => ?_
  refine wp_region_lit ?_
  refine V H76 (op_load1 gwagg23 rfl (H76.ev rfl) (blk_at (O74.get 1 rfl) rfl)) ?_
  intro _ H79; clear H76
  refine V H79 (op_move rfl (H79.ev rfl)) ?_
  intro _ H81; clear H79
  refine gw_call H81 (want_none rfl) rfl (by decide) (op_callL Try.func42 (by kernel_rfl) rfl rfl (ar_cons (H81.ev rfl) (ar_cons (H81.ev rfl) ar_nil))) (find_none gd gm d nm (xs.map XF.ent) _ (by exact O74.get 3 rfl) (O74.get 4 rfl) hdn hl hn) ?_
  rintro e82 w83 ⟨rfl, hb84⟩
  refine ⟨_, rfl, fun _ H86 => ?_⟩
  have O87 := O74.after hb84
  clear H81 O74 hb84
  refine V H86 (op_move rfl (H86.ev rfl)) ?_
  intro _ H90; clear H86
  refine V H90 (op_extract rfl (H90.ev rfl) rfl) ?_
  intro _ H92; clear H90
  refine V H92 (op_extract rfl (H92.ev rfl) rfl) ?_
  intro _ H94; clear H92
  refine gw_new H94 O87 (want_none rfl) rfl (by decide) (op_alloc gwzer78 rfl) ?_
  intro g95 _ w97 H98 O99; clear H94 O87
  have O100 : Own w0 w97 [Bk g95 [.pointer none] 78, Bk g69 [.slice Ay y.length cy] 28, Bk g63 [.pointer (some ⟨gd, 0, none⟩)] 23, R, Bk gd [.map (some gm), J d.most, J d.used, J d.fuse, .bool d.down] 76, Chunk.lmap Try.prog 9 gm (xs.map XF.ent), Chunk.files w0.heap.size xs] := O99
  clear O99
  refine gw_set 0 H98 O100 rfl (want_none rfl) rfl (op_store1 gwsiz78 rfl (H98.ev rfl) (H98.ev rfl) rfl (blk_at (O100.get 0 rfl) rfl) (blkf (O100.get 0 rfl))) ?_
  intro _ w103 H102 O104; clear H98 O100
  have O105 : Own w0 w103 [Bk g95 [.pointer none] 78, Bk g69 [.slice Ay y.length cy] 28, Bk g63 [.pointer (some ⟨gd, 0, none⟩)] 23, R, Bk gd [.map (some gm), J d.most, J d.used, J d.fuse, .bool d.down] 76, Chunk.lmap Try.prog 9 gm (xs.map XF.ent), Chunk.files w0.heap.size xs] := O104
  clear O104
  refine V H102 (op_assign rfl (H102.ev rfl)) ?_
  intro _ H107; clear H102
  refine wpList_nil ?_
  refine gw_nx (hK77 _ _ ?_)
  refine gw_seq fun K108 hK108 => ?_
  refine wp_block ?_
  refine gw_seq fun K109 hK109 => ?_
  refine wp_region_lit ?_
  refine V H107 (op_move rfl (H107.ev rfl)) ?_
  intro _ H111; clear H107
  refine V H111 (op_nei rfl (H111.ev rfl) (ev_c _ _)) ?_
  intro _ H113; clear H111
  have H114 := H113.lit (b := true) (by decide)
  clear H113
  refine V H114 (op_assign rfl (H114.ev rfl)) ?_
  intro _ H116; clear H114
  refine wpList_nil ?_
  refine gw_nx (hK109 _ _ ?_)
  refine gw_cond H116 rfl (fun hb117 => ?_) (fun hb117 => ?_)
  rotate_left
  ·
   cases hb117
  refine gw_seq fun K118 hK118 => ?_
  refine wp_region_lit ?_
  refine V H116 (op_move rfl (H116.ev rfl)) ?_
  intro _ H120; clear H116
  refine V H120 (op_assign rfl (H120.ev rfl)) ?_
  intro _ H122; clear H120
  refine wpList_nil ?_
  refine gw_nx (hK118 _ _ ?_)
  refine wp_ret ?_
  refine gw_blr ?_
  refine gw_thr ?_
  refine gw_ret1 H122 rfl rfl ?_
  exact disk_fin (gd := gd) (gm := gm) (d' := d) (xs := xs) (with_none hdn hgd) hxs (by exact O105.sel [3, 4, 5, 6] (by decide))
 ·
  have HO := Own.sel (Own.file_open (Own.sel HO [3, 0, 1, 2] (by decide))) [3, 4, 5, 0, 1, 2] (by decide)
  have hxl := wf_len hw (getF_mem hgd).1
  have hxs1 := hw.sf _ (getF_mem hgd).1
  have O123 : Own w0 w [R, Bk gd [.map (some gm), J d.most, J d.used, J d.fuse, .bool d.down] 76, Chunk.lmap Try.prog 9 gm ((pre ++ x :: post).map XF.ent), Bk x.g [.slice x.A x.p.b.length x.c, J x.p.sf] 81, Chunk.row (Kd.int .u8) 5 w0.heap.size x.S (.slice x.A x.p.b.length x.c) x.p.b, Chunk.files w0.heap.size (pre ++ post)] := HO
  clear HO
  refine gw_seq fun K124 hK124 => ?_
  refine wp_region_lit ?_
  refine gw_new HF O123 (want_none rfl) rfl (by decide) (op_box rfl (HF.ev rfl)) ?_
  intro g125 _ w127 H128 O129; clear HF O123
  have O130 : Own w0 w127 [Bk g125 [.pointer (some ⟨gd, 0, none⟩)] 23, R, Bk gd [.map (some gm), J d.most, J d.used, J d.fuse, .bool d.down] 76, Chunk.lmap Try.prog 9 gm ((pre ++ x :: post).map XF.ent), Bk x.g [.slice x.A x.p.b.length x.c, J x.p.sf] 81, Chunk.row (Kd.int .u8) 5 w0.heap.size x.S (.slice x.A x.p.b.length x.c) x.p.b, Chunk.files w0.heap.size (pre ++ post)] := O129
  clear O129
  refine gw_new H128 O130 (want_none rfl) rfl (by decide) (op_box rfl (H128.ev rfl)) ?_
  intro g131 _ w133 H134 O135; clear H128 O130
  have O136 : Own w0 w133 [Bk g131 [.slice Ay y.length cy] 28, Bk g125 [.pointer (some ⟨gd, 0, none⟩)] 23, R, Bk gd [.map (some gm), J d.most, J d.used, J d.fuse, .bool d.down] 76, Chunk.lmap Try.prog 9 gm ((pre ++ x :: post).map XF.ent), Bk x.g [.slice x.A x.p.b.length x.c, J x.p.sf] 81, Chunk.row (Kd.int .u8) 5 w0.heap.size x.S (.slice x.A x.p.b.length x.c) x.p.b, Chunk.files w0.heap.size (pre ++ post)] := O135
  clear O135
  refine V H134 (op_assign rfl (ev_c _ _)) ?_
  intro _ H138; clear H134
  refine wpList_nil ?_
  refine gw_nx (hK124 _ _ ?_)
  refine gw_seq fun K139 hK139 => ?_
  refine wp_region_lit ?_
  refine V H138 (op_load1 gwagg23 rfl (H138.ev rfl) (blk_at (O136.get 1 rfl) rfl)) ?_
  intro _ H141; clear H138
  refine V H141 (op_move rfl (H141.ev rfl)) ?_
  intro _ H143; clear H141
  refine gw_call H143 (want_none rfl) rfl (by decide) (op_callL Try.func42 (by kernel_rfl) rfl rfl (ar_cons (H143.ev rfl) (ar_cons (H143.ev rfl) ar_nil))) (find_some gd gm d nm ((pre ++ x :: post).map XF.ent) x.g _ (by exact O136.get 3 rfl) (O136.get 4 rfl) hdn hl hn) ?_
  rintro e144 w145 ⟨rfl, hb146⟩
  refine ⟨_, rfl, fun _ H148 => ?_⟩
  have O149 := O136.after hb146
  clear H143 O136 hb146
  refine V H148 (op_move rfl (H148.ev rfl)) ?_
  intro _ H152; clear H148
  refine V H152 (op_extract rfl (H152.ev rfl) rfl) ?_
  intro _ H154; clear H152
  refine V H154 (op_extract rfl (H154.ev rfl) rfl) ?_
  intro _ H156; clear H154
  refine gw_new H156 O149 (want_none rfl) rfl (by decide) (op_alloc gwzer78 rfl) ?_
  intro g157 _ w159 H160 O161; clear H156 O149
  have O162 : Own w0 w159 [Bk g157 [.pointer none] 78, Bk g131 [.slice Ay y.length cy] 28, Bk g125 [.pointer (some ⟨gd, 0, none⟩)] 23, R, Bk gd [.map (some gm), J d.most, J d.used, J d.fuse, .bool d.down] 76, Chunk.lmap Try.prog 9 gm ((pre ++ x :: post).map XF.ent), Bk x.g [.slice x.A x.p.b.length x.c, J x.p.sf] 81, Chunk.row (Kd.int .u8) 5 w0.heap.size x.S (.slice x.A x.p.b.length x.c) x.p.b, Chunk.files w0.heap.size (pre ++ post)] := O161
  clear O161
  refine gw_set 0 H160 O162 rfl (want_none rfl) rfl (op_store1 gwsiz78 rfl (H160.ev rfl) (H160.ev rfl) rfl (blk_at (O162.get 0 rfl) rfl) (blkf (O162.get 0 rfl))) ?_
  intro _ w165 H164 O166; clear H160 O162
  have O167 : Own w0 w165 [Bk g157 [.pointer (some ⟨x.g, 0, none⟩)] 78, Bk g131 [.slice Ay y.length cy] 28, Bk g125 [.pointer (some ⟨gd, 0, none⟩)] 23, R, Bk gd [.map (some gm), J d.most, J d.used, J d.fuse, .bool d.down] 76, Chunk.lmap Try.prog 9 gm ((pre ++ x :: post).map XF.ent), Bk x.g [.slice x.A x.p.b.length x.c, J x.p.sf] 81, Chunk.row (Kd.int .u8) 5 w0.heap.size x.S (.slice x.A x.p.b.length x.c) x.p.b, Chunk.files w0.heap.size (pre ++ post)] := O166
  clear O166
  refine V H164 (op_assign rfl (H164.ev rfl)) ?_
  intro _ H169; clear H164
  refine wpList_nil ?_
  refine gw_nx (hK139 _ _ ?_)
  refine gw_seq fun K170 hK170 => ?_
  refine wp_block ?_
  refine gw_seq fun K171 hK171 => ?_
  refine wp_region_lit ?_
  refine V H169 (op_move rfl (H169.ev rfl)) ?_
  intro _ H173; clear H169
  refine V H173 (op_nei rfl (H173.ev rfl) (ev_c _ _)) ?_
  intro _ H175; clear H173
  have H176 := H175.lit (b := false) (by decide)
  clear H175
  refine V H176 (op_assign rfl (H176.ev rfl)) ?_
  intro _ H178; clear H176
  refine wpList_nil ?_
  refine gw_nx (hK171 _ _ ?_)
  refine gw_cond H178 rfl (fun hb179 => ?_) (fun hb179 => ?_)
  skip
  ·
   cases hb179
  refine gw_seq fun K180 hK180 => ?_
  refine gw_drawB O167 (by kernel_rfl) (by kernel_rfl) fun w181 O182 => ?_
  clear O167
  refine gq_ev H178 (want_none rfl) rfl (by decide) (fun wq hq => have HO := O182.after hq; (op_load1 gwagg28 rfl (H178.ev rfl) (blk_at (HO.get 1 rfl) rfl))) ?_
  intro _ H184; clear H178
  refine gq_ev H184 (want_none rfl) rfl (by decide) (fun wq hq => have HO := O182.after hq; (op_len Try.underlying28 rfl (H184.ev rfl))) ?_
  intro _ H186; clear H184
  refine gq_ev H186 (want_none rfl) rfl (by decide) (fun wq hq => have HO := O182.after hq; (op_load1 gwagg23 rfl (H186.ev rfl) (blk_at (HO.get 2 rfl) rfl))) ?_
  intro _ H188; clear H186
  refine gq_ev H188 (want_none rfl) rfl (by decide) (fun wq hq => have HO := O182.after hq; (op_nil rfl (H188.ev rfl))) ?_
  intro _ H190; clear H188
  refine gq_ev H190 (want_none rfl) rfl (by decide) (fun wq hq => have HO := O182.after hq; (op_field (gwfld76_1 _ _) rfl (H190.ev rfl))) ?_
  intro _ H192; clear H190
  refine gq_ev H192 (want_none rfl) rfl (by decide) (fun wq hq => have HO := O182.after hq; (op_load1 gwagg3 rfl (H192.ev rfl) (blk_at (HO.get 4 rfl) rfl))) ?_
  intro _ H194; clear H192
  refine gq_ev H194 (want_none rfl) rfl (by decide) (fun wq hq => have HO := O182.after hq; (op_load1 gwagg23 rfl (H194.ev rfl) (blk_at (HO.get 2 rfl) rfl))) ?_
  intro _ H196; clear H194
  refine gq_ev H196 (want_none rfl) rfl (by decide) (fun wq hq => have HO := O182.after hq; (op_nil rfl (H196.ev rfl))) ?_
  intro _ H198; clear H196
  refine gq_ev H198 (want_none rfl) rfl (by decide) (fun wq hq => have HO := O182.after hq; (op_field (gwfld76_2 _ _) rfl (H198.ev rfl))) ?_
  intro _ H200; clear H198
  refine gq_ev H200 (want_none rfl) rfl (by decide) (fun wq hq => have HO := O182.after hq; (op_load1 gwagg3 rfl (H200.ev rfl) (blk_at (HO.get 4 rfl) rfl))) ?_
  intro _ H202; clear H200
  refine gq_ev H202 (want_none rfl) rfl (by decide) (fun wq hq => have HO := O182.after hq; (op_sub rfl (H202.ev rfl) (H202.ev rfl) (by omega))) ?_
  intro _ H204; clear H202
  refine gq_ev H204 (want_none rfl) rfl (by decide) (fun wq hq => have HO := O182.after hq; (op_gtr rfl (H204.ev rfl) (H204.ev rfl))) ?_
  intro _ H206; clear H204
  refine gq_ev H206 (want_none rfl) rfl (by decide) (fun wq hq => have HO := O182.after hq; (op_assign rfl (H206.ev rfl))) ?_
  intro _ H208; clear H206
  refine wpQuiet_nil ?_
  intro w209 hq
  have O210 := O182.after hq
  clear O182 hq
  refine gw_nx (hK180 _ _ ?_)
  refine gw_cond H208 rfl (fun hb211 => ?_) (fun hb211 => ?_)
  ·
   have H212 := H208.subst_ (d := 19) (b := true) rfl hb211
   clear H208
   (try simp only [decide_eq_true_eq] at hb211)
   refine gw_seq fun K213 hK213 => ?_
   refine wp_region_lit ?_
   refine V H212 (op_assign rfl (ev_c _ _)) ?_
   intro _ H215; clear H212
   refine wpList_nil ?_
   refine gw_nx (hK213 _ _ ?_)
   refine wp_ret ?_
   refine gw_blr ?_
   refine gw_thr ?_
   refine gw_ret1 H215 rfl rfl ?_
   have O216 := Own.file_close (x := x) (pre := pre) (post := post) (by exact O210.sel [6, 7, 8, 0, 1, 2, 3, 4, 5] (by decide))
   exact disk_fin (gd := gd) (gm := gm) (d' := d) (xs := pre ++ x :: post) (append_full hdn hgd (by omega)) hxs (by exact O216.sel [4, 5, 6, 0] (by decide))
  ·
   have H217 := H208.subst_ (d := 19) (b := false) rfl hb211
   clear H208
   (try simp only [decide_eq_false_iff_not, Int.not_lt] at hb211)
   refine wp_skip ?_
   refine gw_blk ?_
   refine gw_nx (hK170 _ _ ?_)
   refine gw_seq fun K218 hK218 => ?_
   refine wp_region_lit ?_
   refine V H217 (op_load1 gwagg23 rfl (H217.ev rfl) (blk_at (O210.get 2 rfl) rfl)) ?_
   intro _ H220; clear H217
   refine V H220 (op_func rfl (ar_cons (H220.ev rfl) (ar_cons (H220.ev rfl) (ar_cons (H220.ev rfl) ar_nil)))) ?_
   intro _ H222; clear H220
   have O229 : Own w0 _ [(Chunk.all [Bk g157 [.pointer (some ⟨x.g, 0, none⟩)] 78, Bk g131 [.slice Ay y.length cy] 28, Bk g125 [.pointer (some ⟨gd, 0, none⟩)] 23, R, Chunk.lmap Try.prog 9 gm ((pre ++ x :: post).map XF.ent), Bk x.g [.slice x.A x.p.b.length x.c, J x.p.sf] 81, Chunk.row (Kd.int .u8) 5 w0.heap.size x.S (.slice x.A x.p.b.length x.c) x.p.b, Chunk.files w0.heap.size (pre ++ post)]), Bk gd [.map (some gm), J d.most, J d.used, J d.fuse, .bool d.down] 76] := Own.bundle (A := [Bk g157 [.pointer (some ⟨x.g, 0, none⟩)] 78, Bk g131 [.slice Ay y.length cy] 28, Bk g125 [.pointer (some ⟨gd, 0, none⟩)] 23, R, Chunk.lmap Try.prog 9 gm ((pre ++ x :: post).map XF.ent), Bk x.g [.slice x.A x.p.b.length x.c, J x.p.sf] 81, Chunk.row (Kd.int .u8) 5 w0.heap.size x.S (.slice x.A x.p.b.length x.c) x.p.b, Chunk.files w0.heap.size (pre ++ post)]) (L := [Bk gd [.map (some gm), J d.most, J d.used, J d.fuse, .bool d.down] 76]) (O210.sel [0, 1, 2, 3, 5, 6, 7, 8, 4] (by decide))
   refine gw_call H222 (want_none rfl) rfl (by decide) (op_callL Try.func40 (by kernel_rfl) rfl rfl (ar_cons (H222.ev rfl) (ar_cons (H222.ev rfl) ar_nil))) (step_calls w0 _ (Chunk.all [Bk g157 [.pointer (some ⟨x.g, 0, none⟩)] 78, Bk g131 [.slice Ay y.length cy] 28, Bk g125 [.pointer (some ⟨gd, 0, none⟩)] 23, R, Chunk.lmap Try.prog 9 gm ((pre ++ x :: post).map XF.ent), Bk x.g [.slice x.A x.p.b.length x.c, J x.p.sf] 81, Chunk.row (Kd.int .u8) 5 w0.heap.size x.S (.slice x.A x.p.b.length x.c) x.p.b, Chunk.files w0.heap.size (pre ++ post)]) gd gm d 43 _ [.pointer (some ⟨g157, 0, none⟩), .pointer (some ⟨g131, 0, none⟩), .pointer (some ⟨g125, 0, none⟩)] (fun w_ => ∃ A' c' S', Own w0 w_ [(Chunk.all [R, Chunk.lmap Try.prog 9 gm ((pre ++ x :: post).map XF.ent), Chunk.files w0.heap.size (pre ++ post)]), Bk x.g [.slice A' ((x.p.b ++ y).length) c', J x.p.sf] 81, Chunk.row (Kd.int .u8) 5 w0.heap.size S' (.slice A' ((x.p.b ++ y).length) c') (x.p.b ++ y), Bk gd [.map (some gm), J (({ d with fuse := decF d.fuse } : PD).most), J (d.used + (y.length : Int)), J (({ d with fuse := decF d.fuse } : PD).fuse), .bool (({ d with fuse := decF d.fuse } : PD).down)] 76]) Try.func43 (by kernel_rfl) rfl hfu (fun hf1 w1 h_ => append1 w0 w1 (Chunk.all [R, Chunk.lmap Try.prog 9 gm ((pre ++ x :: post).map XF.ent), Chunk.files w0.heap.size (pre ++ post)]) gd gm ({ d with fuse := decF d.fuse } : PD) x g157 g131 g125 Ay cy y (fun w_ h_ => hy w_ ((Own.unbundle (A := [R, Chunk.lmap Try.prog 9 gm ((pre ++ x :: post).map XF.ent), Chunk.files w0.heap.size (pre ++ post)]) (L := []) (by exact h_)).sel [0] (by decide))) hcy (by omega) (by show 0 ≤ d.used ∧ d.used + (y.length : Int) ≤ _; omega) (Own.bundle (A := [R, Chunk.lmap Try.prog 9 gm ((pre ++ x :: post).map XF.ent), Chunk.files w0.heap.size (pre ++ post)]) (L := [Bk gd [.map (some gm), J (({ d with fuse := decF d.fuse } : PD).most), J (({ d with fuse := decF d.fuse } : PD).used), J (({ d with fuse := decF d.fuse } : PD).fuse), .bool (({ d with fuse := decF d.fuse } : PD).down)] 76, Bk x.g [.slice x.A x.p.b.length x.c, J x.p.sf] 81, Chunk.row (Kd.int .u8) 5 w0.heap.size x.S (.slice x.A x.p.b.length x.c) x.p.b, Bk g157 [.pointer (some ⟨x.g, 0, none⟩)] 78, Bk g131 [.slice Ay y.length cy] 28, Bk g125 [.pointer (some ⟨gd, 0, none⟩)] 23]) ((Own.unbundle (A := [Bk g157 [.pointer (some ⟨x.g, 0, none⟩)] 78, Bk g131 [.slice Ay y.length cy] 28, Bk g125 [.pointer (some ⟨gd, 0, none⟩)] 23, R, Chunk.lmap Try.prog 9 gm ((pre ++ x :: post).map XF.ent), Bk x.g [.slice x.A x.p.b.length x.c, J x.p.sf] 81, Chunk.row (Kd.int .u8) 5 w0.heap.size x.S (.slice x.A x.p.b.length x.c) x.p.b, Chunk.files w0.heap.size (pre ++ post)]) (L := [Bk gd [.map (some gm), J (({ d with fuse := decF d.fuse } : PD).most), J (({ d with fuse := decF d.fuse } : PD).used), J (({ d with fuse := decF d.fuse } : PD).fuse), .bool (({ d with fuse := decF d.fuse } : PD).down)] 76]) (by exact h_)).sel [3, 4, 7, 8, 5, 6, 0, 1, 2] (by decide)))) (by exact O229)) ?_
   rintro e223 w224 (⟨hf1, rfl, hb225⟩ | ⟨hf1, rfl, ⟨A', c', S', hb225⟩⟩)
   ·
    refine ⟨_, rfl, fun _ H227 => ?_⟩
    have O228 : Own w0 w224 [Bk g157 [.pointer (some ⟨x.g, 0, none⟩)] 78, Bk g131 [.slice Ay y.length cy] 28, Bk g125 [.pointer (some ⟨gd, 0, none⟩)] 23, R, Chunk.lmap Try.prog 9 gm ((pre ++ x :: post).map XF.ent), Bk x.g [.slice x.A x.p.b.length x.c, J x.p.sf] 81, Chunk.row (Kd.int .u8) 5 w0.heap.size x.S (.slice x.A x.p.b.length x.c) x.p.b, Chunk.files w0.heap.size (pre ++ post), Bk gd [.map (some gm), J d.most, J d.used, J 0, .bool true] 76] := Own.unbundle (A := [Bk g157 [.pointer (some ⟨x.g, 0, none⟩)] 78, Bk g131 [.slice Ay y.length cy] 28, Bk g125 [.pointer (some ⟨gd, 0, none⟩)] 23, R, Chunk.lmap Try.prog 9 gm ((pre ++ x :: post).map XF.ent), Bk x.g [.slice x.A x.p.b.length x.c, J x.p.sf] 81, Chunk.row (Kd.int .u8) 5 w0.heap.size x.S (.slice x.A x.p.b.length x.c) x.p.b, Chunk.files w0.heap.size (pre ++ post)]) (L := [Bk gd [.map (some gm), J d.most, J d.used, J 0, .bool true] 76]) (by exact hb225)
    clear O229 hb225
    clear H222 O210
    refine V H227 (op_assign rfl (H227.ev rfl)) ?_
    intro _ H231; clear H227
    refine wpList_nil ?_
    refine gw_nx (hK218 _ _ ?_)
    refine wp_ret ?_
    refine gw_ret1 H231 rfl rfl ?_
    have O232 := Own.file_close (x := x) (pre := pre) (post := post) (by exact O228.sel [5, 6, 7, 0, 1, 2, 3, 4, 8] (by decide))
    exact disk_fin (gd := gd) (gm := gm) (d' := { d with fuse := 0, down := true }) (xs := pre ++ x :: post) ((append_go hdn hgd (by omega)).trans (step_off hf1)) hxs (by exact O232.sel [4, 6, 5, 0] (by decide))
   ·
    refine ⟨_, rfl, fun _ H227 => ?_⟩
    have O228 : Own w0 w224 [R, Chunk.lmap Try.prog 9 gm ((pre ++ x :: post).map XF.ent), Chunk.files w0.heap.size (pre ++ post), Bk x.g [.slice A' ((x.p.b ++ y).length) c', J x.p.sf] 81, Chunk.row (Kd.int .u8) 5 w0.heap.size S' (.slice A' ((x.p.b ++ y).length) c') (x.p.b ++ y), Bk gd [.map (some gm), J (({ d with fuse := decF d.fuse } : PD).most), J (d.used + (y.length : Int)), J (({ d with fuse := decF d.fuse } : PD).fuse), .bool (({ d with fuse := decF d.fuse } : PD).down)] 76] := Own.unbundle (A := [R, Chunk.lmap Try.prog 9 gm ((pre ++ x :: post).map XF.ent), Chunk.files w0.heap.size (pre ++ post)]) (L := [Bk x.g [.slice A' ((x.p.b ++ y).length) c', J x.p.sf] 81, Chunk.row (Kd.int .u8) 5 w0.heap.size S' (.slice A' ((x.p.b ++ y).length) c') (x.p.b ++ y), Bk gd [.map (some gm), J (({ d with fuse := decF d.fuse } : PD).most), J (d.used + (y.length : Int)), J (({ d with fuse := decF d.fuse } : PD).fuse), .bool (({ d with fuse := decF d.fuse } : PD).down)] 76]) hb225
    clear O229 hb225
    clear H222 O210
    refine V H227 (op_assign rfl (H227.ev rfl)) ?_
    intro _ H234; clear H227
    refine wpList_nil ?_
    refine gw_nx (hK218 _ _ ?_)
    refine wp_ret ?_
    refine gw_ret1 H234 rfl rfl ?_
    have O235 := Own.file_close (x := (⟨⟨x.p.nm, x.p.b ++ y, x.p.sf⟩, x.g, A', c', S'⟩ : XF)) (pre := pre) (post := post) (by exact O228.sel [3, 4, 2, 0, 1, 5] (by decide))
    have el_ : (pre ++ x :: post).map XF.ent = (pre ++ (⟨⟨x.p.nm, x.p.b ++ y, x.p.sf⟩, x.g, A', c', S'⟩ : XF) :: post).map XF.ent := by simp [XF.ent]
    rw [el_] at O235
    exact disk_fin (gd := gd) (gm := gm) (d' := _) (xs := pre ++ (⟨⟨x.p.nm, x.p.b ++ y, x.p.sf⟩, x.g, A', c', S'⟩ : XF) :: post) ((append_go hdn hgd (by omega)).trans (step_on hf1 hfu.1)) (by show _ = updF nm _ d.fs; rw [← hxs, upd_mid hnm hoth]; simp) (by exact O235.sel [1, 3, 2, 0] (by decide))
set_option maxHeartbeats 4000000 in
set_option maxRecDepth 100000 in
theorem sync1 (w0 w : World) (R : Chunk) (gd gm : Nat) (d : PD) (x : XF) (bf : Nat) (HO : Own w0 w [R, Bk gd [.map (some gm), .int .i64 d.most, .int .i64 d.used, .int .i64 d.fuse, .bool d.down] 76, Bk x.g [.slice x.A x.p.b.length x.c, .int .i64 x.p.sf] 81, Bk bf [.pointer (some ⟨x.g, 0, none⟩)] 78]) :
    Calls Try.prog 44 #[.pointer (some ⟨bf, 0, none⟩)] w fun e w' => e = .returned (.tuple #[]) ∧ Own w0 w' [R, Chunk.blk x.g (.cells #[.slice x.A (x.p.b).length x.c, .int .i64 (x.p.b.length : Int)] 81 (0, 0)), Chunk.blk gd (.cells (dcells gm d) 76 (0, 0))] := by
 refine gw_startO (N := 9) (vs := [.pointer (some ⟨bf, 0, none⟩)]) Try.func44 rfl rfl (by simp) fun a HF => ?_
 refine gx_draw (M := [R, Bk gd [.map (some gm), J d.most, J d.used, J d.fuse, .bool d.down] 76, Bk x.g [.slice x.A x.p.b.length x.c, J x.p.sf] 81, Bk bf [.pointer (some ⟨x.g, 0, none⟩)] 78]) (fun j_ => j_ == 8) HO (by kernel_rfl) fun w1 O2 => ?_
 clear HO
 refine gx_take 0 rfl (by kernel_rfl) HF (by exact O2.sel [0, 1, 2, 3] (by decide)) (want_none rfl) rfl (by decide) (fun wq HO => (op_load1 gwagg78 rfl (HF.ev rfl) (blk_at (HO.get 3 rfl) rfl))) ?_
 intro _ H4; clear HF
 refine gx_take 1 rfl (by kernel_rfl) H4 (by exact O2.sel [0, 1, 2, 3] (by decide)) (want_none rfl) rfl (by decide) (fun wq HO => (op_load1 gwagg78 rfl (H4.ev rfl) (blk_at (HO.get 3 rfl) rfl))) ?_
 intro _ H6; clear H4
 refine gx_take 2 rfl (by kernel_rfl) H6 (by exact O2.sel [0, 1, 2, 3] (by decide)) (want_none rfl) rfl (by decide) (fun wq HO => (op_nil rfl (H6.ev rfl))) ?_
 intro _ H8; clear H6
 refine gx_take 3 rfl (by kernel_rfl) H8 (by exact O2.sel [0, 1, 2, 3] (by decide)) (want_none rfl) rfl (by decide) (fun wq HO => (op_field (gwfld81_0 _ _) rfl (H8.ev rfl))) ?_
 intro _ H10; clear H8
 refine gx_take 4 rfl (by kernel_rfl) H10 (by exact O2.sel [0, 1, 2, 3] (by decide)) (want_none rfl) rfl (by decide) (fun wq HO => (op_load1 gwagg28 rfl (H10.ev rfl) (blk_at (HO.get 2 rfl) rfl))) ?_
 intro _ H12; clear H10
 refine gx_take 5 rfl (by kernel_rfl) H12 (by exact O2.sel [0, 1, 2, 3] (by decide)) (want_none rfl) rfl (by decide) (fun wq HO => (op_len Try.underlying28 rfl (H12.ev rfl))) ?_
 intro _ H14; clear H12
 refine gx_step 6 rfl (by kernel_rfl) ?_
 refine V H14 (op_nil rfl (H14.ev rfl)) ?_
 intro _ H16; clear H14
 refine gx_on (i := 6) (B := (fun j_ => j_ == 8)) (M := [R, Bk gd [.map (some gm), J d.most, J d.used, J d.fuse, .bool d.down] 76, Bk x.g [.slice x.A x.p.b.length x.c, J x.p.sf] 81, Bk bf [.pointer (some ⟨x.g, 0, none⟩)] 78]) (fun _ => (by exact O2.sel [0, 1, 2, 3] (by decide))) ?_
 refine gx_take 7 rfl (by kernel_rfl) H16 (by exact O2.sel [0, 1, 2, 3] (by decide)) (want_none rfl) rfl (by decide) (fun wq HO => (op_field (gwfld81_1 _ _) rfl (H16.ev rfl))) ?_
 intro _ H18; clear H16
 refine gx_step 8 rfl (by kernel_rfl) ?_
 refine gw_set 2 H18 O2 rfl (want_none rfl) rfl (op_store1 gwsiz3 rfl (H18.ev rfl) (H18.ev rfl) rfl (blk_at (O2.get 2 rfl) rfl) (blkf (O2.get 2 rfl))) ?_
 intro _ w21 H20 O22; clear H18 O2
 have O23 : Own w0 w21 [R, Bk gd [.map (some gm), J d.most, J d.used, J d.fuse, .bool d.down] 76, Bk x.g [.slice x.A x.p.b.length x.c, J (x.p.b.length : Int)] 81, Bk bf [.pointer (some ⟨x.g, 0, none⟩)] 78] := O22
 clear O22
 refine gx_on (i := 8) (B := (fun j_ => j_ == 8)) (M := [R, Bk gd [.map (some gm), J d.most, J d.used, J d.fuse, .bool d.down] 76, Bk x.g [.slice x.A x.p.b.length x.c, J x.p.sf] 81, Bk bf [.pointer (some ⟨x.g, 0, none⟩)] 78]) (fun h_ => by cases h_) ?_
 refine gx_done (by kernel_rfl) ?_
 refine gw_end0 H20 rfl ?_
 exact ⟨rfl, O23.sel [0, 2, 1] (by decide)⟩
set_option maxHeartbeats 4000000 in
set_option maxRecDepth 100000 in
theorem sync_calls (w0 w : World) (R : Chunk) (gd : Nat) (S : Nat → Prop) (d : PD) (nm : ByteArray) (hw : wfD d) (hn : nm.size ≤ 9223372036854775807) (HO : Own w0 w [R, Chunk.disk w0.heap.size gd S d]) :
    Calls Try.prog 16 #[.pointer (some ⟨gd, 0, none⟩), .string nm] w fun e w' => e = .returned (.int .i64 (syncD nm d).2) ∧ ∃ S', Own w0 w' [R, Chunk.disk w0.heap.size gd S' (syncD nm d).1] := by
 have hu0 := hw.used
 have hm0 := hw.most
 have hfu := hw.fuse
 obtain ⟨gm, xs, hxs, hon, HO⟩ := disk_open2 HO
 refine gw_startO (N := 19) (vs := [.pointer (some ⟨gd, 0, none⟩), .string nm]) Try.func16 rfl rfl (by simp) fun a HF => ?_
 rcases look3 nm d hxs hon with hdn | ⟨hdn, hl, hgd, hno⟩ | ⟨hdn, pre, x, post, rfl, hnm, hl, hgd, hoth⟩
 ·
  refine gw_seq fun K1 hK1 => ?_
  refine wp_region_lit ?_
  refine V HF (op_assign rfl (ev_c _ _)) ?_
  intro _ H3; clear HF
  refine wpList_nil ?_
  refine gw_nx (hK1 _ _ ?_)
  refine gw_seq fun K4 hK4 => ?_
  refine wp_region_lit ?_
  refine V H3 (op_move rfl (H3.ev rfl)) ?_
  intro _ H6; clear H3
  refine V H6 (op_move rfl (H6.ev rfl)) ?_
  intro _ H8; clear H6
  refine gw_call H8 (want_none rfl) rfl (by decide) (op_callL Try.func42 (by kernel_rfl) rfl rfl (ar_cons (H8.ev rfl) (ar_cons (H8.ev rfl) ar_nil))) (find_down gd gm d nm (xs.map XF.ent) _ (by exact HO.get 1 rfl) (HO.get 2 rfl) hdn hn) ?_
  rintro e9 w10 ⟨rfl, hb11⟩
  refine ⟨_, rfl, fun _ H13 => ?_⟩
  have O14 := HO.after hb11
  clear H8 HO hb11
  refine V H13 (op_move rfl (H13.ev rfl)) ?_
  intro _ H17; clear H13
  refine V H17 (op_extract rfl (H17.ev rfl) rfl) ?_
  intro _ H19; clear H17
  refine V H19 (op_extract rfl (H19.ev rfl) rfl) ?_
  intro _ H21; clear H19
  refine gw_new H21 O14 (want_none rfl) rfl (by decide) (op_alloc gwzer78 rfl) ?_
  intro g22 _ w24 H25 O26; clear H21 O14
  have O27 : Own w0 w24 [Bk g22 [.pointer none] 78, R, Bk gd [.map (some gm), J d.most, J d.used, J d.fuse, .bool d.down] 76, Chunk.lmap Try.prog 9 gm (xs.map XF.ent), Chunk.files w0.heap.size xs] := O26
  clear O26
  refine gw_set 0 H25 O27 rfl (want_none rfl) rfl (op_store1 gwsiz78 rfl (H25.ev rfl) (H25.ev rfl) rfl (blk_at (O27.get 0 rfl) rfl) (blkf (O27.get 0 rfl))) ?_
  intro _ w30 H29 O31; clear H25 O27
  have O32 : Own w0 w30 [Bk g22 [.pointer none] 78, R, Bk gd [.map (some gm), J d.most, J d.used, J d.fuse, .bool d.down] 76, Chunk.lmap Try.prog 9 gm (xs.map XF.ent), Chunk.files w0.heap.size xs] := O31
  clear O31
  refine V H29 (op_assign rfl (H29.ev rfl)) ?_
  intro _ H34; clear H29
  refine wpList_nil ?_
  refine gw_nx (hK4 _ _ ?_)
  refine gw_seq fun K35 hK35 => ?_
  refine gw_seq fun K36 hK36 => ?_
  refine wp_region_lit ?_
  refine V H34 (op_move rfl (H34.ev rfl)) ?_
  intro _ H38; clear H34
  refine V H38 (op_nei rfl (H38.ev rfl) (ev_c _ _)) ?_
  intro _ H40; clear H38
  have H41 := H40.lit (b := true) (by decide)
  clear H40
  refine wpList_nil ?_
  refine gw_nx (hK36 _ _ ?_)
  refine gw_cond H41 rfl (fun hb42 => ?_) (fun hb42 => ?_)
  rotate_left
  ·
   cases hb42
  refine gw_seq fun K43 hK43 => ?_
  refine wp_region_lit ?_
  refine V H41 (op_move rfl (H41.ev rfl)) ?_
  intro _ H45; clear H41
  refine V H45 (op_assign rfl (H45.ev rfl)) ?_
  intro _ H47; clear H45
  refine wpList_nil ?_
  refine gw_nx (hK43 _ _ ?_)
  refine wp_ret ?_
  refine gw_thr ?_
  refine gw_ret1 H47 rfl rfl ?_
  exact disk_fin (gd := gd) (gm := gm) (d' := d) (xs := xs) (with_down hdn) hxs (by exact O32.sel [1, 2, 3, 4] (by decide))
 ·
  refine gw_seq fun K48 hK48 => ?_
  refine wp_region_lit ?_
  refine V HF (op_assign rfl (ev_c _ _)) ?_
  intro _ H50; clear HF
  refine wpList_nil ?_
  refine gw_nx (hK48 _ _ ?_)
  refine gw_seq fun K51 hK51 => ?_
  refine wp_region_lit ?_
  refine V H50 (op_move rfl (H50.ev rfl)) ?_
  intro _ H53; clear H50
  refine V H53 (op_move rfl (H53.ev rfl)) ?_
  intro _ H55; clear H53
  refine gw_call H55 (want_none rfl) rfl (by decide) (op_callL Try.func42 (by kernel_rfl) rfl rfl (ar_cons (H55.ev rfl) (ar_cons (H55.ev rfl) ar_nil))) (find_none gd gm d nm (xs.map XF.ent) _ (by exact HO.get 1 rfl) (HO.get 2 rfl) hdn hl hn) ?_
  rintro e56 w57 ⟨rfl, hb58⟩
  refine ⟨_, rfl, fun _ H60 => ?_⟩
  have O61 := HO.after hb58
  clear H55 HO hb58
  refine V H60 (op_move rfl (H60.ev rfl)) ?_
  intro _ H64; clear H60
  refine V H64 (op_extract rfl (H64.ev rfl) rfl) ?_
  intro _ H66; clear H64
  refine V H66 (op_extract rfl (H66.ev rfl) rfl) ?_
  intro _ H68; clear H66
  refine gw_new H68 O61 (want_none rfl) rfl (by decide) (op_alloc gwzer78 rfl) ?_
  intro g69 _ w71 H72 O73; clear H68 O61
  have O74 : Own w0 w71 [Bk g69 [.pointer none] 78, R, Bk gd [.map (some gm), J d.most, J d.used, J d.fuse, .bool d.down] 76, Chunk.lmap Try.prog 9 gm (xs.map XF.ent), Chunk.files w0.heap.size xs] := O73
  clear O73
  refine gw_set 0 H72 O74 rfl (want_none rfl) rfl (op_store1 gwsiz78 rfl (H72.ev rfl) (H72.ev rfl) rfl (blk_at (O74.get 0 rfl) rfl) (blkf (O74.get 0 rfl))) ?_
  intro _ w77 H76 O78; clear H72 O74
  have O79 : Own w0 w77 [Bk g69 [.pointer none] 78, R, Bk gd [.map (some gm), J d.most, J d.used, J d.fuse, .bool d.down] 76, Chunk.lmap Try.prog 9 gm (xs.map XF.ent), Chunk.files w0.heap.size xs] := O78
  clear O78
  refine V H76 (op_assign rfl (H76.ev rfl)) ?_
  intro _ H81; clear H76
  refine wpList_nil ?_
  refine gw_nx (hK51 _ _ ?_)
  refine gw_seq fun K82 hK82 => ?_
  refine gw_seq fun K83 hK83 => ?_
  refine wp_region_lit ?_
  refine V H81 (op_move rfl (H81.ev rfl)) ?_
  intro _ H85; clear H81
  refine V H85 (op_nei rfl (H85.ev rfl) (ev_c _ _)) ?_
  intro _ H87; clear H85
  have H88 := H87.lit (b := true) (by decide)
  clear H87
  refine wpList_nil ?_
  refine gw_nx (hK83 _ _ ?_)
  refine gw_cond H88 rfl (fun hb89 => ?_) (fun hb89 => ?_)
  rotate_left
  ·
   cases hb89
  refine gw_seq fun K90 hK90 => ?_
  refine wp_region_lit ?_
  refine V H88 (op_move rfl (H88.ev rfl)) ?_
  intro _ H92; clear H88
  refine V H92 (op_assign rfl (H92.ev rfl)) ?_
  intro _ H94; clear H92
  refine wpList_nil ?_
  refine gw_nx (hK90 _ _ ?_)
  refine wp_ret ?_
  refine gw_thr ?_
  refine gw_ret1 H94 rfl rfl ?_
  exact disk_fin (gd := gd) (gm := gm) (d' := d) (xs := xs) (with_none hdn hgd) hxs (by exact O79.sel [1, 2, 3, 4] (by decide))
 ·
  have HO := Own.sel (Own.file_open (Own.sel HO [3, 0, 1, 2] (by decide))) [3, 4, 5, 0, 1, 2] (by decide)
  have hxl := wf_len hw (getF_mem hgd).1
  have hxs1 := hw.sf _ (getF_mem hgd).1
  have O95 : Own w0 w [R, Bk gd [.map (some gm), J d.most, J d.used, J d.fuse, .bool d.down] 76, Chunk.lmap Try.prog 9 gm ((pre ++ x :: post).map XF.ent), Bk x.g [.slice x.A x.p.b.length x.c, J x.p.sf] 81, Chunk.row (Kd.int .u8) 5 w0.heap.size x.S (.slice x.A x.p.b.length x.c) x.p.b, Chunk.files w0.heap.size (pre ++ post)] := HO
  clear HO
  refine gw_seq fun K96 hK96 => ?_
  refine wp_region_lit ?_
  refine V HF (op_assign rfl (ev_c _ _)) ?_
  intro _ H98; clear HF
  refine wpList_nil ?_
  refine gw_nx (hK96 _ _ ?_)
  refine gw_seq fun K99 hK99 => ?_
  refine wp_region_lit ?_
  refine V H98 (op_move rfl (H98.ev rfl)) ?_
  intro _ H101; clear H98
  refine V H101 (op_move rfl (H101.ev rfl)) ?_
  intro _ H103; clear H101
  refine gw_call H103 (want_none rfl) rfl (by decide) (op_callL Try.func42 (by kernel_rfl) rfl rfl (ar_cons (H103.ev rfl) (ar_cons (H103.ev rfl) ar_nil))) (find_some gd gm d nm ((pre ++ x :: post).map XF.ent) x.g _ (by exact O95.get 1 rfl) (O95.get 2 rfl) hdn hl hn) ?_
  rintro e104 w105 ⟨rfl, hb106⟩
  refine ⟨_, rfl, fun _ H108 => ?_⟩
  have O109 := O95.after hb106
  clear H103 O95 hb106
  refine V H108 (op_move rfl (H108.ev rfl)) ?_
  intro _ H112; clear H108
  refine V H112 (op_extract rfl (H112.ev rfl) rfl) ?_
  intro _ H114; clear H112
  refine V H114 (op_extract rfl (H114.ev rfl) rfl) ?_
  intro _ H116; clear H114
  refine gw_new H116 O109 (want_none rfl) rfl (by decide) (op_alloc gwzer78 rfl) ?_
  intro g117 _ w119 H120 O121; clear H116 O109
  have O122 : Own w0 w119 [Bk g117 [.pointer none] 78, R, Bk gd [.map (some gm), J d.most, J d.used, J d.fuse, .bool d.down] 76, Chunk.lmap Try.prog 9 gm ((pre ++ x :: post).map XF.ent), Bk x.g [.slice x.A x.p.b.length x.c, J x.p.sf] 81, Chunk.row (Kd.int .u8) 5 w0.heap.size x.S (.slice x.A x.p.b.length x.c) x.p.b, Chunk.files w0.heap.size (pre ++ post)] := O121
  clear O121
  refine gw_set 0 H120 O122 rfl (want_none rfl) rfl (op_store1 gwsiz78 rfl (H120.ev rfl) (H120.ev rfl) rfl (blk_at (O122.get 0 rfl) rfl) (blkf (O122.get 0 rfl))) ?_
  intro _ w125 H124 O126; clear H120 O122
  have O127 : Own w0 w125 [Bk g117 [.pointer (some ⟨x.g, 0, none⟩)] 78, R, Bk gd [.map (some gm), J d.most, J d.used, J d.fuse, .bool d.down] 76, Chunk.lmap Try.prog 9 gm ((pre ++ x :: post).map XF.ent), Bk x.g [.slice x.A x.p.b.length x.c, J x.p.sf] 81, Chunk.row (Kd.int .u8) 5 w0.heap.size x.S (.slice x.A x.p.b.length x.c) x.p.b, Chunk.files w0.heap.size (pre ++ post)] := O126
  clear O126
  refine V H124 (op_assign rfl (H124.ev rfl)) ?_
  intro _ H129; clear H124
  refine wpList_nil ?_
  refine gw_nx (hK99 _ _ ?_)
  refine gw_seq fun K130 hK130 => ?_
  refine gw_seq fun K131 hK131 => ?_
  refine wp_region_lit ?_
  refine V H129 (op_move rfl (H129.ev rfl)) ?_
  intro _ H133; clear H129
  refine V H133 (op_nei rfl (H133.ev rfl) (ev_c _ _)) ?_
  intro _ H135; clear H133
  have H136 := H135.lit (b := false) (by decide)
  clear H135
  refine wpList_nil ?_
  refine gw_nx (hK131 _ _ ?_)
  refine gw_cond H136 rfl (fun hb137 => ?_) (fun hb137 => ?_)
  skip
  ·
   cases hb137
  refine wp_skip ?_
  refine gw_nx (hK130 _ _ ?_)
  refine gw_seq fun K138 hK138 => ?_
  refine wp_region_lit ?_
  refine V H136 (op_move rfl (H136.ev rfl)) ?_
  intro _ H140; clear H136
  refine V H140 (op_func rfl (ar_cons (H140.ev rfl) ar_nil)) ?_
  intro _ H142; clear H140
  have O149 : Own w0 _ [(Chunk.all [Bk g117 [.pointer (some ⟨x.g, 0, none⟩)] 78, R, Chunk.lmap Try.prog 9 gm ((pre ++ x :: post).map XF.ent), Bk x.g [.slice x.A x.p.b.length x.c, J x.p.sf] 81, Chunk.row (Kd.int .u8) 5 w0.heap.size x.S (.slice x.A x.p.b.length x.c) x.p.b, Chunk.files w0.heap.size (pre ++ post)]), Bk gd [.map (some gm), J d.most, J d.used, J d.fuse, .bool d.down] 76] := Own.bundle (A := [Bk g117 [.pointer (some ⟨x.g, 0, none⟩)] 78, R, Chunk.lmap Try.prog 9 gm ((pre ++ x :: post).map XF.ent), Bk x.g [.slice x.A x.p.b.length x.c, J x.p.sf] 81, Chunk.row (Kd.int .u8) 5 w0.heap.size x.S (.slice x.A x.p.b.length x.c) x.p.b, Chunk.files w0.heap.size (pre ++ post)]) (L := [Bk gd [.map (some gm), J d.most, J d.used, J d.fuse, .bool d.down] 76]) (O127.sel [0, 1, 3, 4, 5, 6, 2] (by decide))
  refine gw_call H142 (want_none rfl) rfl (by decide) (op_callL Try.func40 (by kernel_rfl) rfl rfl (ar_cons (H142.ev rfl) (ar_cons (H142.ev rfl) ar_nil))) (step_calls w0 _ (Chunk.all [Bk g117 [.pointer (some ⟨x.g, 0, none⟩)] 78, R, Chunk.lmap Try.prog 9 gm ((pre ++ x :: post).map XF.ent), Bk x.g [.slice x.A x.p.b.length x.c, J x.p.sf] 81, Chunk.row (Kd.int .u8) 5 w0.heap.size x.S (.slice x.A x.p.b.length x.c) x.p.b, Chunk.files w0.heap.size (pre ++ post)]) gd gm d 44 _ [.pointer (some ⟨g117, 0, none⟩)] (fun w_ => Own w0 w_ [(Chunk.all [R, Chunk.lmap Try.prog 9 gm ((pre ++ x :: post).map XF.ent), Chunk.row (Kd.int .u8) 5 w0.heap.size x.S (.slice x.A x.p.b.length x.c) x.p.b, Chunk.files w0.heap.size (pre ++ post)]), Bk x.g [.slice x.A x.p.b.length x.c, J (x.p.b.length : Int)] 81, Bk gd [.map (some gm), J (({ d with fuse := decF d.fuse } : PD).most), J (({ d with fuse := decF d.fuse } : PD).used), J (({ d with fuse := decF d.fuse } : PD).fuse), .bool (({ d with fuse := decF d.fuse } : PD).down)] 76]) Try.func44 (by kernel_rfl) rfl hfu (fun hf1 w1 h_ => sync1 w0 w1 (Chunk.all [R, Chunk.lmap Try.prog 9 gm ((pre ++ x :: post).map XF.ent), Chunk.row (Kd.int .u8) 5 w0.heap.size x.S (.slice x.A x.p.b.length x.c) x.p.b, Chunk.files w0.heap.size (pre ++ post)]) gd gm ({ d with fuse := decF d.fuse } : PD) x g117 (Own.bundle (A := [R, Chunk.lmap Try.prog 9 gm ((pre ++ x :: post).map XF.ent), Chunk.row (Kd.int .u8) 5 w0.heap.size x.S (.slice x.A x.p.b.length x.c) x.p.b, Chunk.files w0.heap.size (pre ++ post)]) (L := [Bk gd [.map (some gm), J (({ d with fuse := decF d.fuse } : PD).most), J (({ d with fuse := decF d.fuse } : PD).used), J (({ d with fuse := decF d.fuse } : PD).fuse), .bool (({ d with fuse := decF d.fuse } : PD).down)] 76, Bk x.g [.slice x.A x.p.b.length x.c, J x.p.sf] 81, Bk g117 [.pointer (some ⟨x.g, 0, none⟩)] 78]) ((Own.unbundle (A := [Bk g117 [.pointer (some ⟨x.g, 0, none⟩)] 78, R, Chunk.lmap Try.prog 9 gm ((pre ++ x :: post).map XF.ent), Bk x.g [.slice x.A x.p.b.length x.c, J x.p.sf] 81, Chunk.row (Kd.int .u8) 5 w0.heap.size x.S (.slice x.A x.p.b.length x.c) x.p.b, Chunk.files w0.heap.size (pre ++ post)]) (L := [Bk gd [.map (some gm), J (({ d with fuse := decF d.fuse } : PD).most), J (({ d with fuse := decF d.fuse } : PD).used), J (({ d with fuse := decF d.fuse } : PD).fuse), .bool (({ d with fuse := decF d.fuse } : PD).down)] 76]) (by exact h_)).sel [1, 2, 4, 5, 6, 3, 0] (by decide)))) (by exact O149)) ?_
  rintro e143 w144 (⟨hf1, rfl, hb145⟩ | ⟨hf1, rfl, hb145⟩)
  ·
   refine ⟨_, rfl, fun _ H147 => ?_⟩
   have O148 : Own w0 w144 [Bk g117 [.pointer (some ⟨x.g, 0, none⟩)] 78, R, Chunk.lmap Try.prog 9 gm ((pre ++ x :: post).map XF.ent), Bk x.g [.slice x.A x.p.b.length x.c, J x.p.sf] 81, Chunk.row (Kd.int .u8) 5 w0.heap.size x.S (.slice x.A x.p.b.length x.c) x.p.b, Chunk.files w0.heap.size (pre ++ post), Bk gd [.map (some gm), J d.most, J d.used, J 0, .bool true] 76] := Own.unbundle (A := [Bk g117 [.pointer (some ⟨x.g, 0, none⟩)] 78, R, Chunk.lmap Try.prog 9 gm ((pre ++ x :: post).map XF.ent), Bk x.g [.slice x.A x.p.b.length x.c, J x.p.sf] 81, Chunk.row (Kd.int .u8) 5 w0.heap.size x.S (.slice x.A x.p.b.length x.c) x.p.b, Chunk.files w0.heap.size (pre ++ post)]) (L := [Bk gd [.map (some gm), J d.most, J d.used, J 0, .bool true] 76]) (by exact hb145)
   clear O149 hb145
   clear H142 O127
   refine V H147 (op_assign rfl (H147.ev rfl)) ?_
   intro _ H151; clear H147
   refine wpList_nil ?_
   refine gw_nx (hK138 _ _ ?_)
   refine wp_ret ?_
   refine gw_ret1 H151 rfl rfl ?_
   have O152 := Own.file_close (x := x) (pre := pre) (post := post) (by exact O148.sel [3, 4, 5, 0, 1, 2, 6] (by decide))
   exact disk_fin (gd := gd) (gm := gm) (d' := { d with fuse := 0, down := true }) (xs := pre ++ x :: post) ((sync_go hdn hgd).trans (step_off hf1)) hxs (by exact O152.sel [2, 4, 3, 0] (by decide))
  ·
   refine ⟨_, rfl, fun _ H147 => ?_⟩
   have O148 : Own w0 w144 [R, Chunk.lmap Try.prog 9 gm ((pre ++ x :: post).map XF.ent), Chunk.row (Kd.int .u8) 5 w0.heap.size x.S (.slice x.A x.p.b.length x.c) x.p.b, Chunk.files w0.heap.size (pre ++ post), Bk x.g [.slice x.A x.p.b.length x.c, J (x.p.b.length : Int)] 81, Bk gd [.map (some gm), J (({ d with fuse := decF d.fuse } : PD).most), J (({ d with fuse := decF d.fuse } : PD).used), J (({ d with fuse := decF d.fuse } : PD).fuse), .bool (({ d with fuse := decF d.fuse } : PD).down)] 76] := Own.unbundle (A := [R, Chunk.lmap Try.prog 9 gm ((pre ++ x :: post).map XF.ent), Chunk.row (Kd.int .u8) 5 w0.heap.size x.S (.slice x.A x.p.b.length x.c) x.p.b, Chunk.files w0.heap.size (pre ++ post)]) (L := [Bk x.g [.slice x.A x.p.b.length x.c, J (x.p.b.length : Int)] 81, Bk gd [.map (some gm), J (({ d with fuse := decF d.fuse } : PD).most), J (({ d with fuse := decF d.fuse } : PD).used), J (({ d with fuse := decF d.fuse } : PD).fuse), .bool (({ d with fuse := decF d.fuse } : PD).down)] 76]) hb145
   clear O149 hb145
   clear H142 O127
   refine V H147 (op_assign rfl (H147.ev rfl)) ?_
   intro _ H154; clear H147
   refine wpList_nil ?_
   refine gw_nx (hK138 _ _ ?_)
   refine wp_ret ?_
   refine gw_ret1 H154 rfl rfl ?_
   have O155 := Own.file_close (x := (⟨⟨x.p.nm, x.p.b, (x.p.b.length : Int)⟩, x.g, x.A, x.c, x.S⟩ : XF)) (pre := pre) (post := post) (by exact O148.sel [4, 2, 3, 0, 1, 5] (by decide))
   have el_ : (pre ++ x :: post).map XF.ent = (pre ++ (⟨⟨x.p.nm, x.p.b, (x.p.b.length : Int)⟩, x.g, x.A, x.c, x.S⟩ : XF) :: post).map XF.ent := by simp [XF.ent]
   rw [el_] at O155
   exact disk_fin (gd := gd) (gm := gm) (d' := _) (xs := pre ++ (⟨⟨x.p.nm, x.p.b, (x.p.b.length : Int)⟩, x.g, x.A, x.c, x.S⟩ : XF) :: post) ((sync_go hdn hgd).trans (step_on hf1 hfu.1)) (by show _ = updF nm _ d.fs; rw [← hxs, upd_mid hnm hoth]; simp) (by exact O155.sel [1, 3, 2, 0] (by decide))
end GVfs2_
export GVfs2_ (append1 append_calls sync1 sync_calls)
end Go.Proofs.Ytkdahjnmldeklaa.PA
end
