/- What this claim uses of this session's own texts, put together by a program: PAx0 HOwn HGw HGw2 HDraw HObj HLazy HNrow HGlob HShort HStr PAx2 PAx3 PAx4 PAx5 PAx8 PAx9 HGlobP HGlobC HFlat HSortS LaySort HGlobS GRanges. -/
import Derived.Test.YtelbgmpeghhakaaGreatKGlobMatchesW0
import Derived.WalkLawsBesides
import Derived.WalkSpells
import Derived.Deep.Quiet
import Derived.Lib.SlBytesConst
import Derived.Shelf.SlSortCmp.WholeK
import Derived.Shelf.SlSortCmp.NoneTotal
import Derived.Recover
import Derived.Shelf.Small.Bits
import Derived.Shelf.Strconv.Itoa0
import Derived.Shelf.Strings.Search1
import Derived.Shelf.Strings.Search2
import Derived.Shelf.Strings.Search3
import Derived.Shelf.Strings.Count
import Derived.Shelf.LaysM
import Derived.Shelf.Strings.Shaped
import Derived.Laws.Cover3
import Derived.Tactics2
import Derived.Defers
import Derived.Laws.Pointers
import Derived.Laws.LoneSync
import Derived.RegionTactic
import Derived.RegionCalls
import Derived.ChangeAlike
import Derived.Laws.Concat
import Derived.Deep.Slices
import Derived.ChangeArms
import Derived.WideShapes
import Derived.DataReads
import Derived.DataElems
import Derived.ProofKit
import Derived.OpenShut
import Derived.ShutString
import Derived.ChangeOld
import Derived.SizedLaws
import Derived.JoinedCond
import Derived.Carry
import Derived.Deep.CondSized
import Derived.Test.YtelbgmpeghhakaaGreatProg
import Derived.Test.YtelbgmpeghhakaaGreatRows
section
namespace Go.Proofs.YtelbgmpeghhakaaGreat.PA
open Go.RowKit Go.Proofs.YtelbgmpeghhakaaGreatW.PrintWords Go.Proofs.YtelbgmpeghhakaaGreatW.PrintLast Go.Proofs.YtelbgmpeghhakaaGreatW.PrintMore
attribute [local go_sem] max2_int min2_int max_two min_two max_three min_three max_four min_four   -- for this text's walks alone
set_option linter.unusedVariables false
set_option linter.unusedSimpArgs false
def errW : Option Int → Value
  | none => .nilIface
  | some c => .iface 0 (.int .i64 c)
theorem errW_none : errW none = .nilIface := rfl
theorem errW_some (c : Int) : errW (some c) = .iface 0 (.int .i64 c) := rfl
theorem info4 : (Tryz.prog.info? 4).map (fun i => (i.zero, i.size, i.bytes)) = some (some (.bool false), 1, 1) := by kernel_rfl
theorem info35 : (Tryz.prog.info? 35).map (fun i => (i.zero, i.size, i.bytes)) = some (some (.slice none 0 0), 1, 24) := by kernel_rfl
structure S55 where
  f0 : Int
  f1 : Int
def z55 : S55 := ⟨(0 : Int), (0 : Int)⟩
def k55 : Kd S55 := Kd.iso (Kd.pair (Kd.int .u8) (Kd.int .u8)) (fun x : S55 => (x.f0, x.f1))
theorem k55_open {w : World} {x : S55} {cs : List Value} (h : k55.K w x cs) : cs = [.int .u8 x.f0, .int .u8 x.f1] := by
  obtain ⟨_, _, rfl, rfl, rfl⟩ := h
  exact rfl
theorem k55_mk (w : World) (x : S55)  : k55.K w x [.int .u8 x.f0, .int .u8 x.f1] := ⟨[.int .u8 x.f0], [.int .u8 x.f1], rfl, rfl, rfl⟩
theorem k55_mkM (w : World) (base : Nat) (ok : Nat → Prop) (x : S55)  : k55.M w base ok x [.int .u8 x.f0, .int .u8 x.f1] := ⟨[.int .u8 x.f0], [.int .u8 x.f1], rfl, rfl, rfl⟩
theorem k55_mkF (W : World) (ok : Nat → Prop) (x : S55) : Kd.FK k55 W ok x [.int .u8 x.f0, .int .u8 x.f1] := fun W2 _ => k55_mk W2 x
structure S26 where
  f0 : Int
  f1 : (List S55)
  f2 : (List S26)
def z26 : S26 := ⟨(0 : Int), ([] : List S55), ([] : List S26)⟩
def F26 (d : Kd S26) : Kd S26 := Kd.iso (Kd.pair (Kd.int .i64) (Kd.pair (Kd.slice 55 k55) (Kd.slice 26 d))) (fun x : S26 => (x.f0, x.f1, x.f2))
theorem mono26 : Kd.Mono F26 := Kd.mono_iso _ (Kd.mono_pair (Kd.mono_const _) (Kd.mono_pair (Kd.mono_const _) (Kd.mono_slice 26 Kd.mono_id)))
theorem sub26 : Kd.Sub F26 [26, 55] := Kd.sub_iso _ (Kd.sub_pair (Kd.sub_const _ (by decide)) (Kd.sub_pair (Kd.sub_const _ (by decide)) (Kd.sub_slice 26 (by decide) Kd.sub_id)))
theorem sz26 : ∀ n, (Kd.upto F26 3 [26, 55] n).sz = 3 := Kd.upto_sz (fun _ => rfl)
def k26 : Kd S26 := Kd.fix F26 3 [26, 55] sz26 (Kd.upto_E sub26)
theorem k26_open {w : World} {x : S26} {cs : List Value} (h : k26.K w x cs) : ∃ A1 c1 A2 c2, cs = [.int .i64 x.f0, .slice A1 x.f1.length c1, .slice A2 x.f2.length c2] ∧ x.f1.length ≤ c1 ∧ k55.C w A1 x.f1.length x.f1 ∧ x.f2.length ≤ c2 ∧ k26.C w A2 x.f2.length x.f2 := by
  obtain ⟨n, h⟩ := h
  cases n with
  | zero => exact h.elim
  | succ n =>
    obtain ⟨_, _, rfl, rfl, ⟨_, _, rfl, ⟨A1, c1, rfl, l1, g1⟩, ⟨A2, c2, rfl, l2, g2⟩⟩⟩ := h
    exact ⟨A1, c1, A2, c2, rfl, l1, g1, l2, Kd.fix_C g2⟩
theorem k26_mk (w : World) (x : S26) {A1 : Option Addr} {c1 : Nat} (l1 : x.f1.length ≤ c1) (g1 : k55.C w A1 x.f1.length x.f1) {A2 : Option Addr} {c2 : Nat} (l2 : x.f2.length ≤ c2) (g2 : k26.C w A2 x.f2.length x.f2) : k26.K w x [.int .i64 x.f0, .slice A1 x.f1.length c1, .slice A2 x.f2.length c2] := by
  obtain ⟨n2, q2⟩ := Kd.fix_C_back mono26 g2
  have r2 := Kd.upto_C_le mono26 sz26 (show n2 ≤ n2 by omega) q2
  exact ⟨n2 + 1, ⟨[.int .i64 x.f0], [.slice A1 x.f1.length c1, .slice A2 x.f2.length c2], rfl, rfl, ⟨[.slice A1 x.f1.length c1], [.slice A2 x.f2.length c2], rfl, ⟨A1, c1, rfl, l1, g1⟩, ⟨A2, c2, rfl, l2, r2⟩⟩⟩⟩
theorem k26_openF {W : World} {ok : Nat → Prop} {x : S26} {cs : List Value} (h : Kd.FK k26 W ok x cs) : ∃ A1 c1 A2 c2, cs = [.int .i64 x.f0, .slice A1 x.f1.length c1, .slice A2 x.f2.length c2] ∧ x.f1.length ≤ c1 ∧ Kd.F k55 W ok A1 x.f1.length x.f1 ∧ x.f2.length ≤ c2 ∧ Kd.F k26 W ok A2 x.f2.length x.f2 := by
  obtain ⟨A1, c1, A2, c2, rfl, l1, _, l2, _⟩ := k26_open (Kd.FK_now h)
  exact ⟨A1, c1, A2, c2, rfl, l1, (fun W' hW => by obtain ⟨A1_, c1_, A2_, c2_, he, l1_, g1_, l2_, g2_⟩ := k26_open (h W' hW); injection (Option.some.inj (show some (Value.slice A1 x.f1.length c1) = some (Value.slice A1_ x.f1.length c1_) from congrArg (fun l => l[1]?) he)) with ha_ _ _; rw [ha_]; exact g1_), l2, (fun W' hW => by obtain ⟨A1_, c1_, A2_, c2_, he, l1_, g1_, l2_, g2_⟩ := k26_open (h W' hW); injection (Option.some.inj (show some (Value.slice A2 x.f2.length c2) = some (Value.slice A2_ x.f2.length c2_) from congrArg (fun l => l[2]?) he)) with ha_ _ _; rw [ha_]; exact g2_)⟩
theorem k26_mkF (W : World) (ok : Nat → Prop) (x : S26) {A1 : Option Addr} {c1 : Nat} (l1 : x.f1.length ≤ c1) (g1 : Kd.F k55 W ok A1 x.f1.length x.f1) {A2 : Option Addr} {c2 : Nat} (l2 : x.f2.length ≤ c2) (g2 : Kd.F k26 W ok A2 x.f2.length x.f2) : Kd.FK k26 W ok x [.int .i64 x.f0, .slice A1 x.f1.length c1, .slice A2 x.f2.length c2] := fun W2 hW => k26_mk W2 x l1 (g1 W2 hW) l2 (g2 W2 hW)
end Go.Proofs.YtelbgmpeghhakaaGreat.PA
end
section
namespace Go.Proofs.YtelbgmpeghhakaaGreat.PA
open Go.RowKit Go.Proofs.YtelbgmpeghhakaaGreatW.PrintWords Go.Proofs.YtelbgmpeghhakaaGreatW.PrintLast Go.Proofs.YtelbgmpeghhakaaGreatW.PrintMore
set_option linter.unusedVariables false
set_option linter.unusedSimpArgs false
structure Chunk where
  S : Nat → Prop
  P : World → Prop
  move : ∀ {w w' : World}, P w → (∀ k, S k → w'.heap[k]? = w.heap[k]?) → P w'
structure Own (w0 w : World) (L : List Chunk) : Prop where
  below : Below w0.heap.size w0 w
  holds : ∀ c ∈ L, c.P w
  inside : ∀ c ∈ L, ∀ k, c.S k → w0.heap.size ≤ k ∧ k < w.heap.size
  apart : L.Pairwise (fun c d => ∀ k, c.S k → ¬ d.S k)
structure Out (w w' : World) (S : Nat → Prop) (L : List Chunk) : Prop where
  os : w'.os = w.os
  tape : w'.tape = w.tape
  output : w'.output = w.output
  size : w.heap.size ≤ w'.heap.size
  block : ∀ k, k < w.heap.size → ¬ S k → w'.heap[k]? = w.heap[k]?
  holds : ∀ c ∈ L, c.P w'
  inside : ∀ c ∈ L, ∀ k, c.S k → (S k ∨ w.heap.size ≤ k) ∧ k < w'.heap.size
  apart : L.Pairwise (fun c d => ∀ k, c.S k → ¬ d.S k)
section
variable {w0 w w' : World} {L cs : List Chunk} {c c' : Chunk}
theorem Own.start (w : World) : Own w w [] := ⟨Below.refl _ _, fun _ h => by simp at h, fun _ h => by simp at h, List.Pairwise.nil⟩
theorem Own.get (h : Own w0 w L) (i : Nat) (hi : L[i]? = some c) : c.P w := h.holds c (List.mem_of_getElem? hi)
theorem Own.lt (h : Own w0 w L) (i : Nat) (hi : L[i]? = some c) {k : Nat} (hk : c.S k) : w0.heap.size ≤ k ∧ k < w.heap.size := h.inside c (List.mem_of_getElem? hi) k hk
theorem pw_mid {R : Chunk → Chunk → Prop} (hs : ∀ a b, R a b → R b a) : ∀ {L : List Chunk}, L.Pairwise R → ∀ (i j : Nat) (a b : Chunk), i ≠ j → L[i]? = some a → L[j]? = some b → R a b := by
  intro L h i j a b hij ha hb
  obtain ⟨hi, rfl⟩ := List.getElem?_eq_some_iff.1 ha
  obtain ⟨hj, rfl⟩ := List.getElem?_eq_some_iff.1 hb
  rcases Nat.lt_or_gt_of_ne hij with hlt | hlt
  · exact List.pairwise_iff_getElem.1 h i j hi hj hlt
  · exact hs _ _ (List.pairwise_iff_getElem.1 h j i hj hi hlt)
theorem ap_symm (a b : Chunk) (h : ∀ k, a.S k → ¬ b.S k) : ∀ k, b.S k → ¬ a.S k := fun k hb ha => h k ha hb
theorem Own.apart_at (h : Own w0 w L) (i j : Nat) (hij : i ≠ j) (hi : L[i]? = some c) (hj : L[j]? = some c') : ∀ k, c.S k → ¬ c'.S k :=
  pw_mid ap_symm h.apart i j c c' hij hi hj
theorem Own.calls (h : Own w0 w L) (i : Nat) (hi : L[i]? = some c) (ho : Out w w' c.S (c' :: cs)) : Own w0 w' (cs ++ L.set i c') := by
  have hlt : i < L.length := (List.getElem?_eq_some_iff.1 hi).1
  have old : ∀ (j : Nat) (d : Chunk), j ≠ i → L[j]? = some d → ∀ k, d.S k → w'.heap[k]? = w.heap[k]? := fun j d hj hd k hk =>
    ho.block k (h.lt j hd hk).2 (fun hc => h.apart_at j i hj hd hi k hk hc)
  have mem_set : ∀ d, d ∈ L.set i c' → d = c' ∨ ∃ j, j ≠ i ∧ L[j]? = some d := by
    intro d hd
    obtain ⟨j, hj⟩ := List.mem_iff_getElem?.1 hd
    by_cases e : j = i
    · subst e
      rw [List.getElem?_set_self hlt] at hj
      exact .inl (Option.some.inj hj).symm
    · rw [List.getElem?_set_ne (fun h => e h.symm)] at hj
      exact .inr ⟨j, e, hj⟩
  have ahead : ∀ a, a ∈ c' :: cs → ∀ (j : Nat) (d : Chunk), j ≠ i → L[j]? = some d → ∀ k, a.S k → ¬ d.S k := by
    intro a ha j d hj hd k hk hdk
    have h1 := (h.lt j hd hdk).2
    rcases (ho.inside a ha k hk).1 with h2 | h2
    · exact h.apart_at j i hj hd hi k hdk h2
    · omega
  have hcs := List.pairwise_cons.1 ho.apart
  refine ⟨⟨ho.os.trans h.below.os, ho.tape.trans h.below.tape, ho.output.trans h.below.output, Nat.le_trans h.below.size ho.size, fun k hk => ?_⟩, ?_, ?_, ?_⟩
  · exact (ho.block k (Nat.lt_of_lt_of_le hk h.below.size) (fun hc => by have := (h.lt i hi hc).1; omega)).trans (h.below.block k hk)
  · intro d hd
    rcases List.mem_append.1 hd with hd | hd
    · exact ho.holds d (List.mem_cons_of_mem _ hd)
    · rcases mem_set d hd with rfl | ⟨j, hj, hd⟩
      · exact ho.holds _ (List.mem_cons_self ..)
      · exact d.move (h.get j hd) (old j d hj hd)
  · intro d hd k hk
    have new : ∀ a, a ∈ c' :: cs → a.S k → w0.heap.size ≤ k ∧ k < w'.heap.size := by
      intro a ha hk
      have h1 := ho.inside a ha k hk
      refine ⟨?_, h1.2⟩
      rcases h1.1 with h2 | h2
      · exact (h.lt i hi h2).1
      · exact Nat.le_trans h.below.size h2
    rcases List.mem_append.1 hd with hd | hd
    · exact new d (List.mem_cons_of_mem _ hd) hk
    · rcases mem_set d hd with rfl | ⟨j, hj, hd⟩
      · exact new _ (List.mem_cons_self ..) hk
      · have := h.lt j hd hk
        exact ⟨this.1, Nat.lt_of_lt_of_le this.2 ho.size⟩
  · refine List.pairwise_append.2 ⟨hcs.2, ?_, ?_⟩
    · refine List.pairwise_iff_getElem.2 fun p q hp hq hpq => ?_
      have e1 : (L.set i c')[p]? = some (L.set i c')[p] := List.getElem?_eq_getElem hp
      have e2 : (L.set i c')[q]? = some (L.set i c')[q] := List.getElem?_eq_getElem hq
      by_cases hpi : p = i
      · subst hpi
        rw [List.getElem?_set_self hlt] at e1
        rw [List.getElem?_set_ne (by omega)] at e2
        rw [← Option.some.inj e1]
        exact ahead _ (List.mem_cons_self ..) q _ (by omega) e2
      · rw [List.getElem?_set_ne (fun h => hpi h.symm)] at e1
        by_cases hqi : q = i
        · subst hqi
          rw [List.getElem?_set_self hlt] at e2
          rw [← Option.some.inj e2]
          exact ap_symm _ _ (ahead _ (List.mem_cons_self ..) p _ hpi e1)
        · rw [List.getElem?_set_ne (fun h => hqi h.symm)] at e2
          exact h.apart_at p q (by omega) e1 e2
    · intro a ha b hb
      rcases mem_set b hb with rfl | ⟨j, hj, hb⟩
      · exact ap_symm _ _ (hcs.1 a ha)
      · exact ahead a (List.mem_cons_of_mem _ ha) j b hj hb
theorem Own.fresh (h : Own w0 w L) (ho : Out w w' (fun _ => False) cs) : Own w0 w' (cs ++ L) := by
  refine ⟨⟨ho.os.trans h.below.os, ho.tape.trans h.below.tape, ho.output.trans h.below.output, Nat.le_trans h.below.size ho.size, fun k hk => ?_⟩, ?_, ?_, ?_⟩
  · exact (ho.block k (Nat.lt_of_lt_of_le hk h.below.size) (fun hc => hc)).trans (h.below.block k hk)
  · intro d hd
    rcases List.mem_append.1 hd with hd | hd
    · exact ho.holds d hd
    · exact d.move (h.holds d hd) fun k hk => ho.block k (h.inside d hd k hk).2 (fun hc => hc)
  · intro d hd k hk
    rcases List.mem_append.1 hd with hd | hd
    · have h1 := ho.inside d hd k hk
      exact ⟨Nat.le_trans h.below.size (h1.1.resolve_left (fun hc => hc)), h1.2⟩
    · have h1 := h.inside d hd k hk
      exact ⟨h1.1, Nat.lt_of_lt_of_le h1.2 ho.size⟩
  · refine List.pairwise_append.2 ⟨ho.apart, h.apart, fun a ha b hb k hk hk' => ?_⟩
    have h1 := (ho.inside a ha k hk).1.resolve_left (fun hc => hc)
    have h2 := (h.inside b hb k hk').2
    omega
theorem Out.of_below (h : Below w.heap.size w w') (S : Nat → Prop) : Out w w' S [] :=
  ⟨h.os, h.tape, h.output, h.size, fun k hk _ => h.block k hk, fun _ h => by simp at h, fun _ h => by simp at h, List.Pairwise.nil⟩
theorem Own.after (h : Own w0 w L) (hb : Below w.heap.size w w') : Own w0 w' L := h.fresh (cs := []) (Out.of_below hb _)
theorem Own.drew (h : Own w0 w L) : Own w0 w.drew L := h.after (below_drew (Below.refl _ _))
def Chunk.blk (g : Nat) (o : Obj) : Chunk := ⟨fun k => k = g, fun w => w.heap[g]? = some o, fun h hm => (hm g rfl).trans h⟩
theorem Own.new (h : Own w0 w L) (o : Obj) : Own w0 (w.alloc o) (Chunk.blk w.heap.size o :: L) := by
  refine h.fresh (cs := [Chunk.blk w.heap.size o]) ?_
  have hb := below_alloc (Below.refl w.heap.size w) o
  refine ⟨hb.os, hb.tape, hb.output, hb.size, fun k hk _ => hb.block k hk, ?_, ?_, List.pairwise_singleton _ _⟩
  · intro c hc
    rw [List.mem_singleton.1 hc]
    exact heap_alloc_new w o
  · intro c hc k hk
    rw [List.mem_singleton.1 hc] at hk
    have hk' : k = w.heap.size := hk
    subst hk'
    exact ⟨.inr (Nat.le_refl _), by simp⟩
theorem Own.setBlk {g : Nat} {a : Array Value} {t : TypeId} (h : Own w0 w L) (i : Nat) (hi : L[i]? = some (Chunk.blk g (.cells a t (0, 0)))) (j : Nat) (u : Value) :
    Own w0 (w.setCell ⟨g, j, none⟩ u) (L.set i (Chunk.blk g (.cells (a.setIfInBounds j u) t (0, 0)))) := by
  refine h.calls (cs := []) i hi ?_
  have hg : w.heap[g]? = some (.cells a t (0, 0)) := h.get i hi
  have hl := (h.lt i hi (k := g) rfl).2
  refine ⟨rfl, rfl, rfl, by simp [World.setCell], fun k _ hk => Below.heap_setCell w ⟨g, j, none⟩ u k hk, ?_, ?_, List.pairwise_singleton _ _⟩
  · intro c hc
    rw [List.mem_singleton.1 hc]
    exact blk_set hg j u
  · intro c hc k hk
    rw [List.mem_singleton.1 hc] at hk
    have hk' : k = g := hk
    subst hk'
    exact ⟨.inl rfl, by simpa [World.setCell] using hl⟩
end
section
variable {α : Type}
def Chunk.row (d : Kd α) (e : Nat) (base : Nat) (S : Nat → Prop) (v : Value) (xs : List α) : Chunk := ⟨S, fun w => d.R e w base S v xs, fun h hm => Kd.R_move h hm⟩
variable {d : Kd α} {e base : Nat} {w0 w w' : World} {ok : Nat → Prop} {v : Value} {xs : List α} {L : List Chunk}
theorem Out.row (h : d.R e w' w.heap.size ok v xs) (hb : Below w.heap.size w w') : Out w w' (fun _ => False) [Chunk.row d e w.heap.size (fun k => w.heap.size ≤ k ∧ k < w'.heap.size) v xs] := by
  refine ⟨hb.os, hb.tape, hb.output, hb.size, fun k hk _ => hb.block k hk, ?_, ?_, List.pairwise_singleton _ _⟩
  · intro c hc
    rw [List.mem_singleton.1 hc]
    exact Kd.R_mono (Kd.R_bound h) fun k hk => ⟨hk.2.1, hk.2.2.1⟩
  · intro c hc k hk
    rw [List.mem_singleton.1 hc] at hk
    exact ⟨.inr hk.1, hk.2⟩
end
section
variable {w W W2 : World} {S S2 : Nat → Prop} {L : List Chunk}
theorem Out.refl (w : World) (S : Nat → Prop) : Out w w S [] := Out.of_below (Below.refl _ _) S
theorem Out.then_ (h : Out w W S []) (k : Out W W2 S2 L) (hs : ∀ q, S2 q → S q ∨ w.heap.size ≤ q) : Out w W2 S [] :=
  ⟨k.os.trans h.os, k.tape.trans h.tape, k.output.trans h.output, Nat.le_trans h.size k.size, fun q hq hn => (k.block q (Nat.lt_of_lt_of_le hq h.size) (fun h2 => (hs q h2).elim hn (fun h3 => by omega))).trans (h.block q hq hn),
    fun _ h => by simp at h, fun _ h => by simp at h, List.Pairwise.nil⟩
theorem Out.setCell (h : Out w W S []) {p : Addr} (hp : S p.block ∨ w.heap.size ≤ p.block) (u : Value) : Out w (W.setCell p u) S [] :=
  h.then_ (S2 := fun k => k = p.block) (L := []) ⟨rfl, rfl, rfl, by simp [World.setCell], fun q _ hn => Below.heap_setCell W p u q hn, fun _ h => by simp at h, fun _ h => by simp at h, List.Pairwise.nil⟩ (fun q hq => by rw [hq]; exact hp)
theorem Out.grown (h : Out w W S []) {row : Option Nat} (hg : W.grownBy W2 row) (hr : ∀ k, row = some k → S k ∨ w.heap.size ≤ k) : Out w W2 S [] :=
  h.then_ (S2 := fun k => row = some k) (L := []) ⟨hg.os, hg.tape, hg.output, hg.size, fun q hq hn => hg.block q hq (fun e => hn e.symm), fun _ h => by simp at h, fun _ h => by simp at h, List.Pairwise.nil⟩ hr
theorem Out.one {c : Chunk} (h : Out w W S []) (hP : c.P W) (hin : ∀ k, c.S k → (S k ∨ w.heap.size ≤ k) ∧ k < W.heap.size) : Out w W S [c] :=
  ⟨h.os, h.tape, h.output, h.size, h.block, fun d hd => by rw [List.mem_singleton.1 hd]; exact hP, fun d hd => by rw [List.mem_singleton.1 hd]; exact hin, List.pairwise_singleton _ _⟩
theorem C_int_at {k : IntKind} {A : Option Addr} {n : Nat} {xs : List Int} (h : (Kd.int k).C w A n xs) (hm : 0 < n → ∀ ad, A = some ad → ad.block < w.heap.size → W.heap[ad.block]? = w.heap[ad.block]?) : (Kd.int k).C W A n xs := by
  have hr := (Kd.reads_of_C (d := (0 : Int)) (h1 := fun _ => rfl) h : ReadsOf (Value.int k) (0 : Int) w A n xs)
  refine Kd.C_of_reads (d := (0 : Int)) (h1 := fun _ => rfl) ⟨hr.1, hr.2.1, fun hn => ?_⟩
  obtain ⟨ad, e, hc⟩ := hr.2.2 hn
  refine ⟨ad, e, fun j hj => ?_⟩
  have h0 := hc j hj
  have hb : (ad.add j).block = ad.block := add_block ad j
  have hlt := World.block_lt_of_cell? w _ h0
  rw [hb] at hlt
  have he := hm hn ad e hlt
  rw [← h0]
  exact World.cell?_of_block (by rw [hb]; exact he)
end
end Go.Proofs.YtelbgmpeghhakaaGreat.PA
end
section
namespace Go.Proofs.YtelbgmpeghhakaaGreat.PA
open Go.RowKit Go.Proofs.YtelbgmpeghhakaaGreatW.PrintWords Go.Proofs.YtelbgmpeghhakaaGreatW.PrintLast Go.Proofs.YtelbgmpeghhakaaGreatW.PrintMore
set_option linter.unusedVariables false
set_option linter.unusedSimpArgs false
def look : List (Nat × Value) → Nat → Option Value
  | [], _ => none
  | (d, v) :: F, t => bif Nat.beq d t then some v else look F t
structure FrD (D : List Deferred) (N : Nat) (a : Act) (F : List (Nat × Value)) : Prop where
  defers : a.defers = D
  size : a.tmps.size = N
  at_ : ∀ t v, look F t = some v → a.tmps[t]? = some v
abbrev Fr := FrD []
section
variable {D : List Deferred} {N : Nat} {a : Act} {F : List (Nat × Value)}
theorem FrD.ev (h : FrD D N a F) {t : Nat} {v : Value} (hl : look F t = some v) : a.eval (.tmp t) = v := by
  show a.tmps.getD t undef = v
  rw [Array.getD_eq_getD_getElem?, h.at_ t v hl]
  rfl
theorem ev_c (a : Act) (v : Value) : a.eval (.const v) = v := rfl
theorem FrD.put (h : FrD D N a F) {d : Nat} (hd : d < N) (v : Value) : FrD D N (a.put (some d) v) ((d, v) :: F) := by
  refine ⟨h.defers, by simp [Act.put, h.size], fun t u hl => ?_⟩
  unfold look at hl
  by_cases e : d = t
  · subst e
    have : Nat.beq d d = true := Nat.beq_refl d
    rw [this] at hl
    simp only [cond_true] at hl
    obtain rfl := Option.some.inj hl
    show (a.tmps.setIfInBounds d v)[d]? = some v
    rw [Array.getElem?_setIfInBounds_self_of_lt (by rw [h.size]; exact hd)]
  · have : Nat.beq d t = false := by
      rw [Bool.eq_false_iff]
      intro h2
      exact e (Nat.eq_of_beq_eq_true h2)
    rw [this] at hl
    simp only [cond_false] at hl
    show (a.tmps.setIfInBounds d v)[t]? = some u
    rw [Array.getElem?_setIfInBounds_ne e]
    exact h.at_ t u hl
theorem FrD.nil (h : FrD D N a F) : FrD D N a [] := ⟨h.defers, h.size, fun t v hl => by simp [look] at hl⟩
theorem FrD.pick {F' : List (Nat × Value)} (h : FrD D N a F) {t : Nat} {v : Value} (hl : look F t = some v) (h' : FrD D N a F') : FrD D N a ((t, v) :: F') := by
  refine ⟨h.defers, h.size, fun u x hx => ?_⟩
  unfold look at hx
  by_cases e : t = u
  · subst e
    rw [Nat.beq_refl t] at hx
    simp only [cond_true] at hx
    obtain rfl := Option.some.inj hx
    exact h.at_ t v hl
  · have : Nat.beq t u = false := by
      rw [Bool.eq_false_iff]
      intro h2
      exact e (Nat.eq_of_beq_eq_true h2)
    rw [this] at hx
    exact h'.at_ u x hx
end
def Runs (P : Program) (o : Oper) (a : Act) (w : World) (v : Value) (w1 : World) : Prop := (execOp a.eval o).run P w = .ok (.value v) w1
def Skips (P : Program) (o : Oper) (a : Act) (w : World) (w1 : World) : Prop := (execOp a.eval o).run P w = .ok .skip w1
def Enters (P : Program) (o : Oper) (a : Act) (w : World) (f : FuncId) (args : Array Value) : Prop := (execOp a.eval o).run P w = .ok (.enter f args) w
section
variable {P : Program} {o : Oper} {a : Act} {w : World} {x y : Operand} {t yt : TypeId}
theorem op_move {v : Value} (ho : o.op = .move x) (hx : a.eval x = v) : Runs P o a w v w := by
  unfold Runs execOp
  simp only [ho, hx]
  rfl
theorem op_assign {v : Value} (ho : o.op = .assign x) (hx : a.eval x = v) : Runs P o a w v w := by
  unfold Runs execOp
  simp only [ho, hx]
  rfl
theorem op_pick_t {v : Value} {z : Operand} (ho : o.op = .pick x y z) (hx : a.eval x = .bool true) (hy : a.eval y = v) : Runs P o a w v w := by
  unfold Runs execOp
  simp only [ho, hx, hy]
  simp [go_sem]
theorem op_pick_f {v : Value} {z : Operand} (ho : o.op = .pick x y z) (hx : a.eval x = .bool false) (hy : a.eval z = v) : Runs P o a w v w := by
  unfold Runs execOp
  simp only [ho, hx, hy]
  simp [go_sem]
theorem op_nil {ad : Addr} (ho : o.op = .nilCheck x) (hx : a.eval x = .pointer (some ad)) : Runs P o a w (.pointer (some ad)) w := by
  unfold Runs execOp
  simp only [ho, hx]
  rfl
section
variable {m n : Int} {k : IntKind}
theorem i64_ok {m : Int} (h1 : -9223372036854775808 ≤ m) (h2 : m ≤ 9223372036854775807) : IntKind.i64.wrap m = m := IntWalk.i64_in _ (by omega)
theorem op_addw (ho : o.op = .binOp .add t x y yt) (hx : a.eval x = .int k m) (hy : a.eval y = .int k n) : Runs P o a w (.int k (k.wrap (m + n))) w := by
  unfold Runs execOp
  simp only [ho, hx, hy]
  simp [go_sem]
theorem op_subw (ho : o.op = .binOp .sub t x y yt) (hx : a.eval x = .int k m) (hy : a.eval y = .int k n) : Runs P o a w (.int k (k.wrap (m - n))) w := by
  unfold Runs execOp
  simp only [ho, hx, hy]
  simp [go_sem]
theorem op_mulw (ho : o.op = .binOp .mul t x y yt) (hx : a.eval x = .int k m) (hy : a.eval y = .int k n) : Runs P o a w (.int k (k.wrap (m * n))) w := by
  unfold Runs execOp
  simp only [ho, hx, hy]
  simp [go_sem]
theorem op_add (ho : o.op = .binOp .add t x y yt) (hx : a.eval x = .int .i64 m) (hy : a.eval y = .int .i64 n) (h : -9223372036854775808 ≤ m + n ∧ m + n ≤ 9223372036854775807) : Runs P o a w (.int .i64 (m + n)) w := by
  have := op_addw (P := P) (w := w) ho hx hy
  rwa [i64_ok h.1 h.2] at this
theorem op_sub (ho : o.op = .binOp .sub t x y yt) (hx : a.eval x = .int .i64 m) (hy : a.eval y = .int .i64 n) (h : -9223372036854775808 ≤ m - n ∧ m - n ≤ 9223372036854775807) : Runs P o a w (.int .i64 (m - n)) w := by
  have := op_subw (P := P) (w := w) ho hx hy
  rwa [i64_ok h.1 h.2] at this
theorem op_mul (ho : o.op = .binOp .mul t x y yt) (hx : a.eval x = .int .i64 m) (hy : a.eval y = .int .i64 n) (h : -9223372036854775808 ≤ m * n ∧ m * n ≤ 9223372036854775807) : Runs P o a w (.int .i64 (m * n)) w := by
  have := op_mulw (P := P) (w := w) ho hx hy
  rwa [i64_ok h.1 h.2] at this
theorem op_lss (ho : o.op = .binOp .lss t x y yt) (hx : a.eval x = .int k m) (hy : a.eval y = .int k n) : Runs P o a w (.bool (decide (m < n))) w := by
  unfold Runs execOp
  simp only [ho, hx, hy]
  simp [go_sem]
theorem op_leq (ho : o.op = .binOp .leq t x y yt) (hx : a.eval x = .int k m) (hy : a.eval y = .int k n) : Runs P o a w (.bool (decide (m ≤ n))) w := by
  unfold Runs execOp
  simp only [ho, hx, hy]
  simp [go_sem]
theorem op_gtr (ho : o.op = .binOp .gtr t x y yt) (hx : a.eval x = .int k m) (hy : a.eval y = .int k n) : Runs P o a w (.bool (decide (n < m))) w := by
  unfold Runs execOp
  simp only [ho, hx, hy]
  simp [go_sem]
theorem op_geq (ho : o.op = .binOp .geq t x y yt) (hx : a.eval x = .int k m) (hy : a.eval y = .int k n) : Runs P o a w (.bool (decide (n ≤ m))) w := by
  unfold Runs execOp
  simp only [ho, hx, hy]
  simp [go_sem]
theorem op_eqi (ho : o.op = .binOp .eql t x y yt) (hx : a.eval x = .int k m) (hy : a.eval y = .int k n) : Runs P o a w (.bool (decide (m = n))) w := by
  unfold Runs execOp
  simp only [ho, hx, hy]
  simp [go_sem]
  rfl
theorem op_nei (ho : o.op = .binOp .neq t x y yt) (hx : a.eval x = .int k m) (hy : a.eval y = .int k n) : Runs P o a w (.bool (decide (m ≠ n))) w := by
  unfold Runs execOp
  simp only [ho, hx, hy]
  simp [go_sem]
  rfl
end
section
variable {p q : Bool}
theorem op_eqb (ht : P.underlying t = some .bool) (ho : o.op = .binOp .eql t x y yt) (hx : a.eval x = .bool p) (hy : a.eval y = .bool q) : Runs P o a w (.bool (p == q)) w := by
  unfold Runs execOp
  simp only [ho, hx, hy]
  simp [go_sem, ht]
theorem op_not (ho : o.op = .unOp .not t x) (hx : a.eval x = .bool p) : Runs P o a w (.bool (!p)) w := by
  unfold Runs execOp
  simp only [ho, hx]
  simp [go_sem]
end
section
variable {s u : ByteArray}
theorem op_eqs (ho : o.op = .binOp .eql t x y yt) (hx : a.eval x = .string s) (hy : a.eval y = .string u) : Runs P o a w (.bool (s.toList == u.toList)) w := by
  unfold Runs execOp
  simp only [ho, hx, hy]
  simp [go_sem]
end
theorem op_len {A : Option Addr} {n c : Nat} {e : TypeId} (ht : P.underlying t = some (.slice e)) (ho : o.op = .call { callee := .builtin .len, args := #[x], argTypes := #[t] }) (hx : a.eval x = .slice A n c) : Runs P o a w (.int .i64 n) w := by
  unfold Runs execOp
  simp only [ho, resolve, invoke, builtin, Sem.run_bind, Sem.run_pure, Result.andThen_ok, List.map_toArray, List.map_cons, List.map_nil, hx]
  simp [go_sem, ht]
theorem op_lens {s : ByteArray} (ht : P.underlying t = some .string) (ho : o.op = .call { callee := .builtin .len, args := #[x], argTypes := #[t] }) (hx : a.eval x = .string s) : Runs P o a w (.int .i64 s.size) w := by
  unfold Runs execOp
  simp only [ho, resolve, invoke, builtin, Sem.run_bind, Sem.run_pure, Result.andThen_ok, List.map_toArray, List.map_cons, List.map_nil, hx]
  simp [go_sem, ht]
theorem op_extract {vs : Array Value} {i : Nat} {v : Value} (ho : o.op = .extract x i) (hx : a.eval x = .tuple vs) (hv : vs[i]? = some v) : Runs P o a w v w := by
  unfold Runs execOp
  simp only [ho, hx]
  simp [go_sem, hv]
theorem op_call {f : FuncId} {fn : Func} {args : Array Operand} {tys : Array TypeId} {vs : Array Value} (hf : P.funcs[f]? = some fn) (hname : (fn.name == "runtime.NumGoroutine") = false) (hb : fn.body.isSome = true) (ho : o.op = .call { callee := .value (.func f), args := args, argTypes := tys }) (hv : args.map a.eval = vs) : Enters P o a w f vs := by
  have he := enters_ hf hname hb vs w
  unfold Enters execOp
  simp [ho, resolve, Deferred.ofValue, invoke, Act.eval, hv, he]
theorem op_max {m n : Int} {k : IntKind} (ho : o.op = .call { callee := .builtin .max, args := #[x, y], argTypes := #[t, yt] }) (hx : a.eval x = .int k m) (hy : a.eval y = .int k n) : Runs P o a w (.int k (mx m n)) w := by
  unfold Runs execOp
  simp only [ho, resolve, invoke, builtin, Sem.run_bind, Sem.run_pure, Result.andThen_ok, List.map_toArray, List.map_cons, List.map_nil, hx, hy]
  simp [go_sem, max_two, max2_int, mx]
section
variable {ad : Addr} {v u : Value}
theorem op_load1 (hA : ∀ w, (isAgg t).run P w = .ok false w) (ho : o.op = .load t x) (hx : a.eval x = .pointer (some ad)) (hc : w.cell? ad = some v) : Runs P o a w v w := by
  unfold Runs execOp
  simp only [ho, hx]
  simp [go_sem, Instr.loadAt, Instr.sureAddr, loadVar, hA, hc]
theorem op_store1 (hS : ∀ w, (sizeOf t).run P w = .ok 1 w) (ho : o.op = .store t x y) (hx : a.eval x = .pointer (some ad)) (hy : a.eval y = v) (hv : v.oneCell' = true) (hc : w.cell? ad = some u) (hfz : w.frozen? ad = false) : Skips P o a w (w.setCell ad v) := by
  have hcs : v.cells = #[v] := by cases v <;> first | rfl | cases hv
  have hst := run_store P w ad v .plain hv
  have h0 : ad.add 0 = ad := by unfold Addr.add; rfl
  have key : (Instr.storeAt t (.pointer (some ad)) v).run P w = .ok () (w.setCell ad v) := by
    unfold Instr.storeAt Instr.sureAddr storeVar
    simp only [Sem.run_bind, Sem.run_pure, Result.andThen_ok, hS, hcs]
    simp [storeCells, h0, hst, stored, hc, hfz]
  unfold Skips execOp
  simp only [ho, hx, hy, Sem.run_bind, key, Result.andThen_ok, Sem.run_pure]
theorem op_alloc {z : Value} (hz : ∀ w, (zeroValue t).run P w = .ok z w) (ho : o.op = .alloc t) : Runs P o a w (.pointer (some ⟨w.heap.size, 0, none⟩)) (w.alloc (.cells z.cells t (0, 0))) := by
  unfold Runs execOp
  simp only [ho]
  simp [go_sem, Instr.alloc, hz, newVar, newRow]
theorem op_box (ho : o.op = .box t x) (hx : a.eval x = v) : Runs P o a w (.pointer (some ⟨w.heap.size, 0, none⟩)) (w.alloc (.cells v.cells t (0, 0))) := by
  unfold Runs execOp
  simp only [ho, hx]
  simp [go_sem, Instr.box, newVar, newRow]
theorem op_field {f : Nat} {ad' : Addr} (hf : ∀ w, (Instr.fieldAt t (.pointer (some ad)) f).run P w = .ok (.pointer (some ad')) w) (ho : o.op = .fieldAddr t x f) (hx : a.eval x = .pointer (some ad)) : Runs P o a w (.pointer (some ad')) w := by
  unfold Runs execOp
  simp only [ho, hx, Sem.run_bind, hf, Result.andThen_ok, Sem.run_pure]
theorem op_index {A : Option Addr} {n c sz : Nat} {e : TypeId} {k : IntKind} {i : Int} (ht : P.underlying t = some (.slice e)) (hS : ∀ w, (sizeOf e).run P w = .ok sz w) (ho : o.op = .indexAddr t x y) (hx : a.eval x = .slice A n c) (hy : a.eval y = .int k i) (hA : A = some ad) (h : 0 ≤ i ∧ i < n) :
    Runs P o a w (.pointer (some (ad.add (i.toNat * sz)))) w := by
  subst hA
  unfold Runs execOp
  simp only [ho, hx, hy]
  simp [go_sem, Instr.indexAt, asIntOf, run_underlying ht, hS, h.1, h.2]
end
end
section
variable {D : List Deferred} {P : Program} {ops : Array Oper} {Q : Exit → Act → World → Prop} {rest : List Oper} {o : Oper} {N d : Nat} {a : Act} {F : List (Nat × Value)} {w w1 : World} {v : Value} {C : World → Prop} {Q' : Act → Prop}
theorem want_none (hg : o.guard = none) : Region.wanted o (yielded ops a.tmps) = true := by simp [Region.wanted, hg]
theorem yields_of (HF : FrD D N a F) {j dj : Nat} {oj : Oper} {b : Bool} (hj : ops[j]? = some oj) (hdj : oj.dst = some dj) (hl : look F dj = some (.bool b)) : yielded ops a.tmps j = some b := by
  simp [yielded, hj, hdj, HF.at_ _ _ hl]
theorem want_yes (HF : FrD D N a F) {j dj : Nat} {oj : Oper} {b : Bool} (hg : o.guard = some (j, b)) (hj : ops[j]? = some oj) (hdj : oj.dst = some dj) (hl : look F dj = some (.bool b)) : Region.wanted o (yielded ops a.tmps) = true := by
  simp [Region.wanted, hg, yields_of HF hj hdj hl]
theorem want_no (HF : FrD D N a F) {j dj : Nat} {oj : Oper} {b b' : Bool} (hg : o.guard = some (j, b)) (hj : ops[j]? = some oj) (hdj : oj.dst = some dj) (hl : look F dj = some (.bool b')) (hne : b' ≠ b) : Region.wanted o (yielded ops a.tmps) = false := by
  simp [Region.wanted, hg, yields_of HF hj hdj hl, hne]
theorem gw_ev (HF : FrD D N a F) (hw : Region.wanted o (yielded ops a.tmps) = true) (hd : o.dst = some d) (hN : d < N) (hrun : Runs P o a w v w1) (k : ∀ a', FrD D N a' ((d, v) :: F) → wpList P ops Q rest a' w1) : wpList P ops Q (o :: rest) a w := by
  refine wpList_step fun K hK => ?_
  rw [if_pos hw]
  unfold Oper.wp
  rw [hrun, Oper.upon_value, hd]
  exact hK _ _ (k _ (HF.put hN v))
theorem gw_skip (HF : FrD D N a F) (hw : Region.wanted o (yielded ops a.tmps) = true) (hd : o.dst = none) (hrun : Skips P o a w w1) (k : ∀ a', FrD D N a' F → wpList P ops Q rest a' w1) : wpList P ops Q (o :: rest) a w := by
  refine wpList_step fun K hK => ?_
  rw [if_pos hw]
  unfold Oper.wp
  rw [hrun, Oper.upon_skip, hd]
  exact hK _ _ (k _ HF)
theorem gw_off (HF : FrD D N a F) (hw : Region.wanted o (yielded ops a.tmps) = false) (hd : o.dst = some d) (hN : d < N) (k : ∀ a', FrD D N a' ((d, undef) :: F) → wpList P ops Q rest a' w) : wpList P ops Q (o :: rest) a w := by
  refine wpList_skip hw ?_
  rw [hd]
  exact k _ (HF.put hN undef)
theorem gw_call {f : FuncId} {args : Array Value} {R : Ending → World → Prop} (HF : FrD D N a F) (hw : Region.wanted o (yielded ops a.tmps) = true) (hd : o.dst = some d) (hN : d < N) (hen : Enters P o a w f args) (hc : Calls P f args w R)
    (k : ∀ e w', R e w' → ∃ v, e = .returned v ∧ ∀ a', FrD D N a' ((d, v) :: F) → wpList P ops Q rest a' w') : wpList P ops Q (o :: rest) a w := by
  refine wpList_step fun K hK => ?_
  rw [if_pos hw]
  unfold Oper.wp
  rw [hen, Oper.upon_enter]
  refine hc.mono fun e w'' hh => ?_
  obtain ⟨v, rfl, hk⟩ := k e w'' hh
  show K (a.put o.dst v) w''
  rw [hd]
  exact hK _ _ (hk _ (HF.put hN v))
theorem gw_new {w0 : World} {L : List Chunk} {O : Obj} (HF : FrD D N a F) (HO : Own w0 w L) (hw : Region.wanted o (yielded ops a.tmps) = true) (hd : o.dst = some d) (hN : d < N) (hrun : Runs P o a w (.pointer (some ⟨w.heap.size, 0, none⟩)) (w.alloc O))
    (k : ∀ g a' w1, FrD D N a' ((d, .pointer (some ⟨g, 0, none⟩)) :: F) → Own w0 w1 (Chunk.blk g O :: L) → wpList P ops Q rest a' w1) : wpList P ops Q (o :: rest) a w :=
  gw_ev HF hw hd hN hrun fun a' HF' => k _ a' _ HF' (HO.new O)
theorem gw_set {w0 : World} {L : List Chunk} {g j : Nat} {cs : Array Value} {T : TypeId} (i : Nat) (HF : FrD D N a F) (HO : Own w0 w L) (hi : L[i]? = some (Chunk.blk g (.cells cs T (0, 0)))) (hw : Region.wanted o (yielded ops a.tmps) = true) (hd : o.dst = none) (hrun : Skips P o a w (w.setCell ⟨g, j, none⟩ v))
    (k : ∀ a' w1, FrD D N a' F → Own w0 w1 (L.set i (Chunk.blk g (.cells (cs.setIfInBounds j v) T (0, 0)))) → wpList P ops Q rest a' w1) : wpList P ops Q (o :: rest) a w :=
  gw_skip HF hw hd hrun fun a' HF' => k a' _ HF' (HO.setBlk i hi j v)
theorem gq_ev (HF : FrD D N a F) (hw : Region.wanted o (yielded ops a.tmps) = true) (hd : o.dst = some d) (hN : d < N) (hrun : ∀ w, C w → Runs P o a w v w) (k : ∀ a', FrD D N a' ((d, v) :: F) → wpQuiet P ops C Q' rest a') : wpQuiet P ops C Q' (o :: rest) a := by
  refine wpQuiet_step fun K hK => ?_
  rw [if_pos hw]
  refine ⟨v, fun w hC => ?_, ?_⟩
  · unfold Oper.quietAt
    rw [hrun w hC]
    exact ⟨rfl, rfl⟩
  · rw [hd]
    exact hK _ (k _ (HF.put hN v))
theorem gq_call {f : FuncId} {args : Array Value} (HF : FrD D N a F) (hw : Region.wanted o (yielded ops a.tmps) = true) (hd : o.dst = some d) (hN : d < N) (hen : ∀ w, C w → Enters P o a w f args) (hc : ∀ w, C w → Calls P f args w (fun e w' => e = .returned v ∧ C w')) (k : ∀ a', FrD D N a' ((d, v) :: F) → wpQuiet P ops C Q' rest a') : wpQuiet P ops C Q' (o :: rest) a := by
  refine wpQuiet_step fun K hK => ?_
  rw [if_pos hw]
  refine ⟨v, fun w hC => ?_, ?_⟩
  · unfold Oper.quietAt
    rw [hen w hC]
    exact ⟨rfl, hc w hC⟩
  · rw [hd]
    exact hK _ (k _ (HF.put hN v))
theorem gq_off (HF : FrD D N a F) (hw : Region.wanted o (yielded ops a.tmps) = false) (hd : o.dst = some d) (hN : d < N) (k : ∀ a', FrD D N a' ((d, undef) :: F) → wpQuiet P ops C Q' rest a') : wpQuiet P ops C Q' (o :: rest) a := by
  refine wpQuiet_step fun K hK => ?_
  rw [if_neg (by rw [hw]; simp), hd]
  exact hK _ (k _ (HF.put hN undef))
theorem gw_drawB {w0 : World} {L : List Chunk} {id : Nat} {l : List Oper} (HO : Own w0 w L) (hm : P.follows .mixedOrders = true) (hB : Region.lexB .any l.toArray = true)
    (h : ∀ w1, Own w0 w1 L → wpQuiet P l.toArray (fun wq => Below w1.heap.size w1 wq) (fun a' => ∀ w', Below w1.heap.size w1 w' → Q .normal a' w') l a) : (Code.region id l.toArray true).wp P Q a w :=
  wp_region_quiet (C := fun wq => Below w.drew.heap.size w.drew wq) hm hB (Below.refl _ _) (by simpa using h _ HO.drew)
theorem below_then {w w1 w2 : World} (h : Below w.heap.size w w1) (h2 : Below w1.heap.size w1 w2) : Below w.heap.size w w2 := (((Own.start w).after h).after h2).below
theorem gw_cond {x y : Code} {t : Nat} {b : Bool} (HF : FrD D N a F) (hl : look F t = some (.bool b)) (ht : b = true → x.wp P Q a w) (hf : b = false → y.wp P Q a w) : (Code.cond (.tmp t) x y).wp P Q a w :=
  wp_cond_split (HF.ev hl) ht hf
theorem gw_seq {x y : Code} (h : ∀ K : Act → World → Prop, (∀ a w, y.wp P Q a w → K a w) → x.wp P (Exit.then K Q) a w) : (Code.seq x y).wp P Q a w := wp_seq_k h
theorem gw_in {id : Nat} {a : Act} {w : World} (h : Q .normal a w) : Exit.inBlock id Q (.exit id) a w := by
  show (if id = id then Q .normal a w else Q (.exit id) a w)
  rw [if_pos rfl]
  exact h
theorem gw_out {id id' : Nat} {a : Act} {w : World} (hne : id' ≠ id) (h : Q (.exit id') a w) : Exit.inBlock id Q (.exit id') a w := by
  show (if id' = id then Q .normal a w else Q (.exit id') a w)
  rw [if_neg hne]
  exact h
theorem gw_loop {c : Code} (J : Nat → Act → World → Prop) (n : Nat) (h0 : J n a w) (round : ∀ n a w, J n a w → c.wp P (Exit.then (fun a' w' => ∃ m, m < n ∧ J m a' w') Q) a w) : (Code.loop c).wp P Q a w := by
  have least : ∀ a w, (∃ n, J n a w) → ∃ n, J n a w ∧ ∀ m, J m a w → n ≤ m := by
    intro a w ⟨n, hn⟩
    induction n using Nat.strongRecOn with
    | _ n ih =>
      by_cases h : ∃ m, m < n ∧ J m a w
      · obtain ⟨m, hm, hj⟩ := h
        exact ih m hm hj
      · exact ⟨n, hn, fun m hm => Nat.le_of_not_lt fun hlt => h ⟨m, hlt, hm⟩⟩
  classical
  refine wp_loop (fun a w => ∃ n, J n a w) (fun a w => if h : ∃ n, J n a w then (least a w h).choose else 0) ⟨n, h0⟩ fun a w hI => ?_
  have hc := (least a w hI).choose_spec
  refine Code.wp_mono ?_ (round _ a w hc.1)
  intro e a' w' hq
  cases e with
  | normal =>
    obtain ⟨m, hm, hj⟩ := hq
    have hI' : ∃ n, J n a' w' := ⟨m, hj⟩
    refine ⟨hI', ?_⟩
    have hc' := (least a' w' hI').choose_spec
    rw [dif_pos hI', dif_pos hI]
    exact Nat.lt_of_le_of_lt (hc'.2 m hj) hm
  | _ => exact hq
end
section
variable {D : List Deferred} {P : Program} {fn : Func} {R : Ending → World → Prop} {N : Nat} {a : Act} {F : List (Nat × Value)} {w : World}
def ixs : Nat → List Value → List (Nat × Value)
  | _, [] => []
  | k, v :: vs => (k, v) :: ixs (k + 1) vs
theorem look_ixs : ∀ (vs : List Value) (k t : Nat) (v : Value), look (ixs k vs) t = some v → ∃ j, t = k + j ∧ vs[j]? = some v
  | [], k, t, v, h => by simp [ixs, look] at h
  | u :: vs, k, t, v, h => by
    unfold ixs look at h
    by_cases e : k = t
    · subst e
      rw [Nat.beq_refl] at h
      exact ⟨0, rfl, h⟩
    · have : Nat.beq k t = false := by
        rw [Bool.eq_false_iff]
        exact fun h2 => e (Nat.eq_of_beq_eq_true h2)
      rw [this] at h
      obtain ⟨j, h1, h2⟩ := look_ixs vs (k + 1) t v h
      exact ⟨j + 1, by omega, h2⟩
theorem Fr.start (vs : List Value) (n : Nat) (h : vs.length ≤ n) : Fr n { tmps := vs.toArray ++ Array.replicate (n - vs.toArray.size) undef, defers := [] } (ixs 0 vs) := by
  refine ⟨rfl, by simp; omega, fun t v hl => ?_⟩
  obtain ⟨j, rfl, hj⟩ := look_ixs vs 0 t v hl
  rw [Nat.zero_add, Array.getElem?_append_left (by simpa using (List.getElem?_eq_some_iff.1 hj).1)]
  simpa using hj
theorem gw_start {f : FuncId} {c : Code} {vs : List Value} (hf : P.funcs[f]? = some fn) (hb : fn.body = some c) (hn : fn.ntmps = N) (hl : vs.length ≤ N)
    (h : ∀ a, Fr N a (ixs 0 vs) → Own w w [] → c.wp P (bodyPost P fn R) a w) : Calls P f vs.toArray w R := by
  refine calls_of_wp hf hb ?_
  rw [hn]
  exact h _ (Fr.start vs N hl) (Own.start w)
theorem gw_ret1 {t : Nat} {v : Value} (HF : Fr N a F) (hr : fn.results = #[.tmp t]) (hl : look F t = some v) (h : R (.returned v) w) : bodyPost P fn R .ret a w := by
  have := results_tmp (P := P) hr a.tmps w
  refine bodyPost_ret (v := v) ?_ HF.defers h
  have he := HF.ev hl
  rw [this]
  exact congrArg (fun v => Result.ok v w) he
theorem gw_end0 (HF : Fr N a F) (hr : fn.results = #[]) (h : R (.returned (.tuple #[])) w) : bodyPost P fn R .normal a w :=
  bodyPost_end (results_none hr a.tmps P w) HF.defers h
end
section
variable {D : List Deferred} {N d : Nat} {a : Act} {F : List (Nat × Value)} {v v' : Value} {t b : Bool}
theorem FrD.lit (h : FrD D N a ((d, .bool t) :: F)) (e : t = b) : FrD D N a ((d, .bool b) :: F) := e ▸ h
theorem FrD.conv (h : FrD D N a ((d, v) :: F)) (e : v = v') : FrD D N a ((d, v') :: F) := e ▸ h
theorem FrD.subst_ (h : FrD D N a F) (hl : look F d = some (.bool t)) (e : t = b) : FrD D N a ((d, .bool b) :: F) := h.pick (e ▸ hl) h
end
section
variable {P : Program} {K : Act → World → Prop} {Q : Exit → Act → World → Prop} {a : Act} {w : World} {id : Nat}
theorem gw_nx (h : K a w) : Exit.then K Q .normal a w := h
theorem gw_blk (h : Q .normal a w) : Exit.inBlock id Q .normal a w := h
theorem gw_thx {id' : Nat} (h : Q (.exit id') a w) : Exit.then K Q (.exit id') a w := h
theorem gw_thr (h : Q .ret a w) : Exit.then K Q .ret a w := h
theorem gw_blr (h : Q .ret a w) : Exit.inBlock id Q .ret a w := h
end
theorem pw_sel {R : Chunk → Chunk → Prop} (hs : ∀ a b, R a b → R b a) {L : List Chunk} (h : L.Pairwise R) : ∀ (is : List Nat), is.Nodup → (is.filterMap (L[·]?)).Pairwise R
  | [], _ => List.Pairwise.nil
  | i :: is, hn => by
    have hn' := List.nodup_cons.1 hn
    have ih := pw_sel hs h is hn'.2
    cases hi : L[i]? with
    | none => rw [List.filterMap_cons_none hi]; exact ih
    | some c =>
      rw [List.filterMap_cons_some hi]
      refine List.pairwise_cons.2 ⟨fun d hd => ?_, ih⟩
      obtain ⟨j, hj, hjd⟩ := List.mem_filterMap.1 hd
      exact pw_mid hs h i j c d (fun e => hn'.1 (e ▸ hj)) hi hjd
theorem Own.sel {w0 w : World} {L : List Chunk} (h : Own w0 w L) (is : List Nat) (hn : is.Nodup) : Own w0 w (is.filterMap (L[·]?)) := by
  have mem : ∀ c, c ∈ is.filterMap (L[·]?) → c ∈ L := fun c hc => by
    obtain ⟨j, _, hj⟩ := List.mem_filterMap.1 hc
    exact List.mem_of_getElem? hj
  exact ⟨h.below, fun c hc => h.holds c (mem c hc), fun c hc => h.inside c (mem c hc), pw_sel ap_symm h.apart is hn⟩
theorem Own.cell0 {w0 w : World} {L : List Chunk} (h : Own w0 w L) {p : Addr} {v : Value} (hc : w0.cell? p = some v) : w.cell? p = some v :=
  (h.below.cell (World.block_lt_of_cell? w0 p hc)).trans hc
theorem cells0 {w0 w : World} {L : List Chunk} (ho : Own w0 w L) {ad : Addr} {m : Nat} {cs : List Value} (h : ∀ j u, cs[j]? = some u → w0.cell? (ad.add (m + j)) = some u) : ∀ j u, cs[j]? = some u → w.cell? ((ad.add m).add j) = some u :=
  fun j u hj => by rw [add_add]; exact ho.cell0 (h j u hj)
theorem blk_at {w : World} {g j : Nat} {T : TypeId} {cs : Array Value} {v : Value} (h : w.heap[g]? = some (.cells cs T (0, 0))) (hv : cs[j]? = some v) : w.cell? ⟨g, j, none⟩ = some v := (blk_cell h j).trans hv
theorem blkf {w : World} {g j : Nat} {T : TypeId} {cs : Array Value} (h : w.heap[g]? = some (.cells cs T (0, 0))) : w.frozen? ⟨g, j, none⟩ = false := blk_frozen h j
section
variable {k : IntKind} {e base c : Nat} {S : Nat → Prop} {A : Option Addr} {n : Nat} {xs : List Int} {w : World}
theorem row_cap {α : Type} {d : Kd α} {xs : List α} (h : d.R e w base S (.slice A n c) xs) : xs.length ≤ c := by
  have := Kd.R_reads' h
  omega
theorem row_head {α : Type} {d : Kd α} {xs : List α} (h : d.R e w base S (.slice A n c) xs) (i : Int) (h0 : 0 ≤ i) (h1 : i < xs.length) : ∃ ad, A = some ad := by
  obtain ⟨g, cap, hv, _⟩ := Kd.R_form h (by omega)
  injection hv with hA _ _
  exact ⟨_, hA⟩
theorem row_cell {ad : Addr} (h : (Kd.int k).R e w base S (.slice (some ad) n c) xs) (i : Int) (h0 : 0 ≤ i) (h1 : i < xs.length) : w.cell? (ad.add (i.toNat * 1)) = some (.int k (rd xs i)) ∧ w.frozen? (ad.add (i.toNat * 1)) = false := by
  obtain ⟨g, cap, hv, _⟩ := Kd.R_form h (by omega)
  injection hv with hA hn hc
  injection hA with hA
  subst hA hn hc
  have := Kd.R_cell (0 : Int) h i h0 h1
  rw [Nat.mul_one, add_plain]
  exact this
theorem row_put {ad : Addr} (h : (Kd.int k).R e w base S (.slice (some ad) n c) xs) (i x : Int) (h0 : 0 ≤ i) (h1 : i < xs.length) : (Kd.int k).R e (w.setCell (ad.add (i.toNat * 1)) (.int k x)) base S (.slice (some ad) n c) (xs.set i.toNat x) ∧ S (ad.add (i.toNat * 1)).block := by
  obtain ⟨g, cap, hv, _⟩ := Kd.R_form h (by omega)
  injection hv with hA hn hc
  injection hA with hA
  subst hA hn hc
  have := Kd.R_put h i x
  rw [Nat.mul_one, add_plain]
  exact ⟨this.1, h.1 g rfl⟩
end
section
variable {P : Program} {o : Oper} {a : Act} {w : World} {x y : Operand} {t yt : TypeId}
theorem op_loadn {g off n : Nat} {cs : Array Value} {T : TypeId} {vs : List Value} (hA : ∀ w, (isAgg t).run P w = .ok true w) (hS : ∀ w, (sizeOf t).run P w = .ok n w) (ho : o.op = .load t x) (hx : a.eval x = .pointer (some ⟨g, off, none⟩)) (hb : w.heap[g]? = some (.cells cs T (0, 0))) (hl : (cs.toList.drop off).take n = vs) (hn : vs.length = n) :
    Runs P o a w (.agg vs.toArray) w := by
  have hr := run_loadCells_list (P := P) (w := w) ⟨g, off, none⟩ vs (fun j v hv => by
    rw [add_at, blk_cell hb, ← Array.getElem?_toList]
    rw [← hl, List.getElem?_take] at hv
    split at hv
    · rwa [List.getElem?_drop] at hv
    · cases hv)
  rw [hn] at hr
  unfold Runs execOp
  simp only [ho, hx]
  simp [Instr.loadAt, Instr.sureAddr, loadVar, hA, hS, hr]
theorem op_loadc {n : Nat} {ad : Addr} {cs : List Value} (hA : ∀ w, (isAgg t).run P w = .ok true w) (hS : ∀ w, (sizeOf t).run P w = .ok n w) (ho : o.op = .load t x) (hx : a.eval x = .pointer (some ad)) (hn : cs.length = n) (hc : ∀ j u, cs[j]? = some u → w.cell? (ad.add j) = some u) :
    Runs P o a w (.agg cs.toArray) w := by
  have hr := run_loadCells_list (P := P) (w := w) ad cs hc
  rw [hn] at hr
  unfold Runs execOp
  simp only [ho, hx]
  simp [Instr.loadAt, Instr.sureAddr, loadVar, hA, hS, hr]
theorem op_storen {g off n : Nat} {cs vs : Array Value} {T : TypeId} (hS : ∀ w, (sizeOf t).run P w = .ok n w) (ho : o.op = .store t x y) (hx : a.eval x = .pointer (some ⟨g, off, none⟩)) (hy : a.eval y = .agg vs) (hb : w.heap[g]? = some (.cells cs T (0, 0))) (hn : vs.size = n) (hle : off + n ≤ cs.size) (h1 : ∀ v ∈ vs.toList, v.oneCell' = true) :
    Skips P o a w (w.setRow g (cs.toList.take off ++ vs.toList ++ cs.toList.drop (off + n)).toArray) := by
  have hr := run_storeCells_at (P := P) g off T vs.toList 0 cs w hb (by simpa [hn] using hle) h1
  simp only [Nat.add_zero, Array.length_toList, hn] at hr
  unfold Skips execOp
  simp only [ho, hx, hy]
  simp [Instr.storeAt, Instr.sureAddr, storeVar, hS, Value.cells, hn, hr]
theorem pt_nil {f : Operand → Value} : ([] : List (Nat × Operand)).map (fun p => (p.1, f p.2)) = [] := rfl
theorem pt_cons {f : Operand → Value} {i : Nat} {x : Operand} {v : Value} {l : List (Nat × Operand)} {r : List (Nat × Value)} (h : f x = v) (k : l.map (fun p => (p.1, f p.2)) = r) : ((i, x) :: l).map (fun p => (p.1, f p.2)) = (i, v) :: r := by rw [List.map_cons, k, h]
theorem op_build {parts : List (Nat × Operand)} {vs : List (Nat × Value)} {cells : Array Value} (ho : o.op = .build t parts.toArray) (hp : parts.map (fun p => (p.1, a.eval p.2)) = vs) (hb : P.built t vs = some cells) : Runs P o a w (.agg cells) w := by
  have hq : parts.toArray.map (fun p => (p.1, a.eval p.2)) = vs.toArray := by rw [List.map_toArray, hp]
  have hr := run_build (P := P) w t vs.toArray cells hb
  unfold Runs execOp
  simp only [ho, hq, Sem.run_bind, hr, Result.andThen_ok, Sem.run_pure]
theorem ar_nil {f : Operand → Value} : ([] : List Operand).map f = [] := rfl
theorem ar_cons {f : Operand → Value} {x : Operand} {v : Value} {l : List Operand} {r : List Value} (h : f x = v) (k : l.map f = r) : (x :: l).map f = v :: r := by rw [List.map_cons, k, h]
theorem op_callL {f : FuncId} {fn : Func} {args : List Operand} {tys : Array TypeId} {vs : List Value} (hf : P.funcs[f]? = some fn) (hname : (fn.name == "runtime.NumGoroutine") = false) (hb : fn.body.isSome = true) (ho : o.op = .call { callee := .value (.func f), args := args.toArray, argTypes := tys }) (hv : args.map a.eval = vs) : Enters P o a w f vs.toArray :=
  op_call hf hname hb ho (by rw [List.map_toArray, hv])
end
section
variable {D : List Deferred} {P : Program} {ops : Array Oper} {Q : Exit → Act → World → Prop} {rest : List Oper} {o : Oper} {N : Nat} {a : Act} {F : List (Nat × Value)} {w w0 : World} {L : List Chunk}
theorem gw_setn {g : Nat} {cs cs' : Array Value} {T : TypeId} (i : Nat) (HF : FrD D N a F) (HO : Own w0 w L) (hi : L[i]? = some (Chunk.blk g (.cells cs T (0, 0)))) (hw : Region.wanted o (yielded ops a.tmps) = true) (hd : o.dst = none) (hrun : Skips P o a w (w.setRow g cs'))
    (k : ∀ a' w1, FrD D N a' F → Own w0 w1 (L.set i (Chunk.blk g (.cells cs' T (0, 0)))) → wpList P ops Q rest a' w1) : wpList P ops Q (o :: rest) a w := by
  have hg : w.heap[g]? = some (.cells cs T (0, 0)) := HO.get i hi
  have hl := (HO.lt i hi (k := g) rfl).2
  refine gw_skip HF hw hd hrun fun a' HF' => k a' _ HF' (HO.calls (cs := []) i hi ?_)
  have hsz : (w.setRow g cs').heap.size = w.heap.size := by simp [World.setRow]
  refine (Out.one (S := fun k => k = g) (c := Chunk.blk g (.cells cs' T (0, 0))) ⟨rfl, rfl, rfl, by rw [hsz]; exact Nat.le_refl _, fun q _ hq => ?_, fun _ h => by simp at h, fun _ h => by simp at h, List.Pairwise.nil⟩ ?_ ?_)
  · have hne : q ≠ g := hq
    simp [World.setRow, Array.getElem?_modify, Ne.symm hne]
  · show (w.setRow g cs').heap[g]? = _
    simp [World.setRow, Array.getElem?_modify, hg]
  · intro q hq
    have : q = g := hq
    subst this
    exact ⟨.inl rfl, by rw [hsz]; exact hl⟩
theorem gw_row {k : IntKind} {e base c n : Nat} {S : Nat → Prop} {ad : Addr} {xs : List Int} {t : TypeId} {x y : Operand} {it u : Int} (i : Nat) (HF : FrD D N a F) (HO : Own w0 w L) (hi : L[i]? = some (Chunk.row (Kd.int k) e base S (.slice (some ad) n c) xs)) (hw : Region.wanted o (yielded ops a.tmps) = true) (hd : o.dst = none)
    (hS : ∀ w, (sizeOf t).run P w = .ok 1 w) (h0 : 0 ≤ it) (h1 : it < xs.length) (ho : o.op = .store t x y) (hx : a.eval x = .pointer (some (ad.add (it.toNat * 1)))) (hy : a.eval y = .int k u)
    (kk : ∀ a' w1, FrD D N a' F → Own w0 w1 (L.set i (Chunk.row (Kd.int k) e base S (.slice (some ad) n c) (xs.set it.toNat u))) → wpList P ops Q rest a' w1) : wpList P ops Q (o :: rest) a w := by
  have hR : (Kd.int k).R e w base S (.slice (some ad) n c) xs := HO.get i hi
  have hc := row_cell hR it h0 h1
  have hp := row_put hR it u h0 h1
  refine gw_skip HF hw hd (op_store1 hS ho hx hy rfl hc.1 hc.2) fun a' HF' => kk a' _ HF' (HO.calls (cs := []) i hi ?_)
  refine Out.one (c := Chunk.row (Kd.int k) e base S (.slice (some ad) n c) (xs.set it.toNat u)) ((Out.refl w S).setCell (.inl hp.2) _) hp.1 ?_
  intro q hq
  exact ⟨.inl hq, by have := (HO.lt i hi hq).2; simpa [World.setCell] using this⟩
end
section
variable {P : Program} {o : Oper} {a : Act} {w : World} {x y : Operand} {t e : TypeId}
theorem op_conv_str {A : Option Addr} {n c : Nat} {u : TypeId} {xs : List Int} (hs : P.underlying t = some (.slice e)) (he : P.underlying e = some (.int .u8)) (hd : P.underlying u = some .string) (hC : (Kd.int .u8).C w A n xs) (ho : o.op = .convert t u x) (hx : a.eval x = .slice A n c) : Runs P o a w (.string (strOfNums xs)) w := by
  unfold Runs execOp
  simp only [ho, hx, Sem.run_bind, Kd.C_string hs he hd hC, Result.andThen_ok, Sem.run_pure]
theorem op_cut {v u : Value} {lo hi : Option Operand} {lo' hi' : Option Value} (ht : P.underlying t = some (.slice e)) (hr : ∀ W, (Instr.slice t v lo' hi' none).run P W = .ok u W) (ho : o.op = .slice t x lo hi none) (hx : a.eval x = v) (hlo : lo.map a.eval = lo') (hhi : hi.map a.eval = hi') : Runs P o a w u w := by
  have hel : P.elem t = e := by simp [Program.elem, ht]
  have hu : P.underlying t = some (.slice (P.elem t)) := by rw [hel]; exact ht
  unfold Runs execOp
  simp only [ho, hx, hlo, hhi, Option.map_none, Sem.run_bind, run_sliceAt_slice w t v lo' hi' none hu, hr, Result.andThen_ok, Sem.run_pure]
theorem some_ev {z : Operand} {v : Value} (h : a.eval z = v) : (some z).map a.eval = some v := by rw [Option.map_some, h]
variable {α : Type} {d : Kd α}
theorem cut_lo (ht : P.underlying t = some (.slice e)) (hS : ∀ w, (sizeOf e).run P w = .ok d.sz w) (A : Option Addr) (c : Nat) (xs : List α) (hc : xs.length ≤ c) (j : Int) (h0 : 0 ≤ j) (hj : j ≤ xs.length) :
    ∃ A' c', (∀ W : World, (Instr.slice t (.slice A xs.length c) (some (.int .i64 j)) none none).run P W = .ok (.slice A' (xs.drop j.toNat).length c') W) ∧ (xs.drop j.toNat).length ≤ c' ∧ (∀ W, d.C W A xs.length xs → d.C W A' (xs.drop j.toNat).length (xs.drop j.toNat)) ∧ ∀ ad, A' = some ad → ∃ ad0, A = some ad0 ∧ ad.block = ad0.block := by
  have hl : (xs.drop j.toNat).length = xs.length - j.toNat := List.length_drop
  obtain ⟨i, hi, hz⟩ : ∃ i : TypeInfo, P.info? e = some i ∧ i.size = d.sz := by
    have := hS default
    cases h : P.info? e with
    | none => simp [sizeOf, typeInfo, h] at this
    | some i => exact ⟨i, rfl, by simpa [sizeOf, typeInfo, h] using this⟩
  refine ⟨_, c - j.toNat, fun W => ?_, by omega, fun W h => Kd.C_drop h (m := j.toNat) (by omega) hc, fun ad e => ?_⟩
  · rw [hl]
    exact cut_from t e .i64 ht hi d.sz hz A xs.length c j h0 hj W
  · by_cases hcj : c = j.toNat
    · rw [if_pos hcj] at e
      exact ⟨ad, e, rfl⟩
    · rw [if_neg hcj] at e
      cases A with
      | none => cases e
      | some ad0 =>
        refine ⟨ad0, rfl, ?_⟩
        rw [← Option.some.inj e]
        exact add_block _ _
theorem cut_hi (ht : P.underlying t = some (.slice e)) (hS : ∀ w, (sizeOf e).run P w = .ok d.sz w) (A : Option Addr) (c : Nat) (xs : List α) (hc : xs.length ≤ c) (j : Int) (h0 : 0 ≤ j) (hj : j ≤ xs.length) :
    (∀ W : World, (Instr.slice t (.slice A xs.length c) none (some (.int .i64 j)) none).run P W = .ok (.slice A (xs.take j.toNat).length c) W) ∧ (xs.take j.toNat).length ≤ c ∧ ∀ W, d.C W A xs.length xs → d.C W A (xs.take j.toNat).length (xs.take j.toNat) := by
  have hl : (xs.take j.toNat).length = j.toNat := by rw [List.length_take]; omega
  obtain ⟨i, hi, hz⟩ : ∃ i : TypeInfo, P.info? e = some i ∧ i.size = d.sz := by
    have := hS default
    cases h : P.info? e with
    | none => simp [sizeOf, typeInfo, h] at this
    | some i => exact ⟨i, rfl, by simpa [sizeOf, typeInfo, h] using this⟩
  refine ⟨fun W => ?_, by omega, fun W h => Kd.C_take h (by omega)⟩
  rw [hl]
  exact cut_to t e .i64 ht hi A xs.length c j h0 hj hc W
end
section
variable {D : List Deferred} {P : Program} {ops : Array Oper} {Q : Exit → Act → World → Prop} {rest : List Oper} {o : Oper} {N dd : Nat} {a : Act} {F : List (Nat × Value)} {w w0 : World} {L : List Chunk} {α : Type}
theorem gw_unguard (hw : Region.wanted o (yielded ops a.tmps) = true) (h : wpList P ops Q ({ o with guard := none } :: rest) a w) : wpList P ops Q (o :: rest) a w := by
  have hw2 : Region.wanted { o with guard := none } (yielded ops a.tmps) = true := want_none rfl
  unfold wpList at h ⊢
  rw [if_pos hw2] at h
  rw [if_pos hw]
  exact h
theorem gw_append (d : Kd α) {e base : Nat} {S : Nat → Prop} {A B : Option Addr} {c m cc : Nat} {xs ys : List α} {s x : Operand} {t : TypeId} {z : Value} {bytes : Nat} (i : Nat) (HF : FrD D N a F) (HO : Own w0 w L) (hw : Region.wanted o (yielded ops a.tmps) = true) (hd : o.dst = some dd) (hN : dd < N)
    (ho : o.op = .call { callee := .builtin .append, args := #[s, x], argTypes := #[t, t] })
    (ht : P.underlying t = some (.slice e)) (hinfo : (P.info? e).map (fun i => (i.zero, i.size, i.bytes)) = some (some z, d.sz, bytes)) (hz : z.cells.size = d.sz) (hs0 : 0 < d.sz) (hb0 : 0 < bytes)
    (hi : L[i]? = some (Chunk.row d e base S (.slice A xs.length c) xs)) (hs : a.eval s = .slice A xs.length c) (hx : a.eval x = .slice B m cc) (hC : d.C w B m ys)
    (hKM : ∀ x cs, d.K w x cs → d.M w base (fun _ => False) x cs) (hbase : base ≤ w.heap.size) (hl : (xs.length + m) * bytes ≤ 140737488355328)
    (k : ∀ A' c' S' a' w1, FrD D N a' ((dd, .slice A' (xs ++ ys).length c') :: F) → Own w0 w1 (L.set i (Chunk.row d e base S' (.slice A' (xs ++ ys).length c') (xs ++ ys))) → wpList P ops Q rest a' w1) : wpList P ops Q (o :: rest) a w := by
  have hR : d.R e w base S (.slice A xs.length c) xs := HO.get i hi
  refine gw_unguard hw ?_
  refine Kd.R_append_rows d (Rr := d.K w) (w0 := w) base rfl s x t e z bytes ho ht hinfo hz hs0 hb0 _ xs ys B m cc (fun k => S k ∨ w.heap.size ≤ k) (fun _ => False) hs hx (Kd.R_mono hR (fun k hk => .inl hk)) hC hKM (fun _ hk => hk.elim) (fun k hk => .inr hk) (Below.refl _ _) hbase hl ?_
  intro v1 w1 h1 _ hgr _
  obtain ⟨A', c', rfl⟩ := Kd.R_slice h1
  show wpList P ops Q rest (a.put o.dst _) w1
  rw [hd]
  refine k A' c' (fun k => S k ∨ w.heap.size ≤ k ∧ k < w1.heap.size) _ w1 (HF.put hN _) (HO.calls (cs := []) i hi ?_)
  refine Out.one ((Out.refl w S).grown hgr (fun k e => .inl (hR.1 k e))) ?_ ?_
  · exact Kd.R_mono (Kd.R_bound h1) (fun k hk => hk.1.elim .inl (fun h => .inr ⟨h, hk.2.2.1⟩))
  · intro k hk
    rcases hk with hk | hk
    · exact ⟨.inl hk, Nat.lt_of_lt_of_le (HO.lt i hi hk).2 hgr.size⟩
    · exact ⟨.inr hk.1, hk.2⟩
theorem gw_lit {enc : α → Value} (h1 : ∀ x, (enc x).oneCell' = true) {e : Nat} {xs : List α} (HF : FrD D N a F) (HO : Own w0 w L) (hw : Region.wanted o (yielded ops a.tmps) = true) (hd : o.dst = some dd) (hN : dd < N)
    (hrun : Runs P o a w (.slice (some ⟨w.heap.size, 0, none⟩) xs.length xs.length) (w.alloc (.cells (encs enc xs).toArray e (0, 0)))) (hm : xs.length ≤ 9223372036854775807)
    (k : ∀ A S a' w1, FrD D N a' ((dd, .slice A xs.length xs.length) :: F) → Own w0 w1 (Chunk.row (Kd.scalar enc h1) e w0.heap.size S (.slice A xs.length xs.length) xs :: L) → wpList P ops Q rest a' w1) : wpList P ops Q (o :: rest) a w := by
  refine gw_ev HF hw hd hN hrun fun a' HF' => k _ (fun q => w.heap.size ≤ q ∧ q < (w.alloc (.cells (encs enc xs).toArray e (0, 0))).heap.size) a' _ HF' ?_
  have hb := below_alloc (Below.refl w.heap.size w) (.cells (encs enc xs).toArray e (0, 0))
  have ho := own_lit_of (enc := enc) w w0.heap.size e xs HO.below.size hm
  have hR : (Kd.scalar enc h1).R e (w.alloc (.cells (encs enc xs).toArray e (0, 0))) w0.heap.size (fun q => w.heap.size ≤ q ∧ q < (w.alloc (.cells (encs enc xs).toArray e (0, 0))).heap.size) (.slice (some ⟨w.heap.size, 0, none⟩) xs.length xs.length) xs :=
    Kd.R_of_own ho (fun q hq => by
      have : w.heap.size = q := by simpa [Value.ownBlock] using hq
      subst this
      exact ⟨Nat.le_refl _, by simp⟩)
  refine HO.fresh (cs := [_]) ⟨hb.os, hb.tape, hb.output, hb.size, fun k hk _ => hb.block k hk, fun c hc => ?_, fun c hc q hq => ?_, List.pairwise_singleton _ _⟩
  · rw [List.mem_singleton.1 hc]
    exact hR
  · rw [List.mem_singleton.1 hc] at hq
    exact ⟨.inr hq.1, hq.2⟩
end
section
variable {D : List Deferred} {P : Program} {ops : Array Oper} {Q : Exit → Act → World → Prop} {rest : List Oper} {o o2 : Oper} {N d d2 : Nat} {a : Act} {F : List (Nat × Value)} {w w0 : World} {L : List Chunk} {t e : TypeId}
theorem op_bslice {n : Nat} {parts : List (Nat × Operand)} {vs : List (Nat × Value)} {v : Value} {w1 : World} (hr : (Instr.buildSlice t n vs.toArray).run P w = .ok v w1) (ho : o.op = .buildSlice t n parts.toArray) (hp : parts.map (fun p => (p.1, a.eval p.2)) = vs) : Runs P o a w v w1 := by
  have hq : parts.toArray.map (fun p => (p.1, a.eval p.2)) = vs.toArray := by rw [List.map_toArray, hp]
  unfold Runs execOp
  simp only [ho, hq, Sem.run_bind, hr, Result.andThen_ok, Sem.run_pure]
end
theorem Own.mapc {w0 w : World} {L : List Chunk} {c c' : Chunk} (h : Own w0 w L) (i : Nat) (hi : L[i]? = some c) (hS : ∀ k, c'.S k → c.S k) (hP : ∀ w, c.P w → c'.P w) : Own w0 w (L.set i c') := by
  refine h.calls (cs := []) i hi (Out.one (Out.refl w _) (hP w (h.get i hi)) fun k hk => ⟨.inl (hS k hk), (h.lt i hi (hS k hk)).2⟩)
theorem Own.lowrow {α : Type} {d : Kd α} {e base base' : Nat} {S : Nat → Prop} {v : Value} {xs : List α} {w0 w : World} {L : List Chunk} (h : Own w0 w L) (i : Nat) (hi : L[i]? = some (Chunk.row d e base S v xs)) (hb : base' ≤ base) : Own w0 w (L.set i (Chunk.row d e base' S v xs)) :=
  h.mapc i hi (fun _ hk => hk) (fun _ hr => Kd.R_lower hr hb)
theorem row_in {α : Type} {d : Kd α} {e base n c : Nat} {S : Nat → Prop} {A : Option Addr} {xs : List α} {w : World} (h : d.R e w base S (.slice A n c) xs) {ad : Addr} (e1 : A = some ad) : S ad.block := by
  subst e1
  exact h.1 ad.block (by simp [Value.ownBlock])
end Go.Proofs.YtelbgmpeghhakaaGreat.PA
end
section
namespace Go.Proofs.YtelbgmpeghhakaaGreat.PA
open Go.RowKit Go.Proofs.YtelbgmpeghhakaaGreatW.PrintWords Go.Proofs.YtelbgmpeghhakaaGreatW.PrintLast Go.Proofs.YtelbgmpeghhakaaGreatW.PrintMore
set_option linter.unusedVariables false
set_option linter.unusedSimpArgs false
variable {P : Program} {o : Oper} {a : Act} {w : World} {x y : Operand} {t yt : TypeId} {m n : Int} {k k' : IntKind}
theorem op_rem (ho : o.op = .binOp .rem t x y yt) (hx : a.eval x = .int k m) (hy : a.eval y = .int k n) (h0 : n ≠ 0) : Runs P o a w (.int k (m.tmod n)) w := by
  unfold Runs execOp
  simp only [ho, hx, hy]
  simp [go_sem, h0]
theorem op_quo (ho : o.op = .binOp .quo t x y yt) (hx : a.eval x = .int k m) (hy : a.eval y = .int k n) (h0 : n ≠ 0) : Runs P o a w (.int k (k.wrap (m.tdiv n))) w := by
  unfold Runs execOp
  simp only [ho, hx, hy]
  simp [go_sem, h0]
theorem op_conv_int {s d : TypeId} (hs : P.underlying s = some (.int k)) (hd : P.underlying d = some (.int k')) (ho : o.op = .convert s d x) (hx : a.eval x = .int k m) : Runs P o a w (.int k' (k'.wrap m)) w := by
  unfold Runs execOp
  simp only [ho, hx]
  simp [go_sem, hs, hd]
section
variable {D : List Deferred} {fn : Func} {R : Ending → World → Prop} {N : Nat} {F : List (Nat × Value)} {v v1 v2 v3 v4 : Value} {r1 r2 r3 r4 : ResultVar}
def RVm (tmps : Array Value) : ResultVar → Sem Value
  | .tmp t => pure (tmps.getD t undef)
  | .cell x t => do loadVar t (← asAddr (tmps.getD x undef))
def RV (P : Program) (a : Act) (w : World) (r : ResultVar) (v : Value) : Prop := (RVm a.tmps r).run P w = .ok v w
theorem results_eq (fn : Func) (tmps : Array Value) : results fn tmps = (do
    let vs ← fn.results.mapM (RVm tmps)
    pure (if h : vs.size = 1 then vs[0] else .tuple vs)) := by
  unfold results
  congr 1
theorem rv_tmp {d : Nat} (HF : FrD D N a F) (hl : look F d = some v) : RV P a w (.tmp d) v := by
  unfold RV RVm
  exact congrArg (fun v => Result.ok v w) (HF.ev hl)
theorem rv_celln {d g n : Nat} {cs : Array Value} {T : TypeId} (HF : FrD D N a F) (hl : look F d = some (.pointer (some ⟨g, 0, none⟩))) (hA : ∀ w, (isAgg t).run P w = .ok true w) (hS : ∀ w, (sizeOf t).run P w = .ok n w)
    (hb : w.heap[g]? = some (.cells cs T (0, 0))) (hn : cs.size = n) : RV P a w (.cell d t) (.agg cs) := by
  have he : a.tmps.getD d undef = .pointer (some ⟨g, 0, none⟩) := HF.ev hl
  have hr := run_loadCells_list (P := P) (w := w) ⟨g, 0, none⟩ cs.toList (fun j v hv => by
    rw [add_at, blk_cell hb, ← Array.getElem?_toList]
    simpa using hv)
  rw [Array.length_toList, hn] at hr
  unfold RV RVm
  simp only [he]
  simp [asAddr, loadVar, hA, hS, hr]
theorem gw_rets1 (HF : Fr N a F) (hr : fn.results = #[r1]) (h1 : RV P a w r1 v1) (h : R (.returned v1) w) : bodyPost P fn R .ret a w := by
  refine bodyPost_ret (v := v1) ?_ HF.defers h
  unfold RV at h1
  rw [results_eq, hr]
  simp [h1]
theorem gw_rets3 (HF : Fr N a F) (hr : fn.results = #[r1, r2, r3]) (h1 : RV P a w r1 v1) (h2 : RV P a w r2 v2) (h3 : RV P a w r3 v3) (h : R (.returned (.tuple #[v1, v2, v3])) w) : bodyPost P fn R .ret a w := by
  refine bodyPost_ret (v := .tuple #[v1, v2, v3]) ?_ HF.defers h
  unfold RV at h1 h2 h3
  rw [results_eq, hr]
  simp [h1, h2, h3]
theorem gw_rets4 (HF : Fr N a F) (hr : fn.results = #[r1, r2, r3, r4]) (h1 : RV P a w r1 v1) (h2 : RV P a w r2 v2) (h3 : RV P a w r3 v3) (h4 : RV P a w r4 v4) (h : R (.returned (.tuple #[v1, v2, v3, v4])) w) : bodyPost P fn R .ret a w := by
  refine bodyPost_ret (v := .tuple #[v1, v2, v3, v4]) ?_ HF.defers h
  unfold RV at h1 h2 h3 h4
  rw [results_eq, hr]
  simp [h1, h2, h3, h4]
theorem op_conv_inb {s d : TypeId} (hs : P.underlying s = some (.int k)) (hd : P.underlying d = some (.int .i64)) (ho : o.op = .convert s d x) (hx : a.eval x = .int k m) (hb : -9223372036854775808 ≤ m ∧ m ≤ 9223372036854775807) : Runs P o a w (.int .i64 m) w := by
  have := op_conv_int (w := w) hs hd ho hx
  rwa [i64_ok hb.1 hb.2] at this
end
section
variable {α : Type} {d : Kd α} {S : Nat → Prop} {A A' : Option Addr} {n n' c c' e base : Nat} {xs ys : List α} {w0 : World} {L : List Chunk}
def Chunk.view (d : Kd α) (S : Nat → Prop) (A : Option Addr) (n c : Nat) (xs : List α) : Chunk := ⟨S, fun w => d.F w S A n xs ∧ n ≤ c ∧ ∀ ad, A = some ad → S ad.block, fun h hm => ⟨Kd.F_step h.1 (fun k hk _ => hm k hk), h.2⟩⟩
theorem Own.row_view (h : Own w0 w L) (i : Nat) (hi : L[i]? = some (Chunk.row d e base S (.slice A n c) xs)) : Own w0 w (L.set i (Chunk.view d S A n c xs)) :=
  h.mapc i hi (fun _ hk => hk) (fun _ hr => ⟨Kd.Q_F (Kd.Q_of_R hr), by have := Kd.R_reads' hr; omega, fun ad e => row_in hr e⟩)
theorem view_C (h : (Chunk.view d S A n c xs).P w) : d.C w A n xs := Kd.F_now h.1
theorem Own.out (h : Own w0 w L) : Out w0 w (fun _ => False) L := ⟨h.below.os, h.below.tape, h.below.output, h.below.size, fun k hk _ => h.below.block k hk, h.holds, fun c hc k hk => ⟨.inr (h.inside c hc k hk).1, (h.inside c hc k hk).2⟩, h.apart⟩
theorem getD_mem (xs : List α) (i : Nat) {z : α} (h : i < xs.length) : xs.getD i z ∈ xs := by
  rw [List.getD_eq_getElem?_getD, List.getElem?_eq_getElem h]
  exact List.getElem_mem h
theorem cellsn {w : World} {ad : Addr} {m : Nat} {cs : List Value} (h : ∀ j u, cs[j]? = some u → w.cell? (ad.add (m + j)) = some u) : ∀ j u, cs[j]? = some u → w.cell? ((ad.add m).add j) = some u :=
  fun j u hj => by rw [add_add]; exact h j u hj
theorem want_undef {D : List Deferred} {ops : Array Oper} {N : Nat} {a : Act} {F : List (Nat × Value)} {o : Oper} (HF : FrD D N a F) {j dj : Nat} {oj : Oper} {b : Bool} (hg : o.guard = some (j, b)) (hj : ops[j]? = some oj) (hdj : oj.dst = some dj) (hl : look F dj = some undef) : Region.wanted o (yielded ops a.tmps) = false := by
  have hy : yielded ops a.tmps j = none := by simp [yielded, hj, hdj, HF.at_ _ _ hl, undef]
  simp [Region.wanted, hg, hy]
end
end Go.Proofs.YtelbgmpeghhakaaGreat.PA
end
section
namespace Go.Proofs.YtelbgmpeghhakaaGreat.PA
open Go.RowKit Go.Proofs.YtelbgmpeghhakaaGreatW.PrintWords Go.Proofs.YtelbgmpeghhakaaGreatW.PrintLast Go.Proofs.YtelbgmpeghhakaaGreatW.PrintMore
set_option linter.unusedVariables false
set_option linter.unusedSimpArgs false
section
variable {P : Program} {ops : Array Oper} {Q : Exit → Act → World → Prop} {md : Region.Mode} {S : World → Prop} {B : Nat → Bool}
def wpX (P : Program) (md : Region.Mode) (ops : Array Oper) (Q : Exit → Act → World → Prop) (S : World → Prop) (B : Nat → Bool) : Nat → Array Bool → Act → World → Prop
  | 0, listed, a, w => Region.ready md ops listed = [] ∧ Q .normal a w
  | fuel + 1, listed, a, w =>
    (Region.ready md ops listed = [] → Q .normal a w) ∧
    ∀ i ∈ Region.ready md ops listed, wpOp P ops Q i (fun a' w' => (B i = false → S w') ∧ wpX P md ops Q S B fuel (listed.setIfInBounds i true) a' w') a w
theorem wpAny_of_X : ∀ (fuel : Nat) (listed : Array Bool) (a : Act) (w : World), wpX P md ops Q S B fuel listed a w → wpAny P md ops Q fuel listed a w
  | 0, _, _, _, h => h
  | fuel + 1, _, _, _, h => ⟨h.1, fun i hi => wpOp_mono (fun a' w' h' => wpAny_of_X fuel _ a' w' h'.2) (h.2 i hi)⟩
theorem wpX_first {i : Nat} {oi : Oper} {v : Value} (hi : ops[i]? = some oi) (hsel : ∀ (j : Nat) (o : Oper) cs b, ops[j]? = some o → o.op ≠ .select cs b)
    (hQ : ∀ c a w, Q (.panic c) (a.put oi.dst v) w → Q (.panic c) a w)
    (hB : ∀ j oj, ops[j]? = some oj → B j = true → j ≠ i → ∃ e ∈ oj.after, Region.binds md e = true ∧ e.on = i) :
    ∀ (fuel : Nat) (listed : Array Bool) (a : Act) (w : World),
      (∀ j oj, ops[j]? = some oj → j ≠ i → listed.getD j true = false → (∀ e ∈ oj.after, Region.binds md e = true → e.on ≠ i) → oi.apart ops oj = true) →
      i ∈ Region.ready md ops listed → YieldsIf P ops S oi v a → S w →
      wpX P md ops Q S B fuel (listed.setIfInBounds i true) (a.put oi.dst v) w → wpX P md ops Q S B (fuel + 1) listed a w := by
  intro fuel
  induction fuel with
  | zero =>
    intro listed a w _ hr hy hS H
    refine ⟨fun h => (by rw [h] at hr; cases hr), fun j hj => ?_⟩
    by_cases hji : j = i
    · subst hji; exact hy.wpOp hi hS ⟨fun _ => hS, H⟩
    · have := ready_mono hj hji
      rw [H.1] at this
      cases this
  | succ fuel ih =>
    intro listed a w hfree hr hy hS H
    refine ⟨fun h => (by rw [h] at hr; cases hr), fun j hj => ?_⟩
    by_cases hji : j = i
    · subst hji; exact hy.wpOp hi hS ⟨fun _ => hS, H⟩
    · have h1 := H.2 j (ready_mono hj hji)
      obtain ⟨hjun, oj, hoj, hall⟩ := mem_ready.1 hj
      have hnot : ∀ e ∈ oj.after, Region.binds md e = true → e.on ≠ i := fun e he hb heq => by
        have h1 := hall e he hb
        have h0 := (mem_ready.1 hr).1
        rw [heq] at h1
        rcases Nat.lt_or_ge i listed.size with h' | h'
        · simp [h'] at h0 h1; rw [h0] at h1; cases h1
        · simp [Array.getElem?_eq_none h'] at h1
      have hBj : B j = false := by
        cases hb : B j with
        | false => rfl
        | true =>
          obtain ⟨e, he, hb1, hb2⟩ := hB j oj hoj hb hji
          exact absurd hb2 (hnot e he hb1)
      have h2 := wpOp_putIf hoj (hfree j oj hoj hji hjun hnot) (fun cs b => hsel i oi cs b hi) (fun cs b => hsel j oj cs b hoj) hQ hy h1
      have hfree' : ∀ k ok, ops[k]? = some ok → k ≠ i → (listed.setIfInBounds j true).getD k true = false →
          (∀ e ∈ ok.after, Region.binds md e = true → e.on ≠ i) → oi.apart ops ok = true := fun k ok hk hki hun hno => by
        refine hfree k ok hk hki ?_ hno
        by_cases hjk : j = k
        · subst hjk; exact hjun
        · rw [getD_set_ne true hjk] at hun; exact hun
      refine wpOp_mono (fun a' w' h3 => ⟨h3.2.1, ih (listed.setIfInBounds j true) a' w' hfree' (ready_mono hr (Ne.symm hji)) h3.1 (h3.2.1 hBj) ?_⟩) h2
      rw [Array.setIfInBounds_comm _ _ hji]
      exact h3.2.2
def waitedB (md : Region.Mode) (ops : Array Oper) (B : Nat → Bool) (i : Nat) : Bool :=
  (List.range ops.size).all fun j => !B j || j == i || match ops[j]? with
    | some oj => oj.after.any (fun e => Region.binds md e && e.on == i)
    | none => true
theorem waitedB_spec {i : Nat} (h : waitedB md ops B i = true) : ∀ j oj, ops[j]? = some oj → B j = true → j ≠ i → ∃ e ∈ oj.after, Region.binds md e = true ∧ e.on = i := by
  intro j oj hj hb hji
  have hlt : j < ops.size := (Array.getElem?_eq_some_iff.1 hj).1
  have := List.all_eq_true.1 h j (List.mem_range.2 hlt)
  rw [hj, hb] at this
  have hne : (j == i) = false := by simpa using hji
  rw [hne] at this
  simp only [Bool.not_true, Bool.false_or] at this
  obtain ⟨e, he, h2⟩ := Array.any_eq_true'.1 this
  simp only [Bool.and_eq_true, beq_iff_eq] at h2
  exact ⟨e, he, h2.1, h2.2⟩
end
section
variable {D : List Deferred} {P : Program} {ops : Array Oper} {Q : Exit → Act → World → Prop} {B : Nat → Bool} {N d : Nat} {a : Act} {F : List (Nat × Value)} {w0 w : World} {L M : List Chunk} {v : Value} {o : Oper}
def Held (w0 : World) (M : List Chunk) : World → Prop := fun w => Own w0 w M
theorem gx_draw {id : Nat} {l : List Oper} {M : List Chunk} (B : Nat → Bool) (HO : Own w0 w L) (hm : P.follows .mixedOrders = true)
    (h : ∀ w', Own w0 w' L → wpX P .any l.toArray (NoPanic Q) (Held w0 M) B l.length (Array.replicate l.length false) a w') : (Code.region id l.toArray true).wp P Q a w :=
  wp_region_noPanic (wp_region_any hm (wpAny_of_X _ _ _ _ (by simpa using h _ HO.drew)))
theorem hQ_no {oi : Oper} : ∀ c a w, NoPanic Q (.panic c) (a.put oi.dst v) w → NoPanic Q (.panic c) a w := fun _ _ _ h => h.elim
theorem gx_take {fuel : Nat} {listed : Array Bool} (i : Nat) (hi : ops[i]? = some o) (hs : (Region.noSelect ops && ((Region.ready .any ops listed).contains i && (Region.free .any ops listed i && waitedB .any ops B i))) = true) (HF : FrD D N a F) (HO : Own w0 w M)
    (hw : Region.wanted o (yielded ops a.tmps) = true) (hd : o.dst = some d) (hN : d < N) (hrun : ∀ w, Own w0 w M → Runs P o a w v w)
    (k : ∀ a', FrD D N a' ((d, v) :: F) → wpX P .any ops (NoPanic Q) (Held w0 M) B fuel (listed.setIfInBounds i true) a' w) : wpX P .any ops (NoPanic Q) (Held w0 M) B (fuel + 1) listed a w := by
  simp only [Bool.and_eq_true] at hs
  refine wpX_first (v := v) hi (Region.noSelect_spec hs.1) hQ_no (waitedB_spec hs.2.2.2) fuel listed a w (Region.free_spec hi hs.2.2.1) (by simpa using hs.2.1) (.inl ⟨hw, fun w h => hrun w h⟩) HO ?_
  rw [hd]
  exact k _ (HF.put hN v)
theorem gx_take_off {fuel : Nat} {listed : Array Bool} (i : Nat) (hi : ops[i]? = some o) (hs : (Region.noSelect ops && ((Region.ready .any ops listed).contains i && (Region.free .any ops listed i && waitedB .any ops B i))) = true) (HF : FrD D N a F) (HO : Own w0 w M)
    (hw : Region.wanted o (yielded ops a.tmps) = false) (hd : o.dst = some d) (hN : d < N)
    (k : ∀ a', FrD D N a' ((d, undef) :: F) → wpX P .any ops (NoPanic Q) (Held w0 M) B fuel (listed.setIfInBounds i true) a' w) : wpX P .any ops (NoPanic Q) (Held w0 M) B (fuel + 1) listed a w := by
  simp only [Bool.and_eq_true] at hs
  refine wpX_first (v := undef) hi (Region.noSelect_spec hs.1) hQ_no (waitedB_spec hs.2.2.2) fuel listed a w (Region.free_spec hi hs.2.2.1) (by simpa using hs.2.1) (.inr ⟨hw, rfl⟩) HO ?_
  rw [hd]
  exact k _ (HF.put hN undef)
def Patch (K : Act → World → Prop) (Q : Exit → Act → World → Prop) : Exit → Act → World → Prop
  | .normal, a, w => K a w
  | e, a, w => Q e a w
theorem wpOp_of_list {i : Nat} {K : Act → World → Prop} (hi : ops[i]? = some o) (h : wpList P ops (Patch K Q) [o] a w) : wpOp P ops Q i K a w := by
  unfold wpOp
  simp only [hi]
  unfold wpList at h
  have hK : ∀ a w, wpList P ops (Patch K Q) [] a w → K a w := fun a w h => h
  split
  · rename_i hw
    rw [if_pos hw] at h
    rcases h with h | h
    · refine .inl ?_
      unfold Oper.wp at *
      generalize (execOp a.eval o).run P w = r at *
      cases r with
      | ok n w' =>
        cases n <;> simp only [Oper.upon] at h ⊢ <;>
          first
            | exact h
            | exact Calls.mono h (fun e w'' he => by cases e <;> exact he)
            | exact Rows.mono h (fun _ _ he => he)
      | halt x w' => cases x <;> simp only [Oper.upon] at h ⊢ <;> exact h
    · exact .inr h
  · rename_i hw
    rw [if_neg hw] at h
    exact h
theorem gx_step {fuel : Nat} {listed : Array Bool} (i : Nat) (hi : ops[i]? = some o) (hr : Region.ready .any ops listed = [i])
    (h : wpList P ops (Patch (fun a' w' => (B i = false → Held w0 M w') ∧ wpX P .any ops (NoPanic Q) (Held w0 M) B fuel (listed.setIfInBounds i true) a' w') (NoPanic Q)) [o] a w) : wpX P .any ops (NoPanic Q) (Held w0 M) B (fuel + 1) listed a w :=
  ⟨fun h0 => (by rw [hr] at h0; cases h0), fun j hj => by
    rw [hr] at hj
    obtain rfl : j = i := by simpa using hj
    exact wpOp_of_list hi h⟩
theorem gx_on {fuel i : Nat} {listed : Array Bool} (h1 : B i = false → Own w0 w M) (h2 : wpX P .any ops (NoPanic Q) (Held w0 M) B fuel (listed.setIfInBounds i true) a w) :
    wpList P ops (Patch (fun a' w' => (B i = false → Held w0 M w') ∧ wpX P .any ops (NoPanic Q) (Held w0 M) B fuel (listed.setIfInBounds i true) a' w') (NoPanic Q)) [] a w := wpList_nil ⟨h1, h2⟩
theorem gx_done {fuel : Nat} {listed : Array Bool} (hr : Region.ready .any ops listed = []) (h : Q .normal a w) : wpX P .any ops (NoPanic Q) (Held w0 M) B fuel listed a w := by
  cases fuel with
  | zero => exact ⟨hr, h⟩
  | succ _ => exact ⟨fun _ => h, by rw [hr]; simp⟩
end
end Go.Proofs.YtelbgmpeghhakaaGreat.PA
end
section
namespace Go.Proofs.YtelbgmpeghhakaaGreat.PA
open Go.RowKit Go.Proofs.YtelbgmpeghhakaaGreatW.PrintWords Go.Proofs.YtelbgmpeghhakaaGreatW.PrintLast Go.Proofs.YtelbgmpeghhakaaGreatW.PrintMore
set_option linter.unusedVariables false
set_option linter.unusedSimpArgs false
def Chunk.all (A : List Chunk) : Chunk := ⟨fun k => ∃ c ∈ A, c.S k, fun w => (∀ c ∈ A, c.P w) ∧ A.Pairwise (fun (c d : Chunk) => ∀ k : Nat, c.S k → ¬ d.S k), fun h hm => ⟨fun c hc => c.move (h.1 c hc) fun k hk => hm k ⟨c, hc, hk⟩, h.2⟩⟩
section
variable {w0 w : World} {A L : List Chunk} {c d : Chunk}
theorem Own.bundle (h : Own w0 w (A ++ L)) : Own w0 w (Chunk.all A :: L) := by
  obtain ⟨ha, hl, hal⟩ := List.pairwise_append.1 h.apart
  refine ⟨h.below, fun c hc => ?_, fun c hc k hk => ?_, List.pairwise_cons.2 ⟨fun b hb k hk => ?_, hl⟩⟩
  · rcases List.mem_cons.1 hc with rfl | hc
    · exact ⟨fun b hb => h.holds b (List.mem_append_left _ hb), ha⟩
    · exact h.holds c (List.mem_append_right _ hc)
  · rcases List.mem_cons.1 hc with rfl | hc
    · obtain ⟨b, hb, hk⟩ := hk
      exact h.inside b (List.mem_append_left _ hb) k hk
    · exact h.inside c (List.mem_append_right _ hc) k hk
  · obtain ⟨a, ha, hk⟩ := hk
    exact hal a ha b hb k hk
theorem Own.unbundle (h : Own w0 w (Chunk.all A :: L)) : Own w0 w (A ++ L) := by
  obtain ⟨hal, hl⟩ := List.pairwise_cons.1 h.apart
  have hA : (Chunk.all A).P w := h.holds _ (List.mem_cons_self ..)
  refine ⟨h.below, fun c hc => ?_, fun c hc k hk => ?_, List.pairwise_append.2 ⟨hA.2, hl, fun a ha b hb k hk => hal b hb k ⟨a, ha, hk⟩⟩⟩
  · rcases List.mem_append.1 hc with hc | hc
    · exact hA.1 c hc
    · exact h.holds c (List.mem_cons_of_mem _ hc)
  · rcases List.mem_append.1 hc with hc | hc
    · exact h.inside _ (List.mem_cons_self ..) k ⟨c, hc, hk⟩
    · exact h.inside c (List.mem_cons_of_mem _ hc) k hk
def Chunk.void : Chunk := ⟨fun _ => False, fun _ => True, fun _ _ => trivial⟩
theorem Own.void (h : Own w0 w L) : Own w0 w (Chunk.void :: L) := h.fresh (cs := [_]) (Out.one (Out.refl w _) (c := Chunk.void) trivial (fun _ hk => hk.elim))
theorem argblk {g : Nat} {o : Obj} (h : Own w0 w L) (hb : w0.heap[g]? = some o) : w.heap[g]? = some o := (h.below.block g (blk_lt hb)).trans hb
end
section
variable {D : List Deferred} {P : Program} {fn : Func} {R : Ending → World → Prop} {w : World} {N : Nat}
theorem gw_startO {f : FuncId} {c : Code} {vs : List Value} (hf : P.funcs[f]? = some fn) (hb : fn.body = some c) (hn : fn.ntmps = N) (hl : vs.length ≤ N)
    (h : ∀ a, Fr N a (ixs 0 vs) → c.wp P (bodyPost P fn R) a w) : Calls P f vs.toArray w R := by
  refine calls_of_wp hf hb ?_
  rw [hn]
  exact h _ (Fr.start vs N hl)
end
section
variable {α β : Type} {d : Kd α} {d' : Kd β} {S : Nat → Prop} {A A' : Option Addr} {n n' c : Nat} {xs : List α} {ys : List β} {w0 w w1 : World} {L : List Chunk}
def Chunk.viewAt (w1 : World) (d : Kd α) (S : Nat → Prop) (A : Option Addr) (n c : Nat) (xs : List α) : Chunk := ⟨S, fun w => d.F w1 S A n xs ∧ (n ≤ c ∧ ∀ ad, A = some ad → S ad.block) ∧ ∀ k, S k → w.heap[k]? = w1.heap[k]?, fun h hm => ⟨h.1, h.2.1, fun k hk => (hm k hk).trans (h.2.2 k hk)⟩⟩
theorem Own.pin (h : Own w0 w L) (i : Nat) (hi : L[i]? = some (Chunk.view d S A n c xs)) : Own w0 w (L.set i (Chunk.viewAt w d S A n c xs)) :=
  h.calls (cs := []) i hi (Out.one (Out.refl w _) (c := Chunk.viewAt w d S A n c xs) ⟨(h.get i hi).1, (h.get i hi).2, fun _ _ => rfl⟩ fun k hk => ⟨.inl hk, (h.lt i hi hk).2⟩)
theorem Own.unpin (h : Own w0 w L) (i : Nat) (hi : L[i]? = some (Chunk.viewAt w1 d S A n c xs)) : Own w0 w (L.set i (Chunk.view d S A n c xs)) :=
  h.mapc i hi (fun _ hk => hk) (fun _ hp => ⟨Kd.F_step hp.1 (fun k hk _ => hp.2.2 k hk), hp.2.1⟩)
theorem viewAt_C (h : (Chunk.viewAt w1 d S A n c xs).P w) : d.C w A n xs := h.1 w (fun k hk _ => h.2.2 k hk)
theorem viewAt_le (h : (Chunk.viewAt w1 d S A n c xs).P w) : n ≤ c := h.2.1.1
theorem viewAt_F (h : (Chunk.viewAt w1 d S A n c xs).P w) : d.F w1 S A n xs := h.1
theorem pinC (h : (Chunk.viewAt w1 d S A n c xs).P w) (hF : d'.F w1 S A' n' ys) : d'.C w A' n' ys := hF w (fun k hk _ => h.2.2 k hk)
theorem cell_same {p : Addr} (h : w.heap[p.block]? = w1.heap[p.block]?) : w.cell? p = w1.cell? p := by
  unfold World.cell?
  rw [h]
theorem pin_cells {ad : Addr} {m : Nat} {cs : List Value} (h : (Chunk.viewAt w1 d S A n c xs).P w) (hA : A = some ad) (hc : ∀ j u, cs[j]? = some u → w1.cell? (ad.add (m + j)) = some u) : ∀ j u, cs[j]? = some u → w.cell? ((ad.add m).add j) = some u := fun j u hj => by
  rw [add_add, cell_same, hc j u hj]
  rw [add_block]
  exact h.2.2 _ (h.2.1.2 ad hA)
end
section
variable {D : List Deferred} {P : Program} {ops : Array Oper} {Q : Exit → Act → World → Prop} {rest : List Oper} {o : Oper} {N dd : Nat} {a : Act} {F : List (Nat × Value)} {w w0 : World} {L : List Chunk} {α : Type}
theorem gw_news {O : Obj} {n : Nat} (HF : FrD D N a F) (HO : Own w0 w L) (hw : Region.wanted o (yielded ops a.tmps) = true) (hd : o.dst = some dd) (hN : dd < N)
    (hrun : Runs P o a w (.slice (some ⟨w.heap.size, 0, none⟩) n n) (w.alloc O)) (k : ∀ g a' w1, FrD D N a' ((dd, .slice (some ⟨g, 0, none⟩) n n) :: F) → Own w0 w1 (Chunk.blk g O :: L) → wpList P ops Q rest a' w1) : wpList P ops Q (o :: rest) a w :=
  gw_ev HF hw hd hN hrun fun a' HF' => k _ a' _ HF' (HO.new O)
theorem gw_append1 (d : Kd α) {e base : Nat} {S : Nat → Prop} {A : Option Addr} {c g : Nat} {xs : List α} {p : α} {cs : List Value} {cj : Chunk} {s x : Operand} {t : TypeId} {z : Value} {bytes : Nat} (b : Nat) (HF : FrD D N a F) (HO : Own w0 w (Chunk.row d e base S (.slice A xs.length c) xs :: cj :: L)) (hw : Region.wanted o (yielded ops a.tmps) = true) (hd : o.dst = some dd) (hN : dd < N)
    (ho : o.op = .call { callee := .builtin .append, args := #[s, x], argTypes := #[t, t] })
    (ht : P.underlying t = some (.slice e)) (hinfo : (P.info? e).map (fun i => (i.zero, i.size, i.bytes)) = some (some z, d.sz, bytes)) (hz : z.cells.size = d.sz) (hs0 : 0 < d.sz) (hb0 : 0 < bytes)
    (hg : L[b]? = some (Chunk.blk g (.cells cs.toArray e (0, 0)))) (hs : a.eval s = .slice A xs.length c) (hx : a.eval x = .slice (some ⟨g, 0, none⟩) 1 1)
    (hM : ∀ w, cj.P w → d.M w base cj.S p cs) (hbase : base ≤ w.heap.size) (hl : (xs.length + 1) * bytes ≤ 140737488355328)
    (k : ∀ A' c' S' a' w1, FrD D N a' ((dd, .slice A' (xs ++ [p]).length c') :: F) → Own w0 w1 (Chunk.row d e base S' (.slice A' (xs ++ [p]).length c') (xs ++ [p]) :: L) → wpList P ops Q rest a' w1) : wpList P ops Q (o :: rest) a w := by
  have hR : d.R e w base S (.slice A xs.length c) xs := HO.get 0 rfl
  have hB : w.heap[g]? = some (.cells cs.toArray e (0, 0)) := HO.get (b + 2) (by simpa using hg)
  have hm : d.M w base cj.S p cs := hM w (HO.get 1 rfl)
  have hlen : cs.length = d.sz := d.K_len (d.K_of_M hm)
  have HR : ReadsRow (d.M w base cj.S) d.sz w (some ⟨g, 0, none⟩) 1 [p] := by
    refine ⟨rfl, by simp [maxLen], fun _ => ⟨_, rfl, fun j q hj => ?_⟩⟩
    cases j with
    | zero =>
      obtain rfl : p = q := by simpa using hj
      refine ⟨cs, hlen, hm, fun i u hi => ?_⟩
      have : cs.toArray[0 * d.sz + i]? = some u := by simpa using hi
      rw [add_plain]
      exact blk_at hB this
    | succ j => simp at hj
  refine gw_unguard hw ?_
  refine Kd.R_append_rows d (Rr := d.M w base cj.S) (w0 := w) base rfl s x t e z bytes ho ht hinfo hz hs0 hb0 _ xs [p] (some ⟨g, 0, none⟩) 1 1 (fun k => S k ∨ cj.S k ∨ w.heap.size ≤ k) cj.S hs hx (Kd.R_mono hR (fun k hk => .inl hk)) HR (fun _ _ h => h) (fun k hk => ⟨.inr (.inl hk), fun e => HO.apart_at 0 1 (by decide) rfl rfl k (hR.1 k e.symm) hk⟩) (fun k hk => .inr (.inr hk)) (Below.refl _ _) hbase hl ?_
  intro v1 w1 h1 _ hgr _
  obtain ⟨A', c', rfl⟩ := Kd.R_slice h1
  show wpList P ops Q rest (a.put o.dst _) w1
  rw [hd]
  have HB : Own w0 w (Chunk.all [Chunk.row d e base S (.slice A xs.length c) xs, cj] :: L) := Own.bundle (A := [_, _]) HO
  have hall : ∀ k, (Chunk.all [Chunk.row d e base S (.slice A xs.length c) xs, cj]).S k ↔ S k ∨ cj.S k := fun k => by
    constructor
    · rintro ⟨c, hc, hk⟩
      simp only [List.mem_cons, List.mem_nil_iff, or_false] at hc
      rcases hc with rfl | rfl
      · exact .inl hk
      · exact .inr hk
    · rintro (hk | hk)
      · exact ⟨_, List.mem_cons_self .., hk⟩
      · exact ⟨cj, by simp, hk⟩
  refine k A' c' (fun k => (S k ∨ cj.S k) ∨ w.heap.size ≤ k ∧ k < w1.heap.size) _ w1 (HF.put hN _) (HB.calls (cs := []) 0 rfl ?_)
  refine Out.one ((Out.refl w _).grown hgr (fun k e => .inl ((hall k).2 (.inl (hR.1 k e))))) ?_ ?_
  · exact Kd.R_mono (Kd.R_bound h1) (fun k hk => by
      rcases hk.1 with h | h | h
      · exact .inl (.inl h)
      · exact .inl (.inr h)
      · exact .inr ⟨h, hk.2.2.1⟩)
  · intro k hk
    rcases hk with hk | hk
    · exact ⟨.inl ((hall k).2 hk), Nat.lt_of_lt_of_le (HB.lt 0 rfl ((hall k).2 hk)).2 hgr.size⟩
    · exact ⟨.inr hk.1, hk.2⟩
end
section
variable {α : Type} {d : Kd α} {w w0 : World} {L : List Chunk}
theorem Own.row_nil (h : Own w0 w L) (d : Kd α) (e base : Nat) : Own w0 w (Chunk.row d e base (fun _ => False) (.slice none 0 0) [] :: L) :=
  h.fresh (cs := [_]) (Out.one (Out.refl w _) (c := Chunk.row d e base (fun _ => False) (.slice none 0 0) []) (Kd.R_nil _ _ _ _ _) (fun _ hk => hk.elim))
theorem reps_none {R : α → List Value → Prop} {sz : Nat} : Reps R sz [] [] := ⟨by simp, fun j p h => by simp at h⟩
theorem reps_more {R : α → List Value → Prop} {sz : Nat} {x : α} {xs : List α} {c cs : List Value} (h : R x c) (hl : c.length = sz) (hs : Reps R sz xs cs) : Reps R sz (x :: xs) (c ++ cs) := by
  refine ⟨?_, fun j p hj => ?_⟩
  · rw [List.length_append, hl, hs.1, List.length_cons, Nat.add_mul, Nat.one_mul, Nat.add_comm]
  · cases j with
    | zero =>
      obtain rfl : x = p := by simpa using hj
      rw [Nat.zero_mul, List.drop_zero, List.take_append_of_le_length (by omega), List.take_of_length_le (by omega)]
      exact h
    | succ j =>
      have := hs.2 j p (by simpa using hj)
      have e : (j + 1) * sz = sz + j * sz := by rw [Nat.add_mul, Nat.one_mul, Nat.add_comm]
      rw [e, List.drop_append, List.drop_of_length_le (by omega), List.nil_append, show sz + j * sz - c.length = j * sz by omega]
      exact this
theorem Cg_lit {g e : Nat} {xs : List α} {cs : List Value} (hb : w.heap[g]? = some (.cells cs.toArray e (0, 0))) (hr : Reps (d.K w) d.sz xs cs) (hm : xs.length ≤ maxLen) : d.C w (some ⟨g, 0, none⟩) xs.length xs := by
  refine ⟨rfl, hm, fun _ => ⟨_, rfl, fun j p hj => ⟨_, ?_, hr.2 j p hj, fun i u hi => ?_⟩⟩⟩
  · exact d.K_len (hr.2 j p hj)
  · rw [add_plain]
    refine blk_at hb ?_
    rw [List.getElem?_take] at hi
    split at hi
    · rw [List.getElem?_drop] at hi
      simpa using hi
    · cases hi
end
section
variable {P : Program} {o : Oper} {a : Act} {w : World} {x y : Operand} {t yt e : TypeId}
theorem op_indexP {g off n sz q : Nat} {k : IntKind} {i : Int} (ht : P.underlying t = some (.array n e)) (hS : ∀ w, (sizeOf e).run P w = .ok sz w) (ho : o.op = .indexAddr t x y) (hx : a.eval x = .pointer (some ⟨g, off, none⟩)) (hy : a.eval y = .int k i) (h : 0 ≤ i ∧ i < n) (hq : off + i.toNat * sz = q) :
    Runs P o a w (.pointer (some ⟨g, q, none⟩)) w := by
  subst hq
  unfold Runs execOp
  simp only [ho, hx, hy]
  by_cases hz : i.toNat * sz = 0
  · simp [go_sem, Instr.indexAt, asIntOf, run_underlying ht, hS, h.1, h.2, Addr.add, hz]
  · simp [go_sem, Instr.indexAt, asIntOf, run_underlying ht, hS, h.1, h.2, Addr.add, hz]
theorem op_bin_run {b : BinOp} {u v r : Value} (ho : o.op = .binOp b t x y yt) (hx : a.eval x = u) (hy : a.eval y = v) (hr : (do eqGuard b t x y u v; binOp b t u v : Sem Value).run P w = .ok r w) : Runs P o a w r w := by
  unfold Runs execOp
  simp only [ho, hx, hy]
  rw [Sem.run_bind, hr]
  rfl
end
end Go.Proofs.YtelbgmpeghhakaaGreat.PA
end
section
namespace Go.Proofs.YtelbgmpeghhakaaGreat.PA
open Go.RowKit Go.Proofs.YtelbgmpeghhakaaGreatW.PrintWords Go.Proofs.YtelbgmpeghhakaaGreatW.PrintLast Go.Proofs.YtelbgmpeghhakaaGreatW.PrintMore
set_option linter.unusedVariables false
set_option linter.unusedSimpArgs false
def gv (g : Bool) (v : Value) : Value := bif g then v else undef
def onb (b : Bool) : Value → Bool
  | .bool x => x == b
  | _ => false
theorem on_t (x : Bool) : onb true (.bool x) = x := by cases x <;> rfl
theorem on_f (x : Bool) : onb false (.bool x) = !x := by cases x <;> rfl
theorem ev_gv {u v : Value} {g : Bool} (h : u = gv g v) (hg : g = true) : u = v := by
  rw [h, hg]
  rfl
theorem not_t {a : Bool} (h : a = false) : (!a) = true := by rw [h]; rfl
section
variable {D : List Deferred} {P : Program} {ops : Array Oper} {Q : Exit → Act → World → Prop} {rest : List Oper} {o oj : Oper} {N d j dj : Nat} {a : Act} {F : List (Nat × Value)} {w w1 : World} {v u : Value} {C : World → Prop} {Q' : Act → Prop} {b g : Bool}
theorem wanted_on (HF : FrD D N a F) (hg : o.guard = some (j, b)) (hj : ops[j]? = some oj) (hdj : oj.dst = some dj) (hl : look F dj = some u) : Region.wanted o (yielded ops a.tmps) = onb b u := by
  have hy : yielded ops a.tmps j = (match u with | .bool x => some x | _ => none) := by
    cases u <;> simp [yielded, hj, hdj, HF.at_ _ _ hl]
  cases u <;> simp [Region.wanted, hg, hy, onb]
theorem gw_evG (HF : FrD D N a F) (hg : o.guard = some (j, b)) (hj : ops[j]? = some oj) (hdj : oj.dst = some dj) (hl : look F dj = some u) (hon : onb b u = g) (hd : o.dst = some d) (hN : d < N) (hrun : g = true → Runs P o a w v w)
    (k : ∀ a', FrD D N a' ((d, gv g v) :: F) → wpList P ops Q rest a' w) : wpList P ops Q (o :: rest) a w := by
  have hw := wanted_on HF hg hj hdj hl
  rw [hon] at hw
  cases g
  · exact gw_off HF hw hd hN k
  · exact gw_ev HF hw hd hN (hrun rfl) k
theorem gq_evG (HF : FrD D N a F) (hg : o.guard = some (j, b)) (hj : ops[j]? = some oj) (hdj : oj.dst = some dj) (hl : look F dj = some u) (hon : onb b u = g) (hd : o.dst = some d) (hN : d < N) (hrun : g = true → ∀ w, C w → Runs P o a w v w)
    (k : ∀ a', FrD D N a' ((d, gv g v) :: F) → wpQuiet P ops C Q' rest a') : wpQuiet P ops C Q' (o :: rest) a := by
  have hw := wanted_on HF hg hj hdj hl
  rw [hon] at hw
  cases g
  · exact gq_off HF hw hd hN k
  · exact gq_ev HF hw hd hN (hrun rfl) k
theorem gq_callG {f : FuncId} {args : Array Value} (HF : FrD D N a F) (hg : o.guard = some (j, b)) (hj : ops[j]? = some oj) (hdj : oj.dst = some dj) (hl : look F dj = some u) (hon : onb b u = g) (hd : o.dst = some d) (hN : d < N) (hen : g = true → ∀ w, C w → Enters P o a w f args)
    (hc : g = true → ∀ w, C w → Calls P f args w (fun e w' => e = .returned v ∧ C w')) (k : ∀ a', FrD D N a' ((d, gv g v) :: F) → wpQuiet P ops C Q' rest a') : wpQuiet P ops C Q' (o :: rest) a := by
  have hw := wanted_on HF hg hj hdj hl
  rw [hon] at hw
  cases g
  · exact gq_off HF hw hd hN k
  · exact gq_call HF hw hd hN (hen rfl) (hc rfl) k
theorem gx_takeG {B : Nat → Bool} {w0 : World} {M : List Chunk} {fuel : Nat} {listed : Array Bool} (i : Nat) (hi : ops[i]? = some o) (hs : (Region.noSelect ops && ((Region.ready .any ops listed).contains i && (Region.free .any ops listed i && waitedB .any ops B i))) = true) (HF : FrD D N a F) (HO : Own w0 w M)
    (hg : o.guard = some (j, b)) (hj : ops[j]? = some oj) (hdj : oj.dst = some dj) (hl : look F dj = some u) (hon : onb b u = g) (hd : o.dst = some d) (hN : d < N) (hrun : g = true → ∀ w, Own w0 w M → Runs P o a w v w)
    (k : ∀ a', FrD D N a' ((d, gv g v) :: F) → wpX P .any ops (NoPanic Q) (Held w0 M) B fuel (listed.setIfInBounds i true) a' w) : wpX P .any ops (NoPanic Q) (Held w0 M) B (fuel + 1) listed a w := by
  have hw := wanted_on HF hg hj hdj hl
  rw [hon] at hw
  cases g
  · exact gx_take_off i hi hs HF HO hw hd hN k
  · exact gx_take i hi hs HF HO hw hd hN (hrun rfl) k
end
section
variable {P : Program} {o : Oper} {a : Act} {w : World} {x y z : Operand} {p q : Bool}
theorem op_pick_or (ho : o.op = .pick x y z) (hx : a.eval x = .bool p) (hy : a.eval y = .bool true) (hz : p = false → a.eval z = .bool q) : Runs P o a w (.bool (p || q)) w := by
  cases p
  · exact op_pick_f ho hx (hz rfl)
  · exact op_pick_t ho hx hy
theorem op_pick_and (ho : o.op = .pick x y z) (hx : a.eval x = .bool p) (hy : p = true → a.eval y = .bool q) (hz : a.eval z = .bool false) : Runs P o a w (.bool (p && q)) w := by
  cases p
  · exact op_pick_f ho hx hz
  · exact op_pick_t ho hx (hy rfl)
end
section
variable {α : Type} {d : Kd α} {w : World} {A : Option Addr} {n : Nat} {xs : List α} {S : Nat → Prop}
theorem C_getT (h : d.C w A n xs) (z : α) (i : Int) (hz : ∃ cs, d.K w z cs) : ∃ ad cs, ((0 ≤ i ∧ i < n) → A = some ad) ∧ cs.length = d.sz ∧ d.K w (xs.getD i.toNat z) cs ∧ ((0 ≤ i ∧ i < n) → ∀ j u, cs[j]? = some u → w.cell? (ad.add (i.toNat * d.sz + j)) = some u) := by
  have hn : xs.length = n := h.1
  by_cases hi : 0 ≤ i ∧ i < n
  · obtain ⟨ad, cs, h1, h2, h3, h4⟩ := Kd.C_get h z i hi.1 hi.2
    exact ⟨ad, cs, fun _ => h1, h2, h3, fun _ => h4⟩
  · by_cases h0 : i.toNat < xs.length
    · obtain ⟨ad, cs, h1, h2, h3, h4⟩ := Kd.C_get h z (i.toNat : Int) (by omega) (by omega)
      rw [Int.toNat_natCast] at h3
      exact ⟨ad, cs, fun k => absurd k hi, h2, h3, fun k => absurd k hi⟩
    · obtain ⟨cs, hk⟩ := hz
      have e : xs.getD i.toNat z = z := by rw [List.getD_eq_getElem?_getD, List.getElem?_eq_none (by omega)]; rfl
      rw [e]
      exact ⟨⟨0, 0, none⟩, cs, fun k => absurd k hi, d.K_len hk, hk, fun k => absurd k hi⟩
theorem F_getT (h : d.F w S A n xs) (z : α) (i : Int) (hz : ∃ cs, Kd.FK d w S z cs) : ∃ ad cs, ((0 ≤ i ∧ i < n) → A = some ad) ∧ cs.length = d.sz ∧ Kd.FK d w S (xs.getD i.toNat z) cs ∧ ((0 ≤ i ∧ i < n) → ∀ j u, cs[j]? = some u → w.cell? (ad.add (i.toNat * d.sz + j)) = some u) := by
  have hn : xs.length = n := (Kd.F_now h).1
  by_cases hi : 0 ≤ i ∧ i < n
  · obtain ⟨ad, cs, h1, h2, h3, h4, _⟩ := Kd.F_get h z i hi.1 hi.2
    exact ⟨ad, cs, fun _ => h1, h2, h3, fun _ => h4⟩
  · by_cases h0 : i.toNat < xs.length
    · obtain ⟨ad, cs, h1, h2, h3, h4, _⟩ := Kd.F_get h z (i.toNat : Int) (by omega) (by omega)
      rw [Int.toNat_natCast] at h3
      exact ⟨ad, cs, fun k => absurd k hi, h2, h3, fun k => absurd k hi⟩
    · obtain ⟨cs, hk⟩ := hz
      have e : xs.getD i.toNat z = z := by rw [List.getD_eq_getElem?_getD, List.getElem?_eq_none (by omega)]; rfl
      rw [e]
      exact ⟨⟨0, 0, none⟩, cs, fun k => absurd k hi, d.K_len (Kd.FK_now hk), hk, fun k => absurd k hi⟩
end
section
variable {k : IntKind} {e base c : Nat} {S : Nat → Prop} {A : Option Addr} {n : Nat} {xs : List Int} {w : World}
theorem row_headT {α : Type} {d : Kd α} {xs : List α} (h : d.R e w base S (.slice A n c) xs) (i : Int) : ∃ ad, (0 ≤ i ∧ i < xs.length) → A = some ad := by
  by_cases hi : 0 ≤ i ∧ i < xs.length
  · obtain ⟨ad, e⟩ := row_head h i hi.1 hi.2
    exact ⟨ad, fun _ => e⟩
  · exact ⟨⟨0, 0, none⟩, fun k => absurd k hi⟩
end
end Go.Proofs.YtelbgmpeghhakaaGreat.PA
end
section
namespace Go.Proofs.YtelbgmpeghhakaaGreat.PA
open Go.RowKit Go.Proofs.YtelbgmpeghhakaaGreatW.PrintWords Go.Proofs.YtelbgmpeghhakaaGreatW.PrintLast Go.Proofs.YtelbgmpeghhakaaGreatW.PrintMore
set_option linter.unusedVariables false
set_option linter.unusedSimpArgs false
section
variable {α : Type} {d : Kd α} {e base n c g : Nat} {S : Nat → Prop} {A : Option Addr} {xs ys : List α} {v : Value} {w0 w : World} {L : List Chunk} {cj : Chunk}
def Chunk.nrow (d : Kd α) (e base : Nat) (S : Nat → Prop) (v : Value) (xs : List α) : Chunk := ⟨S, fun w => Kd.N d e w base S v xs, fun h hm => Kd.N_step h (fun k hk _ => hm k hk)⟩
theorem Own.nrow_nil (h : Own w0 w L) (d : Kd α) (e base : Nat) : Own w0 w (Chunk.nrow d e base (fun _ => False) (.slice none 0 0) [] :: L) :=
  h.fresh (cs := [_]) (Out.one (Out.refl w _) (c := Chunk.nrow d e base (fun _ => False) (.slice none 0 0) []) (Kd.N_nil _ _ _ _ _) (fun _ hk => hk.elim))
theorem nrow_in (h : Kd.N d e w base S (.slice A n c) xs) {ad : Addr} (e1 : A = some ad) : S ad.block := h.1 _ (by subst e1; rfl)
theorem Own.nrow_view (h : Own w0 w L) (i : Nat) (hi : L[i]? = some (Chunk.nrow d e base S (.slice A n c) xs)) : Own w0 w (L.set i (Chunk.view d S A n c xs)) :=
  h.mapc i hi (fun _ hk => hk) (fun _ hr => ⟨Kd.N_F hr, (Kd.N_reads' hr).2.1, fun ad e => nrow_in hr e⟩)
theorem Own.lit_view {cs : List Value} (h : Own w0 w (Chunk.blk g (.cells cs.toArray e (0, 0)) :: cj :: L)) (d : Kd α) (xs : List α) (hr : ∀ w, cj.P w → Reps (Kd.FK d w cj.S) d.sz xs cs) (hm : xs.length ≤ maxLen) : Own w0 w (Chunk.view d (fun k => k = g ∨ cj.S k) (some ⟨g, 0, none⟩) xs.length xs.length xs :: L) := by
  have hB : w.heap[g]? = some (.cells cs.toArray e (0, 0)) := h.get 0 rfl
  have hR := hr w (h.get 1 rfl)
  have HB : Own w0 w (Chunk.all [Chunk.blk g (.cells cs.toArray e (0, 0)), cj] :: L) := Own.bundle (A := [_, _]) h
  have hall : ∀ k, (Chunk.all [Chunk.blk g (.cells cs.toArray e (0, 0)), cj]).S k ↔ k = g ∨ cj.S k := fun k => by
    constructor
    · rintro ⟨c, hc, hk⟩
      simp only [List.mem_cons, List.mem_nil_iff, or_false] at hc
      rcases hc with rfl | rfl
      · exact .inl hk
      · exact .inr hk
    · rintro (hk | hk)
      · exact ⟨_, List.mem_cons_self .., hk⟩
      · exact ⟨cj, by simp, hk⟩
  refine HB.calls (cs := []) 0 rfl (Out.one (Out.refl w _) ⟨?_, Nat.le_refl _, fun ad e1 => by injection e1 with e1; subst e1; exact .inl rfl⟩ fun k hk => ⟨.inl ((hall k).2 hk), (HB.lt 0 rfl ((hall k).2 hk)).2⟩)
  intro W' hW
  have hlt : g < w.heap.size := blk_lt hB
  have hB' : W'.heap[g]? = some (.cells cs.toArray e (0, 0)) := (hW g (.inl rfl) hlt).trans hB
  exact Cg_lit hB' (hR.imp_ (fun x c hk => hk W' (fun k hk2 hl => hW k (.inr hk2) hl))) hm
end
section
variable {D : List Deferred} {P : Program} {ops : Array Oper} {Q : Exit → Act → World → Prop} {rest : List Oper} {o : Oper} {N dd : Nat} {a : Act} {F : List (Nat × Value)} {w w0 : World} {L : List Chunk} {α : Type}
theorem gw_nappend (d : Kd α) {e base : Nat} {S : Nat → Prop} {A B : Option Addr} {c m cc : Nat} {xs ys : List α} {cj : Chunk} {s x : Operand} {t : TypeId} {z : Value} {bytes : Nat} (HF : FrD D N a F) (HO : Own w0 w (Chunk.nrow d e base S (.slice A xs.length c) xs :: cj :: L)) (hw : Region.wanted o (yielded ops a.tmps) = true) (hd : o.dst = some dd) (hN : dd < N)
    (ho : o.op = .call { callee := .builtin .append, args := #[s, x], argTypes := #[t, t] })
    (ht : P.underlying t = some (.slice e)) (hinfo : (P.info? e).map (fun i => (i.zero, i.size, i.bytes)) = some (some z, d.sz, bytes)) (hz : z.cells.size = d.sz) (hs0 : 0 < d.sz) (hb0 : 0 < bytes)
    (hs : a.eval s = .slice A xs.length c) (hx : a.eval x = .slice B m cc) (hF : ∀ w, cj.P w → Kd.F d w cj.S B m ys) (hbase : base ≤ w.heap.size) (hl : (xs.length + m) * bytes ≤ 140737488355328)
    (k : ∀ A' c' S' a' w1, FrD D N a' ((dd, .slice A' (xs ++ ys).length c') :: F) → Own w0 w1 (Chunk.nrow d e base S' (.slice A' (xs ++ ys).length c') (xs ++ ys) :: L) → wpList P ops Q rest a' w1) : wpList P ops Q (o :: rest) a w := by
  have hR : Kd.N d e w base S (.slice A xs.length c) xs := HO.get 0 rfl
  have hF' := hF w (HO.get 1 rfl)
  refine gw_unguard hw ?_
  refine Kd.N_append_rows d (w0 := w) base rfl s x t e z bytes ho ht hinfo hz hs0 hb0 _ xs ys B m cc (fun k => S k ∨ cj.S k ∨ w.heap.size ≤ k) cj.S hs hx (Kd.N_mono hR (fun k hk => .inl hk)) hF' (fun k hk => ⟨.inr (.inl hk), fun e => HO.apart_at 0 1 (by decide) rfl rfl k (hR.1 k e.symm) hk⟩) (fun k hk => .inr (.inr hk)) (Below.refl _ _) hbase hl ?_
  intro v1 w1 h1 _ hgr _
  obtain ⟨A', c', rfl⟩ := Kd.N_slice h1
  show wpList P ops Q rest (a.put o.dst _) w1
  rw [hd]
  have HB : Own w0 w (Chunk.all [Chunk.nrow d e base S (.slice A xs.length c) xs, cj] :: L) := Own.bundle (A := [_, _]) HO
  have hall : ∀ k, (Chunk.all [Chunk.nrow d e base S (.slice A xs.length c) xs, cj]).S k ↔ S k ∨ cj.S k := fun k => by
    constructor
    · rintro ⟨c, hc, hk⟩
      simp only [List.mem_cons, List.mem_nil_iff, or_false] at hc
      rcases hc with rfl | rfl
      · exact .inl hk
      · exact .inr hk
    · rintro (hk | hk)
      · exact ⟨_, List.mem_cons_self .., hk⟩
      · exact ⟨cj, by simp, hk⟩
  refine k A' c' (fun k => (S k ∨ cj.S k) ∨ w.heap.size ≤ k ∧ k < w1.heap.size) _ w1 (HF.put hN _) (HB.calls (cs := []) 0 rfl ?_)
  refine Out.one ((Out.refl w _).grown hgr (fun k e => .inl ((hall k).2 (.inl (hR.1 k e))))) ?_ ?_
  · exact Kd.N_mono (Kd.N_bound h1) (fun k hk => by
      rcases hk.1 with h | h | h
      · exact .inl (.inl h)
      · exact .inl (.inr h)
      · exact .inr ⟨h, hk.2⟩)
  · intro k hk
    rcases hk with hk | hk
    · exact ⟨.inl ((hall k).2 hk), Nat.lt_of_lt_of_le (HB.lt 0 rfl ((hall k).2 hk)).2 hgr.size⟩
    · exact ⟨.inr hk.1, hk.2⟩
end
end Go.Proofs.YtelbgmpeghhakaaGreat.PA
end
section
namespace Go.Proofs.YtelbgmpeghhakaaGreat.PA
open Go.RowKit Go.Proofs.YtelbgmpeghhakaaGreatW.PrintWords Go.Proofs.YtelbgmpeghhakaaGreatW.PrintLast Go.Proofs.YtelbgmpeghhakaaGreatW.PrintMore
set_option linter.unusedVariables false
set_option linter.unusedSimpArgs false
abbrev RR := S55
theorem k55_openF {W : World} {ok : Nat → Prop} {x : RR} {cs : List Value} (h : Kd.FK k55 W ok x cs) : cs = [.int .u8 x.f0, .int .u8 x.f1] := k55_open (Kd.FK_now h)
def inR (l : List RR) (c : Int) : Bool := l.any fun r => decide (r.f0 ≤ c) && decide (c ≤ r.f1)
theorem inR_cons (r : RR) (l : List RR) (c : Int) : inR (r :: l) c = ((decide (r.f0 ≤ c) && decide (c ≤ r.f1)) || inR l c) := rfl
theorem inR_append (l l' : List RR) (c : Int) : inR (l ++ l') c = (inR l c || inR l' c) := List.any_append ..
theorem inR_one (r : RR) (c : Int) : inR [r] c = (decide (r.f0 ≤ c) && decide (c ≤ r.f1)) := by simp [inR]
theorem inR_iff {l : List RR} {c : Int} : inR l c = true ↔ ∃ r ∈ l, r.f0 ≤ c ∧ c ≤ r.f1 := by simp [inR]
def CanonFrom : Int → List RR → Prop
  | _, [] => True
  | k, r :: rs => k ≤ r.f0 ∧ r.f0 ≤ r.f1 ∧ r.f1 ≤ 255 ∧ CanonFrom (r.f1 + 2) rs
theorem canon_below : ∀ {l : List RR} {k : Int}, CanonFrom k l → ∀ c, c < k → inR l c = false
  | [], _, _, _, _ => rfl
  | r :: l, k, h, c, hc => by
    obtain ⟨h1, h2, h3, h4⟩ := h
    rw [inR_cons, canon_below h4 c (by omega), Bool.or_false, Bool.and_eq_false_iff, decide_eq_false_iff_not]
    exact .inl (by omega)
theorem canon_unique : ∀ {l l' : List RR} {k : Int}, CanonFrom k l → CanonFrom k l' → (∀ c, k ≤ c → c ≤ 255 → inR l c = inR l' c) → l = l'
  | [], [], _, _, _, _ => rfl
  | [], r :: l', k, _, h, he => by
    obtain ⟨h1, h2, h3, h4⟩ := h
    have := he r.f0 h1 (by omega)
    rw [inR_cons, show decide (r.f0 ≤ r.f0) = true by simp, show decide (r.f0 ≤ r.f1) = true by simpa using h2] at this
    simp [inR] at this
  | r :: l, [], k, h, _, he => by
    obtain ⟨h1, h2, h3, h4⟩ := h
    have := he r.f0 h1 (by omega)
    rw [inR_cons, show decide (r.f0 ≤ r.f0) = true by simp, show decide (r.f0 ≤ r.f1) = true by simpa using h2] at this
    simp [inR] at this
  | r :: l, q :: l', k, h, g, he => by
    obtain ⟨h1, h2, h3, h4⟩ := h
    obtain ⟨g1, g2, g3, g4⟩ := g
    have hp : ∀ c, k ≤ c → c ≤ 255 → ((r.f0 ≤ c ∧ c ≤ r.f1) ∨ inR l c = true ↔ (q.f0 ≤ c ∧ c ≤ q.f1) ∨ inR l' c = true) := fun c c1 c2 => by
      have h_ := he c c1 c2
      rw [inR_cons, inR_cons] at h_
      have h2_ := congrArg (· = true) h_
      simpa using h2_
    have b1 : ∀ c, c < r.f1 + 2 → ¬ inR l c = true := fun c hc => by rw [canon_below h4 c hc]; simp
    have b2 : ∀ c, c < q.f1 + 2 → ¬ inR l' c = true := fun c hc => by rw [canon_below g4 c hc]; simp
    have e0 : r.f0 = q.f0 := by
      have x1 := (hp r.f0 h1 (by omega)).1 (.inl ⟨by omega, h2⟩)
      have x2 := (hp q.f0 g1 (by omega)).2 (.inl ⟨by omega, g2⟩)
      by_cases c1 : r.f0 < q.f0
      · rcases x1 with x1 | x1
        · omega
        · exact absurd x1 (b2 _ (by omega))
      · by_cases c2 : q.f0 < r.f0
        · rcases x2 with x2 | x2
          · omega
          · exact absurd x2 (b1 _ (by omega))
        · omega
    have e1 : r.f1 = q.f1 := by
      by_cases c1 : r.f1 < q.f1
      · rcases (hp (r.f1 + 1) (by omega) (by omega)).2 (.inl ⟨by omega, by omega⟩) with x | x
        · omega
        · exact absurd x (b1 _ (by omega))
      · by_cases c2 : q.f1 < r.f1
        · rcases (hp (q.f1 + 1) (by omega) (by omega)).1 (.inl ⟨by omega, by omega⟩) with x | x
          · omega
          · exact absurd x (b2 _ (by omega))
        · omega
    have er : r = q := by cases r; cases q; simp only at e0 e1; subst e0; subst e1; rfl
    subst er
    rw [canon_unique h4 g4 (fun c c1 c2 => by
      have h_ := he c (by omega) c2
      rw [inR_cons, inR_cons, show (decide (r.f0 ≤ c) && decide (c ≤ r.f1)) = false by rw [Bool.and_eq_false_iff, decide_eq_false_iff_not, decide_eq_false_iff_not]; exact .inr (by omega)] at h_
      simpa using h_)]
def endOf : Int → List RR → Int
  | k, [] => k
  | _, r :: rs => endOf (r.f1 + 2) rs
theorem endOf_snoc : ∀ (k : Int) (l : List RR) (x : RR), endOf k (l ++ [x]) = x.f1 + 2
  | _, [], _ => rfl
  | _, r :: l, x => endOf_snoc (r.f1 + 2) l x
theorem canon_snoc : ∀ {k : Int} {l : List RR} {x : RR}, CanonFrom k (l ++ [x]) ↔ CanonFrom k l ∧ endOf k l ≤ x.f0 ∧ x.f0 ≤ x.f1 ∧ x.f1 ≤ 255
  | k, [], x => by simp [CanonFrom, endOf]
  | k, r :: l, x => by
    have ih := canon_snoc (k := r.f1 + 2) (l := l) (x := x)
    simp only [List.cons_append, CanonFrom, endOf, ih]
    exact ⟨fun ⟨a, b, c, d, e⟩ => ⟨⟨a, b, c, d⟩, e⟩, fun ⟨⟨a, b, c, d⟩, e⟩ => ⟨a, b, c, d, e⟩⟩
theorem canon_len : ∀ {k : Int} {l : List RR}, CanonFrom k l → l = [] ∨ k + 2 * (l.length : Int) ≤ 257
  | _, [], _ => .inl rfl
  | k, r :: l, ⟨h1, h2, h3, h4⟩ => .inr (by
    rcases canon_len h4 with rfl | h
    · simp; omega
    · rw [List.length_cons]; omega)
def growLast (l : List RR) (hi : Int) : List RR := match l.getLast? with | some r => l.dropLast ++ [⟨r.f0, max r.f1 hi⟩] | none => l
def sweepS (nt : Bool) (st : Int × List RR) (r : RR) : Int × List RR :=
  (max st.1 (r.f1 + 1), if nt then (if st.1 < r.f0 then st.2 ++ [⟨st.1, r.f0 - 1⟩] else st.2) else if 0 < st.2.length ∧ r.f0 ≤ st.1 then growLast st.2 r.f1 else st.2 ++ [r])
def sweepL (nt : Bool) (l : List RR) : Int × List RR := l.foldl (sweepS nt) (0, [])
theorem sweepL_snoc (nt : Bool) (l : List RR) (x : RR) : sweepL nt (l ++ [x]) = sweepS nt (sweepL nt l) x := by unfold sweepL; rw [List.foldl_append]; rfl
def okR (r : RR) : Prop := 0 ≤ r.f0 ∧ r.f0 ≤ r.f1 ∧ r.f1 ≤ 255
def riseR (l : List RR) : Prop := l.Pairwise fun a b => a.f0 ≤ b.f0
structure Swept (nt : Bool) (l : List RR) (st : Int × List RR) : Prop where
  can : CanonFrom 0 st.2
  lo : 0 ≤ st.1 ∧ st.1 ≤ 256
  mem : ∀ c, 0 ≤ c → inR st.2 c = if nt then decide (c < st.1) && !inR l c else inR l c
  cov : ∀ r ∈ l, r.f1 < st.1
  fin : if nt then endOf 0 st.2 ≤ st.1 else (st.2 = [] ∧ st.1 = 0) ∨ endOf 0 st.2 = st.1 + 1
  beg : ∀ r ∈ st.2, if nt then ∃ q ∈ l, r.f1 < q.f0 else ∃ q ∈ l, r.f0 ≤ q.f0
theorem growLast_snoc (l : List RR) (r : RR) (hi : Int) : growLast (l ++ [r]) hi = l ++ [⟨r.f0, max r.f1 hi⟩] := by
  unfold growLast
  rw [List.getLast?_append]
  simp
theorem swept_step {nt : Bool} {l : List RR} {st : Int × List RR} {x : RR} (h : Swept nt l st) (hx : okR x) (hr : ∀ q ∈ l, q.f0 ≤ x.f0) : Swept nt (l ++ [x]) (sweepS nt st x) := by
  obtain ⟨n, out⟩ := st
  obtain ⟨hcan, hlo, hmem, hcov, hfin, hbeg⟩ := h
  obtain ⟨x1, x2, x3⟩ := hx
  simp only at *
  have hc' : ∀ r ∈ l ++ [x], r.f1 < max n (x.f1 + 1) := fun r hr' => by
    rcases List.mem_append.1 hr' with h | h
    · have := hcov r h; omega
    · rw [List.mem_singleton.1 h]; omega
  have hno : ∀ c, n ≤ c → inR l c = false := fun c hc => by
    rw [← Bool.not_eq_true, inR_iff]
    rintro ⟨r, hr', _, h2⟩
    have := hcov r hr'
    omega
  cases nt with
  | true =>
    simp only [if_true] at hmem hfin hbeg
    by_cases c1 : n < x.f0
    · have e : sweepS true (n, out) x = (max n (x.f1 + 1), out ++ [⟨n, x.f0 - 1⟩]) := by simp [sweepS, c1]
      rw [e]
      refine ⟨canon_snoc.2 ⟨hcan, hfin, by show n ≤ x.f0 - 1; omega, by show x.f0 - 1 ≤ 255; omega⟩, ⟨by show 0 ≤ max n (x.f1 + 1); omega, by show max n (x.f1 + 1) ≤ 256; omega⟩, fun c hc => ?_, hc', ?_, fun r hr' => ?_⟩
      · simp only [if_true]
        rw [inR_append, inR_append, inR_one, inR_one, hmem c hc]
        by_cases d1 : c < n
        · have : ¬ (x.f0 ≤ c) := by omega
          have h3 : c < max n (x.f1 + 1) := by omega
          have h4 : ¬ (n ≤ c) := by omega
          simp [d1, this, h3, h4]
        · rw [hno c (by omega)]
          by_cases d2 : c < x.f0
          · have h3 : c < max n (x.f1 + 1) := by omega
            have h4 : n ≤ c := by omega
            have h5 : c ≤ x.f0 - 1 := by omega
            have h6 : ¬ (x.f0 ≤ c) := by omega
            simp [d1, h3, h4, h5, h6]
          · have h5 : ¬ (c ≤ x.f0 - 1) := by omega
            have h6 : x.f0 ≤ c := by omega
            by_cases d3 : c ≤ x.f1
            · simp [d1, h5, h6, d3]
            · have h3 : ¬ (c < max n (x.f1 + 1)) := by omega
              simp [d1, h5, h6, d3, h3]
      · simp only [if_true]
        rw [endOf_snoc]
        show x.f0 - 1 + 2 ≤ max n (x.f1 + 1)
        omega
      · simp only [if_true]
        rcases List.mem_append.1 hr' with h | h
        · obtain ⟨q, hq, h2⟩ := hbeg r h
          exact ⟨q, List.mem_append_left _ hq, h2⟩
        · rw [List.mem_singleton.1 h]
          exact ⟨x, by simp, by show x.f0 - 1 < x.f0; omega⟩
    · have e : sweepS true (n, out) x = (max n (x.f1 + 1), out) := by simp [sweepS, c1]
      rw [e]
      refine ⟨hcan, ⟨by show 0 ≤ max n (x.f1 + 1); omega, by show max n (x.f1 + 1) ≤ 256; omega⟩, fun c hc => ?_, hc', ?_, fun r hr' => ?_⟩
      · simp only [if_true]
        rw [inR_append, inR_one, hmem c hc]
        by_cases d1 : c < n
        · have h3 : c < max n (x.f1 + 1) := by omega
          by_cases d2 : inR l c = true
          · simp [d1, d2, h3]
          · rw [Bool.not_eq_true] at d2
            have hin : inR out c = true := by rw [hmem c hc]; simp [d1, d2]
            obtain ⟨r, hr', g1, g2⟩ := inR_iff.1 hin
            obtain ⟨q, hq, h2⟩ := hbeg r hr'
            have := hr q hq
            have h6 : ¬ (x.f0 ≤ c) := by omega
            simp [d1, d2, h3, h6]
        · rw [hno c (by omega)]
          by_cases d3 : c ≤ x.f1
          · have h6 : x.f0 ≤ c := by omega
            simp [d1, d3, h6]
          · have h3 : ¬ (c < max n (x.f1 + 1)) := by omega
            simp [d1, h3]
      · simp only [if_true]
        show endOf 0 out ≤ max n (x.f1 + 1)
        omega
      · simp only [if_true]
        obtain ⟨q, hq, h2⟩ := hbeg r hr'
        exact ⟨q, List.mem_append_left _ hq, h2⟩
  | false =>
    simp only [Bool.false_eq_true, if_false] at hmem hfin hbeg
    by_cases c1 : 0 < out.length ∧ x.f0 ≤ n
    · have hne : out ≠ [] := fun e => by rw [e] at c1; simp at c1
      obtain ⟨o', y, rfl⟩ : ∃ o' y, out = o' ++ [y] := ⟨out.dropLast, out.getLast hne, (List.dropLast_concat_getLast hne).symm⟩
      have e : sweepS false (n, o' ++ [y]) x = (max n (x.f1 + 1), o' ++ [⟨y.f0, max y.f1 x.f1⟩]) := by
        unfold sweepS
        simp only [Bool.false_eq_true, if_false]
        rw [if_pos c1, growLast_snoc]
      rw [e]
      obtain ⟨k1, k2, k3, k4⟩ := canon_snoc.1 hcan
      have hend : y.f1 + 1 = n := by
        rcases hfin with ⟨h, _⟩ | h
        · simp at h
        · rw [endOf_snoc] at h; omega
      have hy0 : y.f0 ≤ x.f0 := by
        obtain ⟨q, hq, h2⟩ := hbeg y (by simp)
        have := hr q hq
        omega
      refine ⟨canon_snoc.2 ⟨k1, k2, by show y.f0 ≤ max y.f1 x.f1; omega, by show max y.f1 x.f1 ≤ 255; omega⟩, ⟨by show 0 ≤ max n (x.f1 + 1); omega, by show max n (x.f1 + 1) ≤ 256; omega⟩, fun c hc => ?_, hc', ?_, fun r hr' => ?_⟩
      · simp only [Bool.false_eq_true, if_false]
        have h_ := hmem c hc
        rw [inR_append, inR_one] at h_
        rw [inR_append, inR_append, inR_one, inR_one, ← h_]
        by_cases d1 : inR o' c = true
        · simp [d1]
        · rw [Bool.not_eq_true] at d1
          simp only [d1, Bool.false_or]
          by_cases e1 : y.f0 ≤ c <;> by_cases e2 : c ≤ y.f1 <;> by_cases e3 : x.f0 ≤ c <;> by_cases e4 : c ≤ x.f1 <;> simp [e1, e2, e3, e4] <;> omega
      · simp only [Bool.false_eq_true, if_false]
        refine .inr ?_
        rw [endOf_snoc]
        show max y.f1 x.f1 + 2 = max n (x.f1 + 1) + 1
        omega
      · simp only [Bool.false_eq_true, if_false]
        rcases List.mem_append.1 hr' with h | h
        · obtain ⟨q, hq, h2⟩ := hbeg r (List.mem_append_left _ h)
          exact ⟨q, List.mem_append_left _ hq, h2⟩
        · rw [List.mem_singleton.1 h]
          exact ⟨x, by simp, hy0⟩
    · have e : sweepS false (n, out) x = (max n (x.f1 + 1), out ++ [x]) := by
        unfold sweepS
        simp only [Bool.false_eq_true, if_false]
        rw [if_neg c1]
      rw [e]
      have hend : endOf 0 out ≤ x.f0 := by
        rcases hfin with ⟨h, _⟩ | h
        · subst h; exact x1
        · by_cases c2 : 0 < out.length
          · have : ¬ x.f0 ≤ n := fun h => c1 ⟨c2, h⟩
            omega
          · have : out = [] := List.length_eq_zero_iff.1 (by omega)
            subst this
            exact x1
      have hn : n ≤ x.f1 + 1 := by
        rcases hfin with ⟨_, h⟩ | h
        · omega
        · omega
      refine ⟨canon_snoc.2 ⟨hcan, hend, x2, x3⟩, ⟨by show 0 ≤ max n (x.f1 + 1); omega, by show max n (x.f1 + 1) ≤ 256; omega⟩, fun c hc => ?_, hc', ?_, fun r hr' => ?_⟩
      · simp only [Bool.false_eq_true, if_false]
        have h_ := hmem c hc
        rw [inR_append, inR_append, h_]
      · simp only [Bool.false_eq_true, if_false]
        refine .inr ?_
        rw [endOf_snoc]
        show x.f1 + 2 = max n (x.f1 + 1) + 1
        omega
      · simp only [Bool.false_eq_true, if_false]
        rcases List.mem_append.1 hr' with h | h
        · obtain ⟨q, hq, h2⟩ := hbeg r h
          exact ⟨q, List.mem_append_left _ hq, h2⟩
        · rw [List.mem_singleton.1 h]
          exact ⟨x, by simp, Int.le_refl _⟩
theorem swept_nil (nt : Bool) : Swept nt [] (0, []) := by
  refine ⟨trivial, ⟨Int.le_refl _, by decide⟩, fun c hc => ?_, fun r h => by simp at h, ?_, fun r h => by simp at h⟩
  · cases nt
    · simp [inR]
    · have : ¬ c < 0 := by omega
      simp [inR, this]
  · cases nt <;> simp [endOf]
theorem swept_all {nt : Bool} : ∀ {l : List RR}, (∀ r ∈ l, okR r) → riseR l → Swept nt l (sweepL nt l) := by
  intro l
  suffices H : ∀ (l l' : List RR), Swept nt l' (sweepL nt l') → (∀ r ∈ l, okR r) → riseR (l' ++ l) → Swept nt (l' ++ l) (sweepL nt (l' ++ l)) from fun h hr => by
    have := H l [] (swept_nil nt) h (by simpa using hr)
    simpa using this
  intro l
  induction l with
  | nil => intro l' h _ _; simpa using h
  | cons x l ih =>
    intro l' h ho hr
    have e : l' ++ x :: l = (l' ++ [x]) ++ l := by simp
    rw [e] at hr ⊢
    refine ih (l' ++ [x]) ?_ (fun r hr' => ho r (List.mem_cons_of_mem _ hr')) hr
    rw [sweepL_snoc]
    refine swept_step h (ho x (List.mem_cons_self ..)) fun q hq => ?_
    unfold riseR at hr
    rw [List.pairwise_append] at hr
    have h2 := hr.1
    rw [List.pairwise_append] at h2
    exact h2.2.2 q hq x (by simp)
def sweepE (nt : Bool) (st : Int × List RR) : List RR := if nt = true ∧ st.1 < 256 then st.2 ++ [⟨st.1, 255⟩] else st.2
def isCanon (p : Int → Bool) (l : List RR) : Prop := CanonFrom 0 l ∧ ∀ c, 0 ≤ c → c ≤ 255 → inR l c = p c
theorem isCanon.unique {p : Int → Bool} {l l' : List RR} (h : isCanon p l) (h' : isCanon p l') : l = l' := canon_unique h.1 h'.1 fun c c1 c2 => by rw [h.2 c c1 c2, h'.2 c c1 c2]
theorem sweep_canon {nt : Bool} {l : List RR} (h : Swept nt l (sweepL nt l)) : isCanon (fun c => inR l c != nt) (sweepE nt (sweepL nt l)) := by
  generalize sweepL nt l = st at h
  obtain ⟨n, out⟩ := st
  obtain ⟨hcan, hlo, hmem, hcov, hfin, hbeg⟩ := h
  simp only at *
  unfold sweepE
  cases nt with
  | false =>
    simp only [Bool.false_eq_true, false_and, if_false] at hmem ⊢
    exact ⟨hcan, fun c c1 c2 => by rw [hmem c c1]; simp⟩
  | true =>
    simp only [if_true, true_and] at hmem hfin ⊢
    have hno : ∀ c, n ≤ c → inR l c = false := fun c hc => by
      rw [← Bool.not_eq_true, inR_iff]
      rintro ⟨r, hr', _, h2⟩
      have := hcov r hr'
      omega
    by_cases c1 : n < 256
    · rw [if_pos c1]
      refine ⟨canon_snoc.2 ⟨hcan, hfin, by show n ≤ 255; omega, by show (255 : Int) ≤ 255; omega⟩, fun c d1 d2 => ?_⟩
      rw [inR_append, inR_one, hmem c d1]
      by_cases d3 : c < n
      · have : ¬ n ≤ c := by omega
        simp [d3, this]
      · have : n ≤ c := by omega
        rw [show (fun c => inR l c != true) c = (inR l c != true) from rfl, hno c this]
        simp [d3, this, d2]
    · rw [if_neg c1]
      refine ⟨hcan, fun c d1 d2 => ?_⟩
      rw [hmem c d1]
      have : c < n := by omega
      simp [this]
theorem sweep_len {nt : Bool} {l : List RR} (h : Swept nt l (sweepL nt l)) : (sweepL nt l).2.length ≤ 128 := by
  rcases canon_len h.can with h | h
  · rw [h]; simp
  · omega
theorem inR_filter (l : List RR) (c : Int) : inR (l.filter fun r => decide (r.f0 ≤ r.f1)) c = inR l c := by
  rw [Bool.eq_iff_iff, inR_iff, inR_iff]
  constructor
  · rintro ⟨r, hr, h⟩
    exact ⟨r, (List.mem_filter.1 hr).1, h⟩
  · rintro ⟨r, hr, h⟩
    exact ⟨r, List.mem_filter.2 ⟨hr, by simp; omega⟩, h⟩
theorem inR_perm {l l' : List RR} (h : l.Perm l') (c : Int) : inR l c = inR l' c := by
  rw [Bool.eq_iff_iff, inR_iff, inR_iff]
  exact ⟨fun ⟨r, hr, k⟩ => ⟨r, h.mem_iff.1 hr, k⟩, fun ⟨r, hr, k⟩ => ⟨r, h.mem_iff.2 hr, k⟩⟩
def stepC (p : Int → Bool) (out : List RR) (c : Int) : List RR := if p c then (if 0 < out.length ∧ (out.getD (out.length - 1) z55).f1 = c - 1 then out.take (out.length - 1) ++ [⟨(out.getD (out.length - 1) z55).f0, c⟩] else out ++ [⟨c, c⟩]) else out
def canonN (p : Int → Bool) : Nat → List RR
  | 0 => []
  | n + 1 => stepC p (canonN p n) n
def canonP (p : Int → Bool) : List RR := canonN p 256
theorem canonN_is (p : Int → Bool) : ∀ n : Nat, n ≤ 256 → CanonFrom 0 (canonN p n) ∧ endOf 0 (canonN p n) ≤ n + 1 ∧ ∀ c, 0 ≤ c → inR (canonN p n) c = (decide (c < n) && p c)
  | 0, _ => ⟨trivial, by show (0 : Int) ≤ _; omega, fun c hc => by
    have : ¬ c < 0 := by omega
    simp [canonN, inR, this]⟩
  | n + 1, hn => by
    obtain ⟨h1, h2, h3⟩ := canonN_is p n (by omega)
    show CanonFrom 0 (stepC p (canonN p n) n) ∧ endOf 0 (stepC p (canonN p n) n) ≤ _ ∧ ∀ c, 0 ≤ c → inR (stepC p (canonN p n) n) c = _
    generalize canonN p n = out at *
    have hlt : ∀ c : Int, c ≠ n → (decide (c < (n + 1 : Nat)) && p c) = (decide (c < n) && p c) := fun c hc => by
      rw [show decide (c < (n + 1 : Nat)) = decide (c < n) by rw [decide_eq_decide]; omega]
    unfold stepC
    by_cases hp : p n = true
    · rw [if_pos hp]
      have hn1 : inR out n = false := by rw [h3 n (by omega)]; simp
      by_cases c1 : 0 < out.length ∧ (out.getD (out.length - 1) z55).f1 = (n : Int) - 1
      · rw [if_pos c1]
        have hne : out ≠ [] := fun e => by rw [e] at c1; simp at c1
        obtain ⟨o', y, rfl⟩ : ∃ o' y, out = o' ++ [y] := ⟨out.dropLast, out.getLast hne, (List.dropLast_concat_getLast hne).symm⟩
        have e1 : (o' ++ [y]).getD ((o' ++ [y]).length - 1) z55 = y := by simp [List.getD_eq_getElem?_getD]
        have e2 : (o' ++ [y]).take ((o' ++ [y]).length - 1) = o' := by simp
        rw [e1] at c1 ⊢
        rw [e2]
        obtain ⟨k1, k2, k3, k4⟩ := canon_snoc.1 h1
        refine ⟨canon_snoc.2 ⟨k1, k2, by show y.f0 ≤ (n : Int); omega, by show (n : Int) ≤ 255; omega⟩, by rw [endOf_snoc]; show (n : Int) + 2 ≤ _; omega, fun c hc => ?_⟩
        rw [inR_append, inR_one]
        have g := h3 c hc
        rw [inR_append, inR_one] at g
        by_cases d : c = n
        · subst d
          have : y.f0 ≤ (n : Int) := by omega
          simp [hp, this]; omega
        · rw [hlt c d, ← g]
          have : decide (c ≤ (n : Int)) = decide (c ≤ y.f1) := by rw [decide_eq_decide]; omega
          show (inR o' c || (decide (y.f0 ≤ c) && decide (c ≤ (n : Int)))) = _
          rw [this]
      · rw [if_neg c1]
        have hend : endOf 0 out ≤ n := by
          by_cases c2 : 0 < out.length
          · have hne : out ≠ [] := fun e => by rw [e] at c2; simp at c2
            obtain ⟨o', y, rfl⟩ : ∃ o' y, out = o' ++ [y] := ⟨out.dropLast, out.getLast hne, (List.dropLast_concat_getLast hne).symm⟩
            have e1 : (o' ++ [y]).getD ((o' ++ [y]).length - 1) z55 = y := by simp [List.getD_eq_getElem?_getD]
            rw [e1] at c1
            rw [endOf_snoc] at h2 ⊢
            have : y.f1 ≠ (n : Int) - 1 := fun e => c1 ⟨c2, e⟩
            omega
          · have : out = [] := List.length_eq_zero_iff.1 (by omega)
            subst this
            show (0 : Int) ≤ n
            omega
        refine ⟨canon_snoc.2 ⟨h1, hend, Int.le_refl _, by show (n : Int) ≤ 255; omega⟩, by rw [endOf_snoc]; show (n : Int) + 2 ≤ _; omega, fun c hc => ?_⟩
        rw [inR_append, inR_one, h3 c hc]
        by_cases d : c = n
        · subst d
          simp [hp]; omega
        · rw [hlt c d]
          have : (decide ((n : Int) ≤ c) && decide (c ≤ (n : Int))) = false := by rw [Bool.and_eq_false_iff, decide_eq_false_iff_not, decide_eq_false_iff_not]; omega
          show (_ || (decide ((n : Int) ≤ c) && decide (c ≤ (n : Int)))) = _
          rw [this, Bool.or_false]
    · rw [if_neg hp]
      refine ⟨h1, by omega, fun c hc => ?_⟩
      rw [h3 c hc]
      by_cases d : c = n
      · subst d
        rw [Bool.not_eq_true] at hp
        simp [hp]
      · rw [hlt c d]
theorem canonP_is (p : Int → Bool) : isCanon p (canonP p) := by
  obtain ⟨h1, _, h3⟩ := canonN_is p 256 (Nat.le_refl _)
  refine ⟨h1, fun c c1 c2 => ?_⟩
  show inR (canonN p 256) c = _
  rw [h3 c c1]
  rw [decide_eq_true (show c < ((256 : Nat) : Int) by omega), Bool.true_and]
theorem sweep_is {nt : Bool} {l l' : List RR} (hb : ∀ r ∈ l, 0 ≤ r.f0 ∧ r.f1 ≤ 255) (hp : (l.filter fun r => decide (r.f0 ≤ r.f1)).Perm l') (hr : riseR l') : Swept nt l' (sweepL nt l') ∧ sweepE nt (sweepL nt l') = canonP (fun c => inR l c != nt) := by
  have hs : Swept nt l' (sweepL nt l') := swept_all (fun r hr' => by
    have h1 := hp.mem_iff.2 hr'
    rw [List.mem_filter] at h1
    have h2 := hb r h1.1
    have h3 := of_decide_eq_true h1.2
    exact ⟨h2.1, h3, h2.2⟩) hr
  refine ⟨hs, (sweep_canon hs).unique ?_⟩
  have h := canonP_is (fun c => inR l c != nt)
  exact ⟨h.1, fun c c1 c2 => by rw [h.2 c c1 c2]; show (inR l c != nt) = (inR l' c != nt); rw [← inR_filter l c, inR_perm hp c]⟩
end Go.Proofs.YtelbgmpeghhakaaGreat.PA
end
section
namespace Go.Proofs.YtelbgmpeghhakaaGreat.PA
open Go.RowKit Go.Proofs.YtelbgmpeghhakaaGreatW.PrintWords Go.Proofs.YtelbgmpeghhakaaGreatW.PrintLast Go.Proofs.YtelbgmpeghhakaaGreatW.PrintMore
set_option linter.unusedVariables false
abbrev J (n : Int) : Value := .int .i64 n
abbrev Bk (g : Nat) (cs : List Value) (t : Nat) : Chunk := Chunk.blk g (.cells cs.toArray t (0, 0))
section
variable {D : List Deferred} {P : Program} {ops : Array Oper} {Q : Exit → Act → World → Prop} {Q' : Act → World → Prop} {rest : List Oper} {o : Oper} {N d : Nat} {a : Act} {F : List (Nat × Value)} {w w0 w1 wz : World} {L M : List Chunk} {v : Value} {B : Nat → Bool}
theorem V (HF : FrD D N a F) (hrun : Runs P o a w v w1) (k : ∀ a', FrD D N a' ((d, v) :: F) → wpList P ops Q rest a' w1) (hg : o.guard = none := by rfl) (hd : o.dst = some d := by rfl) (hN : d < N := by decide) : wpList P ops Q (o :: rest) a w := gw_ev HF (want_none hg) hd hN hrun k
theorem V2 (HF : FrD D N a F) (hw : Region.wanted o (yielded ops a.tmps) = true) (hrun : Runs P o a w v w1) (k : ∀ a', FrD D N a' ((d, v) :: F) → wpList P ops Q rest a' w1) (hd : o.dst = some d := by rfl) (hN : d < N := by decide) : wpList P ops Q (o :: rest) a w := gw_ev HF hw hd hN hrun k
theorem Vo (HF : FrD D N a F) (hw : Region.wanted o (yielded ops a.tmps) = false) (k : ∀ a', FrD D N a' ((d, undef) :: F) → wpList P ops Q rest a' w) (hd : o.dst = some d := by rfl) (hN : d < N := by decide) : wpList P ops Q (o :: rest) a w := gw_off HF hw hd hN k
theorem wn {j dj : Nat} {oj : Oper} {b b' : Bool} (HF : FrD D N a F) (hg : o.guard = some (j, b)) (hj : ops[j]? = some oj) (hdj : oj.dst = some dj) (hl : look F dj = some (.bool b')) (hne : b' ≠ b := by decide) : Region.wanted o (yielded ops a.tmps) = false := want_no HF hg hj hdj hl hne
theorem gR {id : Nat} {l : List Oper} {y : Code} (h : ∀ K : Act → World → Prop, (∀ a w, y.wp P Q a w → K a w) → wpList P l.toArray (Exit.then K Q) l a w) : (Code.seq (.region id l.toArray false) y).wp P Q a w := gw_seq fun K hK => wp_region_lit (h K hK)
theorem gE {y : Code} {K : Act → World → Prop} {Q2 : Exit → Act → World → Prop} (hK : ∀ a w, y.wp P Q2 a w → K a w) (h : y.wp P Q2 a w) : wpList P ops (Exit.then K Q) [] a w := wpList_nil (gw_nx (hK _ _ h))
end
end Go.Proofs.YtelbgmpeghhakaaGreat.PA
end
section
namespace Go.Proofs.YtelbgmpeghhakaaGreat.PA
open Go.RowKit Go.Proofs.YtelbgmpeghhakaaGreatW.PrintWords Go.Proofs.YtelbgmpeghhakaaGreatW.PrintLast Go.Proofs.YtelbgmpeghhakaaGreatW.PrintMore
set_option linter.unusedVariables false
set_option linter.unusedSimpArgs false
section
variable {P : Program} {o : Oper} {a : Act} {w : World} {x y : Operand} {t : TypeId} {s : ByteArray}
theorem op_sidx {k : IntKind} {i : Int} (ht : P.underlying t = some .string) (ho : o.op = .index t x y) (hx : a.eval x = .string s) (hy : a.eval y = .int k i) (h : 0 ≤ i ∧ i < s.size) : Runs P o a w (.int .u8 (bt s i)) w := by
  have hlt : i.toNat < s.size := by omega
  unfold Runs execOp
  simp only [ho, hx, hy]
  simp [go_sem, Instr.index, run_underlying ht, h.1, bt, hlt]
theorem op_scut {lo hi : Option Operand} {l h : Nat} {lo' hi' : Option Value} (ht : P.underlying t = some .string) (ho : o.op = .slice t x lo hi none) (hx : a.eval x = .string s) (hlo : lo.map a.eval = lo') (hhi : hi.map a.eval = hi')
    (hb : (Instr.sliceBounds false s.size s.size lo' hi' none).run P w = .ok (l, h, s.size) w) : Runs P o a w (.string (s.extract l h)) w := by
  unfold Runs execOp
  simp only [ho, hx, hlo, hhi, Option.map_none]
  have h1 : (Instr.slice t (.string s) lo' hi' none).run P w = .ok (.string (s.extract l h)) w := by
    unfold Instr.slice
    simp only [Sem.run_bind, run_underlying ht, Result.andThen_ok, Option.isSome_none, Bool.false_eq_true, if_false, hb, Sem.run_pure]
  simp only [Sem.run_bind, run_sliceAt_string _ _ _ _ _ _ ht, h1, Result.andThen_ok, Sem.run_pure]
theorem sb_lo {k : IntKind} {i : Int} (h : 0 ≤ i ∧ i ≤ s.size) : (Instr.sliceBounds false s.size s.size (some (.int k i)) none none).run P w = .ok (i.toNat, s.size, s.size) w := by
  simp [Instr.sliceBounds, Instr.sliceBound, go_sem, h.1, h.2]
end
theorem bytesOf_extract (s : ByteArray) (i j : Nat) : bytesOf (s.extract i j) = ((bytesOf s).take j).drop i := by
  unfold bytesOf
  rw [ByteArray.data_extract, Array.toList_extract, ← List.map_take, ← List.map_drop, List.extract_eq_take_drop, List.drop_take]
end Go.Proofs.YtelbgmpeghhakaaGreat.PA
end
section
namespace Go.Proofs.YtelbgmpeghhakaaGreat.PA
open Go.RowKit Go.Proofs.YtelbgmpeghhakaaGreatW.PrintWords Go.Proofs.YtelbgmpeghhakaaGreatW.PrintLast Go.Proofs.YtelbgmpeghhakaaGreatW.PrintMore
attribute [local go_sem] max2_int min2_int max_two min_two max_three min_three max_four min_four   -- for this text's walks alone
set_option linter.unusedVariables false
set_option linter.unusedSimpArgs false
def IsS44 (w0 W : World) (g : Nat) (f0 : ByteArray) (f1 : Int) (f2 : Int) (f3 : Int) : Prop := W.heap[g]? = some (.cells #[.string f0, .int .i64 f1, .int .i64 f2, .int .i64 f3] 44 (0, 0)) ∧ w0.heap.size ≤ g
theorem IsS44.grown {w0 W : World} {g : Nat} {f0 : ByteArray} {f1 : Int} {f2 : Int} {f3 : Int} {W1 : World} {row : Option Nat} (h : IsS44 w0 W g f0 f1 f2 f3) (hw : W.grownBy W1 row) (hne : some g ≠ row) : IsS44 w0 W1 g f0 f1 f2 f3 := by
  obtain ⟨hb, hg⟩ := h
  exact ⟨blk_grown hb hw hne, hg⟩
theorem IsS44.fresh {w0 W : World} {g : Nat} {f0 : ByteArray} {f1 : Int} {f2 : Int} {f3 : Int} (h : IsS44 w0 W g f0 f1 f2 f3) : ∀ k, W.heap.size ≤ k → k ≠ g := by
  obtain ⟨hb, hg⟩ := h
  exact Kd.freshB hb
theorem IsS44.kept {w0 W : World} {g : Nat} {f0 : ByteArray} {f1 : Int} {f2 : Int} {f3 : Int} {W1 : World} {S : Nat → Prop} (h : IsS44 w0 W g f0 f1 f2 f3) (hk : Kept W W1 S) (hne : ¬ S g) : IsS44 w0 W1 g f0 f1 f2 f3 := by
  obtain ⟨hb, hg⟩ := h
  exact ⟨blk_kept hb hk hne, hg⟩
theorem IsS44.below {w0 W : World} {g : Nat} {f0 : ByteArray} {f1 : Int} {f2 : Int} {f3 : Int} {W1 : World} (h : IsS44 w0 W g f0 f1 f2 f3) (hw : Below W.heap.size W W1) : IsS44 w0 W1 g f0 f1 f2 f3 := h.grown (grown_of_below hw none) (by simp)
theorem IsS44.alloc {w0 W : World} {g : Nat} {f0 : ByteArray} {f1 : Int} {f2 : Int} {f3 : Int} (h : IsS44 w0 W g f0 f1 f2 f3) (o : Obj) : IsS44 w0 (W.alloc o) g f0 f1 f2 f3 := h.below (below_alloc (Below.refl _ _) o)
theorem IsS44.drewN {w0 W : World} {g : Nat} {f0 : ByteArray} {f1 : Int} {f2 : Int} {f3 : Int} (h : IsS44 w0 W g f0 f1 f2 f3) (m : Nat) : IsS44 w0 (W.drewN m) g f0 f1 f2 f3 := h
theorem IsS44.drew {w0 W : World} {g : Nat} {f0 : ByteArray} {f1 : Int} {f2 : Int} {f3 : Int} (h : IsS44 w0 W g f0 f1 f2 f3) : IsS44 w0 W.drew g f0 f1 f2 f3 := h
theorem IsS44.at_ {w0 W : World} {g : Nat} {f0 : ByteArray} {f1 : Int} {f2 : Int} {f3 : Int} {w' : World} {m : Nat} (hq : W.drewN m = w') (h : IsS44 w0 W g f0 f1 f2 f3) : IsS44 w0 w' g f0 f1 f2 f3 := by subst hq; exact IsS44.drewN h m
theorem IsS44.apart {w0 W : World} {g : Nat} {f0 : ByteArray} {f1 : Int} {f2 : Int} {f3 : Int} {α : Type} {d : Kd α} {e : Nat} {base : Nat} {ok : Nat → Prop} {v : Value} {xs : List α} (h : IsS44 w0 W g f0 f1 f2 f3) (ho : d.R e W base ok v xs) (ht : ∀ q, q ∈ e :: d.E → q ≠ 44) : d.R e W base (fun k => ok k ∧ k ≠ g) v xs := by
  obtain ⟨hb, hg⟩ := h
  exact Kd.R_types ho hb ht
theorem IsS44.own_ne {w0 W : World} {g : Nat} {f0 : ByteArray} {f1 : Int} {f2 : Int} {f3 : Int} {α : Type} {d : Kd α} {e : Nat} {base : Nat} {ok : Nat → Prop} {v : Value} {xs : List α} (h : IsS44 w0 W g f0 f1 f2 f3) (ho : d.R e W base ok v xs) (ht : e ≠ 44) : some g ≠ v.ownBlock := by
  obtain ⟨hb, hg⟩ := h
  exact Kd.R_ne ho hb ht
theorem IsS44.lt {w0 W : World} {g : Nat} {f0 : ByteArray} {f1 : Int} {f2 : Int} {f3 : Int} (h : IsS44 w0 W g f0 f1 f2 f3) : g < W.heap.size := by
  obtain ⟨hb, hg⟩ := h
  exact blk_lt hb
theorem IsS44.ge {w0 W : World} {g : Nat} {f0 : ByteArray} {f1 : Int} {f2 : Int} {f3 : Int} (h : IsS44 w0 W g f0 f1 f2 f3) : w0.heap.size ≤ g := by
  obtain ⟨hb, hg⟩ := h
  exact hg
theorem cellS44_0 {W : World} {g : Nat} {f0 : ByteArray} {f1 : Int} {f2 : Int} {f3 : Int} (h : W.heap[g]? = some (.cells #[.string f0, .int .i64 f1, .int .i64 f2, .int .i64 f3] 44 (0, 0))) : W.cell? ⟨g, 0, none⟩ = some (.string f0) := (blk_cell h 0).trans rfl
theorem IsS44.set_0 {w0 W : World} {g : Nat} {f0 : ByteArray} {f1 : Int} {f2 : Int} {f3 : Int} (h : IsS44 w0 W g f0 f1 f2 f3) (x : ByteArray) : IsS44 w0 (W.setCell ⟨g, 0, none⟩ (.string x)) g x f1 f2 f3 := by
  obtain ⟨hb, hg⟩ := h
  exact ⟨by simpa using blk_set hb 0 (.string x), hg⟩
theorem cellS44_1 {W : World} {g : Nat} {f0 : ByteArray} {f1 : Int} {f2 : Int} {f3 : Int} (h : W.heap[g]? = some (.cells #[.string f0, .int .i64 f1, .int .i64 f2, .int .i64 f3] 44 (0, 0))) : W.cell? ⟨g, 1, none⟩ = some (.int .i64 f1) := (blk_cell h 1).trans rfl
theorem IsS44.set_1 {w0 W : World} {g : Nat} {f0 : ByteArray} {f1 : Int} {f2 : Int} {f3 : Int} (h : IsS44 w0 W g f0 f1 f2 f3) (x : Int) : IsS44 w0 (W.setCell ⟨g, 1, none⟩ (.int .i64 x)) g f0 x f2 f3 := by
  obtain ⟨hb, hg⟩ := h
  exact ⟨by simpa using blk_set hb 1 (.int .i64 x), hg⟩
theorem cellS44_2 {W : World} {g : Nat} {f0 : ByteArray} {f1 : Int} {f2 : Int} {f3 : Int} (h : W.heap[g]? = some (.cells #[.string f0, .int .i64 f1, .int .i64 f2, .int .i64 f3] 44 (0, 0))) : W.cell? ⟨g, 2, none⟩ = some (.int .i64 f2) := (blk_cell h 2).trans rfl
theorem IsS44.set_2 {w0 W : World} {g : Nat} {f0 : ByteArray} {f1 : Int} {f2 : Int} {f3 : Int} (h : IsS44 w0 W g f0 f1 f2 f3) (x : Int) : IsS44 w0 (W.setCell ⟨g, 2, none⟩ (.int .i64 x)) g f0 f1 x f3 := by
  obtain ⟨hb, hg⟩ := h
  exact ⟨by simpa using blk_set hb 2 (.int .i64 x), hg⟩
theorem cellS44_3 {W : World} {g : Nat} {f0 : ByteArray} {f1 : Int} {f2 : Int} {f3 : Int} (h : W.heap[g]? = some (.cells #[.string f0, .int .i64 f1, .int .i64 f2, .int .i64 f3] 44 (0, 0))) : W.cell? ⟨g, 3, none⟩ = some (.int .i64 f3) := (blk_cell h 3).trans rfl
theorem IsS44.set_3 {w0 W : World} {g : Nat} {f0 : ByteArray} {f1 : Int} {f2 : Int} {f3 : Int} (h : IsS44 w0 W g f0 f1 f2 f3) (x : Int) : IsS44 w0 (W.setCell ⟨g, 3, none⟩ (.int .i64 x)) g f0 f1 f2 x := by
  obtain ⟨hb, hg⟩ := h
  exact ⟨by simpa using blk_set hb 3 (.int .i64 x), hg⟩
theorem IsS44.new (w0 W : World) (f0 : ByteArray) (f1 : Int) (f2 : Int) (f3 : Int) (hB : Below w0.heap.size w0 W) : IsS44 w0 (W.alloc (.cells #[.string f0, .int .i64 f1, .int .i64 f2, .int .i64 f3] 44)) W.heap.size f0 f1 f2 f3 := ⟨by simpa using heap_alloc_new W _, hB.size⟩
def glob_reader_over.f (s0_0 : ByteArray) (s0_1 : Int) (s0_2 : Int) (s0_3 : Int) : Option (Bool × ByteArray × Int × Int × Int) := some (decide (s0_1 ≥ (s0_0.size : Int)), s0_0, s0_1, s0_2, s0_3)
set_option maxHeartbeats 8000000 in
set_option maxRecDepth 100000 in
theorem glob_reader_over.calls (g : Nat) (s0_0 : ByteArray) (s0_1 : Int) (s0_2 : Int) (s0_3 : Int) (r1 : Bool) (r2 : ByteArray) (r3 : Int) (r4 : Int) (r5 : Int) (w0 w : World) (hI : IsS44 w0 w g s0_0 s0_1 s0_2 s0_3) (hB : Below w0.heap.size w0 w) (h : glob_reader_over.f s0_0 s0_1 s0_2 s0_3 = some (r1, r2, r3, r4, r5)) :
    Calls Tryz.prog 16 #[.pointer (some ⟨g, 0, none⟩)] w fun e w' => e = .returned (.bool r1) ∧ IsS44 w0 w' g r2 r3 r4 r5 ∧ Below w0.heap.size w0 w' ∧ KeepBut w w' g none := by
  have HI0 := Aside0.mk hI
  have HK := Aside0.mk (KeepBut.refl w g none)
  have HL := Aside0.mk hB.size
  clear hI
  have HW0 := Aside0.mk hB.size
  have HB := Aside0.mk hB
  clear hB
  have H : (some (decide (s0_1 ≥ (s0_0.size : Int)), s0_0, s0_1, s0_2, s0_3)) = some (r1, r2, r3, r4, r5) := h
  clear h
  simp only [Option.some.injEq, Prod.mk.injEq] at H
  obtain ⟨rfl, rfl, rfl, rfl, rfl⟩ := H
  obtain ⟨HGz2, hgz2⟩ := HI0.out
  have hcz2_0 := cellS44_0 HGz2
  have hcz2_1 := cellS44_1 HGz2
  have hcz2_2 := cellS44_2 HGz2
  have hcz2_3 := cellS44_3 HGz2
  have hfz2_0 := blk_frozen HGz2 0
  have hfz2_1 := blk_frozen HGz2 1
  have hfz2_2 := blk_frozen HGz2 2
  have hfz2_3 := blk_frozen HGz2 3
  clear HGz2 hgz2
  go_enter Tryz.func16, Tryz.ntmps16
  go_wp2
  repeat (go_quiet (fail); try go_wp2)
  go_ret
  exact ⟨by first | rfl | (simp [errW_none, errW_some] <;> rfl) | (simp [*, errW_none, errW_some] <;> rfl), by repeat (first | (with_reducible first | exact HI0.out | apply IsS44.alloc | apply IsS44.drewN | apply IsS44.drew | apply IsS44.set_0 | apply IsS44.set_1 | apply IsS44.set_2 | apply IsS44.set_3) | exact HI0.out), by repeat (first | (with_reducible first | exact HB.out | apply below_alloc | apply pw_below_drewN | apply below_drew1 | refine below_set ?_ (IsS44.ge HI0.out)) | exact HB.out), by repeat (first | (with_reducible first | exact HK.out | apply KeepBut.set_ | apply keep_drewN | apply keep_drew | apply keep_alloc) | exact HK.out)⟩
end Go.Proofs.YtelbgmpeghhakaaGreat.PA
end
section
namespace Go.Proofs.YtelbgmpeghhakaaGreat.PA
open Go.RowKit Go.Proofs.YtelbgmpeghhakaaGreatW.PrintWords Go.Proofs.YtelbgmpeghhakaaGreatW.PrintLast Go.Proofs.YtelbgmpeghhakaaGreatW.PrintMore
attribute [local go_sem] max2_int min2_int max_two min_two max_three min_three max_four min_four   -- for this text's walks alone
set_option linter.unusedVariables false
set_option linter.unusedSimpArgs false
def glob_reader_fail.f (s0_0 : ByteArray) (s0_1 : Int) (s0_2 : Int) (s0_3 : Int) (a1 : Int) (a2 : Int) : Option (ByteArray × Int × Int × Int) := if s0_2 = 0 then (some (s0_0, (s0_0.size : Int), a1, a2)) else (some (s0_0, (s0_0.size : Int), s0_2, s0_3))
set_option maxHeartbeats 8000000 in
set_option maxRecDepth 100000 in
theorem glob_reader_fail.calls (g : Nat) (s0_0 : ByteArray) (s0_1 : Int) (s0_2 : Int) (s0_3 : Int) (a1 : Int) (a2 : Int) (r1 : ByteArray) (r2 : Int) (r3 : Int) (r4 : Int) (w0 w : World) (hI : IsS44 w0 w g s0_0 s0_1 s0_2 s0_3) (hB : Below w0.heap.size w0 w) (h : glob_reader_fail.f s0_0 s0_1 s0_2 s0_3 a1 a2 = some (r1, r2, r3, r4)) :
    Calls Tryz.prog 35 #[.pointer (some ⟨g, 0, none⟩), .int .i64 a1, .int .i64 a2] w fun e w' => e = .returned (.tuple #[]) ∧ IsS44 w0 w' g r1 r2 r3 r4 ∧ Below w0.heap.size w0 w' ∧ KeepBut w w' g none := by
  have HI0 := Aside0.mk hI
  have HK := Aside0.mk (KeepBut.refl w g none)
  have HL := Aside0.mk hB.size
  clear hI
  have HW0 := Aside0.mk hB.size
  have HB := Aside0.mk hB
  clear hB
  have H : (if s0_2 = 0 then (some (s0_0, (s0_0.size : Int), a1, a2)) else (some (s0_0, (s0_0.size : Int), s0_2, s0_3))) = some (r1, r2, r3, r4) := h
  clear h
  by_cases c4 : s0_2 = 0
  · rw [if_pos c4] at H
    have c4b0 : (s0_2 == 0) = true := beq_iff_eq.mpr c4
    have c4b1 : (s0_2 != 0) = false := bne_eq_false_iff_eq.mpr c4
    clear c4
    simp only [Option.some.injEq, Prod.mk.injEq] at H
    obtain ⟨rfl, rfl, rfl, rfl⟩ := H
    obtain ⟨HGz5, hgz5⟩ := HI0.out
    have hcz5_0 := cellS44_0 HGz5
    have hcz5_1 := cellS44_1 HGz5
    have hcz5_2 := cellS44_2 HGz5
    have hcz5_3 := cellS44_3 HGz5
    have hfz5_0 := blk_frozen HGz5 0
    have hfz5_1 := blk_frozen HGz5 1
    have hfz5_2 := blk_frozen HGz5 2
    have hfz5_3 := blk_frozen HGz5 3
    clear HGz5 hgz5
    go_enter Tryz.func35, Tryz.ntmps35
    go_wp2
    first | go_end0 | ((try simp only [Exit.inBlock, Exit.then]); refine bodyPost_ret (results_none rfl _ _ _) rfl ?_)
    exact ⟨by first | rfl | (simp [errW_none, errW_some] <;> rfl) | (simp [*, errW_none, errW_some] <;> rfl), by repeat (first | (with_reducible first | exact HI0.out | apply IsS44.alloc | apply IsS44.drewN | apply IsS44.drew | apply IsS44.set_0 | apply IsS44.set_1 | apply IsS44.set_2 | apply IsS44.set_3) | exact HI0.out), by repeat (first | (with_reducible first | exact HB.out | apply below_alloc | apply pw_below_drewN | apply below_drew1 | refine below_set ?_ (IsS44.ge HI0.out)) | exact HB.out), by repeat (first | (with_reducible first | exact HK.out | apply KeepBut.set_ | apply keep_drewN | apply keep_drew | apply keep_alloc) | exact HK.out)⟩
  · rw [if_neg c4] at H
    have c4b0 : (s0_2 == 0) = false := beq_eq_false_iff_ne.mpr c4
    have c4b1 : (s0_2 != 0) = true := bne_iff_ne.mpr c4
    simp only [Option.some.injEq, Prod.mk.injEq] at H
    obtain ⟨rfl, rfl, rfl, rfl⟩ := H
    obtain ⟨HGz6, hgz6⟩ := HI0.out
    have hcz6_0 := cellS44_0 HGz6
    have hcz6_1 := cellS44_1 HGz6
    have hcz6_2 := cellS44_2 HGz6
    have hcz6_3 := cellS44_3 HGz6
    have hfz6_0 := blk_frozen HGz6 0
    have hfz6_1 := blk_frozen HGz6 1
    have hfz6_2 := blk_frozen HGz6 2
    have hfz6_3 := blk_frozen HGz6 3
    clear HGz6 hgz6
    go_enter Tryz.func35, Tryz.ntmps35
    go_wp2
    first | go_end0 | ((try simp only [Exit.inBlock, Exit.then]); refine bodyPost_ret (results_none rfl _ _ _) rfl ?_)
    exact ⟨by first | rfl | (simp [errW_none, errW_some] <;> rfl) | (simp [*, errW_none, errW_some] <;> rfl), by repeat (first | (with_reducible first | exact HI0.out | apply IsS44.alloc | apply IsS44.drewN | apply IsS44.drew | apply IsS44.set_0 | apply IsS44.set_1 | apply IsS44.set_2 | apply IsS44.set_3) | exact HI0.out), by repeat (first | (with_reducible first | exact HB.out | apply below_alloc | apply pw_below_drewN | apply below_drew1 | refine below_set ?_ (IsS44.ge HI0.out)) | exact HB.out), by repeat (first | (with_reducible first | exact HK.out | apply KeepBut.set_ | apply keep_drewN | apply keep_drew | apply keep_alloc) | exact HK.out)⟩
end Go.Proofs.YtelbgmpeghhakaaGreat.PA
end
section
namespace Go.Proofs.YtelbgmpeghhakaaGreat.PA
open Go.RowKit Go.Proofs.YtelbgmpeghhakaaGreatW.PrintWords Go.Proofs.YtelbgmpeghhakaaGreatW.PrintLast Go.Proofs.YtelbgmpeghhakaaGreatW.PrintMore
attribute [local go_sem] max2_int min2_int max_two min_two max_three min_three max_four min_four   -- for this text's walks alone
set_option linter.unusedVariables false
set_option linter.unusedSimpArgs false
def glob_reader_next.f (s0_0 : ByteArray) (s0_1 : Int) (s0_2 : Int) (s0_3 : Int) : Option (Int × ByteArray × Int × Int × Int) := (glob_reader_over.f s0_0 s0_1 s0_2 s0_3).bind fun bt101 => (if bt101.1 = true then ((glob_reader_fail.f bt101.2.1 bt101.2.2.1 bt101.2.2.2.1 bt101.2.2.2.2 31 (bt101.2.1.size : Int)).bind fun bt106 => (some (0, bt106.1, bt106.2.1, bt106.2.2.1, bt106.2.2.2))) else (if 0 ≤ (wrap64 ((wrap64 (bt101.2.2.1 + 1)) - 1)) then (if (wrap64 ((wrap64 (bt101.2.2.1 + 1)) - 1)) < (bt101.2.1.size : Int) then (some (bt bt101.2.1 (wrap64 ((wrap64 (bt101.2.2.1 + 1)) - 1)), bt101.2.1, wrap64 (bt101.2.2.1 + 1), bt101.2.2.2.1, bt101.2.2.2.2)) else (none)) else (none)))
set_option maxHeartbeats 8000000 in
set_option maxRecDepth 100000 in
theorem glob_reader_next.calls (g : Nat) (s0_0 : ByteArray) (s0_1 : Int) (s0_2 : Int) (s0_3 : Int) (r1 : Int) (r2 : ByteArray) (r3 : Int) (r4 : Int) (r5 : Int) (w0 w : World) (hI : IsS44 w0 w g s0_0 s0_1 s0_2 s0_3) (hB : Below w0.heap.size w0 w) (h : glob_reader_next.f s0_0 s0_1 s0_2 s0_3 = some (r1, r2, r3, r4, r5)) :
    Calls Tryz.prog 33 #[.pointer (some ⟨g, 0, none⟩)] w fun e w' => e = .returned (.int .u8 r1) ∧ IsS44 w0 w' g r2 r3 r4 r5 ∧ Below w0.heap.size w0 w' ∧ KeepBut w w' g none := by
  have HI0 := Aside0.mk hI
  have HK := Aside0.mk (KeepBut.refl w g none)
  have HL := Aside0.mk hB.size
  clear hI
  have HW0 := Aside0.mk hB.size
  have HB := Aside0.mk hB
  clear hB
  have H : ((glob_reader_over.f s0_0 s0_1 s0_2 s0_3).bind fun bt101 => (if bt101.1 = true then ((glob_reader_fail.f bt101.2.1 bt101.2.2.1 bt101.2.2.2.1 bt101.2.2.2.2 31 (bt101.2.1.size : Int)).bind fun bt106 => (some (0, bt106.1, bt106.2.1, bt106.2.2.1, bt106.2.2.2))) else (if 0 ≤ (wrap64 ((wrap64 (bt101.2.2.1 + 1)) - 1)) then (if (wrap64 ((wrap64 (bt101.2.2.1 + 1)) - 1)) < (bt101.2.1.size : Int) then (some (bt bt101.2.1 (wrap64 ((wrap64 (bt101.2.2.1 + 1)) - 1)), bt101.2.1, wrap64 (bt101.2.2.1 + 1), bt101.2.2.2.1, bt101.2.2.2.2)) else (none)) else (none)))) = some (r1, r2, r3, r4, r5) := h
  clear h
  replace H := Option.bind_eq_some_iff.mp H
  obtain ⟨⟨t101, t102, t103, t104, t105⟩, A20, H⟩ := H
  replace H : (if t101 = true then ((glob_reader_fail.f t102 t103 t104 t105 31 (t102.size : Int)).bind fun bt106 => (some (0, bt106.1, bt106.2.1, bt106.2.2.1, bt106.2.2.2))) else (if 0 ≤ (wrap64 ((wrap64 (t103 + 1)) - 1)) then (if (wrap64 ((wrap64 (t103 + 1)) - 1)) < (t102.size : Int) then (some (bt t102 (wrap64 ((wrap64 (t103 + 1)) - 1)), t102, wrap64 (t103 + 1), t104, t105)) else (none)) else (none))) = some (r1, r2, r3, r4, r5) := H
  have A2 := Aside0.mk A20
  clear A20
  by_cases c3 : t101 = true
  · subst c3
    have H1 : ((glob_reader_fail.f t102 t103 t104 t105 31 (t102.size : Int)).bind fun bt106 => (some (0, bt106.1, bt106.2.1, bt106.2.2.1, bt106.2.2.2))) = some (r1, r2, r3, r4, r5) := by rw [if_pos rfl] at H; exact H
    clear H
    have H := H1
    clear H1
    replace H := Option.bind_eq_some_iff.mp H
    obtain ⟨⟨t106, t107, t108, t109⟩, A40, H⟩ := H
    replace H : (some (0, t106, t107, t108, t109)) = some (r1, r2, r3, r4, r5) := H
    have A4 := Aside0.mk A40
    clear A40
    simp only [Option.some.injEq, Prod.mk.injEq] at H
    obtain ⟨rfl, rfl, rfl, rfl, rfl⟩ := H
    go_enter Tryz.func33, Tryz.ntmps33
    go_wp2_with (first | (go_at_call 16; (with_reducible refine (glob_reader_over.calls g s0_0 s0_1 s0_2 s0_3 true t102 t103 t104 t105 w0 _ ?side1 ?side2 A2.out).mono ?_); (case side1 => repeat (first | (with_reducible first | exact HI0.out | apply IsS44.alloc | apply IsS44.drewN | apply IsS44.drew | apply IsS44.set_0 | apply IsS44.set_1 | apply IsS44.set_2 | apply IsS44.set_3) | exact HI0.out)); (case side2 => repeat (first | (with_reducible first | exact HB.out | apply below_alloc | apply pw_below_drewN | apply below_drew1 | refine below_set ?_ (IsS44.ge HI0.out)) | exact HB.out)); rintro e w5 ⟨rfl, hi, hb, hk⟩; have n0_ := Aside0.mk (KeepBut.trans (by repeat (first | (with_reducible first | exact HK.out | apply KeepBut.set_ | apply keep_drewN | apply keep_drew | apply keep_alloc) | exact HK.out)) hk (.inl rfl)); have n1_ := Aside0.mk (hb); have n2_ := Aside0.mk (hi); clear HK; clear HB; clear HI0; have HK := n0_; have HB := n1_; have HI0 := n2_; clear n0_ n1_ n2_; (try clear hb); (try clear hb2); (try clear hk); (try clear hi); obtain ⟨HGz6, hgz6⟩ := HI0.out; have hcz6_0 := cellS44_0 HGz6; have hcz6_1 := cellS44_1 HGz6; have hcz6_2 := cellS44_2 HGz6; have hcz6_3 := cellS44_3 HGz6; have hfz6_0 := blk_frozen HGz6 0; have hfz6_1 := blk_frozen HGz6 1; have hfz6_2 := blk_frozen HGz6 2; have hfz6_3 := blk_frozen HGz6 3; clear HGz6 hgz6) | (go_at_call 35; (with_reducible refine (glob_reader_fail.calls g t102 t103 t104 t105 31 (t102.size : Int) t106 t107 t108 t109 w0 _ ?side1 ?side2 A4.out).mono ?_); (case side1 => repeat (first | (with_reducible first | exact HI0.out | apply IsS44.alloc | apply IsS44.drewN | apply IsS44.drew | apply IsS44.set_0 | apply IsS44.set_1 | apply IsS44.set_2 | apply IsS44.set_3) | exact HI0.out)); (case side2 => repeat (first | (with_reducible first | exact HB.out | apply below_alloc | apply pw_below_drewN | apply below_drew1 | refine below_set ?_ (IsS44.ge HI0.out)) | exact HB.out)); rintro e w7 ⟨rfl, hi, hb, hk⟩; have n0_ := Aside0.mk (KeepBut.trans (by repeat (first | (with_reducible first | exact HK.out | apply KeepBut.set_ | apply keep_drewN | apply keep_drew | apply keep_alloc) | exact HK.out)) hk (.inl rfl)); have n1_ := Aside0.mk (hb); have n2_ := Aside0.mk (hi); clear HK; clear HB; clear HI0; have HK := n0_; have HB := n1_; have HI0 := n2_; clear n0_ n1_ n2_; (try clear hb); (try clear hb2); (try clear hk); (try clear hi)))
    repeat (go_quiet (first | (go_at_call 16; (with_reducible refine (glob_reader_over.calls g s0_0 s0_1 s0_2 s0_3 true t102 t103 t104 t105 w0 _ ?side1 ?side2 A2.out).mono ?_); (case side1 => repeat (first | (with_reducible first | exact HI0.out | apply IsS44.alloc | apply IsS44.drewN | apply IsS44.drew | apply IsS44.set_0 | apply IsS44.set_1 | apply IsS44.set_2 | apply IsS44.set_3) | exact HI0.out)); (case side2 => repeat (first | (with_reducible first | exact HB.out | apply below_alloc | apply pw_below_drewN | apply below_drew1 | refine below_set ?_ (IsS44.ge HI0.out)) | exact HB.out)); rintro e w5 ⟨rfl, hi, hb, hk⟩; have n0_ := Aside0.mk (KeepBut.trans (by repeat (first | (with_reducible first | exact HK.out | apply KeepBut.set_ | apply keep_drewN | apply keep_drew | apply keep_alloc) | exact HK.out)) hk (.inl rfl)); have n1_ := Aside0.mk (hb); have n2_ := Aside0.mk (hi); clear HK; clear HB; clear HI0; have HK := n0_; have HB := n1_; have HI0 := n2_; clear n0_ n1_ n2_; (try clear hb); (try clear hb2); (try clear hk); (try clear hi); obtain ⟨HGz6, hgz6⟩ := HI0.out; have hcz6_0 := cellS44_0 HGz6; have hcz6_1 := cellS44_1 HGz6; have hcz6_2 := cellS44_2 HGz6; have hcz6_3 := cellS44_3 HGz6; have hfz6_0 := blk_frozen HGz6 0; have hfz6_1 := blk_frozen HGz6 1; have hfz6_2 := blk_frozen HGz6 2; have hfz6_3 := blk_frozen HGz6 3; clear HGz6 hgz6) | (go_at_call 35; (with_reducible refine (glob_reader_fail.calls g t102 t103 t104 t105 31 (t102.size : Int) t106 t107 t108 t109 w0 _ ?side1 ?side2 A4.out).mono ?_); (case side1 => repeat (first | (with_reducible first | exact HI0.out | apply IsS44.alloc | apply IsS44.drewN | apply IsS44.drew | apply IsS44.set_0 | apply IsS44.set_1 | apply IsS44.set_2 | apply IsS44.set_3) | exact HI0.out)); (case side2 => repeat (first | (with_reducible first | exact HB.out | apply below_alloc | apply pw_below_drewN | apply below_drew1 | refine below_set ?_ (IsS44.ge HI0.out)) | exact HB.out)); rintro e w7 ⟨rfl, hi, hb, hk⟩; have n0_ := Aside0.mk (KeepBut.trans (by repeat (first | (with_reducible first | exact HK.out | apply KeepBut.set_ | apply keep_drewN | apply keep_drew | apply keep_alloc) | exact HK.out)) hk (.inl rfl)); have n1_ := Aside0.mk (hb); have n2_ := Aside0.mk (hi); clear HK; clear HB; clear HI0; have HK := n0_; have HB := n1_; have HI0 := n2_; clear n0_ n1_ n2_; (try clear hb); (try clear hb2); (try clear hk); (try clear hi))); try go_wp2_with (first | (go_at_call 16; (with_reducible refine (glob_reader_over.calls g s0_0 s0_1 s0_2 s0_3 true t102 t103 t104 t105 w0 _ ?side1 ?side2 A2.out).mono ?_); (case side1 => repeat (first | (with_reducible first | exact HI0.out | apply IsS44.alloc | apply IsS44.drewN | apply IsS44.drew | apply IsS44.set_0 | apply IsS44.set_1 | apply IsS44.set_2 | apply IsS44.set_3) | exact HI0.out)); (case side2 => repeat (first | (with_reducible first | exact HB.out | apply below_alloc | apply pw_below_drewN | apply below_drew1 | refine below_set ?_ (IsS44.ge HI0.out)) | exact HB.out)); rintro e w5 ⟨rfl, hi, hb, hk⟩; have n0_ := Aside0.mk (KeepBut.trans (by repeat (first | (with_reducible first | exact HK.out | apply KeepBut.set_ | apply keep_drewN | apply keep_drew | apply keep_alloc) | exact HK.out)) hk (.inl rfl)); have n1_ := Aside0.mk (hb); have n2_ := Aside0.mk (hi); clear HK; clear HB; clear HI0; have HK := n0_; have HB := n1_; have HI0 := n2_; clear n0_ n1_ n2_; (try clear hb); (try clear hb2); (try clear hk); (try clear hi); obtain ⟨HGz6, hgz6⟩ := HI0.out; have hcz6_0 := cellS44_0 HGz6; have hcz6_1 := cellS44_1 HGz6; have hcz6_2 := cellS44_2 HGz6; have hcz6_3 := cellS44_3 HGz6; have hfz6_0 := blk_frozen HGz6 0; have hfz6_1 := blk_frozen HGz6 1; have hfz6_2 := blk_frozen HGz6 2; have hfz6_3 := blk_frozen HGz6 3; clear HGz6 hgz6) | (go_at_call 35; (with_reducible refine (glob_reader_fail.calls g t102 t103 t104 t105 31 (t102.size : Int) t106 t107 t108 t109 w0 _ ?side1 ?side2 A4.out).mono ?_); (case side1 => repeat (first | (with_reducible first | exact HI0.out | apply IsS44.alloc | apply IsS44.drewN | apply IsS44.drew | apply IsS44.set_0 | apply IsS44.set_1 | apply IsS44.set_2 | apply IsS44.set_3) | exact HI0.out)); (case side2 => repeat (first | (with_reducible first | exact HB.out | apply below_alloc | apply pw_below_drewN | apply below_drew1 | refine below_set ?_ (IsS44.ge HI0.out)) | exact HB.out)); rintro e w7 ⟨rfl, hi, hb, hk⟩; have n0_ := Aside0.mk (KeepBut.trans (by repeat (first | (with_reducible first | exact HK.out | apply KeepBut.set_ | apply keep_drewN | apply keep_drew | apply keep_alloc) | exact HK.out)) hk (.inl rfl)); have n1_ := Aside0.mk (hb); have n2_ := Aside0.mk (hi); clear HK; clear HB; clear HI0; have HK := n0_; have HB := n1_; have HI0 := n2_; clear n0_ n1_ n2_; (try clear hb); (try clear hb2); (try clear hk); (try clear hi))))
    go_ret
    exact ⟨by first | rfl | (simp [errW_none, errW_some] <;> rfl) | (simp [*, errW_none, errW_some] <;> rfl), by repeat (first | (with_reducible first | exact HI0.out | apply IsS44.alloc | apply IsS44.drewN | apply IsS44.drew | apply IsS44.set_0 | apply IsS44.set_1 | apply IsS44.set_2 | apply IsS44.set_3) | exact HI0.out), by repeat (first | (with_reducible first | exact HB.out | apply below_alloc | apply pw_below_drewN | apply below_drew1 | refine below_set ?_ (IsS44.ge HI0.out)) | exact HB.out), by repeat (first | (with_reducible first | exact HK.out | apply KeepBut.set_ | apply keep_drewN | apply keep_drew | apply keep_alloc) | exact HK.out)⟩
  · replace c3 := Bool.eq_false_iff.mpr c3
    subst c3
    have H1 : (if 0 ≤ (wrap64 ((wrap64 (t103 + 1)) - 1)) then (if (wrap64 ((wrap64 (t103 + 1)) - 1)) < (t102.size : Int) then (some (bt t102 (wrap64 ((wrap64 (t103 + 1)) - 1)), t102, wrap64 (t103 + 1), t104, t105)) else (none)) else (none)) = some (r1, r2, r3, r4, r5) := by rw [if_neg (show ¬ (false = true) by decide)] at H; exact H
    clear H
    have H := H1
    clear H1
    obtain ⟨ji8, hji8⟩ : ∃ j_ : Int, (wrap64 ((wrap64 (t103 + 1)) - 1)) = j_ := ⟨_, rfl⟩
    replace H : (if 0 ≤ (ji8) then (if (ji8) < (t102.size : Int) then (some (bt t102 (ji8), t102, wrap64 (t103 + 1), t104, t105)) else (none)) else (none)) = some (r1, r2, r3, r4, r5) := by first | (rw [hji8] at H; exact H) | (simp only [hji8] at H ⊢; exact H)
    (try rw [hji8] at A2)
    have hji8w : (IntKind.i64.wrap ((wrap64 (t103 + 1)) - 1)) = ji8 := (i64_w _).trans hji8
    by_cases c9 : 0 ≤ (ji8)
    · rw [if_pos c9] at H
      have c9b0 : decide (0 ≤ (ji8)) = true := decide_eq_true c9
      clear c9
      by_cases c10 : (ji8) < (t102.size : Int)
      · rw [if_pos c10] at H
        have c10b0 : decide ((ji8) < (t102.size : Int)) = true := decide_eq_true c10
        clear c10
        simp only [Option.some.injEq, Prod.mk.injEq] at H
        obtain ⟨rfl, rfl, rfl, rfl, rfl⟩ := H
        go_enter Tryz.func33, Tryz.ntmps33
        go_wp2_with (first | (go_at_call 16; (with_reducible refine (glob_reader_over.calls g s0_0 s0_1 s0_2 s0_3 false t102 t103 t104 t105 w0 _ ?side1 ?side2 A2.out).mono ?_); (case side1 => repeat (first | (with_reducible first | exact HI0.out | apply IsS44.alloc | apply IsS44.drewN | apply IsS44.drew | apply IsS44.set_0 | apply IsS44.set_1 | apply IsS44.set_2 | apply IsS44.set_3) | exact HI0.out)); (case side2 => repeat (first | (with_reducible first | exact HB.out | apply below_alloc | apply pw_below_drewN | apply below_drew1 | refine below_set ?_ (IsS44.ge HI0.out)) | exact HB.out)); rintro e w12 ⟨rfl, hi, hb, hk⟩; have n0_ := Aside0.mk (KeepBut.trans (by repeat (first | (with_reducible first | exact HK.out | apply KeepBut.set_ | apply keep_drewN | apply keep_drew | apply keep_alloc) | exact HK.out)) hk (.inl rfl)); have n1_ := Aside0.mk (hb); have n2_ := Aside0.mk (hi); clear HK; clear HB; clear HI0; have HK := n0_; have HB := n1_; have HI0 := n2_; clear n0_ n1_ n2_; (try clear hb); (try clear hb2); (try clear hk); (try clear hi); obtain ⟨HGz13, hgz13⟩ := HI0.out; have hcz13_0 := cellS44_0 HGz13; have hcz13_1 := cellS44_1 HGz13; have hcz13_2 := cellS44_2 HGz13; have hcz13_3 := cellS44_3 HGz13; have hfz13_0 := blk_frozen HGz13 0; have hfz13_1 := blk_frozen HGz13 1; have hfz13_2 := blk_frozen HGz13 2; have hfz13_3 := blk_frozen HGz13 3; clear HGz13 hgz13; have p11 : 0 ≤ ((ji8) : Int) := of_decide_eq_true (by first | (with_reducible assumption) | assumption); have q11 : (ji8) < (t102.size : Int) := of_decide_eq_true (by first | (with_reducible assumption) | assumption); have hx11 := bt_at t102 (ji8); replace p11 := eq_true p11; replace q11 := eq_true q11))
        repeat (go_quiet (first | (go_at_call 16; (with_reducible refine (glob_reader_over.calls g s0_0 s0_1 s0_2 s0_3 false t102 t103 t104 t105 w0 _ ?side1 ?side2 A2.out).mono ?_); (case side1 => repeat (first | (with_reducible first | exact HI0.out | apply IsS44.alloc | apply IsS44.drewN | apply IsS44.drew | apply IsS44.set_0 | apply IsS44.set_1 | apply IsS44.set_2 | apply IsS44.set_3) | exact HI0.out)); (case side2 => repeat (first | (with_reducible first | exact HB.out | apply below_alloc | apply pw_below_drewN | apply below_drew1 | refine below_set ?_ (IsS44.ge HI0.out)) | exact HB.out)); rintro e w12 ⟨rfl, hi, hb, hk⟩; have n0_ := Aside0.mk (KeepBut.trans (by repeat (first | (with_reducible first | exact HK.out | apply KeepBut.set_ | apply keep_drewN | apply keep_drew | apply keep_alloc) | exact HK.out)) hk (.inl rfl)); have n1_ := Aside0.mk (hb); have n2_ := Aside0.mk (hi); clear HK; clear HB; clear HI0; have HK := n0_; have HB := n1_; have HI0 := n2_; clear n0_ n1_ n2_; (try clear hb); (try clear hb2); (try clear hk); (try clear hi); obtain ⟨HGz13, hgz13⟩ := HI0.out; have hcz13_0 := cellS44_0 HGz13; have hcz13_1 := cellS44_1 HGz13; have hcz13_2 := cellS44_2 HGz13; have hcz13_3 := cellS44_3 HGz13; have hfz13_0 := blk_frozen HGz13 0; have hfz13_1 := blk_frozen HGz13 1; have hfz13_2 := blk_frozen HGz13 2; have hfz13_3 := blk_frozen HGz13 3; clear HGz13 hgz13; have p11 : 0 ≤ ((ji8) : Int) := of_decide_eq_true (by first | (with_reducible assumption) | assumption); have q11 : (ji8) < (t102.size : Int) := of_decide_eq_true (by first | (with_reducible assumption) | assumption); have hx11 := bt_at t102 (ji8); replace p11 := eq_true p11; replace q11 := eq_true q11)); try go_wp2_with (first | (go_at_call 16; (with_reducible refine (glob_reader_over.calls g s0_0 s0_1 s0_2 s0_3 false t102 t103 t104 t105 w0 _ ?side1 ?side2 A2.out).mono ?_); (case side1 => repeat (first | (with_reducible first | exact HI0.out | apply IsS44.alloc | apply IsS44.drewN | apply IsS44.drew | apply IsS44.set_0 | apply IsS44.set_1 | apply IsS44.set_2 | apply IsS44.set_3) | exact HI0.out)); (case side2 => repeat (first | (with_reducible first | exact HB.out | apply below_alloc | apply pw_below_drewN | apply below_drew1 | refine below_set ?_ (IsS44.ge HI0.out)) | exact HB.out)); rintro e w12 ⟨rfl, hi, hb, hk⟩; have n0_ := Aside0.mk (KeepBut.trans (by repeat (first | (with_reducible first | exact HK.out | apply KeepBut.set_ | apply keep_drewN | apply keep_drew | apply keep_alloc) | exact HK.out)) hk (.inl rfl)); have n1_ := Aside0.mk (hb); have n2_ := Aside0.mk (hi); clear HK; clear HB; clear HI0; have HK := n0_; have HB := n1_; have HI0 := n2_; clear n0_ n1_ n2_; (try clear hb); (try clear hb2); (try clear hk); (try clear hi); obtain ⟨HGz13, hgz13⟩ := HI0.out; have hcz13_0 := cellS44_0 HGz13; have hcz13_1 := cellS44_1 HGz13; have hcz13_2 := cellS44_2 HGz13; have hcz13_3 := cellS44_3 HGz13; have hfz13_0 := blk_frozen HGz13 0; have hfz13_1 := blk_frozen HGz13 1; have hfz13_2 := blk_frozen HGz13 2; have hfz13_3 := blk_frozen HGz13 3; clear HGz13 hgz13; have p11 : 0 ≤ ((ji8) : Int) := of_decide_eq_true (by first | (with_reducible assumption) | assumption); have q11 : (ji8) < (t102.size : Int) := of_decide_eq_true (by first | (with_reducible assumption) | assumption); have hx11 := bt_at t102 (ji8); replace p11 := eq_true p11; replace q11 := eq_true q11)))
        go_ret
        exact ⟨by first | rfl | (simp [errW_none, errW_some] <;> rfl) | (simp only [← hji8]; first | rfl | (simp [errW_none, errW_some] <;> rfl)) | (simp [*, errW_none, errW_some] <;> rfl), by repeat (first | (with_reducible first | exact HI0.out | apply IsS44.alloc | apply IsS44.drewN | apply IsS44.drew | apply IsS44.set_0 | apply IsS44.set_1 | apply IsS44.set_2 | apply IsS44.set_3) | exact HI0.out), by repeat (first | (with_reducible first | exact HB.out | apply below_alloc | apply pw_below_drewN | apply below_drew1 | refine below_set ?_ (IsS44.ge HI0.out)) | exact HB.out), by repeat (first | (with_reducible first | exact HK.out | apply KeepBut.set_ | apply keep_drewN | apply keep_drew | apply keep_alloc) | exact HK.out)⟩
      · rw [if_neg c10] at H
        exact absurd H (by simp)
    · rw [if_neg c9] at H
      exact absurd H (by simp)
end Go.Proofs.YtelbgmpeghhakaaGreat.PA
end
section
namespace Go.Proofs.YtelbgmpeghhakaaGreat.PA
open Go.RowKit Go.Proofs.YtelbgmpeghhakaaGreatW.PrintWords Go.Proofs.YtelbgmpeghhakaaGreatW.PrintLast Go.Proofs.YtelbgmpeghhakaaGreatW.PrintMore
attribute [local go_sem] max2_int min2_int max_two min_two max_three min_three max_four min_four   -- for this text's walks alone
set_option linter.unusedVariables false
set_option linter.unusedSimpArgs false
def glob_reader_byte.f (s0_0 : ByteArray) (s0_1 : Int) (s0_2 : Int) (s0_3 : Int) : Option (Int × Bool × ByteArray × Int × Int × Int) := (glob_reader_next.f s0_0 s0_1 s0_2 s0_3).bind fun bt110 => (if bt110.1 = 92 then (if bt110.2.2.2.1 = 0 then ((glob_reader_next.f bt110.2.1 bt110.2.2.1 bt110.2.2.2.1 bt110.2.2.2.2).bind fun bt115 => (some (bt115.1, true, bt115.2.1, bt115.2.2.1, bt115.2.2.2.1, bt115.2.2.2.2))) else (some (bt110.1, false, bt110.2.1, bt110.2.2.1, bt110.2.2.2.1, bt110.2.2.2.2))) else (some (bt110.1, false, bt110.2.1, bt110.2.2.1, bt110.2.2.2.1, bt110.2.2.2.2)))
set_option maxHeartbeats 8000000 in
set_option maxRecDepth 100000 in
theorem glob_reader_byte.calls (g : Nat) (s0_0 : ByteArray) (s0_1 : Int) (s0_2 : Int) (s0_3 : Int) (r1 : Int) (r2 : Bool) (r3 : ByteArray) (r4 : Int) (r5 : Int) (r6 : Int) (w0 w : World) (hI : IsS44 w0 w g s0_0 s0_1 s0_2 s0_3) (hB : Below w0.heap.size w0 w) (h : glob_reader_byte.f s0_0 s0_1 s0_2 s0_3 = some (r1, r2, r3, r4, r5, r6)) :
    Calls Tryz.prog 17 #[.pointer (some ⟨g, 0, none⟩)] w fun e w' => e = .returned (.tuple #[.int .u8 r1, .bool r2]) ∧ IsS44 w0 w' g r3 r4 r5 r6 ∧ Below w0.heap.size w0 w' ∧ KeepBut w w' g none := by
  have HI0 := Aside0.mk hI
  have HK := Aside0.mk (KeepBut.refl w g none)
  have HL := Aside0.mk hB.size
  clear hI
  have HW0 := Aside0.mk hB.size
  have HB := Aside0.mk hB
  clear hB
  have H : ((glob_reader_next.f s0_0 s0_1 s0_2 s0_3).bind fun bt110 => (if bt110.1 = 92 then (if bt110.2.2.2.1 = 0 then ((glob_reader_next.f bt110.2.1 bt110.2.2.1 bt110.2.2.2.1 bt110.2.2.2.2).bind fun bt115 => (some (bt115.1, true, bt115.2.1, bt115.2.2.1, bt115.2.2.2.1, bt115.2.2.2.2))) else (some (bt110.1, false, bt110.2.1, bt110.2.2.1, bt110.2.2.2.1, bt110.2.2.2.2))) else (some (bt110.1, false, bt110.2.1, bt110.2.2.1, bt110.2.2.2.1, bt110.2.2.2.2)))) = some (r1, r2, r3, r4, r5, r6) := h
  clear h
  replace H := Option.bind_eq_some_iff.mp H
  obtain ⟨⟨t110, t111, t112, t113, t114⟩, A20, H⟩ := H
  replace H : (if t110 = 92 then (if t113 = 0 then ((glob_reader_next.f t111 t112 t113 t114).bind fun bt115 => (some (bt115.1, true, bt115.2.1, bt115.2.2.1, bt115.2.2.2.1, bt115.2.2.2.2))) else (some (t110, false, t111, t112, t113, t114))) else (some (t110, false, t111, t112, t113, t114))) = some (r1, r2, r3, r4, r5, r6) := H
  have A2 := Aside0.mk A20
  clear A20
  by_cases c3 : t110 = 92
  · rw [if_pos c3] at H
    have c3b0 : (t110 == 92) = true := beq_iff_eq.mpr c3
    have c3b1 : (t110 != 92) = false := bne_eq_false_iff_eq.mpr c3
    clear c3
    by_cases c4 : t113 = 0
    · rw [if_pos c4] at H
      have c4b0 : (t113 == 0) = true := beq_iff_eq.mpr c4
      have c4b1 : (t113 != 0) = false := bne_eq_false_iff_eq.mpr c4
      clear c4
      replace H := Option.bind_eq_some_iff.mp H
      obtain ⟨⟨t115, t116, t117, t118, t119⟩, A50, H⟩ := H
      replace H : (some (t115, true, t116, t117, t118, t119)) = some (r1, r2, r3, r4, r5, r6) := H
      have A5 := Aside0.mk A50
      clear A50
      simp only [Option.some.injEq, Prod.mk.injEq] at H
      obtain ⟨rfl, rfl, rfl, rfl, rfl, rfl⟩ := H
      go_enter Tryz.func17, Tryz.ntmps17
      go_wp2_with (first | ((with_reducible refine gate_callee (f := 33) rfl ?_); refine goesL_ (some 6) rfl rfl Tryz.func33 (by kernel_rfl) rfl #[.pointer (some ⟨g, 0, none⟩)] rfl (by (try simp only [List.map_toArray, List.map_cons, List.map_nil]); first | done | rfl | (simp only [List.length_drop, List.length_take]; rfl)) ?_; (with_reducible refine (glob_reader_next.calls g s0_0 s0_1 s0_2 s0_3 t110 t111 t112 t113 t114 w0 _ ?side1 ?side2 A2.out).mono ?_); (case side1 => repeat (first | (with_reducible first | exact HI0.out | apply IsS44.alloc | apply IsS44.drewN | apply IsS44.drew | apply IsS44.set_0 | apply IsS44.set_1 | apply IsS44.set_2 | apply IsS44.set_3) | exact HI0.out)); (case side2 => repeat (first | (with_reducible first | exact HB.out | apply below_alloc | apply pw_below_drewN | apply below_drew1 | refine below_set ?_ (IsS44.ge HI0.out)) | exact HB.out)); rintro e w6 ⟨rfl, hi, hb, hk⟩; refine ⟨_, rfl, ?_⟩; have n0_ := Aside0.mk (KeepBut.trans (by repeat (first | (with_reducible first | exact HK.out | apply KeepBut.set_ | apply keep_drewN | apply keep_drew | apply keep_alloc) | exact HK.out)) hk (.inl rfl)); have n1_ := Aside0.mk (hb); have n2_ := Aside0.mk (hi); clear HK; clear HB; clear HI0; have HK := n0_; have HB := n1_; have HI0 := n2_; clear n0_ n1_ n2_; (try clear hb); (try clear hb2); (try clear hk); (try clear hi); obtain ⟨HGz7, hgz7⟩ := HI0.out; have hcz7_0 := cellS44_0 HGz7; have hcz7_1 := cellS44_1 HGz7; have hcz7_2 := cellS44_2 HGz7; have hcz7_3 := cellS44_3 HGz7; have hfz7_0 := blk_frozen HGz7 0; have hfz7_1 := blk_frozen HGz7 1; have hfz7_2 := blk_frozen HGz7 2; have hfz7_3 := blk_frozen HGz7 3; clear HGz7 hgz7) | ((with_reducible refine gate_callee (f := 33) rfl ?_); refine goesL_ (some 17) rfl rfl Tryz.func33 (by kernel_rfl) rfl #[.pointer (some ⟨g, 0, none⟩)] rfl (by (try simp only [List.map_toArray, List.map_cons, List.map_nil]); first | done | rfl | (simp only [List.length_drop, List.length_take]; rfl)) ?_; (with_reducible refine (glob_reader_next.calls g t111 t112 t113 t114 t115 t116 t117 t118 t119 w0 _ ?side1 ?side2 A5.out).mono ?_); (case side1 => repeat (first | (with_reducible first | exact HI0.out | apply IsS44.alloc | apply IsS44.drewN | apply IsS44.drew | apply IsS44.set_0 | apply IsS44.set_1 | apply IsS44.set_2 | apply IsS44.set_3) | exact HI0.out)); (case side2 => repeat (first | (with_reducible first | exact HB.out | apply below_alloc | apply pw_below_drewN | apply below_drew1 | refine below_set ?_ (IsS44.ge HI0.out)) | exact HB.out)); rintro e w8 ⟨rfl, hi, hb, hk⟩; refine ⟨_, rfl, ?_⟩; have n0_ := Aside0.mk (KeepBut.trans (by repeat (first | (with_reducible first | exact HK.out | apply KeepBut.set_ | apply keep_drewN | apply keep_drew | apply keep_alloc) | exact HK.out)) hk (.inl rfl)); have n1_ := Aside0.mk (hb); have n2_ := Aside0.mk (hi); clear HK; clear HB; clear HI0; have HK := n0_; have HB := n1_; have HI0 := n2_; clear n0_ n1_ n2_; (try clear hb); (try clear hb2); (try clear hk); (try clear hi)))
      go_ret2
      exact ⟨by first | rfl | (simp [errW_none, errW_some] <;> rfl) | (simp [*, errW_none, errW_some] <;> rfl), by repeat (first | (with_reducible first | exact HI0.out | apply IsS44.alloc | apply IsS44.drewN | apply IsS44.drew | apply IsS44.set_0 | apply IsS44.set_1 | apply IsS44.set_2 | apply IsS44.set_3) | exact HI0.out), by repeat (first | (with_reducible first | exact HB.out | apply below_alloc | apply pw_below_drewN | apply below_drew1 | refine below_set ?_ (IsS44.ge HI0.out)) | exact HB.out), by repeat (first | (with_reducible first | exact HK.out | apply KeepBut.set_ | apply keep_drewN | apply keep_drew | apply keep_alloc) | exact HK.out)⟩
    · rw [if_neg c4] at H
      have c4b0 : (t113 == 0) = false := beq_eq_false_iff_ne.mpr c4
      have c4b1 : (t113 != 0) = true := bne_iff_ne.mpr c4
      simp only [Option.some.injEq, Prod.mk.injEq] at H
      obtain ⟨rfl, rfl, rfl, rfl, rfl, rfl⟩ := H
      go_enter Tryz.func17, Tryz.ntmps17
      go_wp2_with (first | ((with_reducible refine gate_callee (f := 33) rfl ?_); refine goesL_ (some 6) rfl rfl Tryz.func33 (by kernel_rfl) rfl #[.pointer (some ⟨g, 0, none⟩)] rfl (by (try simp only [List.map_toArray, List.map_cons, List.map_nil]); first | done | rfl | (simp only [List.length_drop, List.length_take]; rfl)) ?_; (with_reducible refine (glob_reader_next.calls g s0_0 s0_1 s0_2 s0_3 t110 t111 t112 t113 t114 w0 _ ?side1 ?side2 A2.out).mono ?_); (case side1 => repeat (first | (with_reducible first | exact HI0.out | apply IsS44.alloc | apply IsS44.drewN | apply IsS44.drew | apply IsS44.set_0 | apply IsS44.set_1 | apply IsS44.set_2 | apply IsS44.set_3) | exact HI0.out)); (case side2 => repeat (first | (with_reducible first | exact HB.out | apply below_alloc | apply pw_below_drewN | apply below_drew1 | refine below_set ?_ (IsS44.ge HI0.out)) | exact HB.out)); rintro e w9 ⟨rfl, hi, hb, hk⟩; refine ⟨_, rfl, ?_⟩; have n0_ := Aside0.mk (KeepBut.trans (by repeat (first | (with_reducible first | exact HK.out | apply KeepBut.set_ | apply keep_drewN | apply keep_drew | apply keep_alloc) | exact HK.out)) hk (.inl rfl)); have n1_ := Aside0.mk (hb); have n2_ := Aside0.mk (hi); clear HK; clear HB; clear HI0; have HK := n0_; have HB := n1_; have HI0 := n2_; clear n0_ n1_ n2_; (try clear hb); (try clear hb2); (try clear hk); (try clear hi); obtain ⟨HGz10, hgz10⟩ := HI0.out; have hcz10_0 := cellS44_0 HGz10; have hcz10_1 := cellS44_1 HGz10; have hcz10_2 := cellS44_2 HGz10; have hcz10_3 := cellS44_3 HGz10; have hfz10_0 := blk_frozen HGz10 0; have hfz10_1 := blk_frozen HGz10 1; have hfz10_2 := blk_frozen HGz10 2; have hfz10_3 := blk_frozen HGz10 3; clear HGz10 hgz10))
      go_ret2
      exact ⟨by first | rfl | (simp [errW_none, errW_some] <;> rfl) | (simp [*, errW_none, errW_some] <;> rfl), by repeat (first | (with_reducible first | exact HI0.out | apply IsS44.alloc | apply IsS44.drewN | apply IsS44.drew | apply IsS44.set_0 | apply IsS44.set_1 | apply IsS44.set_2 | apply IsS44.set_3) | exact HI0.out), by repeat (first | (with_reducible first | exact HB.out | apply below_alloc | apply pw_below_drewN | apply below_drew1 | refine below_set ?_ (IsS44.ge HI0.out)) | exact HB.out), by repeat (first | (with_reducible first | exact HK.out | apply KeepBut.set_ | apply keep_drewN | apply keep_drew | apply keep_alloc) | exact HK.out)⟩
  · rw [if_neg c3] at H
    have c3b0 : (t110 == 92) = false := beq_eq_false_iff_ne.mpr c3
    have c3b1 : (t110 != 92) = true := bne_iff_ne.mpr c3
    simp only [Option.some.injEq, Prod.mk.injEq] at H
    obtain ⟨rfl, rfl, rfl, rfl, rfl, rfl⟩ := H
    go_enter Tryz.func17, Tryz.ntmps17
    go_wp2_with (first | ((with_reducible refine gate_callee (f := 33) rfl ?_); refine goesL_ (some 6) rfl rfl Tryz.func33 (by kernel_rfl) rfl #[.pointer (some ⟨g, 0, none⟩)] rfl (by (try simp only [List.map_toArray, List.map_cons, List.map_nil]); first | done | rfl | (simp only [List.length_drop, List.length_take]; rfl)) ?_; (with_reducible refine (glob_reader_next.calls g s0_0 s0_1 s0_2 s0_3 t110 t111 t112 t113 t114 w0 _ ?side1 ?side2 A2.out).mono ?_); (case side1 => repeat (first | (with_reducible first | exact HI0.out | apply IsS44.alloc | apply IsS44.drewN | apply IsS44.drew | apply IsS44.set_0 | apply IsS44.set_1 | apply IsS44.set_2 | apply IsS44.set_3) | exact HI0.out)); (case side2 => repeat (first | (with_reducible first | exact HB.out | apply below_alloc | apply pw_below_drewN | apply below_drew1 | refine below_set ?_ (IsS44.ge HI0.out)) | exact HB.out)); rintro e w11 ⟨rfl, hi, hb, hk⟩; refine ⟨_, rfl, ?_⟩; have n0_ := Aside0.mk (KeepBut.trans (by repeat (first | (with_reducible first | exact HK.out | apply KeepBut.set_ | apply keep_drewN | apply keep_drew | apply keep_alloc) | exact HK.out)) hk (.inl rfl)); have n1_ := Aside0.mk (hb); have n2_ := Aside0.mk (hi); clear HK; clear HB; clear HI0; have HK := n0_; have HB := n1_; have HI0 := n2_; clear n0_ n1_ n2_; (try clear hb); (try clear hb2); (try clear hk); (try clear hi)))
    go_ret2
    exact ⟨by first | rfl | (simp [errW_none, errW_some] <;> rfl) | (simp [*, errW_none, errW_some] <;> rfl), by repeat (first | (with_reducible first | exact HI0.out | apply IsS44.alloc | apply IsS44.drewN | apply IsS44.drew | apply IsS44.set_0 | apply IsS44.set_1 | apply IsS44.set_2 | apply IsS44.set_3) | exact HI0.out), by repeat (first | (with_reducible first | exact HB.out | apply below_alloc | apply pw_below_drewN | apply below_drew1 | refine below_set ?_ (IsS44.ge HI0.out)) | exact HB.out), by repeat (first | (with_reducible first | exact HK.out | apply KeepBut.set_ | apply keep_drewN | apply keep_drew | apply keep_alloc) | exact HK.out)⟩
end Go.Proofs.YtelbgmpeghhakaaGreat.PA
end
section
namespace Go.Proofs.YtelbgmpeghhakaaGreat.PA
open Go.RowKit Go.Proofs.YtelbgmpeghhakaaGreatW.PrintWords Go.Proofs.YtelbgmpeghhakaaGreatW.PrintLast Go.Proofs.YtelbgmpeghhakaaGreatW.PrintMore
attribute [local go_sem] max2_int min2_int max_two min_two max_three min_three max_four min_four   -- for this text's walks alone
set_option linter.unusedVariables false
set_option linter.unusedSimpArgs false
def stringslite_HasPrefix.f (a0 : ByteArray) (a1 : ByteArray) : Option (Bool) := if (a0.size : Int) ≥ (a1.size : Int) then (if 0 ≤ (a1.size : Int) then (if (a1.size : Int) ≤ (a0.size : Int) then (some ((a0.extract 0 ((a1.size : Int) : Int).toNat).toList == a1.toList)) else (none)) else (none)) else (some false)
set_option maxHeartbeats 8000000 in
set_option maxRecDepth 100000 in
theorem stringslite_HasPrefix.calls (a0 : ByteArray) (a1 : ByteArray) (r : Bool) (w : World) (h : stringslite_HasPrefix.f a0 a1 = some r) :
    Calls Tryz.prog 42 #[.string a0, .string a1] w fun e w' => e = .returned (.bool r) ∧ Drawn0 w w' := by
  have H : (if (a0.size : Int) ≥ (a1.size : Int) then (if 0 ≤ (a1.size : Int) then (if (a1.size : Int) ≤ (a0.size : Int) then (some ((a0.extract 0 ((a1.size : Int) : Int).toNat).toList == a1.toList)) else (none)) else (none)) else (some false)) = some r := h
  clear h
  by_cases c3 : (a0.size : Int) ≥ (a1.size : Int)
  · rw [if_pos c3] at H
    have c3b0 : decide ((a1.size : Int) ≤ (a0.size : Int)) = true := decide_eq_true c3
    have c3b1 : decide (a1.size ≤ a0.size) = true := decide_eq_true (Int.ofNat_le.mp c3)
    clear c3
    by_cases c4 : 0 ≤ (a1.size : Int)
    · rw [if_pos c4] at H
      have c4b0 := eq_true c4
      have c4b1 : decide (0 ≤ (a1.size : Int)) = true := decide_eq_true c4
      clear c4
      by_cases c5 : (a1.size : Int) ≤ (a0.size : Int)
      · rw [if_pos c5] at H
        have c5b0 := eq_true c5
        have c5b1 : decide ((a1.size : Int) ≤ (a0.size : Int)) = true := decide_eq_true c5
        clear c5
        obtain rfl := Option.some.inj H
        go_enter Tryz.func42, Tryz.ntmps42
        go_wp2
        go_ret
        exact ⟨by first | rfl | (simp; done) | (simp [*]; done), by repeat (first | exact Drawn0.refl _ | apply Drawn0.step)⟩
      · rw [if_neg c5] at H
        exact absurd H (by simp)
    · rw [if_neg c4] at H
      exact absurd H (by simp)
  · rw [if_neg c3] at H
    have c3b0 : decide ((a1.size : Int) ≤ (a0.size : Int)) = false := decide_eq_false c3
    have c3b1 : decide (a1.size ≤ a0.size) = false := decide_eq_false (fun h => c3 (Int.ofNat_le.mpr h))
    clear c3
    obtain rfl := Option.some.inj H
    go_enter Tryz.func42, Tryz.ntmps42
    go_wp2
    go_ret
    exact ⟨by first | rfl | (simp; done) | (simp [*]; done), by repeat (first | exact Drawn0.refl _ | apply Drawn0.step)⟩
end Go.Proofs.YtelbgmpeghhakaaGreat.PA
end
section
namespace Go.Proofs.YtelbgmpeghhakaaGreat.PA
open Go.RowKit Go.Proofs.YtelbgmpeghhakaaGreatW.PrintWords Go.Proofs.YtelbgmpeghhakaaGreatW.PrintLast Go.Proofs.YtelbgmpeghhakaaGreatW.PrintMore
attribute [local go_sem] max2_int min2_int max_two min_two max_three min_three max_four min_four   -- for this text's walks alone
set_option linter.unusedVariables false
set_option linter.unusedSimpArgs false
def strings_HasPrefix.f (a0 : ByteArray) (a1 : ByteArray) : Option (Bool) := (stringslite_HasPrefix.f a0 a1).bind fun t127 => (some t127)
set_option maxHeartbeats 8000000 in
set_option maxRecDepth 100000 in
theorem strings_HasPrefix.calls (a0 : ByteArray) (a1 : ByteArray) (r : Bool) (w : World) (h : strings_HasPrefix.f a0 a1 = some r) :
    Calls Tryz.prog 34 #[.string a0, .string a1] w fun e w' => e = .returned (.bool r) ∧ Drawn0 w w' := by
  have H : ((stringslite_HasPrefix.f a0 a1).bind fun t127 => (some t127)) = some r := h
  clear h
  replace H := Option.bind_eq_some_iff.mp H
  obtain ⟨t127, A30, H⟩ := H
  replace H : (some t127) = some r := H
  have A3 := Aside0.mk A30
  clear A30
  obtain rfl := Option.some.inj H
  go_enter Tryz.func34, Tryz.ntmps34
  go_wp2_with (first | ((with_reducible refine gate_callee (f := 42) rfl ?_); refine goesL_ (some 7) rfl rfl Tryz.func42 (by kernel_rfl) rfl #[.string a0, .string a1] rfl (by (try simp only [List.map_toArray, List.map_cons, List.map_nil]); first | done | rfl | (simp only [List.length_drop, List.length_take]; rfl)) ?_; (with_reducible refine (stringslite_HasPrefix.calls a0 a1 t127 _ A3.out).mono ?_); rintro e w' ⟨rfl, ⟨nd, rfl⟩⟩; refine ⟨_, rfl, ?_⟩))
  go_ret
  exact ⟨by first | rfl | (simp; done) | (simp [*]; done), by repeat (first | exact Drawn0.refl _ | apply Drawn0.step)⟩
end Go.Proofs.YtelbgmpeghhakaaGreat.PA
end
section
namespace Go.Proofs.YtelbgmpeghhakaaGreat.PA
open Go.RowKit Go.Proofs.YtelbgmpeghhakaaGreatW.PrintWords Go.Proofs.YtelbgmpeghhakaaGreatW.PrintLast Go.Proofs.YtelbgmpeghhakaaGreatW.PrintMore
set_option linter.unusedVariables false
set_option linter.unusedSimpArgs false
abbrev NN := S26
def byteS : List Int → Option (Int × Bool × List Int)
  | [] => none
  | c :: r => if c = 92 then (match r with | [] => none | d :: r' => some (d, true, r')) else some (c, false, r)
theorem byteS_cons (c : Int) (r : List Int) : byteS (c :: r) = if c = 92 then (match r with | [] => none | d :: r' => some (d, true, r')) else some (c, false, r) := rfl
theorem byteS_lt : ∀ {t : List Int} {x : Int} {q : Bool} {r : List Int}, byteS t = some (x, q, r) → r.length < t.length
  | [], _, _, _, h => by cases h
  | c :: t, x, q, r, h => by
    rw [byteS_cons] at h
    split at h
    · cases t with
      | nil => cases h
      | cons d t => simp only [Option.some.injEq, Prod.mk.injEq] at h; obtain ⟨_, _, rfl⟩ := h; simp only [List.length_cons]; omega
    · simp only [Option.some.injEq, Prod.mk.injEq] at h; obtain ⟨_, _, rfl⟩ := h; simp only [List.length_cons]; omega
def hyph : List Int → Bool
  | c :: d :: _ => decide (c = 45) && decide (d ≠ 93)
  | _ => false
def classS : Nat → List Int → Bool → List RR → (List RR × List Int) ⊕ (Int × Nat)
  | 0, _, _, _ => .inr (0, 0)
  | k + 1, t, first, acc => match byteS t with
    | none => .inr (31, 0)
    | some (lo, q, r) => if lo = 93 ∧ q = false ∧ first = false then .inl (acc, r) else
      if hyph r = true then (match byteS r.tail with
        | none => .inr (31, 0)
        | some (hi, _, r2) => if hi < lo then .inr (32, t.length) else classS k r2 false (acc ++ [⟨lo, hi⟩]))
      else classS k r false (acc ++ [⟨lo, lo⟩])
def classT (t : List Int) : (List RR × Bool × List Int) ⊕ (Int × Nat) :=
  match classS (t.length + 1) (if t.head? = some 33 then t.tail else t) true [] with
  | .inl (rs, r) => .inl (rs, decide (t.head? = some 33), r)
  | .inr e => .inr e
def setN (rs : List RR) : NN := ⟨1, rs, []⟩
def oneN (c : Int) : NN := setN [⟨c, c⟩]
def allN : NN := setN [⟨0, 255⟩]
def starN : NN := ⟨4, [], [allN]⟩
def parseS : Nat → List Int → List NN → List NN ⊕ (Int × Nat)
  | 0, _, _ => .inr (0, 0)
  | k + 1, t, acc => match t with
    | [] => .inl acc
    | _ :: _ => match byteS t with
      | none => .inr (31, 0)
      | some (x, q, r) => if q = true then parseS k r (acc ++ [oneN x]) else if x = 63 then parseS k r (acc ++ [allN]) else if x = 42 then parseS k r (acc ++ [starN]) else
        if x = 91 then (match classT r with
          | .inl (rs, nt, r2) => parseS k r2 (acc ++ [setN (canonP fun c => inR rs c != nt)])
          | .inr e => .inr e)
        else parseS k r (acc ++ [oneN x])
abbrev rest_ (s : ByteArray) (a : Int) : List Int := (bytesOf s).drop a.toNat
theorem rest_len (s : ByteArray) (a : Int) (h : 0 ≤ a ∧ a ≤ s.size) : ((rest_ s a).length : Int) = s.size - a := by
  unfold rest_
  rw [List.length_drop, bytesOf_length]
  omega
theorem rest_cons (s : ByteArray) (a : Int) (h : 0 ≤ a ∧ a < s.size) : rest_ s a = bt s a :: rest_ s (a + 1) := by
  have hl : a.toNat < (bytesOf s).length := by rw [bytesOf_length]; omega
  unfold rest_
  rw [List.drop_eq_getElem_cons hl, show (a + 1).toNat = a.toNat + 1 by omega]
  congr 1
  have := rd_bytesOf s a
  unfold rd at this
  rw [← this, List.getD_eq_getElem?_getD, List.getElem?_eq_getElem hl]
  rfl
theorem rest_nil (s : ByteArray) (a : Int) (h : (s.size : Int) ≤ a) : rest_ s a = [] := by
  unfold rest_
  rw [List.drop_eq_nil_iff, bytesOf_length]
  omega
theorem rest_at (s : ByteArray) (a b : Int) (h : 0 ≤ a ∧ a ≤ s.size) (r : List Int) (hr : r <:+ rest_ s a) : rest_ s ((s.size : Int) - r.length) = r := by
  obtain ⟨p, hp⟩ := hr
  have hl := rest_len s a h
  rw [← hp, List.length_append] at hl
  have hq : (bytesOf s) = ((bytesOf s).take a.toNat ++ p) ++ r := by rw [List.append_assoc, hp]; exact (List.take_append_drop _ _).symm
  unfold rest_
  have h2 : ((bytesOf s).take a.toNat ++ p).length = ((s.size : Int) - r.length).toNat := by
    rw [List.length_append, List.length_take, bytesOf_length]
    omega
  rw [← h2]
  generalize List.take a.toNat (bytesOf s) ++ p = z at *
  rw [hq, List.drop_left]
theorem byteS_suf : ∀ {t : List Int} {x : Int} {q : Bool} {r : List Int}, byteS t = some (x, q, r) → r <:+ t
  | [], _, _, _, h => by cases h
  | c :: t, x, q, r, h => by
    rw [byteS_cons] at h
    split at h
    · cases t with
      | nil => cases h
      | cons d t => simp only [Option.some.injEq, Prod.mk.injEq] at h; obtain ⟨_, _, rfl⟩ := h; exact ⟨[c, d], rfl⟩
    · simp only [Option.some.injEq, Prod.mk.injEq] at h; obtain ⟨_, _, rfl⟩ := h; exact ⟨[c], rfl⟩
theorem w64 {n : Int} (h : -9223372036854775808 ≤ n ∧ n ≤ 9223372036854775807) : wrap64 n = n := by unfold wrap64; omega
theorem next_f (s : ByteArray) (a c wr : Int) (ha : 0 ≤ a ∧ a ≤ s.size) (hs : s.size ≤ 9223372036854775806) : glob_reader_next.f s a c wr = some (if a < s.size then (bt s a, s, a + 1, c, wr) else if c = 0 then (0, s, (s.size : Int), 31, (s.size : Int)) else (0, s, (s.size : Int), c, wr)) := by
  unfold glob_reader_next.f glob_reader_over.f glob_reader_fail.f
  simp only [Option.bind_some]
  by_cases h : a < s.size
  · rw [if_pos h, if_neg (by simpa using h), w64 (n := a + 1) (by omega), w64 (n := a + 1 - 1) (by omega), show a + 1 - 1 = a by omega, if_pos ha.1, if_pos h]
  · rw [if_neg h, if_pos (by simpa using h)]
    by_cases hc : c = 0
    · rw [if_pos hc, if_pos hc]; rfl
    · rw [if_neg hc, if_neg hc]; rfl
theorem byte_ok (s : ByteArray) (a wr x : Int) (q : Bool) (r : List Int) (ha : 0 ≤ a ∧ a ≤ s.size) (hs : s.size ≤ 9223372036854775806) (h : byteS (rest_ s a) = some (x, q, r)) : glob_reader_byte.f s a 0 wr = some (x, q, s, (s.size : Int) - r.length, 0, wr) ∧ rest_ s ((s.size : Int) - r.length) = r ∧ a < (s.size : Int) - r.length ∧ (s.size : Int) - r.length ≤ s.size := by
  have hlt : a < s.size := by
    refine Int.not_le.1 fun hn => ?_
    rw [rest_nil s a hn] at h
    cases h
  have hsuf := byteS_suf h
  refine ⟨?_, rest_at s a 0 ha r hsuf, ?_, by omega⟩
  · unfold glob_reader_byte.f
    rw [next_f s a 0 wr ha hs, if_pos hlt]
    simp only [Option.bind_some, if_true]
    rw [rest_cons s a ⟨ha.1, hlt⟩, byteS_cons] at h
    by_cases h92 : bt s a = 92
    · rw [if_pos h92] at h ⊢
      by_cases h2 : a + 1 < s.size
      · rw [rest_cons s (a + 1) ⟨by omega, h2⟩] at h
        simp only [Option.some.injEq, Prod.mk.injEq] at h
        obtain ⟨rfl, rfl, rfl⟩ := h
        rw [next_f s (a + 1) 0 wr ⟨by omega, by omega⟩ hs, if_pos h2, rest_len s _ ⟨by omega, by omega⟩]
        simp only [Option.bind_some]
        congr 5
        omega
      · rw [rest_nil s (a + 1) (by omega)] at h
        cases h
    · rw [if_neg h92] at h ⊢
      simp only [Option.some.injEq, Prod.mk.injEq] at h
      obtain ⟨rfl, rfl, rfl⟩ := h
      rw [rest_len s _ ⟨by omega, by omega⟩]
      congr 5
      omega
  · have h1 := byteS_lt h
    have h2 := rest_len s a ha
    omega
theorem byte_none (s : ByteArray) (a wr : Int) (ha : 0 ≤ a ∧ a ≤ s.size) (hs : s.size ≤ 9223372036854775806) (h : byteS (rest_ s a) = none) : ∃ q, glob_reader_byte.f s a 0 wr = some (0, q, s, (s.size : Int), 31, (s.size : Int)) := by
  unfold glob_reader_byte.f
  rw [next_f s a 0 wr ha hs]
  by_cases hlt : a < s.size
  · rw [if_pos hlt]
    rw [rest_cons s a ⟨ha.1, hlt⟩, byteS_cons] at h
    by_cases h92 : bt s a = 92
    · rw [if_pos h92] at h
      by_cases h2 : a + 1 < s.size
      · rw [rest_cons s (a + 1) ⟨by omega, h2⟩] at h
        cases h
      · simp only [Option.bind_some, if_true, h92]
        rw [next_f s (a + 1) 0 wr ⟨by omega, by omega⟩ hs, if_neg h2, if_pos rfl]
        exact ⟨true, rfl⟩
    · rw [if_neg h92] at h
      cases h
  · rw [if_neg hlt, if_pos rfl]
    exact ⟨false, rfl⟩
theorem byte_bad (s : ByteArray) (c wr : Int) (hs : s.size ≤ 9223372036854775806) (hc : c ≠ 0) : glob_reader_byte.f s (s.size : Int) c wr = some (0, false, s, (s.size : Int), c, wr) := by
  unfold glob_reader_byte.f
  rw [next_f s _ c wr ⟨by omega, by omega⟩ hs, if_neg (by omega), if_neg hc]
  rfl
theorem st_out {w w' : World} {g : Nat} {s s' : ByteArray} {a a' c c' wr wr' : Int} (hB : w.heap[g]? = some (.cells #[.string s, .int .i64 a, .int .i64 c, .int .i64 wr] 44 (0, 0))) (hI' : w'.heap[g]? = some (.cells #[.string s', .int .i64 a', .int .i64 c', .int .i64 wr'] 44 (0, 0))) (hb : Below (default : World).heap.size (default : World) (default : World)) (hk : KeepBut w w' g none) (ho : w'.os = w.os ∧ w'.tape = w.tape ∧ w'.output = w.output) :
    Out w w' (fun k => k = g) [Bk g [.string s', .int .i64 a', .int .i64 c', .int .i64 wr'] 44] := by
  refine ⟨ho.1, ho.2.1, ho.2.2, hk.1, fun k hk1 hk2 => hk.2 k hk1 hk2 (by simp), fun c hc => ?_, fun c hc k hkS => ?_, by simp⟩
  · rw [List.mem_singleton.1 hc]; exact hI'
  · rw [List.mem_singleton.1 hc] at hkS
    have : k = g := hkS
    subst this
    exact ⟨.inl rfl, blk_lt hI'⟩
end Go.Proofs.YtelbgmpeghhakaaGreat.PA
end
section
namespace Go.Proofs.YtelbgmpeghhakaaGreat.PA
open Go.RowKit Go.Proofs.YtelbgmpeghhakaaGreatW.PrintWords Go.Proofs.YtelbgmpeghhakaaGreatW.PrintLast Go.Proofs.YtelbgmpeghhakaaGreatW.PrintMore
set_option linter.unusedVariables false
set_option linter.unusedSimpArgs false
abbrev RdB (g : Nat) (s : ByteArray) (i c wr : Int) : Chunk := Bk g [.string s, .int .i64 i, .int .i64 c, .int .i64 wr] 44
theorem byte_calls (g : Nat) (s s' : ByteArray) (i c wr x i' c' wr' : Int) (q : Bool) (w0 w : World) (hg : w0.heap.size ≤ g) (hb : Below w0.heap.size w0 w) (hB : w.heap[g]? = some (.cells #[.string s, .int .i64 i, .int .i64 c, .int .i64 wr] 44 (0, 0))) (h : glob_reader_byte.f s i c wr = some (x, q, s', i', c', wr')) :
    Calls Tryz.prog 17 #[.pointer (some ⟨g, 0, none⟩)] w fun e w' => e = .returned (.tuple #[.int .u8 x, .bool q]) ∧ Out w w' (fun k => k = g) [RdB g s' i' c' wr'] := by
  refine (glob_reader_byte.calls g s i c wr x q s' i' c' wr' w0 w ⟨hB, hg⟩ hb h).mono ?_
  rintro e w' ⟨rfl, hI, hb', hk⟩
  exact ⟨rfl, st_out hB hI.1 (Below.refl _ _) hk ⟨hb'.os.trans hb.os.symm, hb'.tape.trans hb.tape.symm, hb'.output.trans hb.output.symm⟩⟩
theorem fail_calls (g : Nat) (s : ByteArray) (i c wr e1 e2 : Int) (w0 w : World) (hg : w0.heap.size ≤ g) (hb : Below w0.heap.size w0 w) (hB : w.heap[g]? = some (.cells #[.string s, .int .i64 i, .int .i64 c, .int .i64 wr] 44 (0, 0))) (hc : c = 0) :
    Calls Tryz.prog 35 #[.pointer (some ⟨g, 0, none⟩), .int .i64 e1, .int .i64 e2] w fun e w' => e = .returned (.tuple #[]) ∧ Out w w' (fun k => k = g) [RdB g s (s.size : Int) e1 e2] := by
  refine (glob_reader_fail.calls g s i c wr e1 e2 s (s.size : Int) e1 e2 w0 w ⟨hB, hg⟩ hb (by unfold glob_reader_fail.f; rw [if_pos hc])).mono ?_
  rintro e w' ⟨rfl, hI, hb', hk⟩
  exact ⟨rfl, st_out hB hI.1 (Below.refl _ _) hk ⟨hb'.os.trans hb.os.symm, hb'.tape.trans hb.tape.symm, hb'.output.trans hb.output.symm⟩⟩
theorem byteS_range {s : ByteArray} {p x : Int} {q : Bool} {r : List Int} (h : byteS (rest_ s p) = some (x, q, r)) : 0 ≤ x ∧ x ≤ 255 := by
  have hm : x ∈ rest_ s p := by
    generalize rest_ s p = t at h
    cases t with
    | nil => cases h
    | cons c t =>
      rw [byteS_cons] at h
      split at h
      · cases t with
        | nil => cases h
        | cons d t => simp only [Option.some.injEq, Prod.mk.injEq] at h; obtain ⟨rfl, _⟩ := h; simp
      · simp only [Option.some.injEq, Prod.mk.injEq] at h; obtain ⟨rfl, _⟩ := h; simp
  have h2 := List.mem_of_mem_drop hm
  unfold bytesOf at h2
  obtain ⟨b, _, rfl⟩ := List.mem_map.1 h2
  have := b.toNat_lt
  omega
theorem head_bang (s : ByteArray) (i : Int) (h : 0 ≤ i ∧ i ≤ s.size) : (!(decide ((s.size : Int) ≤ i)) && decide (bt s i = 33)) = decide ((rest_ s i).head? = some 33) := by
  by_cases c : (s.size : Int) ≤ i
  · rw [rest_nil s i c]
    simp [c]
  · rw [rest_cons s i ⟨h.1, by omega⟩]
    simp [c]
abbrev ClsRes := (List RR × List Int) ⊕ (Int × Nat)
def clsI (s : ByteArray) (wr : Int) (RES : ClsRes) (p cd wr' : Int) (fst : Bool) (rs : List RR) : Prop :=
  (cd = 0 ∧ wr' = wr ∧ ∃ k, (rest_ s p).length < k ∧ classS k (rest_ s p) fst rs = RES) ∨ (cd ≠ 0 ∧ p = s.size ∧ ∃ m : Nat, RES = .inr (cd, m) ∧ wr' = s.size - m)
theorem cls_in {s : ByteArray} {wr p cd wr' : Int} {RES : ClsRes} {fst : Bool} {rs : List RR} (h : clsI s wr RES p cd wr' fst rs) :
    (cd = 0 ∧ wr' = wr ∧ byteS (rest_ s p) = none ∧ RES = .inr (31, 0)) ∨ (∃ x q r k, cd = 0 ∧ wr' = wr ∧ byteS (rest_ s p) = some (x, q, r) ∧ r.length < k ∧ RES = (if x = 93 ∧ q = false ∧ fst = false then .inl (rs, r) else
      if hyph r = true then (match byteS r.tail with
        | none => .inr (31, 0)
        | some (hi, _, r2) => if hi < x then .inr (32, (rest_ s p).length) else classS k r2 false (rs ++ [⟨x, hi⟩]))
      else classS k r false (rs ++ [⟨x, x⟩]))) ∨ (cd ≠ 0 ∧ p = s.size ∧ ∃ m : Nat, RES = .inr (cd, m) ∧ wr' = s.size - m) := by
  rcases h with ⟨h0, h1, k, hk, rfl⟩ | h
  · cases k with
    | zero => omega
    | succ k =>
      cases hb : byteS (rest_ s p) with
      | none => exact .inl ⟨h0, h1, rfl, by unfold classS; rw [hb]⟩
      | some v =>
        obtain ⟨x, q, r⟩ := v
        have := byteS_lt hb
        exact .inr (.inl ⟨x, q, r, k, h0, h1, rfl, by omega, by rw [classS, hb] <;> rfl⟩)
  · exact .inr (.inr h)
theorem toListD (s : ByteArray) : s.toList = s.data.toList := ByteArray.toList_eq ..
theorem hasp (s a1 : ByteArray) (p : Int) (h : 0 ≤ p ∧ p ≤ s.size) : strings_HasPrefix.f (s.extract p.toNat s.size) a1 = some (decide ((rest_ s p).take a1.size = bytesOf a1)) := by
  have hsz : (s.extract p.toNat s.size).size = s.size - p.toNat := by rw [ByteArray.size_extract]; omega
  have hr := rest_len s p h
  have hb : bytesOf (s.extract p.toNat s.size) = rest_ s p := by rw [bytesOf_extract, List.take_of_length_le (by rw [bytesOf_length]; omega)]
  unfold strings_HasPrefix.f stringslite_HasPrefix.f
  by_cases c1 : (a1.size : Int) ≤ ((s.extract p.toNat s.size).size : Int)
  · rw [if_pos c1, if_pos (by omega), if_pos c1, Option.bind_some]
    congr 1
    rw [Bool.eq_iff_iff, beq_iff_eq, decide_eq_true_eq]
    have e : bytesOf ((s.extract p.toNat s.size).extract 0 ((a1.size : Int)).toNat) = (rest_ s p).take a1.size := by
      rw [bytesOf_extract, hb]
      simp
    rw [← e]
    constructor
    · intro h1
      unfold bytesOf
      rw [show ((s.extract p.toNat s.size).extract 0 ((a1.size : Int)).toNat).data.toList = ((s.extract p.toNat s.size).extract 0 ((a1.size : Int)).toNat).toList from (toListD _).symm, h1, toListD]
    · intro h1
      unfold bytesOf at h1
      rw [toListD, toListD]
      exact List.map_inj_right (fun x y h => UInt8.toNat_inj.1 (Int.ofNat_inj.1 h)) |>.1 h1
  · rw [if_neg c1, Option.bind_some]
    congr 1
    symm
    rw [decide_eq_false_iff_not]
    intro h1
    have := congrArg List.length h1
    rw [List.length_take, bytesOf_length] at this
    omega
theorem hasp_calls (s a1 : ByteArray) (p : Int) (w : World) (h : 0 ≤ p ∧ p ≤ s.size) : Calls Tryz.prog 34 #[.string (s.extract (p.toNat) s.size), .string a1] w fun e w' => e = .returned (.bool (decide ((rest_ s p).take a1.size = bytesOf a1))) ∧ Below w.heap.size w w' := by
  refine (strings_HasPrefix.calls _ a1 _ w (hasp s a1 p h)).mono ?_
  rintro e w' ⟨rfl, hd⟩
  exact ⟨rfl, hd.below⟩
theorem hyph_eq (s : ByteArray) (p : Int) (r : List Int) (h : 0 ≤ p ∧ p ≤ s.size) (hr : rest_ s p = r) : ((decide ((rest_ s p).take (⟨#[45]⟩ : ByteArray).size = bytesOf (⟨#[45]⟩ : ByteArray)) && !(decide ((rest_ s p).take (⟨#[45, 93]⟩ : ByteArray).size = bytesOf (⟨#[45, 93]⟩ : ByteArray)))) && decide (p + 1 < (s.size : Int))) = hyph r := by
  have hl := rest_len s p h
  rw [hr] at hl ⊢
  rw [show (⟨#[45]⟩ : ByteArray).size = 1 from rfl, show (⟨#[45, 93]⟩ : ByteArray).size = 2 from rfl, show bytesOf (⟨#[45]⟩ : ByteArray) = [45] from rfl, show bytesOf (⟨#[45, 93]⟩ : ByteArray) = [45, 93] from rfl]
  match r, hl with
  | [], hl => simp [hyph]
  | [c], hl =>
    have : ¬ (p + 1 < (s.size : Int)) := by simp only [List.length_cons, List.length_nil] at hl; omega
    simp [hyph, this]
  | c :: d :: r, hl =>
    have : p + 1 < (s.size : Int) := by simp only [List.length_cons] at hl; omega
    simp only [hyph, this, decide_true, Bool.and_true, List.take_succ_cons, List.take_zero, List.cons.injEq, and_true]
    by_cases h1 : c = 45 <;> by_cases h2 : d = 93 <;> simp [h1, h2]
def clsP (s : ByteArray) (i wr i' c' wr' : Int) (L : List RR) : Prop :=
  match classT (rest_ s i) with
  | .inl (rs, nt, r) => i' = s.size - r.length ∧ c' = 0 ∧ wr' = wr ∧ L = canonP (fun c => inR rs c != nt) ∧ rest_ s i' = r ∧ i ≤ i' ∧ i' ≤ s.size
  | .inr (e, m) => i' = s.size ∧ c' = e ∧ e ≠ 0 ∧ wr' = s.size - m
theorem classS_suf : ∀ (k : Nat) (t : List Int) (f : Bool) (acc rs : List RR) (r : List Int), classS k t f acc = .inl (rs, r) → r <:+ t
  | 0, _, _, _, _, _, h => by cases h
  | k + 1, t, f, acc, rs, r, h => by
    unfold classS at h
    cases hb : byteS t with
    | none => rw [hb] at h; cases h
    | some v =>
      obtain ⟨x, q, t1⟩ := v
      rw [hb] at h
      have hs := byteS_suf hb
      simp only at h
      split at h
      · cases h; exact hs
      · split at h
        · cases hb2 : byteS t1.tail with
          | none => rw [hb2] at h; cases h
          | some v2 =>
            obtain ⟨x2, q2, t2⟩ := v2
            rw [hb2] at h
            simp only at h
            split at h
            · cases h
            · exact (classS_suf k _ _ _ _ _ h).trans ((byteS_suf hb2).trans ((List.tail_suffix _).trans hs))
        · exact (classS_suf k _ _ _ _ _ h).trans hs
theorem cls_ok {s : ByteArray} {i wr p cd wr' : Int} {rs : List RR} {r : List Int} {nt : Bool} (hi : 0 ≤ i ∧ i ≤ s.size) (hRES : (.inl (rs, r) : ClsRes) = classS ((rest_ s i).length + 1) (if (rest_ s i).head? = some 33 then (rest_ s i).tail else rest_ s i) true []) (hnt : nt = decide ((rest_ s i).head? = some 33)) (hp : p = (s.size : Int) - r.length) (hc : cd = 0) (hw : wr' = wr) : clsP s i wr p cd wr' (canonP fun c => inR rs c != nt) := by
  have hsuf : r <:+ rest_ s i := by
    have := classS_suf _ _ _ _ _ _ hRES.symm
    refine this.trans ?_
    split
    · exact List.tail_suffix _
    · exact List.suffix_refl _
  have hl := rest_len s i hi
  have hle := hsuf.length_le
  unfold clsP classT
  rw [← hRES]
  exact ⟨hp, hc, hw, by rw [hnt], by rw [hp]; exact rest_at s i 0 hi r hsuf, by omega, by omega⟩
theorem cls_bad {s : ByteArray} {i wr p cd wr' e : Int} {m : Nat} {L : List RR} (hRES : (.inr (e, m) : ClsRes) = classS ((rest_ s i).length + 1) (if (rest_ s i).head? = some 33 then (rest_ s i).tail else rest_ s i) true []) (hp : p = s.size) (hc : cd = e) (h0 : e ≠ 0) (hw : wr' = s.size - m) : clsP s i wr p cd wr' L := by
  unfold clsP classT
  rw [← hRES]
  exact ⟨hp, hc, h0, hw⟩
end Go.Proofs.YtelbgmpeghhakaaGreat.PA
end
section
namespace Go.Proofs.YtelbgmpeghhakaaGreat.PA
open Go.RowKit Go.Proofs.YtelbgmpeghhakaaGreatW.PrintWords Go.Proofs.YtelbgmpeghhakaaGreatW.PrintLast Go.Proofs.YtelbgmpeghhakaaGreatW.PrintMore
set_option linter.unusedVariables false
set_option linter.unusedSimpArgs false
structure Flat {α : Type} (d : Kd α) (enc : α → List Value) : Prop where
  M : ∀ w base ok x cs, d.M w base ok x cs ↔ cs = enc x
  K : ∀ w x cs, d.K w x cs → cs = enc x
theorem Flat.len {α : Type} {d : Kd α} {enc : α → List Value} (h : Flat d enc) (x : α) : (enc x).length = d.sz := d.K_len (d.K_of_M ((h.M default 0 (fun _ => True) x _).2 rfl))
theorem Flat.one {α : Type} {d : Kd α} {enc : α → List Value} (h : Flat d enc) (x : α) : ∀ v ∈ enc x, v.oneCell' = true := d.K_one (d.K_of_M ((h.M default 0 (fun _ => True) x _).2 rfl))
theorem reps_set {α : Type} {R : α → List Value → Prop} {size : Nat} {ps : List α} {cs : List Value} (h : Reps R size ps cs) (i f : Nat) (u : Value) (p' : α) (hi : i < ps.length) (hf : f < size) (hp : R p' (((cs.drop (i * size)).take size).set f u)) : Reps R size (ps.set i p') (cs.set (i * size + f) u) := by
  refine ⟨by simp [h.1], fun j q hq => ?_⟩
  have hj : j < ps.length := by have := (List.getElem?_eq_some_iff.1 hq).1; simpa using this
  by_cases e : j = i
  · subst e
    have : q = p' := by rw [List.getElem?_set_self hj] at hq; exact (Option.some.inj hq).symm
    subst this
    have e2 : ((cs.set (j * size + f) u).drop (j * size)).take size = ((cs.drop (j * size)).take size).set f u := by
      rw [List.drop_set, if_neg (by omega), show j * size + f - j * size = f by omega, List.take_set]
    rw [e2]
    exact hp
  · rw [List.getElem?_set_ne (fun h => e h.symm)] at hq
    have e2 : ((cs.set (i * size + f) u).drop (j * size)).take size = (cs.drop (j * size)).take size := by
      rcases Nat.lt_or_gt_of_ne e with h1 | h1
      · have : j * size + size ≤ i * size := by rw [← Nat.succ_mul]; exact Nat.mul_le_mul_right _ h1
        rw [List.drop_set, if_neg (by omega), List.take_set, List.set_eq_of_length_le (by rw [List.length_take]; omega)]
      · have : i * size + size ≤ j * size := by rw [← Nat.succ_mul]; exact Nat.mul_le_mul_right _ h1
        rw [List.drop_set, if_pos (by omega)]
    rw [e2]
    exact h.2 j q hq
section
variable {α : Type} {d : Kd α} {enc : α → List Value} {e base n c : Nat} {S : Nat → Prop} {xs : List α} {w : World} {ad : Addr}
theorem rowf_cells {z : α} {cs : List Value} (h : d.R e w base S (.slice (some ad) n c) xs) (i : Int) (h0 : 0 ≤ i) (h1 : i < xs.length) (hK : ∀ w cs', d.K w (xs.getD i.toNat z) cs' → cs' = cs) : ∀ j u, cs[j]? = some u → w.cell? ((ad.add (i.toNat * d.sz)).add j) = some u := by
  obtain ⟨hn, _, hC⟩ := Kd.R_reads' h
  obtain ⟨ad', cs', hA, hl, hK', hc⟩ := Kd.C_get hC z i h0 (by omega)
  injection hA with hA
  subst hA
  have := hK w cs' hK'
  subst this
  exact cellsn hc
theorem rowf_put (hf : Flat d enc) (h : d.R e w base S (.slice (some ad) n c) xs) (z : α) (i : Int) (f : Nat) (u : Value) (x' : α) (h0 : 0 ≤ i) (h1 : i < xs.length) (hfs : f < d.sz) (hx : (enc (xs.getD i.toNat z)).set f u = enc x') :
    d.R e (w.setCell ((ad.add (i.toNat * d.sz)).add f) u) base S (.slice (some ad) n c) (xs.set i.toNat x') ∧ S ((ad.add (i.toNat * d.sz)).add f).block ∧ w.frozen? ((ad.add (i.toNat * d.sz)).add f) = false := by
  obtain ⟨g, cap, hv, _⟩ := Kd.R_form h (by omega)
  injection hv with hA hn hc
  injection hA with hA
  subst hA hn hc
  obtain ⟨hok, inner, ho, hR⟩ := h
  have ea : ((⟨g, 0, none⟩ : Addr).add (i.toNat * d.sz)).add f = ⟨g, i.toNat * d.sz + f, none⟩ := by
    rw [add_plain]
    unfold Addr.add
    split <;> simp_all
  rw [ea]
  obtain ⟨ho', hg'⟩ := ho.stored (i.toNat * d.sz + f) u
  have hl : i.toNat < xs.length := by omega
  refine ⟨⟨hok, inner.set (i.toNat * d.sz + f) u, by rw [List.length_set]; exact ho', ?_⟩, hok g rfl, ho.frozenAt _⟩
  have hR2 : Reps (d.M (w.setCell ⟨g, i.toNat * d.sz + f, none⟩ u) base (fun k => S k ∧ some k ≠ (Value.slice (some ⟨g, 0, none⟩) xs.length c).ownBlock)) d.sz xs inner := hR.imp_ fun p c hp => (hf.M _ _ _ _ _).2 ((hf.M _ _ _ _ _).1 hp)
  refine reps_set hR2 i.toNat f u x' hl hfs ((hf.M _ _ _ _ _).2 ?_)
  have hq := (hf.M _ _ _ _ _).1 (hR.2 i.toNat _ (List.getElem?_eq_getElem hl))
  rw [hq, ← hx]
  simp [List.getD_eq_getElem?_getD, List.getElem?_eq_getElem hl]
end
theorem rowf_cellsT {α : Type} {d : Kd α} {e base n c : Nat} {S : Nat → Prop} {A : Option Addr} {xs : List α} {w : World} {ad : Addr} {z : α} {cs : List Value} (h : d.R e w base S (.slice A n c) xs) (hA : A = some ad) (i : Int) (h0 : 0 ≤ i) (h1 : i < xs.length) (hK : ∀ w cs', d.K w (xs.getD i.toNat z) cs' → cs' = cs) : ∀ j u, cs[j]? = some u → w.cell? ((ad.add (i.toNat * d.sz)).add j) = some u := by
  subst hA
  exact rowf_cells h i h0 h1 hK
theorem Own.cut_row {α : Type} {d : Kd α} {e base n c : Nat} {S : Nat → Prop} {A : Option Addr} {xs : List α} {w0 w : World} {L : List Chunk} (h : Own w0 w L) (i : Nat) (hi : L[i]? = some (Chunk.row d e base S (.slice A n c) xs)) (m : Nat) (hm : m ≤ xs.length) : Own w0 w (L.set i (Chunk.row d e base S (.slice A (xs.take m).length c) (xs.take m))) := by
  rw [show (xs.take m).length = m by rw [List.length_take]; omega]
  exact h.mapc i hi (fun _ hk => hk) (fun _ hr => Kd.R_take hr hm)
section
variable {D : List Deferred} {P : Program} {ops : Array Oper} {Q : Exit → Act → World → Prop} {rest : List Oper} {o : Oper} {N : Nat} {a : Act} {F : List (Nat × Value)} {w w0 : World} {L : List Chunk} {α : Type}
theorem gw_rlit0 (d : Kd α) {e dd : Nat} (HF : FrD D N a F) (HO : Own w0 w L) (hw : Region.wanted o (yielded ops a.tmps) = true) (hd : o.dst = some dd) (hN : dd < N)
    (hrun : Runs P o a w (.slice (some ⟨w.heap.size, 0, none⟩) 0 0) (w.alloc (.cells #[] e (0, 0))))
    (k : ∀ A S a' w1, FrD D N a' ((dd, .slice A ([] : List α).length 0) :: F) → Own w0 w1 (Chunk.row d e w0.heap.size S (.slice A ([] : List α).length 0) [] :: L) → wpList P ops Q rest a' w1) : wpList P ops Q (o :: rest) a w :=
  gw_ev HF hw hd hN hrun fun a' HF' => k (some ⟨w.heap.size, 0, none⟩) (fun k => k = w.heap.size) a' _ HF' (HO.fresh (cs := [_]) (Out.one (Out.of_below (below_alloc (Below.refl _ _) _) _) (c := Chunk.row d e w0.heap.size (fun k => k = w.heap.size) (.slice (some ⟨w.heap.size, 0, none⟩) 0 0) [])
    ⟨fun k hk => by
      have : w.heap.size = k := by simpa [Value.ownBlock] using hk
      exact this.symm, OwnRow.lit (inner := []) w w0.heap.size (Reps.none _ _) HO.below.size (by simp)⟩ (fun k hk => by
      obtain rfl : k = w.heap.size := hk
      exact ⟨.inr (Nat.le_refl _), by simp⟩)))
theorem gw_rowf {d : Kd α} {enc : α → List Value} (hfl : Flat d enc) {e base c n : Nat} {S : Nat → Prop} {ad : Addr} {xs : List α} {t : TypeId} {x y : Operand} {it : Int} {v : Value} (z x' : α) (f : Nat) (i : Nat) (HF : FrD D N a F) (HO : Own w0 w L) (hi : L[i]? = some (Chunk.row d e base S (.slice (some ad) n c) xs)) (hw : Region.wanted o (yielded ops a.tmps) = true) (hd : o.dst = none)
    (hS : ∀ w, (sizeOf t).run P w = .ok 1 w) (h0 : 0 ≤ it) (h1 : it < xs.length) (hfs : f < d.sz) (ho : o.op = .store t x y) (hx : a.eval x = .pointer (some ((ad.add (it.toNat * d.sz)).add f))) (hy : a.eval y = v) (hv : v.oneCell' = true) (he : (enc (xs.getD it.toNat z)).set f v = enc x')
    (kk : ∀ a' w1, FrD D N a' F → Own w0 w1 (L.set i (Chunk.row d e base S (.slice (some ad) n c) (xs.set it.toNat x'))) → wpList P ops Q rest a' w1) : wpList P ops Q (o :: rest) a w := by
  have hR : d.R e w base S (.slice (some ad) n c) xs := HO.get i hi
  have hp := rowf_put hfl hR z it f v x' h0 h1 hfs he
  have hl := hfl.len (xs.getD it.toNat z)
  have hc := rowf_cells (z := z) hR it h0 h1 (fun w cs' hk => hfl.K _ _ _ hk) f _ (List.getElem?_eq_getElem (show f < (enc (xs.getD it.toNat z)).length by omega))
  refine gw_skip HF hw hd (op_store1 hS ho hx hy hv hc hp.2.2) fun a' HF' => kk a' _ HF' (HO.calls (cs := []) i hi ?_)
  refine Out.one (c := Chunk.row d e base S (.slice (some ad) n c) (xs.set it.toNat x')) ((Out.refl w S).setCell (.inl hp.2.1) _) hp.1 ?_
  intro q hq
  exact ⟨.inl hq, by have := (HO.lt i hi hq).2; simpa [World.setCell] using this⟩
end
end Go.Proofs.YtelbgmpeghhakaaGreat.PA
end
section
namespace Go.Proofs.YtelbgmpeghhakaaGreat.PA
open Go.RowKit Go.Proofs.YtelbgmpeghhakaaGreatW.PrintWords Go.Proofs.YtelbgmpeghhakaaGreatW.PrintLast Go.Proofs.YtelbgmpeghhakaaGreatW.PrintMore
set_option linter.unusedVariables false
set_option linter.unusedSimpArgs false
section
variable {α : Type} [Inhabited α] {d : Kd α} {enc : α → List Value} {e base n c g : Nat} {S : Nat → Prop} {xs : List α} {w : World}
theorem sort_ok (hf : Flat d enc) (h : d.R e w base S (.slice (some ⟨g, 0, none⟩) n c) xs) : Go.Sort.HoldsK enc d.sz w g 0 xs.toArray := by
  obtain ⟨hok, inner, ho, hR⟩ := h
  rcases ho.2 with ⟨h', _⟩ | ⟨g', cap', cur, h', hb, hg, hnc, hcm, hcs, htake⟩
  · cases h'
  injection h' with h1 h2 h3
  injection h1 with h1
  injection h1 with h1
  subst h1
  intro t ht
  rw [Go.Sort.size_flatK] at ht
  rw [Nat.zero_add, Go.Sort.get_flatK _ _ _ _ ht]
  have ht' : t < xs.length * d.sz := by simpa using ht
  have hk : 0 < d.sz := by
    rcases Nat.eq_zero_or_pos d.sz with h0 | h0
    · rw [h0] at ht'; omega
    · exact h0
  have hj : t / d.sz < xs.length := (Nat.div_lt_iff_lt_mul hk).2 ht'
  have hm := Nat.mod_lt t hk
  have hq := (hf.M _ _ _ _ _).1 (hR.2 (t / d.sz) _ (List.getElem?_eq_getElem hj))
  have h1 : ((inner.drop (t / d.sz * d.sz)).take d.sz)[t % d.sz]? = (enc xs[t / d.sz])[t % d.sz]? := by rw [hq]
  rw [List.getElem?_take_of_lt hm, List.getElem?_drop, Nat.mul_comm, Nat.div_add_mod, ← htake, List.getElem?_take_of_lt ht', Array.getElem?_toList] at h1
  refine ⟨?_, by simp [World.frozen?, hg]⟩
  rw [cell_of_row w g t cur e (0, 0) hg, h1]
  have e1 : xs.toArray[t / d.sz]! = xs[t / d.sz] := by simp [hj]
  have hl := hf.len xs[t / d.sz]
  have hm' : t % d.sz < (enc xs[t / d.sz]).length := by omega
  rw [e1, List.getElem?_eq_getElem hm']
  show _ = some ((enc xs[t / d.sz])[t % d.sz]!)
  rw [getElem!_pos (enc xs[t / d.sz]) (t % d.sz) hm']
theorem sort_out (hf : Flat d enc) (h : d.R e w base S (.slice (some ⟨g, 0, none⟩) n c) xs) (hS : ∀ k, S k → k < w.heap.size) (ys : List α) (hl : ys.length = xs.length) (m : Nat) (os : Array Obj) :
    Out w (sortWorldK enc d.sz w g 0 m ys.toArray os) S [Chunk.row d e base S (.slice (some ⟨g, 0, none⟩) n c) ys] := by
  obtain ⟨hok, inner, ho, hR⟩ := h
  rcases ho.2 with ⟨h', _⟩ | ⟨g', cap', cur, h', hb, hg, hnc, hcm, hcs, htake⟩
  · cases h'
  injection h' with h1 h2 h3
  injection h1 with h1
  injection h1 with h1
  subst h1 h2 h3
  have hlt : g < w.heap.size := blk_lt hg
  have hW : (sortWorldK enc d.sz w g 0 m ys.toArray os).heap[g]? = some (.cells (Go.Sort.putCells id 0 (Go.Sort.flatK enc d.sz ys.toArray) cur) e (0, 0)) := by
    unfold sortWorldK
    rw [Go.Sort.heap_grow_old _ _ (by simpa [Go.Sort.putRowK, Go.Sort.putRow, Go.Sort.mapBlock, Go.Sort.ahead] using hlt)]
    simp [Go.Sort.putRowK, Go.Sort.putRow, Go.Sort.mapBlock, Go.Sort.ahead, Array.getElem?_modify, hg, Go.Sort.onCells]
  have hgr : w.grownBy (sortWorldK enc d.sz w g 0 m ys.toArray os) (some g) := by
    refine ⟨rfl, rfl, rfl, by simp [sortWorldK, Go.Sort.grow, Go.Sort.putRowK, Go.Sort.putRow, Go.Sort.mapBlock, Go.Sort.ahead], fun k hk hne => ?_⟩
    unfold sortWorldK
    rw [Go.Sort.heap_grow_old _ _ (by simpa [Go.Sort.putRowK, Go.Sort.putRow, Go.Sort.mapBlock, Go.Sort.ahead] using hk)]
    have : g ≠ k := fun e => hne (by rw [e])
    simp [Go.Sort.putRowK, Go.Sort.putRow, Go.Sort.mapBlock, Go.Sort.ahead, Array.getElem?_modify, this]
  have hle : xs.length * d.sz ≤ cur.size := by rw [hcs]; exact Nat.mul_le_mul_right _ hnc
  refine Out.one ((Out.refl w S).grown hgr fun k hk => ?_) (c := Chunk.row d e base S (.slice (some ⟨g, 0, none⟩) xs.length c) ys) ⟨hok, (Go.Sort.putCells id 0 (Go.Sort.flatK enc d.sz ys.toArray) cur).toList.take (xs.length * d.sz), ?_, ?_⟩ fun q hq => ⟨.inl hq, Nat.lt_of_lt_of_le (hS q hq) hgr.size⟩
  · injection hk with hk
    subst hk
    exact .inl (hok g rfl)
  · rw [hl]
    exact ⟨by simp [Go.Sort.putCells]; omega, .inr ⟨g, c, _, rfl, hb, hW, hnc, hcm, by simpa [Go.Sort.putCells] using hcs, rfl⟩⟩
  · refine ⟨by simp [Go.Sort.putCells, hl]; omega, fun j q hq => (hf.M _ _ _ _ _).2 ?_⟩
    have hj : j < ys.length := (List.getElem?_eq_some_iff.1 hq).1
    have hjs : j * d.sz + d.sz ≤ xs.length * d.sz := by rw [← Nat.succ_mul]; exact Nat.mul_le_mul_right _ (by omega)
    have hlen := hf.len q
    refine List.ext_getElem? fun i => ?_
    by_cases hi : i < d.sz
    · have hk : 0 < d.sz := by omega
      have hlt2 : j * d.sz + i < (Go.Sort.flatK enc d.sz ys.toArray).size := by rw [Go.Sort.size_flatK]; simp only [List.size_toArray, hl]; omega
      have hq1 : ((Go.Sort.flatK enc d.sz ys.toArray)[j * d.sz + i]!) = (enc q)[i]! := by
        rw [Go.Sort.get_flatK _ _ _ _ (by rwa [Go.Sort.size_flatK] at hlt2)]
        have h1 : (j * d.sz + i) / d.sz = j := by rw [Nat.mul_comm, Nat.mul_add_div hk, Nat.div_eq_of_lt hi, Nat.add_zero]
        have h2 : (j * d.sz + i) % d.sz = i := by rw [Nat.mul_comm, Nat.mul_add_mod, Nat.mod_eq_of_lt hi]
        rw [h1, h2]
        have : ys.toArray[j]! = q := by rw [getElem!_pos ys.toArray j (by simpa using hj)]; simpa [List.getElem?_eq_getElem hj] using hq
        rw [this]
      rw [List.getElem?_take_of_lt hi, List.getElem?_drop, List.getElem?_take_of_lt (by omega), Array.getElem?_toList]
      rw [List.getElem?_eq_getElem (show i < (enc q).length by omega)]
      have h3 : j * d.sz + i < cur.size := by omega
      have h4 : j * d.sz + i < ys.length * d.sz := by rw [hl]; omega
      rw [getElem!_pos (enc q) i (by omega)] at hq1
      rw [← hq1]
      simp [Go.Sort.putCells, h3]
      omega
    · rw [List.getElem?_eq_none (by rw [List.length_take]; omega), List.getElem?_eq_none (by omega)]
end
end Go.Proofs.YtelbgmpeghhakaaGreat.PA
end
section
namespace Go.Proofs
open Go.Shelf
def Tryz.sortR_ren : Go.Shelf.Ren := ⟨fun | 6 => 43 | 15 => 51 | 14 => 50 | 28 => 67 | 29 => 68 | 20 => 59 | 21 => 60 | 22 => 61 | 23 => 62 | 24 => 63 | 25 => 64 | 26 => 65 | 27 => 66 | 46 => 75 | 47 => 76 | 48 => 77 | 49 => 78 | 50 => 79 | 57 => 89 | n => n, fun | 22 => 23 | 24 => 55 | 25 => 87 | 3 => 3 | 39 => 93 | 0 => 0 | 53 => 71 | 55 => 120 | 4 => 4 | 46 => 112 | 45 => 111 | 50 => 116 | 5 => 5 | 9 => 9 | 66 => 135 | 70 => 139 | 76 => 153 | 77 => 154 | n => n, fun | n => n⟩
theorem Tryz.sortR : Go.Proofs.SlLaysF0.n6 Tryz.prog Tryz.sortR_ren := {
  mixed := by kernel_rfl
  f6 := ⟨Tryz.f43.name, by decide, Tryz.func43.trans (congrArg some (by kernel_rfl))⟩
  f14 := ⟨Tryz.f50.name, by decide, Tryz.func50.trans (congrArg some (by kernel_rfl))⟩
  f15 := Tryz.func51.trans (congrArg some (by kernel_rfl))
  f20 := ⟨Tryz.f59.name, by decide, Tryz.func59.trans (congrArg some (by kernel_rfl))⟩
  f21 := ⟨Tryz.f60.name, by decide, Tryz.func60.trans (congrArg some (by kernel_rfl))⟩
  f22 := ⟨Tryz.f61.name, by decide, Tryz.func61.trans (congrArg some (by kernel_rfl))⟩
  f23 := ⟨Tryz.f62.name, by decide, Tryz.func62.trans (congrArg some (by kernel_rfl))⟩
  f24 := ⟨Tryz.f63.name, by decide, Tryz.func63.trans (congrArg some (by kernel_rfl))⟩
  f25 := ⟨Tryz.f64.name, by decide, Tryz.func64.trans (congrArg some (by kernel_rfl))⟩
  f26 := ⟨Tryz.f65.name, by decide, Tryz.func65.trans (congrArg some (by kernel_rfl))⟩
  f27 := ⟨Tryz.f66.name, by decide, Tryz.func66.trans (congrArg some (by kernel_rfl))⟩
  f28 := Tryz.func67.trans (congrArg some (by kernel_rfl))
  f29 := Tryz.func68.trans (congrArg some (by kernel_rfl))
  f46 := ⟨Tryz.f75.name, by decide, Tryz.func75.trans (congrArg some (by kernel_rfl))⟩
  f47 := Tryz.func76.trans (congrArg some (by kernel_rfl))
  f48 := Tryz.func77.trans (congrArg some (by kernel_rfl))
  f49 := ⟨Tryz.f78.name, by decide, Tryz.func78.trans (congrArg some (by kernel_rfl))⟩
  f50 := ⟨Tryz.f79.name, by decide, Tryz.func79.trans (congrArg some (by kernel_rfl))⟩
  f57 := ⟨Tryz.f89.name, by decide, Tryz.func89.trans (congrArg some (by kernel_rfl))⟩
  t0 := Tryz.underlying0
  a0 := Tryz.isAgg0
  z0 := Tryz.sizeOf0
  v0 := Tryz.zeroValue0
  t3 := Tryz.underlying3
  a3 := Tryz.isAgg3
  z3 := Tryz.sizeOf3
  v3 := Tryz.zeroValue3
  t4 := Tryz.underlying4
  a4 := Tryz.isAgg4
  z4 := Tryz.sizeOf4
  v4 := Tryz.zeroValue4
  t5 := Tryz.underlying5
  a5 := Tryz.isAgg5
  z5 := Tryz.sizeOf5
  v5 := Tryz.zeroValue5
  t9 := Tryz.underlying9
  a9 := Tryz.isAgg9
  z9 := Tryz.sizeOf9
  v9 := Tryz.zeroValue9
  t22 := Tryz.underlying23
  a22 := Tryz.isAgg23
  z22 := Tryz.sizeOf23
  v22 := Tryz.zeroValue23
  t25 := Tryz.underlying87
  a25 := Tryz.isAgg87
  z25 := Tryz.sizeOf87
  v25 := Tryz.zeroValue87
  t39 := Tryz.underlying93
  a39 := Tryz.isAgg93
  z39 := Tryz.sizeOf93
  v39 := Tryz.zeroValue93
  t45 := Tryz.underlying111
  a45 := Tryz.isAgg111
  z45 := Tryz.sizeOf111
  v45 := Tryz.zeroValue111
  t46 := Tryz.underlying112
  a46 := Tryz.isAgg112
  z46 := Tryz.sizeOf112
  v46 := Tryz.zeroValue112
  t50 := Tryz.underlying116
  a50 := Tryz.isAgg116
  z50 := Tryz.sizeOf116
  v50 := Tryz.zeroValue116
  t53 := Tryz.underlying71
  a53 := Tryz.isAgg71
  z53 := Tryz.sizeOf71
  v53 := Tryz.zeroValue71
  t55 := Tryz.underlying120
  a55 := Tryz.isAgg120
  z55 := Tryz.sizeOf120
  v55 := Tryz.zeroValue120
  t66 := Tryz.underlying135
  a66 := Tryz.isAgg135
  z66 := Tryz.sizeOf135
  v66 := Tryz.zeroValue135
  t70 := Tryz.underlying139
  a70 := Tryz.isAgg139
  z70 := Tryz.sizeOf139
  v70 := Tryz.zeroValue139
  t76 := Tryz.underlying153
  a76 := Tryz.isAgg153
  z76 := Tryz.sizeOf153
  v76 := Tryz.zeroValue153
  t77 := Tryz.underlying154
  a77 := Tryz.isAgg154
  z77 := Tryz.sizeOf154
  v77 := Tryz.zeroValue154 }
end Go.Proofs
end
section
namespace Go.Proofs.YtelbgmpeghhakaaGreat.PA
open Go.RowKit Go.Proofs.YtelbgmpeghhakaaGreatW.PrintWords Go.Proofs.YtelbgmpeghhakaaGreatW.PrintLast Go.Proofs.YtelbgmpeghhakaaGreatW.PrintMore
set_option linter.unusedVariables false
set_option linter.unusedSimpArgs false
abbrev encR (x : RR) : List Value := [.int .u8 x.f0, .int .u8 x.f1]
theorem flatR : Flat k55 encR := by
  refine ⟨fun w base ok x cs => ⟨?_, ?_⟩, fun w x cs h => k55_open h⟩
  · rintro ⟨_, _, rfl, rfl, rfl⟩
    rfl
  · rintro rfl
    exact k55_mkM w base ok x
attribute [local go_sem] max2_int min2_int max_two min_two
set_option maxHeartbeats 4000000 in
theorem nan_byte (x : Int) (w : World) : Calls Tryz.prog 52 #[.int .u8 x] w fun e w' => e = .returned (.bool false) ∧ w' = w := by
  have hc : (binOp .neq 5 (.int .u8 x) (.int .u8 x)).run Tryz.prog w = .ok (.bool false) w := by simp [binOp, go_sem]
  go_enter Tryz.func52, Tryz.ntmps52
  go_wp2
  go_ret
  exact ⟨by simp, rfl⟩
set_option maxHeartbeats 4000000 in
theorem cmp_byte (x y : Int) (w : World) : Calls Tryz.prog 45 #[.int .u8 x, .int .u8 y] w fun e w' => e = .returned (.int .i64 (Lib.compareInt x y)) ∧ w' = w := by
  unfold Lib.compareInt
  by_cases c1 : x < y
  · rw [if_pos c1]
    have c1b := decide_eq_true c1
    go_enter Tryz.func45, Tryz.ntmps45
    go_wp2_with (first | (go_at_call 52; refine (nan_byte _ _).mono ?_; rintro e w' ⟨rfl, rfl⟩))
    go_ret
    exact ⟨rfl, rfl⟩
  rw [if_neg c1]
  have c1b := decide_eq_false c1
  by_cases c2 : y < x
  · rw [if_pos c2]
    have c2b := decide_eq_true c2
    go_enter Tryz.func45, Tryz.ntmps45
    go_wp2_with (first | (go_at_call 52; refine (nan_byte _ _).mono ?_; rintro e w' ⟨rfl, rfl⟩))
    go_ret
    exact ⟨rfl, rfl⟩
  · rw [if_neg c2]
    have c2b := decide_eq_false c2
    go_enter Tryz.func45, Tryz.ntmps45
    go_wp2_with (first | (go_at_call 52; refine (nan_byte _ _).mono ?_; rintro e w' ⟨rfl, rfl⟩))
    go_ret
    exact ⟨rfl, rfl⟩
def cfR (x y : RR) : Int := Lib.compareInt x.f0 y.f0
set_option maxHeartbeats 4000000 in
theorem closureR (x y : RR) (W : World) : Calls Tryz.prog 44 #[.agg #[.int .u8 x.f0, .int .u8 x.f1], .agg #[.int .u8 y.f0, .int .u8 y.f1]] W fun e w' => e = .returned (.int .i64 (cfR x y)) ∧ ∃ q os', w' = Go.Sort.grow (W.drewN q) os' := by
  have hcon := fun W' => cmp_byte x.f0 y.f0 W'
  unfold cfR
  generalize Lib.compareInt x.f0 y.f0 = r at hcon ⊢
  go_enter Tryz.func44, Tryz.ntmps44
  go_wp2_with (go_at_call 45; refine (hcon _).mono ?_; rintro e w' ⟨rfl, rfl⟩)
  go_ret
  exact ⟨rfl, 0, _, by rw [Go.Sort.alloc_eq_grow, Go.Sort.alloc_eq_grow, Go.Sort.grow_grow]; rfl⟩
theorem ltR (x y : RR) : ltOf cfR x y = decide (x.f0 < y.f0) := by
  unfold ltOf cfR Lib.compareInt
  by_cases h1 : x.f0 < y.f0
  · simp [h1]
  · by_cases h2 : y.f0 < x.f0 <;> simp [h1, h2]
theorem swoR : Go.Sort.SWO (ltOf cfR) where
  irrefl x := by rw [ltR]; simp
  trans x y z h1 h2 := by rw [ltR] at *; simp at *; omega
  ntrans x y z h1 h2 := by rw [ltR] at *; simp at *; omega
theorem sort_calls (base : Nat) (S : Nat → Prop) (A : Option Addr) (c : Nat) (xs : List RR) (w : World) (h : Kd.R k55 55 w base S (.slice A xs.length c) xs) (hS : ∀ k, S k → k < w.heap.size) (hl : xs.length < 4611686018427387904) :
    Calls Tryz.prog 43 #[.slice A xs.length c, .func (.func 44) #[] #[]] w fun e w' => ∃ ys, xs.Perm ys ∧ riseR ys ∧ e = .returned (.tuple #[]) ∧ Out w w' S [Chunk.row k55 55 base S (.slice A ys.length c) ys] := by
  rcases Nat.eq_zero_or_pos xs.length with h0 | hp
  · have e0 : xs = [] := List.length_eq_zero_iff.1 h0
    subst e0
    have hc := AnyF.slices_SortFunc_none (Tryz.sortR) A c (.func (.func 44) #[] #[]) w
    refine hc.mono ?_
    rintro e w' ⟨rfl, rfl⟩
    exact ⟨[], List.Perm.refl _, List.Pairwise.nil, rfl, Out.one (Out.refl w' S) (c := Chunk.row k55 55 base S (.slice A 0 c) []) h fun q hq => ⟨.inl hq, hS q hq⟩⟩
  · obtain ⟨g, cap, hv, hb, hg, _⟩ := Kd.R_form h hp
    injection hv with hA _ hc'
    subst hA
    haveI : Inhabited RR := ⟨z55⟩
    have eg : ∀ args w, (callFunc 44 args).run Tryz.prog w = .ok (.enter 44 args) w := enters_of Tryz.func44 (by kernel_rfl) rfl
    have hH := sort_ok flatR h
    have hcmp : CmpLays Tryz.prog 44 #[] encR 2 cfR g 0 xs.toArray.size w := fun _ _ _ _ x y => closureR x y _
    have hc := AnyQ.slices_SortFunc (Tryz.sortR) 2 Tryz.isAgg55 Tryz.sizeOf55 encR (fun _ => rfl) (fun x v hv => flatR.one x v hv) cfR swoR 44 #[] g 0 c xs.toArray w eg hcmp hH hg (by simpa using hl)
    rw [show xs.toArray.size = xs.length by simp] at hc
    refine hc.mono ?_
    rintro e w' ⟨rfl, d', n, os, hperm, hsort, rfl⟩
    have hsz : d'.size = xs.length := by have := hperm.1; simpa using this
    have hper : xs.Perm d'.toList := by
      have h3 := hperm.2.2
      rw [show d'.extract 0 xs.length = d' by rw [← hsz]; simp, show xs.toArray.extract 0 xs.length = xs.toArray by simp] at h3
      exact h3.symm
    have hlen : d'.toList.length = xs.length := by simpa using hsz
    have ho := sort_out (S := S) flatR h hS d'.toList hlen n os
    refine ⟨d'.toList, hper, ?_, rfl, ?_⟩
    · refine List.pairwise_iff_getElem.2 fun i j hi hj hij => ?_
      have := hsort i j (Nat.zero_le _) hij (by omega)
      rw [ltR, getElem!_pos d' i (by simpa using hi), getElem!_pos d' j (by simpa using hj)] at this
      simpa using this
    · rw [hlen]
      rw [Array.toArray_toList] at ho
      exact ho
theorem mx_max (a b : Int) : mx a b = max a b := by unfold mx; omega
theorem wrap8 {n : Int} (h : 0 ≤ n ∧ n ≤ 255) : IntKind.u8.wrap n = n := by simp [IntKind.wrap, IntKind.bits, IntKind.signed]; omega
theorem takeR (xs : List RR) (i : Int) (h0 : 0 ≤ i) (h1 : i < xs.length) : xs.take (i + 1).toNat = xs.take i.toNat ++ [xs.getD i.toNat z55] := by
  have hl : i.toNat < xs.length := by omega
  rw [show (i + 1).toNat = i.toNat + 1 by omega, List.take_add_one, List.getElem?_eq_getElem hl]
  simp [List.getD_eq_getElem?_getD, List.getElem?_eq_getElem hl]
abbrev keepR (l : List RR) : List RR := l.filter fun r => decide (r.f0 ≤ r.f1)
theorem keep_yes (xs : List RR) (i : Int) (h0 : 0 ≤ i) (h1 : i < xs.length) (h : (xs.getD i.toNat z55).f0 ≤ (xs.getD i.toNat z55).f1) : keepR (xs.take i.toNat) ++ [(⟨(xs.getD i.toNat z55).f0, (xs.getD i.toNat z55).f1⟩ : S55)] = keepR (xs.take (i + 1).toNat) := by
  rw [takeR xs i h0 h1]
  unfold keepR
  rw [List.filter_append, List.filter_cons_of_pos (by simpa using h)]
  rfl
theorem keep_no (xs : List RR) (i : Int) (h0 : 0 ≤ i) (h1 : i < xs.length) (h : (xs.getD i.toNat z55).f1 < (xs.getD i.toNat z55).f0) : keepR (xs.take i.toNat) = keepR (xs.take (i + 1).toNat) := by
  rw [takeR xs i h0 h1]
  unfold keepR
  rw [List.filter_append, List.filter_cons_of_neg (by simpa using h)]
  simp
theorem keep_len (xs : List RR) (i : Int) (h : 0 ≤ i) : ((keepR (xs.take i.toNat)).length : Int) ≤ i := by
  have := List.length_filter_le (fun r : RR => decide (r.f0 ≤ r.f1)) (xs.take i.toNat)
  rw [List.length_take] at this
  unfold keepR
  omega
theorem keep_ok {xs : List RR} (hb : ∀ r ∈ xs, 0 ≤ r.f0 ∧ r.f1 ≤ 255) {ys : List RR} (hp : (keepR xs).Perm ys) : ∀ r ∈ ys, okR r := fun r hr => by
  have h := List.mem_filter.1 (hp.mem_iff.2 hr)
  have h2 := hb r h.1
  have h3 := of_decide_eq_true h.2
  exact ⟨h2.1, h3, h2.2⟩
theorem swept_at {nt : Bool} {ys o : List RR} {nx p : Int} (hst : (nx, o) = sweepL nt (ys.take p.toNat)) (hk : ∀ r ∈ ys, okR r) (hr : riseR ys) : 0 ≤ nx ∧ nx ≤ 256 ∧ o.length ≤ 128 := by
  have h := swept_all (nt := nt) (l := ys.take p.toNat) (fun r h => hk r (List.mem_of_mem_take h)) (List.Pairwise.sublist (List.take_sublist _ _) hr)
  have h2 := sweep_len h
  rw [← hst] at h h2
  exact ⟨h.lo.1, h.lo.2, h2⟩
theorem growLast_set (o : List RR) (hi : Int) (h : 0 < o.length) : growLast o hi = o.set ((o.length : Int) - 1).toNat ⟨(o.getD ((o.length : Int) - 1).toNat z55).f0, mx (o.getD ((o.length : Int) - 1).toNat z55).f1 hi⟩ := by
  have hne : o ≠ [] := fun e => by rw [e] at h; simp at h
  obtain ⟨o', y, rfl⟩ : ∃ o' y, o = o' ++ [y] := ⟨o.dropLast, o.getLast hne, (List.dropLast_concat_getLast hne).symm⟩
  rw [growLast_snoc, mx_max]
  have e : (((o' ++ [y]).length : Int) - 1).toNat = o'.length := by simp
  rw [e]
  simp [List.getD_eq_getElem?_getD]
theorem sweep_gap {nt : Bool} {o ys : List RR} {nx p : Int} {X : RR} (hst : (nx, o) = sweepL nt (ys.take p.toNat)) (hX : X = ys.getD p.toNat z55) (h0 : 0 ≤ p) (h1 : p < ys.length) (hn : nt = true) (h : nx < X.f0) : (mx nx (X.f1 + 1), o ++ [(⟨nx, X.f0 - 1⟩ : S55)]) = sweepL nt (ys.take (p + 1).toNat) := by
  rw [takeR ys p h0 h1, sweepL_snoc, ← hst, ← hX, hn, mx_max]
  simp [sweepS, h]
theorem sweep_skip {nt : Bool} {o ys : List RR} {nx p : Int} {X : RR} (hst : (nx, o) = sweepL nt (ys.take p.toNat)) (hX : X = ys.getD p.toNat z55) (h0 : 0 ≤ p) (h1 : p < ys.length) (hn : nt = true) (h : nt = false ∨ X.f0 ≤ nx) : (mx nx (X.f1 + 1), o) = sweepL nt (ys.take (p + 1).toNat) := by
  rw [takeR ys p h0 h1, sweepL_snoc, ← hst, ← hX, hn, mx_max]
  have : ¬ nx < X.f0 := by
    rcases h with h | h
    · rw [hn] at h; cases h
    · omega
  simp [sweepS, this]
theorem sweep_grow {nt : Bool} {o ys : List RR} {nx p : Int} {X : RR} (hst : (nx, o) = sweepL nt (ys.take p.toNat)) (hX : X = ys.getD p.toNat z55) (h0 : 0 ≤ p) (h1 : p < ys.length) (hn : nt = false) (h2 : 0 < (o.length : Int)) (h : X.f0 ≤ nx) : (mx nx (X.f1 + 1), o.set ((o.length : Int) - 1).toNat (⟨(o.getD ((o.length : Int) - 1).toNat z55).f0, mx (o.getD ((o.length : Int) - 1).toNat z55).f1 X.f1⟩ : S55)) = sweepL nt (ys.take (p + 1).toNat) := by
  rw [takeR ys p h0 h1, sweepL_snoc, ← hst, ← hX, hn, mx_max nx]
  unfold sweepS
  simp only [Bool.false_eq_true, if_false]
  rw [if_pos ⟨by omega, h⟩, growLast_set o _ (by omega)]
theorem sweep_add {nt : Bool} {o ys : List RR} {nx p : Int} {X : RR} (hst : (nx, o) = sweepL nt (ys.take p.toNat)) (hX : X = ys.getD p.toNat z55) (h0 : 0 ≤ p) (h1 : p < ys.length) (hn : nt = false) (h : (o.length : Int) ≤ 0 ∨ nx < X.f0) : (mx nx (X.f1 + 1), o ++ [(⟨X.f0, X.f1⟩ : S55)]) = sweepL nt (ys.take (p + 1).toNat) := by
  rw [takeR ys p h0 h1, sweepL_snoc, ← hst, ← hX, hn, mx_max]
  have : ¬ (0 < o.length ∧ X.f0 ≤ nx) := by omega
  simp [sweepS, this]
theorem sweep_fin {nt : Bool} {xs ys o : List RR} {nx p : Int} (hb : ∀ r ∈ xs, 0 ≤ r.f0 ∧ r.f1 ≤ 255) (hp : (keepR xs).Perm ys) (hr : riseR ys) (hst : (nx, o) = sweepL nt (ys.take p.toNat)) (hl : (ys.length : Int) ≤ p) : (if nt = true ∧ nx < 256 then o ++ [(⟨nx, 255⟩ : S55)] else o) = canonP fun c => inR xs c != nt := by
  rw [List.take_of_length_le (by omega)] at hst
  have := (sweep_is (nt := nt) hb hp hr).2
  rw [← hst] at this
  exact this
end Go.Proofs.YtelbgmpeghhakaaGreat.PA
end
section
namespace Go.Proofs.YtelbgmpeghhakaaGreat.PA
open Go.RowKit Go.Proofs.YtelbgmpeghhakaaGreatW.PrintWords Go.Proofs.YtelbgmpeghhakaaGreatW.PrintLast Go.Proofs.YtelbgmpeghhakaaGreatW.PrintMore
set_option linter.unusedVariables false
set_option linter.unusedSimpArgs false
namespace GRanges_
theorem gwagg5 : ∀ w, (isAgg 5).run Tryz.prog w = .ok false w := fun _ => by kernel_rfl
theorem gwagg55 : ∀ w, (isAgg 55).run Tryz.prog w = .ok true w := fun _ => by kernel_rfl
theorem gwfld55_0 (g off : Nat) : ∀ w, (Instr.fieldAt 55 (.pointer (some ⟨g, off, none⟩)) 0).run Tryz.prog w = .ok (.pointer (some ⟨g, off + 0, none⟩)) w := fun _ => by kernel_rfl
theorem gwfld55_1 (g off : Nat) : ∀ w, (Instr.fieldAt 55 (.pointer (some ⟨g, off, none⟩)) 1).run Tryz.prog w = .ok (.pointer (some ⟨g, off + 1, none⟩)) w := fun _ => by kernel_rfl
theorem gwflda55_1 (ad : Addr) : ∀ w, (Instr.fieldAt 55 (.pointer (some ad)) 1).run Tryz.prog w = .ok (.pointer (some (ad.add 1))) w := fun _ => by kernel_rfl
theorem gwinfo55 : (Tryz.prog.info? 55).map (fun i => (i.zero, i.size, i.bytes)) = some (some (.agg #[.int .u8 0, .int .u8 0]), 2, 2) := by kernel_rfl
theorem gwsiz5 : ∀ w, (sizeOf 5).run Tryz.prog w = .ok 1 w := fun _ => by kernel_rfl
theorem gwsiz55 : ∀ w, (sizeOf 55).run Tryz.prog w = .ok 2 w := fun _ => by kernel_rfl
theorem gwzer55 : ∀ w, (zeroValue 55).run Tryz.prog w = .ok (.agg #[.int .u8 0, .int .u8 0]) w := fun _ => by kernel_rfl
set_option maxHeartbeats 4000000 in
set_option maxRecDepth 100000 in
theorem Ranges_walk (A0 : Option Addr) (c0 : Nat) (l : List S55) (a1 : Bool) (w : World) (hr : Kd.C k55 w A0 l.length l) (hc : l.length ≤ c0) (hb : ∀ r ∈ l, 0 ≤ r.f0 ∧ r.f1 ≤ 255) (hl : l.length ≤ 70368744177664) :
    Calls Tryz.prog 36 #[.slice A0 l.length c0, .bool a1] w fun e w' => ∃ v0_ : Value, e = .returned v0_ ∧ Kd.R k55 55 w' w.heap.size (fun _ => True) v0_ (canonP fun c => inR l c != a1) ∧ Below w.heap.size w w' := by
 refine gw_start (N := 111) (vs := [.slice A0 l.length c0, .bool a1]) Tryz.func36 rfl rfl (by simp) fun a HF HO => ?_
 replace HO : Own w w [] := HO
 refine gR fun K1 hK1 => ?_
 refine V HF (op_assign rfl (ev_c _ _)) ?_
 intro _ H3; clear HF
 refine gE hK1 ?_
 refine gR fun K4 hK4 => ?_
 refine V H3 (op_assign rfl (ev_c _ _)) ?_
 intro _ H6; clear H3
 have O7 := HO.row_nil k55 55 w.heap.size
 clear HO
 have O8 : Own w w [Chunk.row k55 55 w.heap.size (fun _ => False) (.slice none (([] : List S55).length) 0) ([] : List S55)] := O7
 clear O7
 refine V H6 (op_assign rfl (ev_c _ _)) ?_
 intro _ H10; clear H6
 have O11 := O8.row_nil k55 55 w.heap.size
 clear O8
 have O12 : Own w w [Chunk.row k55 55 w.heap.size (fun _ => False) (.slice none (([] : List S55).length) 0) ([] : List S55), Chunk.row k55 55 w.heap.size (fun _ => False) (.slice none (([] : List S55).length) 0) ([] : List S55)] := O11
 clear O11
 refine gE hK4 ?_
 refine gw_seq fun K13 hK13 => ?_
 refine gR fun K14 hK14 => ?_
 refine V H10 (op_move rfl (H10.ev rfl)) ?_
 intro _ H16; clear H10
 refine V H16 (op_len Tryz.underlying23 rfl (H16.ev rfl)) ?_
 intro _ H18; clear H16
 refine V H18 (op_move rfl (ev_c _ _)) ?_
 intro _ H20; clear H18
 refine gE hK14 ?_
 refine wp_block ?_
 refine gw_loop (fun m_ a_ w_ => ∃ (i0 : Int) (Aa : Option Addr) (ca : Nat) (Sa : Nat → Prop), Fr 111 a_ [(15, J i0), (5, .slice Aa ((keepR (l.take i0.toNat)).length) ca), (1, .bool a1), (4, .slice none 0 0), (6, .slice none (([] : List S55).length) 0), (13, .slice A0 l.length c0), (14, J (l.length : Int))] ∧ Own w w_ [Chunk.row k55 55 w.heap.size Sa (.slice Aa ((keepR (l.take i0.toNat)).length) ca) (keepR (l.take i0.toNat)), Chunk.row k55 55 w.heap.size (fun _ => False) (.slice none (([] : List S55).length) 0) ([] : List S55)] ∧ (0 ≤ i0 ∧ i0 ≤ l.length) ∧ m_ = (l.length - i0.toNat)) ((l.length - (0 : Int).toNat)) ?_ ?_
 ·
  refine ⟨0, none, _, _, (H20.pick (t := 15) rfl (H20.pick (t := 5) rfl (H20.pick (t := 1) rfl (H20.pick (t := 4) rfl (H20.pick (t := 6) rfl (H20.pick (t := 13) rfl (H20.pick (t := 14) rfl H20.nil))))))), O12.sel [1, 0] (by decide), ?_, rfl⟩
  ·
   omega
 ·
  rintro m22 _ w24 ⟨i0, Aa, ca, Sa, H25, O26, hi, hm27⟩
  refine gR fun K28 hK28 => ?_
  refine V H25 (op_lss rfl (H25.ev rfl) (H25.ev rfl)) ?_
  intro _ H30; clear H25
  refine gE hK28 ?_
  refine gw_seq fun K31 hK31 => ?_
  refine gw_cond H30 rfl (fun hb32 => ?_) (fun hb32 => ?_)
  ·
   have H33 := H30.subst_ (d := 16) (b := true) rfl hb32
   clear H30
   (try simp only [decide_eq_true_eq] at hb32)
   refine wp_skip ?_
   refine gw_nx (hK31 _ _ ?_)
   refine gw_seq fun K34 hK34 => ?_
   refine wp_block ?_
   refine gR fun K35 hK35 => ?_
   obtain ⟨ad36, cs39, hA37, hl40, hK41, hc38⟩ := Kd.C_get hr z55 i0 (by omega) (by omega)
   obtain rfl := k55_open hK41
   clear hl40
   refine V H33 (op_index Tryz.underlying23 gwsiz55 rfl (H33.ev rfl) (H33.ev rfl) hA37 (⟨by omega, by omega⟩)) ?_
   intro _ H43; clear H33
   refine V H43 (op_loadc gwagg55 gwsiz55 rfl (H43.ev rfl) rfl (cells0 O26 hc38)) ?_
   intro _ H45; clear H43
   refine gw_new H45 O26 (want_none rfl) rfl (by decide) (op_alloc gwzer55 rfl) ?_
   intro g46 _ w48 H49 O50; clear H45 O26
   have O51 : Own w w48 [Bk g46 [.int .u8 0, .int .u8 0] 55, Chunk.row k55 55 w.heap.size Sa (.slice Aa ((keepR (l.take i0.toNat)).length) ca) (keepR (l.take i0.toNat)), Chunk.row k55 55 w.heap.size (fun _ => False) (.slice none (([] : List S55).length) 0) ([] : List S55)] := O50
   clear O50
   refine gw_setn 0 H49 O51 rfl (want_none rfl) rfl (op_storen gwsiz55 rfl (H49.ev rfl) (H49.ev rfl) (O51.get 0 rfl) rfl (by simp) (by simp [Value.oneCell'])) ?_
   intro _ w54 H53 O55; clear H49 O51
   refine gE hK35 ?_
   refine gR fun K56 hK56 => ?_
   refine V H53 (op_field (gwfld55_0 _ _) rfl (H53.ev rfl)) ?_
   intro _ H58; clear H53
   refine V H58 (op_load1 gwagg5 rfl (H58.ev rfl) (blk_at (O55.get 0 rfl) rfl)) ?_
   intro _ H60; clear H58
   refine V H60 (op_field (gwfld55_1 _ _) rfl (H60.ev rfl)) ?_
   intro _ H62; clear H60
   refine V H62 (op_load1 gwagg5 rfl (H62.ev rfl) (blk_at (O55.get 0 rfl) rfl)) ?_
   intro _ H64; clear H62
   refine V H64 (op_leq rfl (H64.ev rfl) (H64.ev rfl)) ?_
   intro _ H66; clear H64
   refine gE hK56 ?_
   refine gw_cond H66 rfl (fun hb67 => ?_) (fun hb67 => ?_)
   ·
    have H68 := H66.subst_ (d := 23) (b := true) rfl hb67
    clear H66
    (try simp only [decide_eq_true_eq] at hb67)
    refine wp_region_lit ?_
    refine V H68 (op_move rfl (H68.ev rfl)) ?_
    intro _ H70; clear H68
    refine V H70 (op_loadn gwagg55 gwsiz55 rfl (H70.ev rfl) (O55.get 0 rfl) rfl rfl) ?_
    intro _ H72; clear H70
    refine gw_news (O := .cells #[.int .u8 ((l.getD i0.toNat z55).f0), .int .u8 ((l.getD i0.toNat z55).f1)] 55 (0, 0)) (n := 1) H72 O55 (want_none rfl) rfl (by decide) (op_bslice (by kernel_rfl) rfl (pt_cons (H72.ev rfl) pt_nil)) ?_
    intro g73 _ w75 H76 O77; clear H72 O55
    have O78 : Own w w75 [Bk g73 [.int .u8 ((l.getD i0.toNat z55).f0), .int .u8 ((l.getD i0.toNat z55).f1)] 55, Bk g46 [.int .u8 ((l.getD i0.toNat z55).f0), .int .u8 ((l.getD i0.toNat z55).f1)] 55, Chunk.row k55 55 w.heap.size Sa (.slice Aa ((keepR (l.take i0.toNat)).length) ca) (keepR (l.take i0.toNat)), Chunk.row k55 55 w.heap.size (fun _ => False) (.slice none (([] : List S55).length) 0) ([] : List S55)] := O77
    clear O77
    have O79 : Own w _ [Chunk.row k55 55 w.heap.size Sa (.slice Aa ((keepR (l.take i0.toNat)).length) ca) (keepR (l.take i0.toNat)), Chunk.void, Bk g73 [.int .u8 ((l.getD i0.toNat z55).f0), .int .u8 ((l.getD i0.toNat z55).f1)] 55, Bk g46 [.int .u8 ((l.getD i0.toNat z55).f0), .int .u8 ((l.getD i0.toNat z55).f1)] 55, Chunk.row k55 55 w.heap.size (fun _ => False) (.slice none (([] : List S55).length) 0) ([] : List S55)] := O78.void.sel [3, 0, 1, 2, 4] (by decide)
    refine gw_append1 k55 0 (p := (⟨(l.getD i0.toNat z55).f0, (l.getD i0.toNat z55).f1⟩ : S55)) (cs := [.int .u8 ((l.getD i0.toNat z55).f0), .int .u8 ((l.getD i0.toNat z55).f1)]) H76 O79 (want_none rfl) rfl (by decide) rfl Tryz.underlying23 gwinfo55 rfl (by decide) (by decide) rfl (H76.ev rfl) (H76.ev rfl) (fun w_ h_ => k55_mkM w_ _ _ (⟨(l.getD i0.toNat z55).f0, (l.getD i0.toNat z55).f1⟩ : S55) ) O79.below.size (by have h_ := keep_len l i0 (by omega); omega) ?_
    intro A80 c81 S82 _ w84 H85 O86; clear H76 O78 O79
    have O87 : Own w w84 [Chunk.row k55 55 w.heap.size S82 (.slice A80 (((keepR (l.take i0.toNat)) ++ [(⟨(l.getD i0.toNat z55).f0, (l.getD i0.toNat z55).f1⟩ : S55)]).length) c81) ((keepR (l.take i0.toNat)) ++ [(⟨(l.getD i0.toNat z55).f0, (l.getD i0.toNat z55).f1⟩ : S55)]), Bk g73 [.int .u8 ((l.getD i0.toNat z55).f0), .int .u8 ((l.getD i0.toNat z55).f1)] 55, Bk g46 [.int .u8 ((l.getD i0.toNat z55).f0), .int .u8 ((l.getD i0.toNat z55).f1)] 55, Chunk.row k55 55 w.heap.size (fun _ => False) (.slice none (([] : List S55).length) 0) ([] : List S55)] := O86
    clear O86
    refine V H85 (op_assign rfl (H85.ev rfl)) ?_
    intro _ H89; clear H85
    refine wpList_nil ?_
    refine gw_blk ?_
    refine gw_nx (hK34 _ _ ?_)
    refine wp_region_lit ?_
    refine V H89 (op_add rfl (H89.ev rfl) (ev_c _ _) (by omega)) ?_
    intro _ H91; clear H89
    refine V H91 (op_move rfl (H91.ev rfl)) ?_
    intro _ H93; clear H91
    refine wpList_nil ?_
    rw [keep_yes l i0 (by omega) (by omega) (by assumption)] at O87
    (try rw [keep_yes l i0 (by omega) (by omega) (by assumption)] at H93)
    refine gw_nx ⟨_, ?_, i0 + 1, A80, _, _, (H93.pick (t := 15) rfl (H93.pick (t := 5) rfl (H93.pick (t := 1) rfl (H93.pick (t := 4) rfl (H93.pick (t := 6) rfl (H93.pick (t := 13) rfl (H93.pick (t := 14) rfl H93.nil))))))), O87.sel [0, 3] (by decide), ?_, rfl⟩
    ·
     rw [hm27]; omega
    ·
     omega
   ·
    have H94 := H66.subst_ (d := 23) (b := false) rfl hb67
    clear H66
    (try simp only [decide_eq_false_iff_not, Int.not_le] at hb67)
    refine wp_skip ?_
    refine gw_blk ?_
    refine gw_nx (hK34 _ _ ?_)
    refine wp_region_lit ?_
    refine V H94 (op_add rfl (H94.ev rfl) (ev_c _ _) (by omega)) ?_
    intro _ H96; clear H94
    refine V H96 (op_move rfl (H96.ev rfl)) ?_
    intro _ H98; clear H96
    refine wpList_nil ?_
    rw [keep_no l i0 (by omega) (by omega) (by assumption)] at O55
    (try rw [keep_no l i0 (by omega) (by omega) (by assumption)] at H98)
    refine gw_nx ⟨_, ?_, i0 + 1, Aa, _, _, (H98.pick (t := 15) rfl (H98.pick (t := 5) rfl (H98.pick (t := 1) rfl (H98.pick (t := 4) rfl (H98.pick (t := 6) rfl (H98.pick (t := 13) rfl (H98.pick (t := 14) rfl H98.nil))))))), O55.sel [1, 2] (by decide), ?_, rfl⟩
    ·
     rw [hm27]; omega
    ·
     omega
  ·
   have H99 := H30.subst_ (d := 16) (b := false) rfl hb32
   clear H30
   (try simp only [decide_eq_false_iff_not, Int.not_lt] at hb32)
   refine wp_exit ?_
   refine gw_thx ?_
   refine gw_thx ?_
   refine gw_in ?_
   refine gw_nx (hK13 _ _ ?_)
   refine gR fun K100 hK100 => ?_
   refine V H99 (op_move rfl (H99.ev rfl)) ?_
   intro _ H102; clear H99
   refine gw_call H102 (want_none rfl) rfl (by decide) (op_callL Tryz.func43 (by kernel_rfl) rfl rfl (ar_cons (H102.ev rfl) (ar_cons rfl ar_nil))) (sort_calls w.heap.size Sa Aa ca (keepR (l.take i0.toNat)) _ (O26.get 0 rfl) (fun k hk => (O26.lt 0 rfl hk).2) (by have h_ := keep_len l i0 (by omega); omega)) ?_
   rintro e103 w104 ⟨ys, hperm, hrise, rfl, hb105⟩
   refine ⟨_, rfl, fun _ H107 => ?_⟩
   have O108 := O26.calls 0 rfl hb105
   clear H102 O26 hb105
   rw [show keepR (l.take i0.toNat) = keepR l by rw [List.take_of_length_le (by omega)]] at hperm
   have hlen : (keepR (l.take i0.toNat)).length = ys.length := by rw [show l.take i0.toNat = l from List.take_of_length_le (by omega)]; exact hperm.length_eq
   rw [hlen] at O108
   (try rw [hlen] at H107)
   have O110 := O108.row_view 0 rfl
   clear O108
   have O111 : Own w w104 [Chunk.view k55 Sa Aa ys.length ca ys, Chunk.row k55 55 w.heap.size (fun _ => False) (.slice none (([] : List S55).length) 0) ([] : List S55)] := O110
   clear O110
   have hok := keep_ok hb hperm
   have hyl : (ys.length : Int) ≤ l.length := by have h_ := keep_len l i0 (by omega); omega
   refine gE hK100 ?_
   refine gR fun K112 hK112 => ?_
   refine V H107 (op_assign rfl (ev_c _ _)) ?_
   intro _ H114; clear H107
   refine gE hK112 ?_
   refine gw_seq fun K115 hK115 => ?_
   refine gR fun K116 hK116 => ?_
   refine V H114 (op_move rfl (H114.ev rfl)) ?_
   intro _ H118; clear H114
   refine V H118 (op_len Tryz.underlying23 rfl (H118.ev rfl)) ?_
   intro _ H120; clear H118
   refine V H120 (op_move rfl (ev_c _ _)) ?_
   intro _ H122; clear H120
   refine gE hK116 ?_
   refine wp_block ?_
   refine gw_loop (fun m_ a_ w_ => ∃ (p : Int) (nx : Int) (o : List S55) (Ao : Option Addr) (co : Nat) (So : Nat → Prop) (no : Nat), Fr 111 a_ [(33, J p), (9, J nx), (6, .slice Ao no co), (1, .bool a1), (4, .slice none 0 0), (31, .slice Aa ys.length ca), (32, J (ys.length : Int))] ∧ Own w w_ [Chunk.row k55 55 w.heap.size So (.slice Ao no co) o, Chunk.view k55 Sa Aa ys.length ca ys] ∧ (0 ≤ p ∧ p ≤ ys.length) ∧ ((nx, o) = sweepL a1 (ys.take p.toNat)) ∧ (no = o.length) ∧ m_ = (ys.length - p.toNat)) ((ys.length - (0 : Int).toNat)) ?_ ?_
   ·
    refine ⟨0, 0, ([] : List S55), none, _, _, _, (H122.pick (t := 33) rfl (H122.pick (t := 9) rfl (H122.pick (t := 6) rfl (H122.pick (t := 1) rfl (H122.pick (t := 4) rfl (H122.pick (t := 31) rfl (H122.pick (t := 32) rfl H122.nil))))))), O111.sel [1, 0] (by decide), ?_, ?_, ?_, rfl⟩
    ·
     omega
    ·
     rfl
    ·
     rfl
   ·
    rintro m124 _ w126 ⟨p, nx, o, Ao, co, So, no, H127, O128, hp, hst, hno, hm129⟩
    subst hno
    refine gR fun K130 hK130 => ?_
    refine V H127 (op_lss rfl (H127.ev rfl) (H127.ev rfl)) ?_
    intro _ H132; clear H127
    refine gE hK130 ?_
    refine gw_seq fun K133 hK133 => ?_
    refine gw_cond H132 rfl (fun hb134 => ?_) (fun hb134 => ?_)
    ·
     have H135 := H132.subst_ (d := 34) (b := true) rfl hb134
     clear H132
     (try simp only [decide_eq_true_eq] at hb134)
     have hX : 0 ≤ (ys.getD p.toNat z55).f0 ∧ (ys.getD p.toNat z55).f0 ≤ (ys.getD p.toNat z55).f1 ∧ (ys.getD p.toNat z55).f1 ≤ 255 := hok _ (getD_mem ys p.toNat (by omega))
     obtain ⟨hn0, hn1, hol⟩ := swept_at hst hok hrise
     refine wp_skip ?_
     refine gw_nx (hK133 _ _ ?_)
     refine gw_seq fun K136 hK136 => ?_
     refine wp_block ?_
     refine gR fun K137 hK137 => ?_
     have O144 := O128.pin 1 rfl
     clear O128
     have O145 : Own w w126 [Chunk.row k55 55 w.heap.size So (.slice Ao o.length co) o, Chunk.viewAt w126 k55 Sa Aa ys.length ca ys] := O144
     clear O144
     obtain ⟨ad138, cs141, hA139, hl142, hK143, hc140, _⟩ := Kd.F_get (viewAt_F (O145.get 1 rfl)) z55 p (by omega) (by omega)
     obtain rfl := k55_openF hK143
     clear hl142
     refine V H135 (op_index Tryz.underlying23 gwsiz55 rfl (H135.ev rfl) (H135.ev rfl) hA139 (⟨by omega, by omega⟩)) ?_
     intro _ H147; clear H135
     refine V H147 (op_loadc gwagg55 gwsiz55 rfl (H147.ev rfl) rfl ((pin_cells (O145.get 1 rfl) hA139 hc140))) ?_
     intro _ H149; clear H147
     refine gw_new H149 O145 (want_none rfl) rfl (by decide) (op_alloc gwzer55 rfl) ?_
     intro g150 _ w152 H153 O154; clear H149 O145
     have O155 : Own w w152 [Bk g150 [.int .u8 0, .int .u8 0] 55, Chunk.row k55 55 w.heap.size So (.slice Ao o.length co) o, Chunk.viewAt w126 k55 Sa Aa ys.length ca ys] := O154
     clear O154
     refine gw_setn 0 H153 O155 rfl (want_none rfl) rfl (op_storen gwsiz55 rfl (H153.ev rfl) (H153.ev rfl) (O155.get 0 rfl) rfl (by simp) (by simp [Value.oneCell'])) ?_
     intro _ w158 H157 O159; clear H153 O155
     refine gE hK137 ?_
     refine gR fun K160 hK160 => ?_
     refine V H157 (op_move rfl (H157.ev rfl)) ?_
     intro _ H162; clear H157
     refine V H162 (op_len Tryz.underlying23 rfl (H162.ev rfl)) ?_
     intro _ H164; clear H162
     refine V H164 (op_sub rfl (H164.ev rfl) (ev_c _ _) (by omega)) ?_
     intro _ H166; clear H164
     refine V H166 (op_assign rfl (H166.ev rfl)) ?_
     intro _ H168; clear H166
     refine gE hK160 ?_
     refine gw_seq fun K169 hK169 => ?_
     refine wp_block ?_
     refine gR fun K170 hK170 => ?_
     refine V H168 (op_move rfl (H168.ev rfl)) ?_
     intro _ H172; clear H168
     refine V H172 (op_move rfl (H172.ev rfl)) ?_
     intro _ H174; clear H172
     refine gw_evG H174 rfl rfl rfl rfl (on_t _) rfl (by decide) (fun h_ => (op_field (gwfld55_0 _ _) rfl (H174.ev rfl))) ?_
     intro _ H176; clear H174
     refine gw_evG H176 rfl rfl rfl rfl (on_t _) rfl (by decide) (fun h_ => (op_load1 gwagg5 rfl (ev_gv (H176.ev rfl) h_) (blk_at (O159.get 0 rfl) rfl))) ?_
     intro _ H178; clear H176
     refine gw_evG H178 rfl rfl rfl rfl (on_t _) rfl (by decide) (fun h_ => (op_conv_inb Tryz.underlying5 Tryz.underlying3 rfl (ev_gv (H178.ev rfl) h_) (by (try simp only [Bool.and_eq_true, Bool.or_eq_true, Bool.and_eq_false_iff, Bool.or_eq_false_iff, Bool.not_and, Bool.not_or, Bool.not_not, decide_eq_true_eq, decide_eq_false_iff_not, Bool.not_eq_true', Bool.not_eq_false', Bool.not_eq_true, Bool.not_eq_false, ne_eq, Decidable.not_not, Int.not_lt, Int.not_le, not_true_eq_false, not_false_eq_true, bne_iff_ne, beq_iff_eq, bne_eq_false_iff_eq, beq_eq_false_iff_ne] at h_); omega))) ?_
     intro _ H180; clear H178
     refine gw_evG H180 rfl rfl rfl rfl (on_t _) rfl (by decide) (fun h_ => (op_move rfl (H180.ev rfl))) ?_
     intro _ H182; clear H180
     refine gw_evG H182 rfl rfl rfl rfl (on_t _) rfl (by decide) (fun h_ => (op_gtr rfl (ev_gv (H182.ev rfl) h_) (ev_gv (H182.ev rfl) h_))) ?_
     intro _ H184; clear H182
     refine V H184 (op_pick_and rfl (H184.ev rfl) (fun hp_ => (ev_gv (H184.ev rfl) hp_)) (ev_c _ _)) ?_
     intro _ H186; clear H184
     refine V H186 (op_assign rfl (H186.ev rfl)) ?_
     intro _ H188; clear H186
     refine gE hK170 ?_
     refine gw_cond H188 rfl (fun hb189 => ?_) (fun hb189 => ?_)
     ·
      have H190 := H188.subst_ (d := 40) (b := true) rfl hb189
      clear H188
      (try simp only [Bool.and_eq_true, Bool.and_eq_false_iff, decide_eq_true_eq, decide_eq_false_iff_not, Int.not_lt] at hb189)
      refine wp_region_lit ?_
      refine V H190 (op_move rfl (H190.ev rfl)) ?_
      intro _ H192; clear H190
      refine V H192 (op_move rfl (H192.ev rfl)) ?_
      intro _ H194; clear H192
      refine V H194 (op_conv_int Tryz.underlying3 Tryz.underlying5 rfl (H194.ev rfl)) ?_
      intro _ H196; clear H194
      have H197 := H196.conv (v' := .int .u8 nx) (congrArg (Value.int .u8) (wrap8 (by omega)))
      clear H196
      refine V H197 (op_field (gwfld55_0 _ _) rfl (H197.ev rfl)) ?_
      intro _ H199; clear H197
      refine V H199 (op_load1 gwagg5 rfl (H199.ev rfl) (blk_at (O159.get 0 rfl) rfl)) ?_
      intro _ H201; clear H199
      refine V H201 (op_subw rfl (H201.ev rfl) (ev_c _ _)) ?_
      intro _ H203; clear H201
      have H204 := H203.conv (v' := .int .u8 ((ys.getD p.toNat z55).f0 - 1)) (congrArg (Value.int .u8) (wrap8 (by omega)))
      clear H203
      refine V H204 (op_build (cells := #[.int .u8 nx, .int .u8 ((ys.getD p.toNat z55).f0 - 1)]) rfl (pt_cons (H204.ev rfl) (pt_cons (H204.ev rfl) pt_nil)) (by kernel_rfl)) ?_
      intro _ H206; clear H204
      refine gw_news (O := .cells #[.int .u8 nx, .int .u8 ((ys.getD p.toNat z55).f0 - 1)] 55 (0, 0)) (n := 1) H206 O159 (want_none rfl) rfl (by decide) (op_bslice (by kernel_rfl) rfl (pt_cons (H206.ev rfl) pt_nil)) ?_
      intro g207 _ w209 H210 O211; clear H206 O159
      have O212 : Own w w209 [Bk g207 [.int .u8 nx, .int .u8 ((ys.getD p.toNat z55).f0 - 1)] 55, Bk g150 [.int .u8 ((ys.getD p.toNat z55).f0), .int .u8 ((ys.getD p.toNat z55).f1)] 55, Chunk.row k55 55 w.heap.size So (.slice Ao o.length co) o, Chunk.viewAt w126 k55 Sa Aa ys.length ca ys] := O211
      clear O211
      have O213 : Own w _ [Chunk.row k55 55 w.heap.size So (.slice Ao o.length co) o, Chunk.void, Bk g207 [.int .u8 nx, .int .u8 ((ys.getD p.toNat z55).f0 - 1)] 55, Bk g150 [.int .u8 ((ys.getD p.toNat z55).f0), .int .u8 ((ys.getD p.toNat z55).f1)] 55, Chunk.viewAt w126 k55 Sa Aa ys.length ca ys] := O212.void.sel [3, 0, 1, 2, 4] (by decide)
      refine gw_append1 k55 0 (p := (⟨nx, (ys.getD p.toNat z55).f0 - 1⟩ : S55)) (cs := [.int .u8 nx, .int .u8 ((ys.getD p.toNat z55).f0 - 1)]) H210 O213 (want_none rfl) rfl (by decide) rfl Tryz.underlying23 gwinfo55 rfl (by decide) (by decide) rfl (H210.ev rfl) (H210.ev rfl) (fun w_ h_ => k55_mkM w_ _ _ (⟨nx, (ys.getD p.toNat z55).f0 - 1⟩ : S55) ) O213.below.size (by omega) ?_
      intro A214 c215 S216 _ w218 H219 O220; clear H210 O212 O213
      have O221 : Own w w218 [Chunk.row k55 55 w.heap.size S216 (.slice A214 ((o ++ [(⟨nx, (ys.getD p.toNat z55).f0 - 1⟩ : S55)]).length) c215) (o ++ [(⟨nx, (ys.getD p.toNat z55).f0 - 1⟩ : S55)]), Bk g207 [.int .u8 nx, .int .u8 ((ys.getD p.toNat z55).f0 - 1)] 55, Bk g150 [.int .u8 ((ys.getD p.toNat z55).f0), .int .u8 ((ys.getD p.toNat z55).f1)] 55, Chunk.viewAt w126 k55 Sa Aa ys.length ca ys] := O220
      clear O220
      refine V H219 (op_assign rfl (H219.ev rfl)) ?_
      intro _ H223; clear H219
      refine wpList_nil ?_
      refine gw_blk ?_
      refine gw_nx (hK169 _ _ ?_)
      refine wp_region_lit ?_
      refine V H223 (op_move rfl (H223.ev rfl)) ?_
      intro _ H225; clear H223
      refine V H225 (op_field (gwfld55_1 _ _) rfl (H225.ev rfl)) ?_
      intro _ H227; clear H225
      refine V H227 (op_load1 gwagg5 rfl (H227.ev rfl) (blk_at (O221.get 2 rfl) rfl)) ?_
      intro _ H229; clear H227
      refine V H229 (op_conv_inb Tryz.underlying5 Tryz.underlying3 rfl (H229.ev rfl) (by omega)) ?_
      intro _ H231; clear H229
      refine V H231 (op_add rfl (H231.ev rfl) (ev_c _ _) (by omega)) ?_
      intro _ H233; clear H231
      refine V H233 (op_max rfl (H233.ev rfl) (H233.ev rfl)) ?_
      intro _ H235; clear H233
      refine V H235 (op_assign rfl (H235.ev rfl)) ?_
      intro _ H237; clear H235
      refine wpList_nil ?_
      refine gw_blk ?_
      refine gw_nx (hK136 _ _ ?_)
      refine wp_region_lit ?_
      refine V H237 (op_add rfl (H237.ev rfl) (ev_c _ _) (by omega)) ?_
      intro _ H239; clear H237
      refine V H239 (op_move rfl (H239.ev rfl)) ?_
      intro _ H241; clear H239
      refine wpList_nil ?_
      have O242 := O221.unpin 3 rfl
      clear O221
      have O243 : Own w w218 [Chunk.row k55 55 w.heap.size S216 (.slice A214 ((o ++ [(⟨nx, (ys.getD p.toNat z55).f0 - 1⟩ : S55)]).length) c215) (o ++ [(⟨nx, (ys.getD p.toNat z55).f0 - 1⟩ : S55)]), Bk g207 [.int .u8 nx, .int .u8 ((ys.getD p.toNat z55).f0 - 1)] 55, Bk g150 [.int .u8 ((ys.getD p.toNat z55).f0), .int .u8 ((ys.getD p.toNat z55).f1)] 55, Chunk.view k55 Sa Aa ys.length ca ys] := O242
      clear O242
      refine gw_nx ⟨_, ?_, p + 1, (mx nx ((ys.getD p.toNat z55).f1 + 1)), (o ++ [(⟨nx, (ys.getD p.toNat z55).f0 - 1⟩ : S55)]), A214, _, _, _, (H241.pick (t := 33) rfl (H241.pick (t := 9) rfl (H241.pick (t := 6) rfl (H241.pick (t := 1) rfl (H241.pick (t := 4) rfl (H241.pick (t := 31) rfl (H241.pick (t := 32) rfl H241.nil))))))), O243.sel [0, 3] (by decide), ?_, ?_, ?_, rfl⟩
      ·
       rw [hm129]; omega
      ·
       omega
      ·
       exact sweep_gap hst rfl (by omega) (by omega) (And.left (by assumption)) (And.right (by assumption))
      ·
       first | rfl | rw [List.length_set]
     ·
      have H244 := H188.subst_ (d := 40) (b := false) rfl hb189
      clear H188
      (try simp only [Bool.and_eq_true, Bool.and_eq_false_iff, decide_eq_true_eq, decide_eq_false_iff_not, Int.not_lt] at hb189)
      have hq40 := hb189
      refine gR fun K245 hK245 => ?_
      refine V H244 (op_move rfl (H244.ev rfl)) ?_
      intro _ H247; clear H244
      refine V H247 (op_not rfl (H247.ev rfl)) ?_
      intro _ H249; clear H247
      refine V H249 (op_move rfl (H249.ev rfl)) ?_
      intro _ H251; clear H249
      refine gw_evG H251 rfl rfl rfl rfl (on_t _) rfl (by decide) (fun h_ => (op_move rfl (H251.ev rfl))) ?_
      intro _ H253; clear H251
      refine gw_evG H253 rfl rfl rfl rfl (on_t _) rfl (by decide) (fun h_ => (op_len Tryz.underlying23 rfl (ev_gv (H253.ev rfl) h_))) ?_
      intro _ H255; clear H253
      refine gw_evG H255 rfl rfl rfl rfl (on_t _) rfl (by decide) (fun h_ => (op_gtr rfl (ev_gv (H255.ev rfl) h_) (ev_c _ _))) ?_
      intro _ H257; clear H255
      refine V H257 (op_pick_and rfl (H257.ev rfl) (fun hp_ => (ev_gv (H257.ev rfl) hp_)) (ev_c _ _)) ?_
      intro _ H259; clear H257
      refine V H259 (op_move rfl (H259.ev rfl)) ?_
      intro _ H261; clear H259
      refine gw_evG H261 rfl rfl rfl rfl (on_t _) rfl (by decide) (fun h_ => (op_field (gwfld55_0 _ _) rfl (H261.ev rfl))) ?_
      intro _ H263; clear H261
      refine gw_evG H263 rfl rfl rfl rfl (on_t _) rfl (by decide) (fun h_ => (op_load1 gwagg5 rfl (ev_gv (H263.ev rfl) h_) (blk_at (O159.get 0 rfl) rfl))) ?_
      intro _ H265; clear H263
      refine gw_evG H265 rfl rfl rfl rfl (on_t _) rfl (by decide) (fun h_ => (op_conv_inb Tryz.underlying5 Tryz.underlying3 rfl (ev_gv (H265.ev rfl) h_) (by (try simp only [Bool.and_eq_true, Bool.or_eq_true, Bool.and_eq_false_iff, Bool.or_eq_false_iff, Bool.not_and, Bool.not_or, Bool.not_not, decide_eq_true_eq, decide_eq_false_iff_not, Bool.not_eq_true', Bool.not_eq_false', Bool.not_eq_true, Bool.not_eq_false, ne_eq, Decidable.not_not, Int.not_lt, Int.not_le, not_true_eq_false, not_false_eq_true, bne_iff_ne, beq_iff_eq, bne_eq_false_iff_eq, beq_eq_false_iff_ne] at h_); omega))) ?_
      intro _ H267; clear H265
      refine gw_evG H267 rfl rfl rfl rfl (on_t _) rfl (by decide) (fun h_ => (op_move rfl (H267.ev rfl))) ?_
      intro _ H269; clear H267
      refine gw_evG H269 rfl rfl rfl rfl (on_t _) rfl (by decide) (fun h_ => (op_leq rfl (ev_gv (H269.ev rfl) h_) (ev_gv (H269.ev rfl) h_))) ?_
      intro _ H271; clear H269
      refine V H271 (op_pick_and rfl (H271.ev rfl) (fun hp_ => (ev_gv (H271.ev rfl) hp_)) (ev_c _ _)) ?_
      intro _ H273; clear H271
      refine V H273 (op_assign rfl (H273.ev rfl)) ?_
      intro _ H275; clear H273
      refine gE hK245 ?_
      refine gw_cond H275 rfl (fun hb276 => ?_) (fun hb276 => ?_)
      ·
       have H277 := H275.subst_ (d := 58) (b := true) rfl hb276
       clear H275
       (try simp only [Bool.and_eq_true, Bool.and_eq_false_iff, Bool.not_and, Bool.or_eq_true, Bool.or_eq_false_iff, Bool.not_or, Bool.not_not, Bool.not_eq_true', Bool.not_eq_false', Bool.not_eq_true, Bool.not_eq_false, decide_eq_true_eq, decide_eq_false_iff_not, Int.not_lt, Int.not_le] at hb276)
       obtain ⟨⟨hnf_, hg1_⟩, hg2_⟩ := hb276
       obtain ⟨ad278, hA279⟩ := row_head (O159.get 1 rfl) ((o.length : Int) - 1) (by omega) (by omega)
       subst hA279
       refine gx_draw (M := [Bk g150 [.int .u8 ((ys.getD p.toNat z55).f0), .int .u8 ((ys.getD p.toNat z55).f1)] 55, Chunk.row k55 55 w.heap.size So (.slice (some ad278) o.length co) o, Chunk.viewAt w126 k55 Sa Aa ys.length ca ys]) (fun j_ => j_ == 12) O159 (by kernel_rfl) fun w280 O281 => ?_
       clear O159
       refine gx_take 0 rfl (by kernel_rfl) H277 (by exact O281.sel [0, 1, 2] (by decide)) (want_none rfl) rfl (by decide) (fun wq HO => (op_move rfl (H277.ev rfl))) ?_
       intro _ H283; clear H277
       refine gx_take 1 rfl (by kernel_rfl) H283 (by exact O281.sel [0, 1, 2] (by decide)) (want_none rfl) rfl (by decide) (fun wq HO => (op_move rfl (H283.ev rfl))) ?_
       intro _ H285; clear H283
       refine gx_take 2 rfl (by kernel_rfl) H285 (by exact O281.sel [0, 1, 2] (by decide)) (want_none rfl) rfl (by decide) (fun wq HO => (op_move rfl (H285.ev rfl))) ?_
       intro _ H287; clear H285
       refine gx_take 3 rfl (by kernel_rfl) H287 (by exact O281.sel [0, 1, 2] (by decide)) (want_none rfl) rfl (by decide) (fun wq HO => (op_move rfl (H287.ev rfl))) ?_
       intro _ H289; clear H287
       refine gx_take 4 rfl (by kernel_rfl) H289 (by exact O281.sel [0, 1, 2] (by decide)) (want_none rfl) rfl (by decide) (fun wq HO => (op_index Tryz.underlying23 gwsiz55 rfl (H289.ev rfl) (H289.ev rfl) rfl (⟨by omega, by omega⟩))) ?_
       intro _ H294; clear H289
       refine gx_take 5 rfl (by kernel_rfl) H294 (by exact O281.sel [0, 1, 2] (by decide)) (want_none rfl) rfl (by decide) (fun wq HO => (op_field (gwflda55_1 _) rfl (H294.ev rfl))) ?_
       intro _ H296; clear H294
       refine gx_take 6 rfl (by kernel_rfl) H296 (by exact O281.sel [0, 1, 2] (by decide)) (want_none rfl) rfl (by decide) (fun wq HO => (op_load1 gwagg5 rfl (H296.ev rfl) (((rowf_cells (z := z55) (HO.get 1 rfl) ((o.length : Int) - 1) (by omega) (by omega) (fun _ _ h_ => k55_open h_)) 1 _ rfl)))) ?_
       intro _ H298; clear H296
       refine gx_take 7 rfl (by kernel_rfl) H298 (by exact O281.sel [0, 1, 2] (by decide)) (want_none rfl) rfl (by decide) (fun wq HO => (op_field (gwfld55_1 _ _) rfl (H298.ev rfl))) ?_
       intro _ H300; clear H298
       refine gx_take 8 rfl (by kernel_rfl) H300 (by exact O281.sel [0, 1, 2] (by decide)) (want_none rfl) rfl (by decide) (fun wq HO => (op_load1 gwagg5 rfl (H300.ev rfl) (blk_at (HO.get 0 rfl) rfl))) ?_
       intro _ H302; clear H300
       refine gx_take 9 rfl (by kernel_rfl) H302 (by exact O281.sel [0, 1, 2] (by decide)) (want_none rfl) rfl (by decide) (fun wq HO => (op_max rfl (H302.ev rfl) (H302.ev rfl))) ?_
       intro _ H304; clear H302
       refine gx_step 10 rfl (by kernel_rfl) ?_
       refine V H304 (op_index Tryz.underlying23 gwsiz55 rfl (H304.ev rfl) (H304.ev rfl) rfl (⟨by omega, by omega⟩)) ?_
       intro _ H309; clear H304
       refine gx_on (i := 10) (B := (fun j_ => j_ == 12)) (fun _ => (by exact O281.sel [0, 1, 2] (by decide))) ?_
       refine gx_take 11 rfl (by kernel_rfl) H309 (by exact O281.sel [0, 1, 2] (by decide)) (want_none rfl) rfl (by decide) (fun wq HO => (op_field (gwflda55_1 _) rfl (H309.ev rfl))) ?_
       intro _ H311; clear H309
       refine gx_step 12 rfl (by kernel_rfl) ?_
       refine gw_rowf flatR z55 (⟨(o.getD ((o.length : Int) - 1).toNat z55).f0, mx ((o.getD ((o.length : Int) - 1).toNat z55).f1) ((ys.getD p.toNat z55).f1)⟩ : S55) 1 1 H311 O281 rfl (want_none rfl) rfl gwsiz5 (by omega) (by omega) (by show 1 < 2; decide) rfl (H311.ev rfl) (H311.ev rfl) rfl rfl ?_
       intro _ w314 H313 O315; clear H311 O281
       have O316 : Own w w314 [Bk g150 [.int .u8 ((ys.getD p.toNat z55).f0), .int .u8 ((ys.getD p.toNat z55).f1)] 55, Chunk.row k55 55 w.heap.size So (.slice (some ad278) o.length co) (o.set ((o.length : Int) - 1).toNat (⟨(o.getD ((o.length : Int) - 1).toNat z55).f0, mx ((o.getD ((o.length : Int) - 1).toNat z55).f1) ((ys.getD p.toNat z55).f1)⟩ : S55)), Chunk.viewAt w126 k55 Sa Aa ys.length ca ys] := O315
       clear O315
       refine gx_on (i := 12) (B := (fun j_ => j_ == 12)) (fun h_ => by cases h_) ?_
       refine gx_done (by kernel_rfl) ?_
       refine gw_blk ?_
       refine gw_nx (hK169 _ _ ?_)
       refine wp_region_lit ?_
       refine V H313 (op_move rfl (H313.ev rfl)) ?_
       intro _ H318; clear H313
       refine V H318 (op_field (gwfld55_1 _ _) rfl (H318.ev rfl)) ?_
       intro _ H320; clear H318
       refine V H320 (op_load1 gwagg5 rfl (H320.ev rfl) (blk_at (O316.get 0 rfl) rfl)) ?_
       intro _ H322; clear H320
       refine V H322 (op_conv_inb Tryz.underlying5 Tryz.underlying3 rfl (H322.ev rfl) (by omega)) ?_
       intro _ H324; clear H322
       refine V H324 (op_add rfl (H324.ev rfl) (ev_c _ _) (by omega)) ?_
       intro _ H326; clear H324
       refine V H326 (op_max rfl (H326.ev rfl) (H326.ev rfl)) ?_
       intro _ H328; clear H326
       refine V H328 (op_assign rfl (H328.ev rfl)) ?_
       intro _ H330; clear H328
       refine wpList_nil ?_
       refine gw_blk ?_
       refine gw_nx (hK136 _ _ ?_)
       refine wp_region_lit ?_
       refine V H330 (op_add rfl (H330.ev rfl) (ev_c _ _) (by omega)) ?_
       intro _ H332; clear H330
       refine V H332 (op_move rfl (H332.ev rfl)) ?_
       intro _ H334; clear H332
       refine wpList_nil ?_
       have O335 := O316.unpin 2 rfl
       clear O316
       have O336 : Own w w314 [Bk g150 [.int .u8 ((ys.getD p.toNat z55).f0), .int .u8 ((ys.getD p.toNat z55).f1)] 55, Chunk.row k55 55 w.heap.size So (.slice (some ad278) o.length co) (o.set ((o.length : Int) - 1).toNat (⟨(o.getD ((o.length : Int) - 1).toNat z55).f0, mx ((o.getD ((o.length : Int) - 1).toNat z55).f1) ((ys.getD p.toNat z55).f1)⟩ : S55)), Chunk.view k55 Sa Aa ys.length ca ys] := O335
       clear O335
       refine gw_nx ⟨_, ?_, p + 1, (mx nx ((ys.getD p.toNat z55).f1 + 1)), (o.set ((o.length : Int) - 1).toNat (⟨(o.getD ((o.length : Int) - 1).toNat z55).f0, mx ((o.getD ((o.length : Int) - 1).toNat z55).f1) ((ys.getD p.toNat z55).f1)⟩ : S55)), (some ad278), _, _, _, (H334.pick (t := 33) rfl (H334.pick (t := 9) rfl (H334.pick (t := 6) rfl (H334.pick (t := 1) rfl (H334.pick (t := 4) rfl (H334.pick (t := 31) rfl (H334.pick (t := 32) rfl H334.nil))))))), O336.sel [1, 2] (by decide), ?_, ?_, ?_, rfl⟩
       ·
        rw [hm129]; omega
       ·
        omega
       ·
        exact sweep_grow hst rfl (by omega) (by omega) hnf_ hg1_ hg2_
       ·
        first | rfl | rw [List.length_set]
      ·
       have H337 := H275.subst_ (d := 58) (b := false) rfl hb276
       clear H275
       (try simp only [Bool.and_eq_true, Bool.and_eq_false_iff, Bool.not_and, Bool.or_eq_true, Bool.or_eq_false_iff, Bool.not_or, Bool.not_not, Bool.not_eq_true', Bool.not_eq_false', Bool.not_eq_true, Bool.not_eq_false, decide_eq_true_eq, decide_eq_false_iff_not, Int.not_lt, Int.not_le] at hb276)
       have hq58 := hb276
       refine gR fun K338 hK338 => ?_
       refine V H337 (op_move rfl (H337.ev rfl)) ?_
       intro _ H340; clear H337
       refine V H340 (op_not rfl (H340.ev rfl)) ?_
       intro _ H342; clear H340
       refine V H342 (op_assign rfl (H342.ev rfl)) ?_
       intro _ H344; clear H342
       refine gE hK338 ?_
       refine gw_cond H344 rfl (fun hb345 => ?_) (fun hb345 => ?_)
       ·
        have H346 := H344.subst_ (d := 85) (b := true) rfl hb345
        clear H344
        (try simp only [Bool.and_eq_true, Bool.and_eq_false_iff, Bool.not_and, Bool.or_eq_true, Bool.or_eq_false_iff, Bool.not_or, Bool.not_not, Bool.not_eq_true', Bool.not_eq_false', Bool.not_eq_true, Bool.not_eq_false] at hb345)
        have hnf_ : a1 = false := hb345
        have hg3_ : (o.length : Int) ≤ 0 ∨ nx < (ys.getD p.toNat z55).f0 := by rcases hq58 with (h_ | h_) | h_; (rw [hnf_] at h_; cases h_); (exact .inl h_); (exact .inr h_)
        refine wp_region_lit ?_
        refine V H346 (op_move rfl (H346.ev rfl)) ?_
        intro _ H348; clear H346
        refine V H348 (op_loadn gwagg55 gwsiz55 rfl (H348.ev rfl) (O159.get 0 rfl) rfl rfl) ?_
        intro _ H350; clear H348
        refine gw_news (O := .cells #[.int .u8 ((ys.getD p.toNat z55).f0), .int .u8 ((ys.getD p.toNat z55).f1)] 55 (0, 0)) (n := 1) H350 O159 (want_none rfl) rfl (by decide) (op_bslice (by kernel_rfl) rfl (pt_cons (H350.ev rfl) pt_nil)) ?_
        intro g351 _ w353 H354 O355; clear H350 O159
        have O356 : Own w w353 [Bk g351 [.int .u8 ((ys.getD p.toNat z55).f0), .int .u8 ((ys.getD p.toNat z55).f1)] 55, Bk g150 [.int .u8 ((ys.getD p.toNat z55).f0), .int .u8 ((ys.getD p.toNat z55).f1)] 55, Chunk.row k55 55 w.heap.size So (.slice Ao o.length co) o, Chunk.viewAt w126 k55 Sa Aa ys.length ca ys] := O355
        clear O355
        have O357 : Own w _ [Chunk.row k55 55 w.heap.size So (.slice Ao o.length co) o, Chunk.void, Bk g351 [.int .u8 ((ys.getD p.toNat z55).f0), .int .u8 ((ys.getD p.toNat z55).f1)] 55, Bk g150 [.int .u8 ((ys.getD p.toNat z55).f0), .int .u8 ((ys.getD p.toNat z55).f1)] 55, Chunk.viewAt w126 k55 Sa Aa ys.length ca ys] := O356.void.sel [3, 0, 1, 2, 4] (by decide)
        refine gw_append1 k55 0 (p := (⟨(ys.getD p.toNat z55).f0, (ys.getD p.toNat z55).f1⟩ : S55)) (cs := [.int .u8 ((ys.getD p.toNat z55).f0), .int .u8 ((ys.getD p.toNat z55).f1)]) H354 O357 (want_none rfl) rfl (by decide) rfl Tryz.underlying23 gwinfo55 rfl (by decide) (by decide) rfl (H354.ev rfl) (H354.ev rfl) (fun w_ h_ => k55_mkM w_ _ _ (⟨(ys.getD p.toNat z55).f0, (ys.getD p.toNat z55).f1⟩ : S55) ) O357.below.size (by omega) ?_
        intro A358 c359 S360 _ w362 H363 O364; clear H354 O356 O357
        have O365 : Own w w362 [Chunk.row k55 55 w.heap.size S360 (.slice A358 ((o ++ [(⟨(ys.getD p.toNat z55).f0, (ys.getD p.toNat z55).f1⟩ : S55)]).length) c359) (o ++ [(⟨(ys.getD p.toNat z55).f0, (ys.getD p.toNat z55).f1⟩ : S55)]), Bk g351 [.int .u8 ((ys.getD p.toNat z55).f0), .int .u8 ((ys.getD p.toNat z55).f1)] 55, Bk g150 [.int .u8 ((ys.getD p.toNat z55).f0), .int .u8 ((ys.getD p.toNat z55).f1)] 55, Chunk.viewAt w126 k55 Sa Aa ys.length ca ys] := O364
        clear O364
        refine V H363 (op_assign rfl (H363.ev rfl)) ?_
        intro _ H367; clear H363
        refine wpList_nil ?_
        refine gw_blk ?_
        refine gw_nx (hK169 _ _ ?_)
        refine wp_region_lit ?_
        refine V H367 (op_move rfl (H367.ev rfl)) ?_
        intro _ H369; clear H367
        refine V H369 (op_field (gwfld55_1 _ _) rfl (H369.ev rfl)) ?_
        intro _ H371; clear H369
        refine V H371 (op_load1 gwagg5 rfl (H371.ev rfl) (blk_at (O365.get 2 rfl) rfl)) ?_
        intro _ H373; clear H371
        refine V H373 (op_conv_inb Tryz.underlying5 Tryz.underlying3 rfl (H373.ev rfl) (by omega)) ?_
        intro _ H375; clear H373
        refine V H375 (op_add rfl (H375.ev rfl) (ev_c _ _) (by omega)) ?_
        intro _ H377; clear H375
        refine V H377 (op_max rfl (H377.ev rfl) (H377.ev rfl)) ?_
        intro _ H379; clear H377
        refine V H379 (op_assign rfl (H379.ev rfl)) ?_
        intro _ H381; clear H379
        refine wpList_nil ?_
        refine gw_blk ?_
        refine gw_nx (hK136 _ _ ?_)
        refine wp_region_lit ?_
        refine V H381 (op_add rfl (H381.ev rfl) (ev_c _ _) (by omega)) ?_
        intro _ H383; clear H381
        refine V H383 (op_move rfl (H383.ev rfl)) ?_
        intro _ H385; clear H383
        refine wpList_nil ?_
        have O386 := O365.unpin 3 rfl
        clear O365
        have O387 : Own w w362 [Chunk.row k55 55 w.heap.size S360 (.slice A358 ((o ++ [(⟨(ys.getD p.toNat z55).f0, (ys.getD p.toNat z55).f1⟩ : S55)]).length) c359) (o ++ [(⟨(ys.getD p.toNat z55).f0, (ys.getD p.toNat z55).f1⟩ : S55)]), Bk g351 [.int .u8 ((ys.getD p.toNat z55).f0), .int .u8 ((ys.getD p.toNat z55).f1)] 55, Bk g150 [.int .u8 ((ys.getD p.toNat z55).f0), .int .u8 ((ys.getD p.toNat z55).f1)] 55, Chunk.view k55 Sa Aa ys.length ca ys] := O386
        clear O386
        refine gw_nx ⟨_, ?_, p + 1, (mx nx ((ys.getD p.toNat z55).f1 + 1)), (o ++ [(⟨(ys.getD p.toNat z55).f0, (ys.getD p.toNat z55).f1⟩ : S55)]), A358, _, _, _, (H385.pick (t := 33) rfl (H385.pick (t := 9) rfl (H385.pick (t := 6) rfl (H385.pick (t := 1) rfl (H385.pick (t := 4) rfl (H385.pick (t := 31) rfl (H385.pick (t := 32) rfl H385.nil))))))), O387.sel [0, 3] (by decide), ?_, ?_, ?_, rfl⟩
        ·
         rw [hm129]; omega
        ·
         omega
        ·
         exact sweep_add hst rfl (by omega) (by omega) hnf_ hg3_
        ·
         first | rfl | rw [List.length_set]
       ·
        have H388 := H344.subst_ (d := 85) (b := false) rfl hb345
        clear H344
        (try simp only [Bool.and_eq_true, Bool.and_eq_false_iff, Bool.not_and, Bool.or_eq_true, Bool.or_eq_false_iff, Bool.not_or, Bool.not_not, Bool.not_eq_true', Bool.not_eq_false', Bool.not_eq_true, Bool.not_eq_false] at hb345)
        have hnt_ : a1 = true := hb345
        have hsk_ : a1 = false ∨ (ys.getD p.toNat z55).f0 ≤ nx := hq40
        refine wp_skip ?_
        refine gw_blk ?_
        refine gw_nx (hK169 _ _ ?_)
        refine wp_region_lit ?_
        refine V H388 (op_move rfl (H388.ev rfl)) ?_
        intro _ H390; clear H388
        refine V H390 (op_field (gwfld55_1 _ _) rfl (H390.ev rfl)) ?_
        intro _ H392; clear H390
        refine V H392 (op_load1 gwagg5 rfl (H392.ev rfl) (blk_at (O159.get 0 rfl) rfl)) ?_
        intro _ H394; clear H392
        refine V H394 (op_conv_inb Tryz.underlying5 Tryz.underlying3 rfl (H394.ev rfl) (by omega)) ?_
        intro _ H396; clear H394
        refine V H396 (op_add rfl (H396.ev rfl) (ev_c _ _) (by omega)) ?_
        intro _ H398; clear H396
        refine V H398 (op_max rfl (H398.ev rfl) (H398.ev rfl)) ?_
        intro _ H400; clear H398
        refine V H400 (op_assign rfl (H400.ev rfl)) ?_
        intro _ H402; clear H400
        refine wpList_nil ?_
        refine gw_blk ?_
        refine gw_nx (hK136 _ _ ?_)
        refine wp_region_lit ?_
        refine V H402 (op_add rfl (H402.ev rfl) (ev_c _ _) (by omega)) ?_
        intro _ H404; clear H402
        refine V H404 (op_move rfl (H404.ev rfl)) ?_
        intro _ H406; clear H404
        refine wpList_nil ?_
        have O407 := O159.unpin 2 rfl
        clear O159
        have O408 : Own w w158 [Bk g150 [.int .u8 ((ys.getD p.toNat z55).f0), .int .u8 ((ys.getD p.toNat z55).f1)] 55, Chunk.row k55 55 w.heap.size So (.slice Ao o.length co) o, Chunk.view k55 Sa Aa ys.length ca ys] := O407
        clear O407
        refine gw_nx ⟨_, ?_, p + 1, (mx nx ((ys.getD p.toNat z55).f1 + 1)), o, Ao, _, _, _, (H406.pick (t := 33) rfl (H406.pick (t := 9) rfl (H406.pick (t := 6) rfl (H406.pick (t := 1) rfl (H406.pick (t := 4) rfl (H406.pick (t := 31) rfl (H406.pick (t := 32) rfl H406.nil))))))), O408.sel [1, 2] (by decide), ?_, ?_, ?_, rfl⟩
        ·
         rw [hm129]; omega
        ·
         omega
        ·
         exact sweep_skip hst rfl (by omega) (by omega) hnt_ hsk_
        ·
         first | rfl | rw [List.length_set]
    ·
     have H409 := H132.subst_ (d := 34) (b := false) rfl hb134
     clear H132
     (try simp only [decide_eq_false_iff_not, Int.not_lt] at hb134)
     refine wp_exit ?_
     refine gw_thx ?_
     refine gw_thx ?_
     refine gw_in ?_
     refine gw_nx (hK115 _ _ ?_)
     refine gw_seq fun K410 hK410 => ?_
     refine gR fun K411 hK411 => ?_
     refine V H409 (op_move rfl (H409.ev rfl)) ?_
     intro _ H413; clear H409
     refine V H413 (op_move rfl (H413.ev rfl)) ?_
     intro _ H415; clear H413
     refine gw_evG H415 rfl rfl rfl rfl (on_t _) rfl (by decide) (fun h_ => (op_move rfl (H415.ev rfl))) ?_
     intro _ H417; clear H415
     refine gw_evG H417 rfl rfl rfl rfl (on_t _) rfl (by decide) (fun h_ => (op_lss rfl (ev_gv (H417.ev rfl) h_) (ev_c _ _))) ?_
     intro _ H419; clear H417
     refine V H419 (op_pick_and rfl (H419.ev rfl) (fun hp_ => (ev_gv (H419.ev rfl) hp_)) (ev_c _ _)) ?_
     intro _ H421; clear H419
     refine gE hK411 ?_
     refine gw_cond H421 rfl (fun hb422 => ?_) (fun hb422 => ?_)
     ·
      have H423 := H421.subst_ (d := 103) (b := true) rfl hb422
      clear H421
      (try simp only [Bool.and_eq_true, Bool.and_eq_false_iff, decide_eq_true_eq, decide_eq_false_iff_not, Int.not_lt] at hb422)
      obtain ⟨hn0, hn1, hol⟩ := swept_at hst hok hrise
      refine wp_region_lit ?_
      refine V H423 (op_move rfl (H423.ev rfl)) ?_
      intro _ H425; clear H423
      refine V H425 (op_move rfl (H425.ev rfl)) ?_
      intro _ H427; clear H425
      refine V H427 (op_conv_int Tryz.underlying3 Tryz.underlying5 rfl (H427.ev rfl)) ?_
      intro _ H429; clear H427
      have H430 := H429.conv (v' := .int .u8 nx) (congrArg (Value.int .u8) (wrap8 (by omega)))
      clear H429
      refine V H430 (op_build (cells := #[.int .u8 nx, .int .u8 255]) rfl (pt_cons (H430.ev rfl) (pt_cons (ev_c _ _) pt_nil)) (by kernel_rfl)) ?_
      intro _ H432; clear H430
      refine gw_news (O := .cells #[.int .u8 nx, .int .u8 255] 55 (0, 0)) (n := 1) H432 O128 (want_none rfl) rfl (by decide) (op_bslice (by kernel_rfl) rfl (pt_cons (H432.ev rfl) pt_nil)) ?_
      intro g433 _ w435 H436 O437; clear H432 O128
      have O438 : Own w w435 [Bk g433 [.int .u8 nx, .int .u8 255] 55, Chunk.row k55 55 w.heap.size So (.slice Ao o.length co) o, Chunk.view k55 Sa Aa ys.length ca ys] := O437
      clear O437
      have O439 : Own w _ [Chunk.row k55 55 w.heap.size So (.slice Ao o.length co) o, Chunk.void, Bk g433 [.int .u8 nx, .int .u8 255] 55, Chunk.view k55 Sa Aa ys.length ca ys] := O438.void.sel [2, 0, 1, 3] (by decide)
      refine gw_append1 k55 0 (p := (⟨nx, 255⟩ : S55)) (cs := [.int .u8 nx, .int .u8 255]) H436 O439 (want_none rfl) rfl (by decide) rfl Tryz.underlying23 gwinfo55 rfl (by decide) (by decide) rfl (H436.ev rfl) (H436.ev rfl) (fun w_ h_ => k55_mkM w_ _ _ (⟨nx, 255⟩ : S55) ) O439.below.size (by omega) ?_
      intro A440 c441 S442 _ w444 H445 O446; clear H436 O438 O439
      have O447 : Own w w444 [Chunk.row k55 55 w.heap.size S442 (.slice A440 ((o ++ [(⟨nx, 255⟩ : S55)]).length) c441) (o ++ [(⟨nx, 255⟩ : S55)]), Bk g433 [.int .u8 nx, .int .u8 255] 55, Chunk.view k55 Sa Aa ys.length ca ys] := O446
      clear O446
      refine V H445 (op_assign rfl (H445.ev rfl)) ?_
      intro _ H449; clear H445
      refine gE hK410 ?_
      refine gR fun K450 hK450 => ?_
      refine V H449 (op_move rfl (H449.ev rfl)) ?_
      intro _ H452; clear H449
      refine V H452 (op_assign rfl (H452.ev rfl)) ?_
      intro _ H454; clear H452
      refine gE hK450 ?_
      refine wp_ret ?_
      refine gw_ret1 H454 rfl rfl ?_
      have hfin := sweep_fin hb hperm hrise hst (by omega)
      rw [if_pos (by assumption)] at hfin
      exact ⟨_, rfl, by rw [← hfin]; exact Kd.R_mono (O447.get 0 rfl) (fun _ _ => trivial), O447.below⟩
     ·
      have H455 := H421.subst_ (d := 103) (b := false) rfl hb422
      clear H421
      (try simp only [Bool.and_eq_true, Bool.and_eq_false_iff, decide_eq_true_eq, decide_eq_false_iff_not, Int.not_lt] at hb422)
      have hq103 : ¬ (a1 = true ∧ nx < 256) := (by rcases hb422 with h_ | h_; (rw [h_]; simp); omega)
      refine wp_skip ?_
      refine gw_nx (hK410 _ _ ?_)
      refine gR fun K456 hK456 => ?_
      refine V H455 (op_move rfl (H455.ev rfl)) ?_
      intro _ H458; clear H455
      refine V H458 (op_assign rfl (H458.ev rfl)) ?_
      intro _ H460; clear H458
      refine gE hK456 ?_
      refine wp_ret ?_
      refine gw_ret1 H460 rfl rfl ?_
      have hfin := sweep_fin hb hperm hrise hst (by omega)
      rw [if_neg hq103] at hfin
      exact ⟨_, rfl, by rw [← hfin]; exact Kd.R_mono (O128.get 0 rfl) (fun _ _ => trivial), O128.below⟩
open Classical in
noncomputable def glob_Ranges.f (l0 : List S55) (a1 : Bool) : Option (List S55) := if (∀ r ∈ l0, 0 ≤ r.f0 ∧ r.f1 ≤ 255) ∧ l0.length ≤ 70368744177664 then some (canonP fun c => inR l0 c != a1) else none
theorem Ranges_out (A0 : Option Addr) (c0 : Nat) (l : List S55) (a1 : Bool) (w : World) (hr : Kd.C k55 w A0 l.length l) (hc : l.length ≤ c0) (hb : ∀ r ∈ l, 0 ≤ r.f0 ∧ r.f1 ≤ 255) (hl : l.length ≤ 70368744177664) :
    Calls Tryz.prog 36 #[.slice A0 l.length c0, .bool a1] w fun e w' => ∃ A c S, e = .returned (.slice A (canonP fun c_ => inR l c_ != a1).length c) ∧ Out w w' (fun _ => False) [Chunk.row k55 55 w.heap.size S (.slice A (canonP fun c_ => inR l c_ != a1).length c) (canonP fun c_ => inR l c_ != a1)] := by
  refine (Ranges_walk A0 c0 l a1 w hr hc hb hl).mono ?_
  rintro e w' ⟨v, rfl, hR, hB⟩
  obtain ⟨A, c, rfl⟩ := Kd.R_slice hR
  exact ⟨A, c, _, rfl, Out.row hR hB⟩
end GRanges_
export GRanges_ (Ranges_out Ranges_walk)
end Go.Proofs.YtelbgmpeghhakaaGreat.PA
end
