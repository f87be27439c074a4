/- A disk as plain data: its files by rising names; what each step makes of it. And a disk as a thing that a call owns. -/
import Derived.Test.YtkdahjnmldeklaaHMap
import Derived.Sort.KeysCollected
namespace Go.Proofs.Ytkdahjnmldeklaa.PA
open Go.RowKit Go.Maps Go.Proofs.YtkdahjnmldeklaaW.PrintWords Go.Proofs.YtkdahjnmldeklaaW.PrintLast Go.Proofs.YtkdahjnmldeklaaW.PrintMore
set_option linter.unusedVariables false
set_option linter.unusedSimpArgs false
def litS (s : ByteArray) : Lit := .string s.data.toList
theorem litS_inj {s t : ByteArray} (h : litS s = litS t) : s = t := by
  have : s.data.toList = t.data.toList := by injection h
  have := Array.toList_inj.1 this
  cases s; cases t; simp_all
theorem litS_same (s t : ByteArray) : (litS s).sameKey (litS t) = decide (s = t) := by
  show (s.data.toList == t.data.toList) = _
  by_cases h : s = t
  · subst h; simp
  · rw [decide_eq_false h]
    simp only [beq_eq_false_iff_ne, ne_eq]
    intro e
    exact h (litS_inj (congrArg Lit.string e))
structure PF where
  nm : ByteArray
  b : List Int
  sf : Int
structure PD where
  fs : List PF
  most : Int
  used : Int
  fuse : Int
  down : Bool
/-- A file with the places where it lies. -/
structure XF where
  p : PF
  g : Nat
  A : Option Addr
  c : Nat
  S : Nat → Prop
def XF.ent (x : XF) : Lit × Value := (litS x.p.nm, .pointer (some ⟨x.g, 0, none⟩))
def getF (nm : ByteArray) (fs : List PF) : Option PF := fs.find? fun f => decide (f.nm = nm)
def updF (nm : ByteArray) (h : PF → PF) (fs : List PF) : List PF := fs.map fun f => if f.nm = nm then h f else f
def delF (nm : ByteArray) (fs : List PF) : List PF := fs.filter fun f => !decide (f.nm = nm)
def insF (f : PF) : List PF → List PF
  | [] => [f]
  | y :: r => if (litS f.nm).before (litS y.nm) then f :: y :: r else y :: insF f r
def insX (x : XF) : List XF → List XF
  | [] => [x]
  | y :: r => if (litS x.p.nm).before (litS y.p.nm) then x :: y :: r else y :: insX x r
theorem insX_p (x : XF) : ∀ l, (insX x l).map XF.p = insF x.p (l.map XF.p)
  | [] => rfl
  | y :: r => by
    unfold insX
    rw [List.map_cons, insF]
    split
    · rfl
    · rw [List.map_cons, insX_p x r]
theorem insX_ent (x : XF) : ∀ l, (insX x l).map XF.ent = linsert x.ent (l.map XF.ent)
  | [] => rfl
  | y :: r => by
    unfold insX
    rw [List.map_cons, linsert]
    show _ = if (litS x.p.nm).before (litS y.p.nm) then _ else _
    split
    · rfl
    · rw [List.map_cons, insX_ent x r]
theorem insX_perm (x : XF) : ∀ l, (insX x l).Perm (x :: l)
  | [] => List.Perm.refl _
  | y :: r => by
    unfold insX
    split
    · exact List.Perm.refl _
    · exact ((insX_perm x r).cons y).trans (List.Perm.swap x y r)
def delX (nm : ByteArray) (xs : List XF) : List XF := xs.filter fun x => !decide (x.p.nm = nm)
theorem delX_p (nm : ByteArray) (xs : List XF) : (delX nm xs).map XF.p = delF nm (xs.map XF.p) := by
  unfold delX delF
  rw [List.filter_map]
  rfl
theorem delX_ent (nm : ByteArray) (xs : List XF) : (delX nm xs).map XF.ent = ldel (litS nm) (xs.map XF.ent) := by
  unfold delX ldel
  rw [List.filter_map]
  congr 1
  refine List.filter_congr fun x _ => ?_
  show _ = !(litS x.p.nm).sameKey (litS nm)
  rw [litS_same]
/-- No name stands twice. -/
def onceX (xs : List XF) : Prop := xs.Pairwise fun x y => x.p.nm ≠ y.p.nm
theorem once_of_rising {xs : List XF} (h : risingL (xs.map XF.ent)) : onceX xs := by
  have := List.pairwise_map.1 h
  refine this.imp fun {x y} hb e => ?_
  have hb' : (litS x.p.nm).before (litS y.p.nm) = true := hb
  rw [e, Go.WideShapes.before_irrefl] at hb'
  cases hb'
/-- A name is there, once, or not. -/
theorem look_cases (nm : ByteArray) {xs : List XF} (h : onceX xs) : (lfind (litS nm) (xs.map XF.ent) = none ∧ getF nm (xs.map XF.p) = none ∧ ∀ x ∈ xs, x.p.nm ≠ nm) ∨
    ∃ pre x post, xs = pre ++ x :: post ∧ x.p.nm = nm ∧ lfind (litS nm) (xs.map XF.ent) = some (.pointer (some ⟨x.g, 0, none⟩)) ∧ getF nm (xs.map XF.p) = some x.p ∧ (∀ y ∈ pre ++ post, y.p.nm ≠ nm) := by
  have e1 : lfind (litS nm) (xs.map XF.ent) = (xs.find? fun x => decide (x.p.nm = nm)).map fun x => .pointer (some ⟨x.g, 0, none⟩) := by
    unfold lfind
    rw [List.find?_map, Option.map_map]
    congr 1
    congr 1
    funext x
    exact litS_same _ _
  have e2 : getF nm (xs.map XF.p) = (xs.find? fun x => decide (x.p.nm = nm)).map XF.p := by
    unfold getF
    rw [List.find?_map]
    rfl
  rw [e1, e2]
  cases hf : xs.find? fun x => decide (x.p.nm = nm) with
  | none =>
    refine .inl ⟨rfl, rfl, fun x hx => ?_⟩
    have := List.find?_eq_none.1 hf x hx
    simpa using this
  | some x =>
    obtain ⟨hx, pre, post, rfl, hpre⟩ := List.find?_eq_some_iff_append.1 hf
    have hx : x.p.nm = nm := by simpa using hx
    refine .inr ⟨pre, x, post, rfl, hx, rfl, rfl, fun y hy => ?_⟩
    rcases List.mem_append.1 hy with hy | hy
    · simpa using hpre y hy
    · obtain ⟨_, h2, _⟩ := List.pairwise_append.1 h
      have := (List.pairwise_cons.1 h2).1 y hy
      rw [hx] at this
      exact fun e => this e.symm
theorem upd_mid {nm : ByteArray} {h : PF → PF} {pre post : List XF} {x : XF} (hx : x.p.nm = nm) (ho : ∀ y ∈ pre ++ post, y.p.nm ≠ nm) : updF nm h ((pre ++ x :: post).map XF.p) = pre.map XF.p ++ h x.p :: post.map XF.p := by
  have hs : ∀ l : List XF, (∀ y ∈ l, y.p.nm ≠ nm) → updF nm h (l.map XF.p) = l.map XF.p := fun l hl => by
    unfold updF
    rw [List.map_map]
    exact List.map_congr_left fun y hy => if_neg (hl y hy)
  have e1 := hs pre fun y hy => ho y (List.mem_append_left _ hy)
  have e2 := hs post fun y hy => ho y (List.mem_append_right _ hy)
  unfold updF at e1 e2 ⊢
  rw [List.map_append, List.map_cons, List.map_append, List.map_cons, e1, e2, if_pos hx]
theorem delX_mid {nm : ByteArray} {pre post : List XF} {x : XF} (hx : x.p.nm = nm) (ho : ∀ y ∈ pre ++ post, y.p.nm ≠ nm) : delX nm (pre ++ x :: post) = pre ++ post := by
  have hs : ∀ l : List XF, (∀ y ∈ l, y.p.nm ≠ nm) → delX nm l = l := fun l hl => List.filter_eq_self.2 fun y hy => by simp [hl y hy]
  have e1 := hs pre fun y hy => ho y (List.mem_append_left _ hy)
  have e2 := hs post fun y hy => ho y (List.mem_append_right _ hy)
  unfold delX at e1 e2 ⊢
  rw [List.filter_append, List.filter_cons, e1, e2]
  simp [hx]
theorem delX_none {nm : ByteArray} {xs : List XF} (ho : ∀ y ∈ xs, y.p.nm ≠ nm) : delX nm xs = xs := List.filter_eq_self.2 fun y hy => by simp [ho y hy]
/-! ### the steps -/
def namedB (s : ByteArray) : Bool := decide (1 ≤ s.size) && decide (s.size ≤ 40)
def stepD (d : PD) (k : PD → PD) : PD × Int := if 0 < d.fuse then (if d.fuse = 1 then ({ d with fuse := 0, down := true }, 70) else (k { d with fuse := d.fuse - 1 }, 0)) else (k d, 0)
def newD (room : Int) : PD := ⟨[], mx room 0, 0, 0, false⟩
def createD (nm : ByteArray) (d : PD) : PD × Int :=
  if d.down = true then (d, 70) else if namedB nm = false then (d, 1) else if (getF nm d.fs).isSome = true then (d, 5) else stepD d fun d => { d with fs := insF ⟨nm, [], 0⟩ (delF nm d.fs) }
def withF (nm : ByteArray) (d : PD) (k : PF → PD × Int) : PD × Int := if d.down = true then (d, 70) else match getF nm d.fs with | none => (d, 4) | some f => k f
def appendD (nm : ByteArray) (y : List Int) (d : PD) : PD × Int :=
  withF nm d fun _ => if d.most - d.used < y.length then (d, 71) else stepD d fun d => { d with fs := updF nm (fun f => { f with b := f.b ++ y }) d.fs, used := d.used + y.length }
def syncD (nm : ByteArray) (d : PD) : PD × Int := withF nm d fun _ => stepD d fun d => { d with fs := updF nm (fun f => { f with sf := f.b.length }) d.fs }
def dropD (nm : ByteArray) (d : PD) : PD := match getF nm d.fs with | none => d | some f => { d with fs := delF nm d.fs, used := d.used - f.b.length }
def removeD (nm : ByteArray) (d : PD) : PD × Int := withF nm d fun _ => stepD d (dropD nm)
def renameD (from_ dest : ByteArray) (d : PD) : PD × Int :=
  if d.down = true then (d, 70) else if namedB dest = false then (d, 1) else match getF from_ d.fs with
    | none => (d, 4)
    | some f => stepD d fun d => if from_ = dest then d else { dropD dest d with fs := insF { f with nm := dest } (delF dest (delF from_ (dropD dest d).fs)) }
def cutD (nm : ByteArray) (n : Int) (d : PD) : PD × Int :=
  withF nm d fun f => if n < 0 ∨ (f.b.length : Int) < n then (d, 1) else stepD d fun d => { d with fs := updF nm (fun f => { f with b := f.b.take n.toNat, sf := mn f.sf n }) d.fs, used := d.used - (f.b.length - n) }
def crashF : List PF → List Int → List PF × Int
  | [], _ => ([], 0)
  | f :: r, keep =>
    if (f.b.length : Int) - f.sf = 0 then (f :: (crashF r keep).1, (crashF r keep).2)
    else
      let loose := (f.b.length : Int) - f.sf
      let n := match keep with | [] => 0 | k :: _ => mn (mx k 0) loose
      let q := crashF r (keep.drop 1)
      ({ f with b := f.b.take (f.sf + n).toNat, sf := f.sf + n } :: q.1, loose - n + q.2)
def crashD (keep : List Int) (d : PD) : PD := { d with down := false, fuse := 0, fs := (crashF d.fs keep).1, used := d.used - (crashF d.fs keep).2 }
def readD (nm : ByteArray) (d : PD) : List Int × Int := if d.down = true then ([], 70) else match getF nm d.fs with | none => ([], 4) | some f => (f.b, 0)
/-- What holds of every disk. -/
structure wfD (d : PD) : Prop where
  used : d.used = ((d.fs.map fun f => f.b.length).sum : Nat)
  most : d.used ≤ d.most ∧ d.most ≤ 9223372036854775807
  fuse : 0 ≤ d.fuse ∧ d.fuse ≤ 9223372036854775807
  sf : ∀ f ∈ d.fs, 0 ≤ f.sf ∧ f.sf ≤ f.b.length
  nm : ∀ f ∈ d.fs, f.nm.size ≤ 40
  ris : d.fs.Pairwise fun a b => (litS a.nm).before (litS b.nm) = true
/-! ### a disk in memory -/
def TFS : Nat := 76
def XF.cells (x : XF) : Array Value := #[.slice x.A x.p.b.length x.c, .int .i64 x.p.sf]
def Chunk.fblk (x : XF) : Chunk := Chunk.blk x.g (.cells x.cells 81 (0, 0))
def Chunk.frow (base : Nat) (x : XF) : Chunk := Chunk.row (Kd.int .u8) 5 base x.S (.slice x.A x.p.b.length x.c) x.p.b
def Chunk.file (base : Nat) (x : XF) : Chunk := Chunk.all [Chunk.fblk x, Chunk.frow base x]
def Chunk.files (base : Nat) (xs : List XF) : Chunk := Chunk.all (xs.map (Chunk.file base))
def dcells (gm : Nat) (d : PD) : Array Value := #[.map (some gm), .int .i64 d.most, .int .i64 d.used, .int .i64 d.fuse, .bool d.down]
def diskL (base gd gm : Nat) (d : PD) (xs : List XF) : List Chunk := [Chunk.blk gd (.cells (dcells gm d) 76 (0, 0)), Chunk.lmap Try.prog 9 gm (xs.map XF.ent), Chunk.files base xs]
/-- A disk. -/
def Chunk.disk (base gd : Nat) (S : Nat → Prop) (d : PD) : Chunk := ⟨S, fun w => ∃ gm xs, xs.map XF.p = d.fs ∧ (Chunk.all (diskL base gd gm d xs)).P w ∧ ∀ k, (Chunk.all (diskL base gd gm d xs)).S k → S k, fun h hm => by
  obtain ⟨gm, xs, h1, h2, h3⟩ := h
  exact ⟨gm, xs, h1, (Chunk.all _).move h2 (fun k hk => hm k (h3 k hk)), h3⟩⟩
theorem strKey : Keyed Try.prog 9 := string_keyed Try.underlying9
theorem keyS {s : ByteArray} (h : s.size ≤ 9223372036854775807) : keyOf Try.prog 9 (.string s) = some (litS s) := Go.WideMaps.keyOf_string_mk Try.underlying9 (by simpa only [maxLen] using h)
section
variable {w0 w : World} {base gd gm : Nat} {S : Nat → Prop} {d : PD} {L A B : List Chunk} {xs pre post : List XF} {x x' : XF}
theorem Own.perm (h : Own w0 w A) (hp : A.Perm B) : Own w0 w B :=
  ⟨h.below, fun c hc => h.holds c (hp.mem_iff.2 hc), fun c hc => h.inside c (hp.mem_iff.2 hc), (hp.pairwise_iff (fun {a b} hab => ap_symm a b hab)).1 h.apart⟩
theorem Own.allPerm (h : Own w0 w (Chunk.all A :: L)) (hp : A.Perm B) : Own w0 w (Chunk.all B :: L) := (h.unbundle.perm (hp.append_right L)).bundle
theorem all_S {k : Nat} : (Chunk.all A).S k ↔ ∃ c ∈ A, c.S k := Iff.rfl
theorem Own.disk_open (h : Own w0 w (Chunk.disk base gd S d :: L)) : ∃ gm xs, xs.map XF.p = d.fs ∧ onceX xs ∧ Own w0 w (diskL base gd gm d xs ++ L) := by
  obtain ⟨gm, xs, h1, h2, h3⟩ := h.get 0 rfl
  have h4 : Own w0 w (Chunk.all (diskL base gd gm d xs) :: L) := h.calls (cs := []) 0 rfl (Out.one (Out.refl w _) h2 fun k hk => ⟨.inl (h3 k hk), (h.lt 0 rfl (h3 k hk)).2⟩)
  have h5 := h4.unbundle
  exact ⟨gm, xs, h1, once_of_rising (lmap_rising strKey (h5.get 1 rfl)).1, h5⟩
theorem Own.disk_close (h : Own w0 w (diskL base gd gm d xs ++ L)) (hx : xs.map XF.p = d.fs) : ∃ S, Own w0 w (Chunk.disk base gd S d :: L) := by
  have h1 := h.bundle
  exact ⟨(Chunk.all (diskL base gd gm d xs)).S, h1.calls (cs := []) 0 rfl (Out.one (Out.refl w _) (c := Chunk.disk base gd (Chunk.all (diskL base gd gm d xs)).S d) ⟨gm, xs, hx, h1.get 0 rfl, fun k hk => hk⟩ fun k hk => ⟨.inl hk, (h1.lt 0 rfl hk).2⟩)⟩
/-- One file ahead of the others. -/
theorem Own.file_open (h : Own w0 w (Chunk.files base (pre ++ x :: post) :: L)) : Own w0 w (Chunk.fblk x :: Chunk.frow base x :: Chunk.files base (pre ++ post) :: L) := by
  have h1 : Own w0 w (Chunk.all (Chunk.file base x :: (pre ++ post).map (Chunk.file base)) :: L) := by
    refine Own.allPerm (A := (pre ++ x :: post).map (Chunk.file base)) h ?_
    rw [← List.map_cons]
    exact (List.perm_middle).map _
  have h2 : Own w0 w (Chunk.file base x :: ((pre ++ post).map (Chunk.file base) ++ L)) := h1.unbundle
  have h3 : Own w0 w ([Chunk.fblk x, Chunk.frow base x] ++ ((pre ++ post).map (Chunk.file base) ++ L)) := h2.unbundle
  have h4 : Own w0 w ((pre ++ post).map (Chunk.file base) ++ (Chunk.fblk x :: Chunk.frow base x :: L)) := h3.perm (by
    exact List.perm_append_comm_assoc [Chunk.fblk x, Chunk.frow base x] _ L)
  exact h4.bundle.perm ((List.Perm.swap _ _ _).trans ((List.Perm.swap _ _ _).cons _))
theorem Own.file_close (h : Own w0 w (Chunk.fblk x :: Chunk.frow base x :: Chunk.files base (pre ++ post) :: L)) : Own w0 w (Chunk.files base (pre ++ x :: post) :: L) := by
  have h1 : Own w0 w (Chunk.files base (pre ++ post) :: (Chunk.fblk x :: Chunk.frow base x :: L)) := h.perm (((List.Perm.swap _ _ _).cons _).trans (List.Perm.swap _ _ _))
  have h2 : Own w0 w ((pre ++ post).map (Chunk.file base) ++ (Chunk.fblk x :: Chunk.frow base x :: L)) := h1.unbundle
  have h3 : Own w0 w ([Chunk.fblk x, Chunk.frow base x] ++ ((pre ++ post).map (Chunk.file base) ++ L)) := h2.perm (by
    exact List.perm_append_comm_assoc _ [Chunk.fblk x, Chunk.frow base x] L)
  have h4 : Own w0 w (Chunk.file base x :: ((pre ++ post).map (Chunk.file base) ++ L)) := h3.bundle
  have h5 : Own w0 w (Chunk.all (Chunk.file base x :: (pre ++ post).map (Chunk.file base)) :: L) := Own.bundle (A := _ :: _) h4
  refine Own.allPerm h5 ?_
  rw [← List.map_cons]
  exact (List.perm_middle.symm).map _
theorem Own.files_perm {ys : List XF} (h : Own w0 w (Chunk.files base xs :: L)) (hp : xs.Perm ys) : Own w0 w (Chunk.files base ys :: L) := Own.allPerm h (hp.map _)
theorem Own.files_nil (h : Own w0 w L) (base : Nat) : Own w0 w (Chunk.files base [] :: L) :=
  h.fresh (cs := [_]) (Out.one (Out.refl w _) (c := Chunk.files base []) ⟨fun c hc => by simp at hc, by simp⟩ (fun k hk => by obtain ⟨c, hc, _⟩ := hk; simp at hc))
/-- A file that isn't held any more. -/
theorem Own.file_gone (h : Own w0 w (Chunk.fblk x :: Chunk.frow base x :: L)) : Own w0 w L := h.sub ((List.sublist_cons_self _ _).trans (List.sublist_cons_self _ _))
theorem Own.row_take {α : Type} {d : Kd α} {e base n c : Nat} {S : Nat → Prop} {A : Option Addr} {xs : List α} (h : Own w0 w L) (i : Nat) (hi : L[i]? = some (Chunk.row d e base S (.slice A n c) xs)) (m : Nat) (hm : m ≤ xs.length) : Own w0 w (L.set i (Chunk.row d e base S (.slice A m c) (xs.take m))) :=
  h.mapc i hi (fun _ hk => hk) (fun _ hr => Kd.R_take hr hm)
end
end Go.Proofs.Ytkdahjnmldeklaa.PA
