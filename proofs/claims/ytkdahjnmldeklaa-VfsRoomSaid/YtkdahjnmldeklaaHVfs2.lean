/- What a step of a disk comes to, case by case; a disk put together again. -/
import Derived.Test.YtkdahjnmldeklaaHVfs
import Derived.Test.YtkdahjnmldeklaaHPan
namespace Go.Proofs.Ytkdahjnmldeklaa.PA
open Go.RowKit Go.Maps Go.Proofs.YtkdahjnmldeklaaW.PrintWords Go.Proofs.YtkdahjnmldeklaaW.PrintLast Go.Proofs.YtkdahjnmldeklaaW.PrintMore
set_option linter.unusedVariables false
set_option linter.unusedSimpArgs false
theorem named_i (s : ByteArray) : (decide ((1 : Int) ≤ (s.size : Int)) && decide ((s.size : Int) ≤ 40)) = namedB s := by
  unfold namedB
  congr 1 <;> (rw [decide_eq_decide]; omega)
def decF (n : Int) : Int := if 0 < n then n - 1 else n
section
variable {d : PD} {k : PD → PD} {nm to_ : ByteArray} {f : PF} {y : List Int} {n : Int} {q : PF → PD × Int}
theorem step_off (h : d.fuse = 1) : stepD d k = ({ d with fuse := 0, down := true }, 70) := by
  unfold stepD
  rw [if_pos (by omega), if_pos h]
theorem step_on (h : d.fuse ≠ 1) (h0 : 0 ≤ d.fuse) : stepD d k = (k { d with fuse := decF d.fuse }, 0) := by
  unfold stepD decF
  by_cases h1 : 0 < d.fuse
  · rw [if_pos h1, if_neg h, if_pos h1]
  · rw [if_neg h1, if_neg h1]
theorem create_down (h : d.down = true) : createD nm d = (d, 70) := if_pos h
theorem create_bad (h : d.down = false) (hb : namedB nm = false) : createD nm d = (d, 1) := by
  unfold createD
  rw [if_neg (by simp [h]), if_pos hb]
theorem create_twice (h : d.down = false) (hb : namedB nm = true) (hg : getF nm d.fs = some f) : createD nm d = (d, 5) := by
  unfold createD
  rw [if_neg (by simp [h]), if_neg (by simp [hb]), if_pos (by rw [hg]; rfl)]
theorem create_go (h : d.down = false) (hb : namedB nm = true) (hg : getF nm d.fs = none) : createD nm d = stepD d fun d => { d with fs := insF ⟨nm, [], 0⟩ (delF nm d.fs) } := by
  unfold createD
  rw [if_neg (by simp [h]), if_neg (by simp [hb]), if_neg (by simp [hg])]
theorem with_down (h : d.down = true) : withF nm d q = (d, 70) := if_pos h
theorem with_none (h : d.down = false) (hg : getF nm d.fs = none) : withF nm d q = (d, 4) := by
  unfold withF
  rw [if_neg (by simp [h]), hg]
theorem with_some (h : d.down = false) (hg : getF nm d.fs = some f) : withF nm d q = q f := by
  unfold withF
  rw [if_neg (by simp [h]), hg]
theorem append_full (h : d.down = false) (hg : getF nm d.fs = some f) (hr : d.most - d.used < y.length) : appendD nm y d = (d, 71) := (with_some h hg).trans (if_pos hr)
theorem append_go (h : d.down = false) (hg : getF nm d.fs = some f) (hr : ¬ d.most - d.used < y.length) : appendD nm y d = stepD d fun d => { d with fs := updF nm (fun f => { f with b := f.b ++ y }) d.fs, used := d.used + y.length } := (with_some h hg).trans (if_neg hr)
theorem sync_go (h : d.down = false) (hg : getF nm d.fs = some f) : syncD nm d = stepD d fun d => { d with fs := updF nm (fun f => { f with sf := f.b.length }) d.fs } := with_some h hg
theorem cut_bad (h : d.down = false) (hg : getF nm d.fs = some f) (hn : n < 0 ∨ (f.b.length : Int) < n) : cutD nm n d = (d, 1) := (with_some h hg).trans (if_pos hn)
theorem cut_go (h : d.down = false) (hg : getF nm d.fs = some f) (hn : ¬ (n < 0 ∨ (f.b.length : Int) < n)) : cutD nm n d = stepD d fun d => { d with fs := updF nm (fun f => { f with b := f.b.take n.toNat, sf := mn f.sf n }) d.fs, used := d.used - (f.b.length - n) } := (with_some h hg).trans (if_neg hn)
theorem remove_go (h : d.down = false) (hg : getF nm d.fs = some f) : removeD nm d = stepD d (dropD nm) := with_some h hg
theorem rename_down (h : d.down = true) : renameD nm to_ d = (d, 70) := if_pos h
theorem rename_bad (h : d.down = false) (hb : namedB to_ = false) : renameD nm to_ d = (d, 1) := by
  unfold renameD
  rw [if_neg (by simp [h]), if_pos hb]
theorem rename_none (h : d.down = false) (hb : namedB to_ = true) (hg : getF nm d.fs = none) : renameD nm to_ d = (d, 4) := by
  unfold renameD
  rw [if_neg (by simp [h]), if_neg (by simp [hb]), hg]
def renK (nm to_ : ByteArray) (f : PF) (d : PD) : PD := if nm = to_ then d else { dropD to_ d with fs := insF { f with nm := to_ } (delF to_ (delF nm (dropD to_ d).fs)) }
theorem rename_go (h : d.down = false) (hb : namedB to_ = true) (hg : getF nm d.fs = some f) : renameD nm to_ d = stepD d (renK nm to_ f) := by
  unfold renameD
  rw [if_neg (by simp [h]), if_neg (by simp [hb]), hg]
  rfl
theorem drop_none (hg : getF nm d.fs = none) : dropD nm d = d := by
  unfold dropD
  rw [hg]
theorem drop_some (hg : getF nm d.fs = some f) : dropD nm d = { d with fs := delF nm d.fs, used := d.used - f.b.length } := by
  unfold dropD
  rw [hg]
end
section
variable {w0 w : World} {base gd gm : Nat} {S : Nat → Prop} {d d' : PD} {R : Chunk} {xs : List XF} {r : PD × Int} {c : Int}
theorem disk_open2 (h : Own w0 w [R, Chunk.disk base gd S d]) : ∃ gm xs, xs.map XF.p = d.fs ∧ onceX xs ∧ Own w0 w (R :: diskL base gd gm d xs) := by
  obtain ⟨gm, xs, h1, h2, h3⟩ := Own.disk_open (L := [R]) (h.sel [1, 0] (by decide))
  exact ⟨gm, xs, h1, h2, h3.sel [3, 0, 1, 2] (by decide)⟩
theorem disk_close2 (hx : xs.map XF.p = d.fs) (h : Own w0 w (R :: diskL base gd gm d xs)) : ∃ S, Own w0 w [R, Chunk.disk base gd S d] := by
  obtain ⟨S, h1⟩ := Own.disk_close (L := [R]) (d := d) (xs := xs) (gm := gm) (gd := gd) (base := base) (h.sel [1, 2, 3, 0] (by decide)) hx
  exact ⟨S, h1.sel [1, 0] (by decide)⟩
theorem disk_fin (hr : r = (d', c)) (hx : xs.map XF.p = d'.fs) (h : Own w0 w (R :: diskL base gd gm d' xs)) : (Ending.returned (.int .i64 c) = Ending.returned (.int .i64 r.2)) ∧ ∃ S, Own w0 w [R, Chunk.disk base gd S r.1] := by
  rw [hr]
  exact ⟨rfl, disk_close2 hx h⟩
theorem look3 (nm : ByteArray) (d : PD) {xs : List XF} (hx : xs.map XF.p = d.fs) (h : onceX xs) : d.down = true ∨ (d.down = false ∧ lfind (litS nm) (xs.map XF.ent) = none ∧ getF nm d.fs = none ∧ ∀ x ∈ xs, x.p.nm ≠ nm) ∨
    (d.down = false ∧ ∃ pre x post, xs = pre ++ x :: post ∧ x.p.nm = nm ∧ lfind (litS nm) (xs.map XF.ent) = some (.pointer (some ⟨x.g, 0, none⟩)) ∧ getF nm d.fs = some x.p ∧ (∀ y ∈ pre ++ post, y.p.nm ≠ nm)) := by
  cases hd : d.down
  · rw [← hx]
    rcases look_cases nm h with h1 | h1
    · exact .inr (.inl ⟨rfl, h1⟩)
    · exact .inr (.inr ⟨rfl, h1⟩)
  · exact .inl rfl
theorem delF_eq (nm : ByteArray) {xs : List XF} {fs : List PF} (h : xs.map XF.p = fs) : (delX nm xs).map XF.p = delF nm fs := by rw [delX_p, h]
theorem once_del {xs : List XF} (h : onceX xs) (nm : ByteArray) : onceX (delX nm xs) := h.sublist List.filter_sublist
theorem drop_fs {xs : List XF} {d : PD} {nm : ByteArray} (hx : xs.map XF.p = d.fs) : (delX nm xs).map XF.p = (dropD nm d).fs := by
  unfold dropD
  cases hg : getF nm d.fs with
  | none =>
    have : ∀ f ∈ d.fs, f.nm ≠ nm := fun f hf => by simpa using List.find?_eq_none.1 hg f hf
    rw [delX_p, hx]
    exact List.filter_eq_self.2 fun f hf => by simp [this f hf]
  | some f => exact delF_eq nm hx
/-- The file x gets another name: it lies where it lay. -/
theorem rename_files {w0 w : World} {base : Nat} {L : List Chunk} {xs : List XF} {x : XF} {from_ dest : ByteArray} (hon : onceX xs) (hx : x ∈ xs) (hf : x.p.nm = from_) (hne : from_ ≠ dest) (h : Own w0 w (Chunk.files base (delX dest xs) :: L)) :
    Own w0 w (Chunk.files base (insX ⟨⟨dest, x.p.b, x.p.sf⟩, x.g, x.A, x.c, x.S⟩ (delX dest (delX from_ (delX dest xs)))) :: L) := by
  have hm : x ∈ delX dest xs := List.mem_filter.2 ⟨hx, by simp [hf, hne]⟩
  have ho := once_del hon dest
  obtain ⟨pre, post, e⟩ := List.append_of_mem hm
  rw [e] at h ho
  have hoth : ∀ y ∈ pre ++ post, y.p.nm ≠ from_ := by
    intro y hy
    obtain ⟨_, h2, h3⟩ := List.pairwise_append.1 ho
    rcases List.mem_append.1 hy with hy | hy
    · have := h3 y hy x (List.mem_cons_self ..)
      rwa [hf] at this
    · have := (List.pairwise_cons.1 h2).1 y hy
      rw [hf] at this
      exact fun e => this e.symm
  have e2 : delX dest (delX from_ (delX dest xs)) = pre ++ post := by
    rw [e, delX_mid hf hoth]
    refine delX_none fun y hy => ?_
    have : y ∈ delX dest xs := by
      rw [e]
      rcases List.mem_append.1 hy with hy | hy
      · exact List.mem_append_left _ hy
      · exact List.mem_append_right _ (List.mem_cons_of_mem _ hy)
    simpa using (List.mem_filter.1 this).2
  rw [e2]
  have h1 := Own.files_perm h (List.perm_middle (a := x) (l₁ := pre) (l₂ := post))
  have h2 : Own w0 w (Chunk.files base ((⟨⟨dest, x.p.b, x.p.sf⟩, x.g, x.A, x.c, x.S⟩ : XF) :: (pre ++ post)) :: L) := h1
  exact Own.files_perm h2 (insX_perm _ _).symm
theorem total_mid {pre post : List PF} {f : PF} : ((pre ++ f :: post).map fun f => f.b.length).sum = ((pre ++ post).map fun f => f.b.length).sum + f.b.length := by
  simp only [List.map_append, List.map_cons, List.sum_append, List.sum_cons]
  omega
theorem wf_len (h : wfD d) {f : PF} (hf : f ∈ d.fs) : (f.b.length : Int) ≤ d.used := by
  obtain ⟨pre, post, e⟩ := List.append_of_mem hf
  have := h.used
  rw [e, total_mid] at this
  omega
theorem getF_mem {nm : ByteArray} {fs : List PF} {f : PF} (h : getF nm fs = some f) : f ∈ fs ∧ f.nm = nm := by
  refine ⟨List.mem_of_find?_eq_some h, ?_⟩
  simpa using List.find?_some h
end
theorem bytes_ext {s t : ByteArray} (h : s.toList = t.toList) : s = t := by
  rw [ByteArray.toList_eq, ByteArray.toList_eq] at h
  exact litS_inj (congrArg Lit.string h)
theorem Own.row_takeL {α : Type} {d : Kd α} {e base n c : Nat} {S : Nat → Prop} {A : Option Addr} {xs : List α} {w0 w : World} {L : List Chunk} (h : Own w0 w L) (i : Nat) (hi : L[i]? = some (Chunk.row d e base S (.slice A n c) xs)) (m : Nat) (hm : m ≤ xs.length) : Own w0 w (L.set i (Chunk.row d e base S (.slice A (xs.take m).length c) (xs.take m))) := by
  have := h.row_take i hi m hm
  rwa [show (xs.take m).length = m by rw [List.length_take]; omega]
/-- What isn't changed is told at the world that stands. -/
theorem disk_blk {base gd : Nat} {S : Nat → Prop} {d : PD} {w : World} (h : (Chunk.disk base gd S d).P w) : ∃ gm xs, xs.map XF.p = d.fs ∧ onceX xs ∧ w.heap[gd]? = some (.cells (dcells gm d) 76 (0, 0)) ∧ (Chunk.lmap Try.prog 9 gm (xs.map XF.ent)).P w ∧ ∀ x ∈ xs, w.heap[x.g]? = some (.cells x.cells 81 (0, 0)) ∧ (Kd.int .u8).C w x.A x.p.b.length x.p.b ∧ x.p.b.length ≤ x.c := by
  obtain ⟨gm, xs, h1, h2, h3⟩ := h
  have hl : (Chunk.lmap Try.prog 9 gm (xs.map XF.ent)).P w := h2.1 _ (by simp [diskL])
  refine ⟨gm, xs, h1, once_of_rising (lmap_rising strKey hl).1, h2.1 (Chunk.blk gd _) (by simp [diskL]), hl, fun x hx => ?_⟩
  have hf : (Chunk.files base xs).P w := h2.1 _ (by simp [diskL])
  have hx2 : (Chunk.file base x).P w := hf.1 _ (List.mem_map_of_mem hx)
  have hr : (Kd.int .u8).R 5 w base x.S (.slice x.A x.p.b.length x.c) x.p.b := hx2.1 (Chunk.frow base x) (by simp)
  exact ⟨hx2.1 (Chunk.fblk x) (by simp), (Kd.R_reads' hr).2.2, row_cap hr⟩
theorem read_down {d : PD} {nm : ByteArray} (h : d.down = true) : readD nm d = ([], 70) := if_pos h
theorem read_none {d : PD} {nm : ByteArray} (h : d.down = false) (hg : getF nm d.fs = none) : readD nm d = ([], 4) := by
  unfold readD
  rw [if_neg (by simp [h]), hg]
theorem read_some {d : PD} {nm : ByteArray} {f : PF} (h : d.down = false) (hg : getF nm d.fs = some f) : readD nm d = (f.b, 0) := by
  unfold readD
  rw [if_neg (by simp [h]), hg]
def namesD (d : PD) : List ByteArray := d.fs.map PF.nm
def keepN (kl : List Int) (loose : Int) : Int := match kl with | [] => 0 | k :: _ => mn (mx k 0) loose
theorem crash_nil (kl : List Int) : crashF [] kl = ([], 0) := rfl
theorem crash_keep {f : PF} {r : List PF} {kl : List Int} (h : (f.b.length : Int) - f.sf = 0) : crashF (f :: r) kl = (f :: (crashF r kl).1, (crashF r kl).2) := by
  rw [crashF, if_pos h]
theorem crash_cut {f : PF} {r : List PF} {kl : List Int} (h : ¬ (f.b.length : Int) - f.sf = 0) : crashF (f :: r) kl = ({ f with b := f.b.take (f.sf + keepN kl ((f.b.length : Int) - f.sf)).toNat, sf := f.sf + keepN kl ((f.b.length : Int) - f.sf) } :: (crashF r (kl.drop 1)).1, (f.b.length : Int) - f.sf - keepN kl ((f.b.length : Int) - f.sf) + (crashF r (kl.drop 1)).2) := by
  rw [crashF, if_neg h]
  rfl
theorem keepN_in (kl : List Int) {loose : Int} (h : 0 ≤ loose) : 0 ≤ keepN kl loose ∧ keepN kl loose ≤ loose := by
  unfold keepN
  split
  · omega
  · unfold mn mx
    (repeat' split) <;> omega
theorem crash_used : ∀ (fs : List PF) (kl : List Int), (∀ f ∈ fs, 0 ≤ f.sf ∧ f.sf ≤ f.b.length) → 0 ≤ (crashF fs kl).2
  | [], _, _ => Int.le_refl _
  | f :: r, kl, h => by
    have h1 := h f (List.mem_cons_self ..)
    have hr : ∀ kl, 0 ≤ (crashF r kl).2 := fun kl => crash_used r kl fun g hg => h g (List.mem_cons_of_mem _ hg)
    by_cases hl : (f.b.length : Int) - f.sf = 0
    · rw [crash_keep hl]; exact hr kl
    · rw [crash_cut hl]
      have := keepN_in kl (loose := (f.b.length : Int) - f.sf) (by omega)
      have := hr (kl.drop 1)
      show 0 ≤ _ + _
      omega
theorem totalX_mid {pre post : List XF} {f : XF} : ((pre ++ f :: post).map fun f => f.p.b.length).sum = ((pre ++ post).map fun f => f.p.b.length).sum + f.p.b.length := by
  simp only [List.map_append, List.map_cons, List.sum_append, List.sum_cons]
  omega
theorem look_mid {pre post : List XF} {x : XF} (h : onceX (pre ++ x :: post)) : lfind (litS x.p.nm) ((pre ++ x :: post).map XF.ent) = some (.pointer (some ⟨x.g, 0, none⟩)) := by
  have hp : ∀ y ∈ pre, y.p.nm ≠ x.p.nm := fun y hy => (List.pairwise_append.1 h).2.2 y hy x (List.mem_cons_self ..)
  unfold lfind
  rw [List.find?_map, List.find?_append]
  have e1 : pre.find? ((fun p => p.1.sameKey (litS x.p.nm)) ∘ XF.ent) = none := List.find?_eq_none.2 fun y hy => by
    show ¬ (litS y.p.nm).sameKey (litS x.p.nm) = true
    rw [litS_same]
    simpa using hp y hy
  have e2 : ((fun p => p.1.sameKey (litS x.p.nm)) ∘ XF.ent) x = true := by
    show (litS x.p.nm).sameKey (litS x.p.nm) = true
    rw [litS_same]
    simp
  rw [e1, List.find?_cons_of_pos e2]
  rfl
theorem once_same {pre post : List XF} {x y : XF} (h : onceX (pre ++ x :: post)) (e : y.p.nm = x.p.nm) : onceX (pre ++ y :: post) := by
  have h1 : ((pre ++ x :: post).map fun x => x.p.nm).Pairwise (· ≠ ·) := List.pairwise_map.2 h
  have e1 : ((pre ++ y :: post).map fun x => x.p.nm) = ((pre ++ x :: post).map fun x => x.p.nm) := by simp [e]
  rw [← e1] at h1
  exact List.pairwise_map.1 h1
theorem keepN_pos {kl : List Int} {loose : Int} (h : 0 < kl.length) : mn (mx (kl.getD (0 : Int).toNat (0 : Int)) 0) loose = keepN kl loose := by
  cases kl with
  | nil => simp at h
  | cons a r => rfl
theorem keepN_zero {kl : List Int} {loose : Int} (h : kl.length = 0) : keepN kl loose = 0 := by
  cases kl with
  | nil => rfl
  | cons a r => simp at h
theorem crash_go {x : PF} {r : List PF} {kl kl2 : List Int} {n : Int} (h : ¬ (x.b.length : Int) - x.sf = 0) (hn : keepN kl ((x.b.length : Int) - x.sf) = n) (hk : kl.drop 1 = kl2) :
    crashF (x :: r) kl = ({ x with b := x.b.take (x.sf + n).toNat, sf := x.sf + n } :: (crashF r kl2).1, (x.b.length : Int) - x.sf - n + (crashF r kl2).2) := by
  subst hn hk
  exact crash_cut h
theorem str_openF {w : World} {ok : Nat → Prop} {m : ByteArray} {cs : List Value} (h : Kd.FK Kd.string w ok m cs) : cs = [.string m] := Kd.FK_now h
end Go.Proofs.Ytkdahjnmldeklaa.PA
