/- What holds of every disk holds behind every step. -/
import Derived.Test.YtkdahjnmldeklaaHVfs2
namespace Go.Proofs.Ytkdahjnmldeklaa.PA
open Go.RowKit Go.Maps Go.Proofs.YtkdahjnmldeklaaW.PrintWords Go.Proofs.YtkdahjnmldeklaaW.PrintLast Go.Proofs.YtkdahjnmldeklaaW.PrintMore
set_option linter.unusedVariables false
set_option linter.unusedSimpArgs false
abbrev risF (fs : List PF) : Prop := fs.Pairwise fun a b => (litS a.nm).before (litS b.nm) = true
def totF (fs : List PF) : Nat := (fs.map fun f => f.b.length).sum
section
variable {fs pre post : List PF} {f : PF} {nm : ByteArray} {h : PF → PF} {d : PD} {k : PD → PD} {n : Int} {y keep : List Int}
theorem bef_ne {a b : ByteArray} (h : (litS a).before (litS b) = true) : a ≠ b := fun e => by
  rw [e, Go.WideShapes.before_irrefl] at h
  cases h
theorem bef_total {a b : ByteArray} (h : a ≠ b) : (litS a).before (litS b) = true ∨ (litS b).before (litS a) = true :=
  Go.WideAt.bytes_total a.data.toList b.data.toList fun e => h (litS_inj (congrArg Lit.string e))
theorem get_split (hr : risF fs) (hg : getF nm fs = some f) : ∃ pre post, fs = pre ++ f :: post ∧ f.nm = nm ∧ ∀ g ∈ pre ++ post, g.nm ≠ nm := by
  obtain ⟨hf, pre, post, rfl, hp⟩ := List.find?_eq_some_iff_append.1 hg
  have hf : f.nm = nm := by simpa using hf
  refine ⟨pre, post, rfl, hf, fun g hg2 => ?_⟩
  rcases List.mem_append.1 hg2 with h1 | h1
  · simpa using hp g h1
  · have h2 := (List.pairwise_cons.1 (List.pairwise_append.1 hr).2.1).1 g h1
    rw [← hf]
    exact fun e => bef_ne h2 e.symm
theorem get_none (hg : getF nm fs = none) : ∀ g ∈ fs, g.nm ≠ nm := fun g hg2 => by simpa using List.find?_eq_none.1 hg g hg2
theorem upd_split (hf : f.nm = nm) (ho : ∀ g ∈ pre ++ post, g.nm ≠ nm) : updF nm h (pre ++ f :: post) = pre ++ h f :: post := by
  have hs : ∀ l : List PF, (∀ y ∈ l, y.nm ≠ nm) → updF nm h l = l := fun l hl => by
    unfold updF
    exact (List.map_congr_left fun y hy => if_neg (hl y hy)).trans (List.map_id' _)
  have e1 := hs pre fun y hy => ho y (List.mem_append_left _ hy)
  have e2 := hs post fun y hy => ho y (List.mem_append_right _ hy)
  unfold updF at e1 e2 ⊢
  rw [List.map_append, List.map_cons, e1, e2, if_pos hf]
theorem del_split (hf : f.nm = nm) (ho : ∀ g ∈ pre ++ post, g.nm ≠ nm) : delF nm (pre ++ f :: post) = pre ++ post := by
  have hs : ∀ l : List PF, (∀ y ∈ l, y.nm ≠ nm) → delF nm l = l := fun l hl => List.filter_eq_self.2 fun y hy => by simp [hl y hy]
  have e1 := hs pre fun y hy => ho y (List.mem_append_left _ hy)
  have e2 := hs post fun y hy => ho y (List.mem_append_right _ hy)
  unfold delF at e1 e2 ⊢
  rw [List.filter_append, List.filter_cons, e1, e2]
  simp [hf]
theorem del_none (ho : ∀ g ∈ fs, g.nm ≠ nm) : delF nm fs = fs := List.filter_eq_self.2 fun y hy => by simp [ho y hy]
theorem del_mem (g : PF) (hg : g ∈ delF nm fs) : g ∈ fs ∧ g.nm ≠ nm := by
  have := List.mem_filter.1 hg
  exact ⟨this.1, by simpa using this.2⟩
theorem ins_perm (f : PF) : ∀ l, (insF f l).Perm (f :: l)
  | [] => List.Perm.refl _
  | y :: r => by
    unfold insF
    split
    · exact List.Perm.refl _
    · exact ((ins_perm f r).cons y).trans (List.Perm.swap f y r)
theorem ins_ris : ∀ {l : List PF}, risF l → (∀ g ∈ l, g.nm ≠ f.nm) → risF (insF f l)
  | [], _, _ => List.pairwise_singleton _ _
  | y :: r, h, hn => by
    obtain ⟨h1, h2⟩ := List.pairwise_cons.1 h
    unfold insF
    split
    · rename_i hb
      refine List.pairwise_cons.2 ⟨fun g hg => ?_, h⟩
      rcases List.mem_cons.1 hg with rfl | hg
      · exact hb
      · exact Go.WideShapes.before_trans hb (h1 g hg)
    · rename_i hb
      have hyf : (litS y.nm).before (litS f.nm) = true := by
        rcases bef_total (hn y (List.mem_cons_self ..)) with h3 | h3
        · exact h3
        · exact absurd h3 hb
      refine List.pairwise_cons.2 ⟨fun g hg => ?_, ins_ris h2 fun g hg => hn g (List.mem_cons_of_mem _ hg)⟩
      rcases List.mem_cons.1 ((ins_perm f r).mem_iff.1 hg) with rfl | hg
      · exact hyf
      · exact h1 g hg
theorem ris_names {fs' : List PF} (h : risF fs) (e : fs'.map PF.nm = fs.map PF.nm) : risF fs' := by
  have h1 : (fs.map PF.nm).Pairwise (fun a b => (litS a).before (litS b) = true) := List.pairwise_map.2 h
  rw [← e] at h1
  exact List.pairwise_map.1 h1
theorem tot_perm {fs' : List PF} (h : fs.Perm fs') : totF fs = totF fs' := (h.map _).sum_nat
theorem tot_mid : totF (pre ++ f :: post) = totF (pre ++ post) + f.b.length := total_mid
theorem f0 : (0 : Int) ≤ 0 ∧ (0 : Int) ≤ 9223372036854775807 := ⟨by decide, by decide⟩
theorem wf_fuse (hw : wfD d) (h : 0 ≤ n ∧ n ≤ 9223372036854775807) : wfD { d with fuse := n } := ⟨hw.used, hw.most, h, hw.sf, hw.nm, hw.ris⟩
theorem wf_new (h : n ≤ 9223372036854775807) : wfD (newD n) := ⟨rfl, by show 0 ≤ mx n 0 ∧ mx n 0 ≤ _; unfold mx; split <;> omega, f0, fun f hf => by simp [newD] at hf, fun f hf => by simp [newD] at hf, List.Pairwise.nil⟩
theorem wf_step (hw : wfD d) (hk : ∀ d, wfD d → wfD (k d)) : wfD (stepD d k).1 := by
  by_cases h1 : d.fuse = 1
  · rw [step_off h1]
    exact ⟨hw.used, hw.most, f0, hw.sf, hw.nm, hw.ris⟩
  · rw [step_on h1 hw.fuse.1]
    refine hk _ (wf_fuse hw ?_)
    have := hw.fuse
    unfold decF
    split <;> omega
/-- A step whose outcome hangs on what the disk's files are. -/
theorem wf_stepF (hw : wfD d) (hk : ∀ d1 : PD, d1.fs = d.fs → d1.used = d.used → d1.most = d.most → wfD d1 → wfD (k d1)) : wfD (stepD d k).1 := by
  by_cases h1 : d.fuse = 1
  · rw [step_off h1]
    exact ⟨hw.used, hw.most, f0, hw.sf, hw.nm, hw.ris⟩
  · rw [step_on h1 hw.fuse.1]
    refine hk _ rfl rfl rfl (wf_fuse hw ?_)
    have := hw.fuse
    unfold decF
    split <;> omega
theorem wf_create (hw : wfD d) : wfD (createD nm d).1 := by
  cases hd : d.down
  · cases hb : namedB nm
    · rw [create_bad hd hb]; exact hw
    · cases hg : getF nm d.fs with
      | some f => rw [create_twice hd hb hg]; exact hw
      | none =>
        rw [create_go hd hb hg]
        refine wf_stepF hw fun d1 h1 h2 h3 hw1 => ?_
        have ho : ∀ g ∈ d1.fs, g.nm ≠ nm := by rw [h1]; exact get_none hg
        rw [del_none ho]
        have hp := ins_perm ⟨nm, [], 0⟩ d1.fs
        refine ⟨?_, hw1.most, hw1.fuse, fun f hf => ?_, fun f hf => ?_, ins_ris hw1.ris ho⟩
        · have := tot_perm hp
          show d1.used = (totF (insF ⟨nm, [], 0⟩ d1.fs) : Nat)
          rw [this, hw1.used]
          unfold totF
          simp
        · rcases List.mem_cons.1 (hp.mem_iff.1 hf) with rfl | hf
          · exact ⟨Int.le_refl _, Int.le_refl _⟩
          · exact hw1.sf f hf
        · rcases List.mem_cons.1 (hp.mem_iff.1 hf) with rfl | hf
          · unfold namedB at hb
            simp only [Bool.and_eq_true, decide_eq_true_eq] at hb
            exact hb.2
          · exact hw1.nm f hf
  · rw [create_down hd]; exact hw
theorem wf_upd (hw : wfD d) (hg : getF nm d.fs = some f) {u : Int} (hn : (h f).nm = f.nm) (hu : u = d.used + (h f).b.length - f.b.length) (hum : u ≤ d.most) (hsf : 0 ≤ (h f).sf ∧ (h f).sf ≤ (h f).b.length) : wfD { d with fs := updF nm h d.fs, used := u } := by
  obtain ⟨pre, post, e, hf, ho⟩ := get_split hw.ris hg
  have eu := hw.used
  have em := hw.most
  have e1 : updF nm h d.fs = pre ++ h f :: post := by rw [e, upd_split hf ho]
  have t0 : ((d.fs.map fun f => f.b.length).sum : Nat) = totF (pre ++ post) + f.b.length := by rw [e]; exact tot_mid
  refine ⟨?_, ⟨hum, em.2⟩, hw.fuse, fun g hg => ?_, fun g hg => ?_, ?_⟩
  · show u = (totF (updF nm h d.fs) : Nat)
    rw [e1, tot_mid]
    omega
  · have hg : g ∈ updF nm h d.fs := hg
    rw [e1] at hg
    rcases List.mem_append.1 hg with h1 | h1
    · exact hw.sf g (by rw [e]; exact List.mem_append_left _ h1)
    · rcases List.mem_cons.1 h1 with rfl | h1
      · exact hsf
      · exact hw.sf g (by rw [e]; exact List.mem_append_right _ (List.mem_cons_of_mem _ h1))
  · have hg : g ∈ updF nm h d.fs := hg
    rw [e1] at hg
    rcases List.mem_append.1 hg with h1 | h1
    · exact hw.nm g (by rw [e]; exact List.mem_append_left _ h1)
    · rcases List.mem_cons.1 h1 with rfl | h1
      · rw [hn]; exact hw.nm f (by rw [e]; simp)
      · exact hw.nm g (by rw [e]; exact List.mem_append_right _ (List.mem_cons_of_mem _ h1))
  · refine ris_names hw.ris ?_
    show (updF nm h d.fs).map PF.nm = _
    rw [e1, e]
    simp [hn]
theorem get_sf (hw : wfD d) (hg : getF nm d.fs = some f) : 0 ≤ f.sf ∧ f.sf ≤ f.b.length := hw.sf f (getF_mem hg).1
theorem wf_append (hw : wfD d) : wfD (appendD nm y d).1 := by
  cases hd : d.down
  · cases hg : getF nm d.fs with
    | none => exact (congrArg wfD (congrArg Prod.fst (with_none hd hg))).mpr hw
    | some f =>
      by_cases hr : d.most - d.used < y.length
      · rw [append_full hd hg hr]; exact hw
      · rw [append_go hd hg hr]
        refine wf_stepF hw fun d1 h1 h2 h3 hw1 => ?_
        have := get_sf hw hg
        refine wf_upd hw1 (f := f) (by rw [h1]; exact hg) rfl ?_ ?_ ?_
        · show _ = _ + ((f.b ++ y).length : Int) - _
          rw [List.length_append]; omega
        · rw [h2, h3]; omega
        · show 0 ≤ f.sf ∧ f.sf ≤ ((f.b ++ y).length : Int)
          rw [List.length_append]; omega
  · exact (congrArg wfD (congrArg Prod.fst (with_down hd))).mpr hw
theorem wf_sync (hw : wfD d) : wfD (syncD nm d).1 := by
  cases hd : d.down
  · cases hg : getF nm d.fs with
    | none => exact (congrArg wfD (congrArg Prod.fst (with_none hd hg))).mpr hw
    | some f =>
      rw [sync_go hd hg]
      refine wf_stepF hw fun d1 h1 h2 h3 hw1 => ?_
      exact wf_upd (h := fun f => { f with sf := f.b.length }) hw1 (f := f) (by rw [h1]; exact hg) rfl (by show d1.used = d1.used + (f.b.length : Int) - f.b.length; omega) hw1.most.1 ⟨by show (0 : Int) ≤ f.b.length; omega, Int.le_refl _⟩
  · exact (congrArg wfD (congrArg Prod.fst (with_down hd))).mpr hw
theorem wf_cut (hw : wfD d) : wfD (cutD nm n d).1 := by
  cases hd : d.down
  · cases hg : getF nm d.fs with
    | none => exact (congrArg wfD (congrArg Prod.fst (with_none hd hg))).mpr hw
    | some f =>
      by_cases hr : n < 0 ∨ (f.b.length : Int) < n
      · rw [cut_bad hd hg hr]; exact hw
      · rw [cut_go hd hg hr]
        refine wf_stepF hw fun d1 h1 h2 h3 hw1 => ?_
        have hs := get_sf hw hg
        have hl : ((f.b.take n.toNat).length : Int) = n := by rw [List.length_take]; omega
        have hg1 : getF nm d1.fs = some f := by rw [h1]; exact hg
        have hu : d1.used - ((f.b.length : Int) - n) = d1.used + ((f.b.take n.toNat).length : Int) - f.b.length := by rw [hl]; omega
        have hum : d1.used - ((f.b.length : Int) - n) ≤ d1.most := by have := hw1.most; omega
        refine wf_upd (h := fun f => { f with b := f.b.take n.toNat, sf := mn f.sf n }) hw1 (f := f) hg1 rfl ?_ ?_ ?_
        · rw [h2] at hu ⊢
          exact hu
        · exact hum
        · show 0 ≤ mn f.sf n ∧ mn f.sf n ≤ ((f.b.take n.toNat).length : Int)
          rw [hl]
          unfold mn
          split <;> omega
  · exact (congrArg wfD (congrArg Prod.fst (with_down hd))).mpr hw
theorem wf_drop (hw : wfD d) : wfD (dropD nm d) := by
  cases hg : getF nm d.fs with
  | none => rw [drop_none hg]; exact hw
  | some f =>
    rw [drop_some hg]
    obtain ⟨pre, post, e, hf, ho⟩ := get_split hw.ris hg
    have e1 : delF nm d.fs = pre ++ post := by rw [e, del_split hf ho]
    have eu := hw.used
    have em := hw.most
    have t0 : ((d.fs.map fun f => f.b.length).sum : Nat) = totF (pre ++ post) + f.b.length := by rw [e]; exact tot_mid
    refine ⟨?_, ⟨by show d.used - _ ≤ d.most; omega, em.2⟩, hw.fuse, fun g hg => hw.sf g (del_mem g hg).1, fun g hg => hw.nm g (del_mem g hg).1, hw.ris.sublist List.filter_sublist⟩
    show d.used - (f.b.length : Int) = (totF (delF nm d.fs) : Nat)
    rw [e1]
    omega
theorem wf_remove (hw : wfD d) : wfD (removeD nm d).1 := by
  cases hd : d.down
  · cases hg : getF nm d.fs with
    | none => exact (congrArg wfD (congrArg Prod.fst (with_none hd hg))).mpr hw
    | some f => rw [remove_go hd hg]; exact wf_step hw fun d1 hw1 => wf_drop hw1
  · exact (congrArg wfD (congrArg Prod.fst (with_down hd))).mpr hw
theorem get_del_other {other : ByteArray} (h : other ≠ nm) : getF nm (delF other fs) = getF nm fs := by
  unfold getF delF
  rw [List.find?_filter]
  refine congrArg (fun p => List.find? p fs) (funext fun g => ?_)
  by_cases e : g.nm = nm
  · have h2 : ¬ nm = other := fun e2 => h e2.symm
    simp [e, h2]
  · simp [e]
theorem get_drop_other {other : ByteArray} (h : other ≠ nm) : getF nm (dropD other d).fs = getF nm d.fs := by
  cases hg : getF other d.fs with
  | none => rw [drop_none hg]
  | some f => rw [drop_some hg]; exact get_del_other h
theorem wf_rename {dest : ByteArray} (hw : wfD d) : wfD (renameD nm dest d).1 := by
  cases hd : d.down
  · cases hb : namedB dest
    · rw [rename_bad hd hb]; exact hw
    · cases hg : getF nm d.fs with
      | none => rw [rename_none hd hb hg]; exact hw
      | some f =>
        rw [rename_go hd hb hg]
        refine wf_stepF hw fun d1 h1 h2 h3 hw1 => ?_
        unfold renK
        by_cases e : nm = dest
        · rw [if_pos e]; exact hw1
        · rw [if_neg e]
          have hw2 := wf_drop (nm := dest) hw1
          have hg2 : getF nm (dropD dest d1).fs = some f := by rw [get_drop_other (fun h => e h.symm), h1]; exact hg
          obtain ⟨pre, post, e2, hf, ho⟩ := get_split hw2.ris hg2
          have e3 : delF nm (dropD dest d1).fs = pre ++ post := by rw [e2, del_split hf ho]
          have hnd : ∀ g ∈ (dropD dest d1).fs, g.nm ≠ dest := by
            cases hgd : getF dest d1.fs with
            | none => rw [drop_none hgd]; exact get_none hgd
            | some q => rw [drop_some hgd]; exact fun g hg => (del_mem g hg).2
          have hm : ∀ g, g ∈ pre ++ post → g ∈ (dropD dest d1).fs := fun g hg => by
            rw [e2]
            rcases List.mem_append.1 hg with h | h
            · exact List.mem_append_left _ h
            · exact List.mem_append_right _ (List.mem_cons_of_mem _ h)
          have hd2 : ∀ g ∈ pre ++ post, g.nm ≠ dest := fun g hg => hnd g (hm g hg)
          rw [e3, del_none hd2]
          have hp := ins_perm { f with nm := dest } (pre ++ post)
          have hr2 : risF (pre ++ post) := by rw [← e3]; exact hw2.ris.sublist List.filter_sublist
          refine ⟨?_, hw2.most, hw2.fuse, fun g hg => ?_, fun g hg => ?_, ins_ris hr2 hd2⟩
          · show (dropD dest d1).used = (totF (insF { f with nm := dest } (pre ++ post)) : Nat)
            rw [tot_perm hp, hw2.used]
            show ((totF (dropD dest d1).fs : Nat) : Int) = _
            rw [e2, tot_mid]
            unfold totF
            simp only [List.map_cons, List.sum_cons]
            omega
          · rcases List.mem_cons.1 (hp.mem_iff.1 hg) with rfl | hg
            · exact hw2.sf f (by rw [e2]; simp)
            · exact hw2.sf g (hm g hg)
          · rcases List.mem_cons.1 (hp.mem_iff.1 hg) with rfl | hg
            · unfold namedB at hb
              simp only [Bool.and_eq_true, decide_eq_true_eq] at hb
              exact hb.2
            · exact hw2.nm g (hm g hg)
  · rw [rename_down hd]; exact hw
theorem crash_names : ∀ (fs : List PF) (kl : List Int), (crashF fs kl).1.map PF.nm = fs.map PF.nm
  | [], _ => rfl
  | f :: r, kl => by
    by_cases hl : (f.b.length : Int) - f.sf = 0
    · rw [crash_keep hl, List.map_cons, List.map_cons, crash_names r kl]
    · rw [crash_cut hl, List.map_cons, List.map_cons, crash_names r (kl.drop 1)]
theorem crash_in : ∀ (fs : List PF) (kl : List Int), (∀ f ∈ fs, 0 ≤ f.sf ∧ f.sf ≤ f.b.length) → (∀ g ∈ (crashF fs kl).1, 0 ≤ g.sf ∧ g.sf ≤ g.b.length) ∧ ((totF (crashF fs kl).1 : Nat) : Int) = (totF fs : Nat) - (crashF fs kl).2
  | [], _, _ => ⟨fun g hg => by simp [crashF] at hg, by simp [crashF]⟩
  | f :: r, kl, h => by
    have hf := h f (List.mem_cons_self ..)
    have ih : ∀ kl, _ := fun kl => crash_in r kl fun g hg => h g (List.mem_cons_of_mem _ hg)
    have ht : ∀ (g : PF) (l : List PF), totF (g :: l) = g.b.length + totF l := fun g l => by unfold totF; simp
    by_cases hl : (f.b.length : Int) - f.sf = 0
    · rw [crash_keep hl]
      obtain ⟨i1, i2⟩ := ih kl
      refine ⟨fun g hg => ?_, ?_⟩
      · rcases List.mem_cons.1 hg with rfl | hg
        · exact hf
        · exact i1 g hg
      · show ((totF (f :: (crashF r kl).1) : Nat) : Int) = (totF (f :: r) : Nat) - (crashF r kl).2
        rw [ht, ht]
        omega
    · rw [crash_cut hl]
      obtain ⟨i1, i2⟩ := ih (kl.drop 1)
      have hk := keepN_in kl (loose := (f.b.length : Int) - f.sf) (by omega)
      have hlen : ((f.b.take (f.sf + keepN kl ((f.b.length : Int) - f.sf)).toNat).length : Int) = f.sf + keepN kl ((f.b.length : Int) - f.sf) := by rw [List.length_take]; omega
      refine ⟨fun g hg => ?_, ?_⟩
      · rcases List.mem_cons.1 hg with rfl | hg
        · exact ⟨by show 0 ≤ f.sf + _; omega, by show f.sf + _ ≤ ((f.b.take (f.sf + keepN kl ((f.b.length : Int) - f.sf)).toNat).length : Int); omega⟩
        · exact i1 g hg
      · show ((totF (_ :: (crashF r (kl.drop 1)).1) : Nat) : Int) = (totF (f :: r) : Nat) - (_ + (crashF r (kl.drop 1)).2)
        rw [ht, ht]
        show (((f.b.take (f.sf + keepN kl ((f.b.length : Int) - f.sf)).toNat).length + totF (crashF r (kl.drop 1)).1 : Nat) : Int) = _
        omega
theorem wf_crash (hw : wfD d) : wfD (crashD keep d) := by
  obtain ⟨h1, h2⟩ := crash_in d.fs keep hw.sf
  have h3 := crash_used d.fs keep hw.sf
  have eu := hw.used
  have em := hw.most
  refine ⟨?_, ⟨by show d.used - _ ≤ d.most; omega, em.2⟩, f0, h1, fun f hf => ?_, ris_names hw.ris (crash_names d.fs keep)⟩
  · show d.used - _ = ((totF (crashF d.fs keep).1 : Nat) : Int)
    rw [h2, eu]
    rfl
  · have : f.nm ∈ (crashF d.fs keep).1.map PF.nm := List.mem_map_of_mem hf
    rw [crash_names] at this
    obtain ⟨g, hg, e⟩ := List.mem_map.1 this
    rw [← e]
    exact hw.nm g hg
end
end Go.Proofs.Ytkdahjnmldeklaa.PA
