/- The statements on disks that need no document: what each step leaves, in plain words. -/
import Derived.Test.YtkdahjnmldeklaaHVfs3
namespace Go.Proofs.Ytkdahjnmldeklaa.PA
open Go.RowKit Go.Maps Go.Proofs.YtkdahjnmldeklaaW.PrintWords Go.Proofs.YtkdahjnmldeklaaW.PrintLast Go.Proofs.YtkdahjnmldeklaaW.PrintMore
set_option linter.unusedVariables false
set_option linter.unusedSimpArgs false
theorem and_low (x : Int) (m : Nat) (hm : m < 9223372036854775808) : 0 ≤ Go.bits .and .i64 x (m : Int) ∧ Go.bits .and .i64 x (m : Int) ≤ m := by
  have h : Go.bits .and .i64 x (m : Int) = IntKind.i64.wrap ((BitVec.ofInt 64 x &&& BitVec.ofInt 64 (m : Int)).toNat : Int) := rfl
  have h2 : (BitVec.ofInt 64 x &&& BitVec.ofInt 64 (m : Int)).toNat ≤ m := by
    rw [BitVec.toNat_and]
    refine Nat.le_trans Nat.and_le_right ?_
    rw [BitVec.toNat_ofInt]
    omega
  rw [h]
  generalize (BitVec.ofInt 64 x &&& BitVec.ofInt 64 (m : Int)).toNat = n at h2 ⊢
  have : IntKind.i64.wrap (n : Int) = n := IntWalk.i64_in _ (by omega)
  rw [this]
  omega
/-! ### VfsKeeps -/
def nmF : ByteArray := ⟨#[102]⟩
structure JK (nm : ByteArray) (mst : Int) (d : PD) (all : List Int) (safe : Int) : Prop where
  fs : d.fs = [⟨nm, all, safe⟩]
  most : d.most = mst
  nms : nm.size ≤ 40
  mb : mst ≤ 1048576
  used : d.used = all.length
  sf : 0 ≤ safe ∧ safe ≤ all.length ∧ all.length ≤ mst
  fuse : 0 ≤ d.fuse ∧ d.fuse ≤ 9223372036854775807
section
variable {nm : ByteArray} {mst : Int} {d : PD} {all y : List Int} {safe n : Int}
theorem JK.wf (h : JK nm mst d all safe) : wfD d := by
  have := h.sf
  refine ⟨by rw [h.fs, h.used]; simp, by have := h.mb; rw [h.used, h.most]; omega, h.fuse, fun f hf => ?_, fun f hf => ?_, ?_⟩
  · rw [h.fs] at hf
    obtain rfl := List.mem_singleton.1 hf
    exact ⟨h.sf.1, h.sf.2.1⟩
  · rw [h.fs] at hf
    obtain rfl := List.mem_singleton.1 hf
    exact h.nms
  · rw [h.fs]; exact List.pairwise_singleton _ _
theorem JK.len (h : JK nm mst d all safe) : d.fs.length ≤ 1000000 := by rw [h.fs]; show 1 ≤ 1000000; decide
theorem JK.get (h : JK nm mst d all safe) : getF nm d.fs = some ⟨nm, all, safe⟩ := by rw [h.fs]; unfold getF; simp
theorem JK.fuse_ (h : JK nm mst d all safe) (hn : n ≤ 9223372036854775807) : JK nm mst { d with fuse := mx n 0 } all safe := ⟨h.fs, h.most, h.nms, h.mb, h.used, h.sf, by show 0 ≤ mx n 0 ∧ mx n 0 ≤ _; unfold mx; split <;> omega⟩
theorem JK.dec (h : JK nm mst d all safe) : JK nm mst { d with fuse := decF d.fuse } all safe := ⟨h.fs, h.most, h.nms, h.mb, h.used, h.sf, by have := h.fuse; show 0 ≤ decF d.fuse ∧ decF d.fuse ≤ _; unfold decF; split <;> omega⟩
theorem JK.append (h : JK nm mst d all safe) : ((appendD nm y d).2 = 0 → JK nm mst (appendD nm y d).1 (all ++ y) safe) ∧ ((appendD nm y d).2 ≠ 0 → JK nm mst (appendD nm y d).1 all safe) := by
  cases hd : d.down
  · by_cases hr : d.most - d.used < y.length
    · rw [append_full hd h.get hr]; exact ⟨fun e => by simp at e, fun _ => h⟩
    · rw [append_go hd h.get hr]
      by_cases hf : d.fuse = 1
      · rw [step_off hf]
        exact ⟨fun e => by simp at e, fun _ => ⟨h.fs, h.most, h.nms, h.mb, h.used, h.sf, f0⟩⟩
      · rw [step_on hf h.fuse.1]
        refine ⟨fun _ => ?_, fun e => by simp at e⟩
        have h1 := h.sf
        have h2 := h.used
        have h3 := h.most
        refine ⟨?_, h.most, h.nms, h.mb, ?_, ?_, h.dec.fuse⟩
        · show updF nm _ d.fs = _
          rw [h.fs]; unfold updF; simp
        · show d.used + (y.length : Int) = _
          rw [h.used, List.length_append]; omega
        · rw [List.length_append]; omega
  · have : appendD nm y d = (d, 70) := with_down hd
    rw [this]
    exact ⟨fun e => by simp at e, fun _ => h⟩
theorem JK.sync (h : JK nm mst d all safe) : ((syncD nm d).2 = 0 → JK nm mst (syncD nm d).1 all all.length) ∧ ((syncD nm d).2 ≠ 0 → JK nm mst (syncD nm d).1 all safe) := by
  cases hd : d.down
  · rw [sync_go hd h.get]
    by_cases hf : d.fuse = 1
    · rw [step_off hf]
      exact ⟨fun e => by simp at e, fun _ => ⟨h.fs, h.most, h.nms, h.mb, h.used, h.sf, f0⟩⟩
    · rw [step_on hf h.fuse.1]
      refine ⟨fun _ => ?_, fun e => by simp at e⟩
      have h1 := h.sf
      refine ⟨?_, h.most, h.nms, h.mb, h.used, by omega, h.dec.fuse⟩
      show updF nm _ d.fs = _
      rw [h.fs]; unfold updF; simp
  · have : syncD nm d = (d, 70) := with_down hd
    rw [this]
    exact ⟨fun e => by simp at e, fun _ => h⟩
/-- What is there behind the loss of power. -/
theorem JK.crash (h : JK nm mst d all safe) (k : Int) : ∃ m : Nat, (m : Int) = safe + mn (mx k 0) ((all.length : Int) - safe) ∧ m ≤ all.length ∧ safe ≤ (m : Int) ∧ (crashD [k] d).used = m ∧ readD nm (crashD [k] d) = (all.take m, 0) := by
  have h1 := h.sf
  have hget : ∀ (b : List Int) (s : Int) (d2 : PD), d2.fs = [⟨nm, b, s⟩] → d2.down = false → readD nm d2 = (b, 0) := fun b s d2 e e2 => read_some (f := ⟨nm, b, s⟩) e2 (by rw [e]; unfold getF; simp)
  by_cases hl : (all.length : Int) - safe = 0
  · refine ⟨all.length, ?_, Nat.le_refl _, ?_⟩
    · have : mn (mx k 0) ((all.length : Int) - safe) = 0 := by rw [hl]; unfold mn mx; (repeat' split) <;> omega
      rw [this]; omega
    · refine ⟨by omega, ?_, ?_⟩
      · show d.used - (crashF d.fs [k]).2 = _
        rw [h.fs, crash_keep (f := ⟨nm, all, safe⟩) hl, h.used]
        simp [crash_nil]
      rw [List.take_length]
      refine hget all safe _ ?_ rfl
      show (crashF d.fs [k]).1 = _
      rw [h.fs, crash_keep (f := ⟨nm, all, safe⟩) hl]
      rfl
  · have hk := keepN_in [k] (loose := (all.length : Int) - safe) (by omega)
    have hk2 : keepN [k] ((all.length : Int) - safe) = mn (mx k 0) ((all.length : Int) - safe) := rfl
    refine ⟨(safe + keepN [k] ((all.length : Int) - safe)).toNat, by rw [← hk2]; omega, by omega, by omega, ?_, ?_⟩
    · show d.used - (crashF d.fs [k]).2 = _
      rw [h.fs, crash_cut (f := ⟨nm, all, safe⟩) hl, h.used, List.drop_one, List.tail_cons, crash_nil]
      show (all.length : Int) - ((all.length : Int) - safe - keepN [k] ((all.length : Int) - safe) + 0) = _
      omega
    refine hget _ (safe + keepN [k] ((all.length : Int) - safe)) _ ?_ rfl
    show (crashF d.fs [k]).1 = _
    rw [h.fs, crash_cut (f := ⟨nm, all, safe⟩) hl]
    rfl
end
/-! ### VfsRoom -/
structure JR (d : PD) (room : Int) (n : Int) : Prop where
  wf : wfD d
  up : d.down = false
  fuse : d.fuse = 0
  most : d.most = room
  len : (d.fs.length : Int) ≤ n
def doesD (kd : Int) (A Z : ByteArray) (n : Int) (y : List Int) (d : PD) : PD × Int :=
  if kd = 1 then createD A d else if kd = 2 then appendD A y d else if kd = 3 then syncD A d else if kd = 4 then renameD A Z d else if kd = 5 then cutD A n d else removeD A d
section
variable {d : PD} {A Z nm : ByteArray} {kd room n m : Int} {y keep : List Int} {k : PD → PD} {f : PF}
theorem wf_does (hw : wfD d) : wfD (doesD kd A Z n y d).1 := by
  unfold doesD
  repeat' split
  · exact wf_create hw
  · exact wf_append hw
  · exact wf_sync hw
  · exact wf_rename hw
  · exact wf_cut hw
  · exact wf_remove hw
/-- What steps keep: the room; and, when the fuse is off, the power; at most one file more. -/
structure Kept (d d2 : PD) : Prop where
  most : d2.most = d.most
  on : d.fuse = 0 → d.down = false → d2.fuse = 0 ∧ d2.down = false
  len : d2.fs.length ≤ d.fs.length + 1
theorem Kept.refl (d : PD) : Kept d d := ⟨rfl, fun h1 h2 => ⟨h1, h2⟩, Nat.le_succ _⟩
theorem kept_step (h0 : 0 ≤ d.fuse) (hk : ∀ d1 : PD, d1.fs = d.fs → (k d1).most = d1.most ∧ (k d1).fuse = d1.fuse ∧ (k d1).down = d1.down ∧ (k d1).fs.length ≤ d1.fs.length + 1) : Kept d (stepD d k).1 := by
  by_cases h1 : d.fuse = 1
  · rw [step_off h1]
    exact ⟨rfl, fun h2 => by omega, Nat.le_succ _⟩
  · rw [step_on h1 h0]
    obtain ⟨a, b, c, e⟩ := hk { d with fuse := decF d.fuse } rfl
    refine ⟨a, fun h2 h3 => ⟨?_, c.trans h3⟩, e⟩
    show (k { d with fuse := decF d.fuse }).fuse = 0
    rw [b]
    show decF d.fuse = 0
    rw [h2]; rfl
theorem upd_len (nm : ByteArray) (h : PF → PF) (fs : List PF) : (updF nm h fs).length = fs.length := by unfold updF; rw [List.length_map]
theorem del_len (nm : ByteArray) (fs : List PF) : (delF nm fs).length ≤ fs.length := List.length_filter_le _ _
theorem ins_len (f : PF) (fs : List PF) : (insF f fs).length = fs.length + 1 := (ins_perm f fs).length_eq
theorem kept_with {q : PF → PD × Int} (h : ∀ f, d.down = false → getF nm d.fs = some f → Kept d (q f).1) : Kept d (withF nm d q).1 := by
  cases hd : d.down
  · cases hg : getF nm d.fs with
    | none => rw [with_none hd hg]; exact Kept.refl d
    | some f => rw [with_some hd hg]; exact h f hd hg
  · rw [with_down hd]; exact Kept.refl d
theorem kept_create (h0 : 0 ≤ d.fuse) : Kept d (createD nm d).1 := by
  unfold createD
  split
  · exact Kept.refl d
  · split
    · exact Kept.refl d
    · split
      · exact Kept.refl d
      · refine kept_step h0 fun d1 _ => ⟨rfl, rfl, rfl, ?_⟩
        show (insF _ (delF nm d1.fs)).length ≤ _
        rw [ins_len]
        have := del_len nm d1.fs
        omega
theorem kept_append (h0 : 0 ≤ d.fuse) : Kept d (appendD nm y d).1 := kept_with fun f hd hg => by
  split
  · exact Kept.refl d
  · exact kept_step h0 fun d1 _ => ⟨rfl, rfl, rfl, by show (updF nm _ d1.fs).length ≤ _; rw [upd_len]; omega⟩
theorem kept_sync (h0 : 0 ≤ d.fuse) : Kept d (syncD nm d).1 := kept_with fun f hd hg => kept_step h0 fun d1 _ => ⟨rfl, rfl, rfl, by show (updF nm _ d1.fs).length ≤ _; rw [upd_len]; omega⟩
theorem kept_cut (h0 : 0 ≤ d.fuse) : Kept d (cutD nm n d).1 := kept_with fun f hd hg => by
  split
  · exact Kept.refl d
  · exact kept_step h0 fun d1 _ => ⟨rfl, rfl, rfl, by show (updF nm _ d1.fs).length ≤ _; rw [upd_len]; omega⟩
theorem drop_keeps (nm : ByteArray) (d : PD) : (dropD nm d).most = d.most ∧ (dropD nm d).fuse = d.fuse ∧ (dropD nm d).down = d.down ∧ (dropD nm d).fs.length ≤ d.fs.length := by
  cases hg : getF nm d.fs with
  | none => rw [drop_none hg]; exact ⟨rfl, rfl, rfl, Nat.le_refl _⟩
  | some f => rw [drop_some hg]; exact ⟨rfl, rfl, rfl, del_len nm d.fs⟩
theorem kept_remove (h0 : 0 ≤ d.fuse) : Kept d (removeD nm d).1 := kept_with fun f hd hg => kept_step h0 fun d1 _ => by
  obtain ⟨a, b, c, e⟩ := drop_keeps nm d1
  exact ⟨a, b, c, by omega⟩
theorem kept_rename {dest : ByteArray} (h0 : 0 ≤ d.fuse) : Kept d (renameD nm dest d).1 := by
  cases hd : d.down
  · cases hb : namedB dest
    · rw [rename_bad hd hb]; exact Kept.refl d
    · cases hg : getF nm d.fs with
      | none => rw [rename_none hd hb hg]; exact Kept.refl d
      | some f =>
        rw [rename_go hd hb hg]
        refine kept_step h0 fun d1 _ => ?_
        unfold renK
        split
        · exact ⟨rfl, rfl, rfl, Nat.le_succ _⟩
        · obtain ⟨a, b, c, e⟩ := drop_keeps dest d1
          refine ⟨a, b, c, ?_⟩
          show (insF _ (delF dest (delF nm (dropD dest d1).fs))).length ≤ _
          rw [ins_len]
          have h1 := del_len dest (delF nm (dropD dest d1).fs)
          have h2 := del_len nm (dropD dest d1).fs
          omega
  · rw [rename_down hd]; exact Kept.refl d
theorem kept_does (h0 : 0 ≤ d.fuse) : Kept d (doesD kd A Z n y d).1 := by
  unfold doesD
  repeat' split
  · exact kept_create h0
  · exact kept_append h0
  · exact kept_sync h0
  · exact kept_rename h0
  · exact kept_cut h0
  · exact kept_remove h0
theorem JR.kept {d2 : PD} (h : JR d room m) (hw : wfD d2) (hk : Kept d d2) : JR d2 room (m + 1) := ⟨hw, (hk.on h.fuse h.up).2, (hk.on h.fuse h.up).1, hk.most.trans h.most, by have := hk.len; have := h.len; omega⟩
theorem JR.does (h : JR d room m) : JR (doesD kd A Z n y d).1 room (m + 1) := h.kept (wf_does h.wf) (kept_does h.wf.fuse.1)
theorem JR.crash (h : JR d room m) : JR (crashD keep d) room (m + 1) := ⟨wf_crash h.wf, rfl, rfl, h.most, by
  have e := congrArg List.length (crash_names d.fs keep)
  rw [List.length_map, List.length_map] at e
  show ((crashF d.fs keep).1.length : Int) ≤ _
  have := h.len
  omega⟩
theorem JR.more (h : JR d room m) (hm : m ≤ n) : JR d room n := ⟨h.wf, h.up, h.fuse, h.most, by have := h.len; omega⟩
/-- Appended: the room is less by just as much; no room: nothing is. -/
theorem JR.does2 (h : JR d room m) (hk : kd = 2) : (doesD kd A Z n y d).2 = 0 → (doesD kd A Z n y d).1.used = d.used + y.length := by
  subst hk
  show (appendD A y d).2 = 0 → (appendD A y d).1.used = _
  cases hg : getF A d.fs with
  | none => intro e; rw [show appendD A y d = (d, 4) from with_none h.up hg] at e; simp at e
  | some f =>
    by_cases hr : d.most - d.used < y.length
    · intro e; rw [append_full h.up hg hr] at e; simp at e
    · rw [append_go h.up hg hr, step_on (by rw [h.fuse]; decide) h.wf.fuse.1]
      intro _; rfl
theorem step_ne (h : d.fuse = 0) : (stepD d k).2 = 0 := by
  rw [step_on (by rw [h]; decide) (by rw [h]; decide)]
theorem with_ne {q : PF → PD × Int} (h : d.down = false) (hq : ∀ f, (q f).2 ≠ 71) : (withF nm d q).2 ≠ 71 := by
  cases hg : getF nm d.fs with
  | none => rw [with_none h hg]; exact (by decide : (4 : Int) ≠ 71)
  | some f => rw [with_some h hg]; exact hq f
theorem JR.full (h : JR d room m) : (doesD kd A Z n y d).2 = 71 → (doesD kd A Z n y d).1 = d ∧ d.most - d.used < y.length := by
  have hs : ∀ k, (stepD d k).2 ≠ 71 := fun k => by rw [step_ne h.fuse]; decide
  unfold doesD
  repeat' split
  · intro e
    exfalso
    revert e
    unfold createD
    repeat' split
    · intro e; simp at e
    · intro e; simp at e
    · intro e; simp at e
    · exact hs _
  · cases hg : getF A d.fs with
    | none => intro e; rw [show appendD A y d = (d, 4) from with_none h.up hg] at e; simp at e
    | some f =>
      by_cases hr : d.most - d.used < y.length
      · rw [append_full h.up hg hr]; exact fun _ => ⟨rfl, hr⟩
      · intro e; rw [append_go h.up hg hr] at e; exact absurd e (hs _)
  · exact fun e => absurd e (with_ne h.up fun f => hs _)
  · intro e
    exfalso
    cases hb : namedB Z
    · rw [rename_bad h.up hb] at e; simp at e
    · cases hg : getF A d.fs with
      | none => rw [rename_none h.up hb hg] at e; simp at e
      | some f => rw [rename_go h.up hb hg] at e; exact hs _ e
  · refine fun e => absurd e (with_ne h.up fun f => ?_)
    split
    · simp
    · exact hs _
  · exact fun e => absurd e (with_ne h.up fun f => hs _)
/-- All that is read of the first files. -/
theorem read_mid {pre post : List PF} (hw : wfD d) (h : d.down = false) (e : d.fs = pre ++ f :: post) : readD f.nm d = (f.b, 0) := by
  cases hg : getF f.nm d.fs with
  | none => exact absurd rfl (get_none hg f (by rw [e]; simp))
  | some g =>
    rw [read_some h hg]
    obtain ⟨p2, q2, e2, hn, ho⟩ := get_split hw.ris hg
    have hm : f ∈ p2 ++ g :: q2 := by rw [← e2, e]; simp
    rcases List.mem_append.1 hm with hm | hm
    · exact absurd rfl (ho f (List.mem_append_left _ hm))
    · rcases List.mem_cons.1 hm with rfl | hm
      · rfl
      · exact absurd rfl (ho f (List.mem_append_right _ hm))
theorem read_at (hw : wfD d) (h : d.down = false) (i : Nat) (hi : i < d.fs.length) : readD ((namesD d).getD i (⟨#[]⟩ : ByteArray)) d = ((d.fs.getD i ⟨⟨#[]⟩, [], 0⟩).b, 0) := by
  have e1 : (namesD d).getD i (⟨#[]⟩ : ByteArray) = d.fs[i].nm := by unfold namesD; simp [List.getD_eq_getElem?_getD, List.getElem?_eq_getElem hi]
  have e2 : d.fs.getD i ⟨⟨#[]⟩, [], 0⟩ = d.fs[i] := by simp [List.getD_eq_getElem?_getD, List.getElem?_eq_getElem hi]
  rw [e1, e2]
  exact read_mid (pre := d.fs.take i) (post := d.fs.drop (i + 1)) hw h (by rw [List.getElem_cons_drop, List.take_append_drop])
theorem tot_take (fs : List PF) (i : Nat) (hi : i < fs.length) : totF (fs.take (i + 1)) = totF (fs.take i) + (fs.getD i ⟨⟨#[]⟩, [], 0⟩).b.length := by
  have e2 : fs.getD i ⟨⟨#[]⟩, [], 0⟩ = fs[i] := by simp [List.getD_eq_getElem?_getD, List.getElem?_eq_getElem hi]
  rw [e2, List.take_succ_eq_append_getElem hi]
  unfold totF
  rw [List.map_append, List.sum_append]
  simp only [List.map_cons, List.map_nil, List.sum_cons, List.sum_nil, Nat.add_zero]
theorem names_len (d : PD) : (namesD d).length = d.fs.length := by unfold namesD; rw [List.length_map]
theorem tot_le (fs : List PF) (i : Nat) : totF (fs.take i) ≤ totF fs := by
  have : totF fs = totF (fs.take i) + totF (fs.drop i) := by
    unfold totF
    rw [← List.sum_append, ← List.map_append, List.take_append_drop]
  omega
theorem names_sz (hw : wfD d) (i : Nat) : ((namesD d).getD i (⟨#[]⟩ : ByteArray)).size ≤ 9223372036854775807 := by
  by_cases hi : i < d.fs.length
  · have e1 : (namesD d).getD i (⟨#[]⟩ : ByteArray) = d.fs[i].nm := by unfold namesD; simp [List.getD_eq_getElem?_getD, List.getElem?_eq_getElem hi]
    rw [e1]
    have := hw.nm d.fs[i] (List.getElem_mem hi)
    omega
  · have e1 : (namesD d).getD i (⟨#[]⟩ : ByteArray) = ⟨#[]⟩ := by unfold namesD; rw [List.getD_eq_getElem?_getD, List.getElem?_eq_none (by rw [List.length_map]; omega)]; rfl
    rw [e1]
    decide
theorem room_a {k e a b : Int} (h : k = 2 → e = 0 → a = b) : ((decide (k = 2) && decide (e = 0)) && decide (a ≠ b)) = false := by
  by_cases h1 : k = 2
  · by_cases h2 : e = 0
    · simp [h h1 h2]
    · simp [h2]
  · simp [h1]
theorem room_b {e a b c : Int} (h : e = 71 → a = b ∧ ¬ c ≤ b) : (decide (e = 71) && (decide (a ≠ b) || decide (c ≤ b))) = false := by
  by_cases h1 : e = 71
  · obtain ⟨h2, h3⟩ := h h1
    simp [h2, h3]
  · simp [h1]
theorem does1 (h : kd = 1) : doesD kd A Z n y d = createD A d := if_pos h
theorem does2 (h1 : ¬ kd = 1) (h : kd = 2) : doesD kd A Z n y d = appendD A y d := by unfold doesD; rw [if_neg h1, if_pos h]
theorem does3 (h1 : ¬ kd = 1) (h2 : ¬ kd = 2) (h : kd = 3) : doesD kd A Z n y d = syncD A d := by unfold doesD; rw [if_neg h1, if_neg h2, if_pos h]
theorem does4 (h1 : ¬ kd = 1) (h2 : ¬ kd = 2) (h3 : ¬ kd = 3) (h : kd = 4) : doesD kd A Z n y d = renameD A Z d := by unfold doesD; rw [if_neg h1, if_neg h2, if_neg h3, if_pos h]
theorem does5 (h1 : ¬ kd = 1) (h2 : ¬ kd = 2) (h3 : ¬ kd = 3) (h4 : ¬ kd = 4) (h : kd = 5) : doesD kd A Z n y d = cutD A n d := by unfold doesD; rw [if_neg h1, if_neg h2, if_neg h3, if_neg h4, if_pos h]
theorem does6 (h1 : ¬ kd = 1) (h2 : ¬ kd = 2) (h3 : ¬ kd = 3) (h4 : ¬ kd = 4) (h5 : ¬ kd = 5) : doesD kd A Z n y d = removeD A d := by unfold doesD; rw [if_neg h1, if_neg h2, if_neg h3, if_neg h4, if_neg h5]
end
/-! ### VfsSteps -/
def letter (j : Int) : ByteArray := strOfNums [IntKind.u8.wrap (97 + j)]
theorem letter_inj0 : ∀ a b : Fin 26, letter (a.val : Nat) = letter (b.val : Nat) → a = b := by decide +kernel
theorem letter_named0 : ∀ a : Fin 26, namedB (letter (a.val : Nat)) = true := by decide +kernel
theorem letter_inj {a b : Int} (ha : 0 ≤ a ∧ a < 26) (hb : 0 ≤ b ∧ b < 26) (h : letter a = letter b) : a = b := by
  have e1 : ((a.toNat : Nat) : Int) = a := by omega
  have e2 : ((b.toNat : Nat) : Int) = b := by omega
  have := letter_inj0 ⟨a.toNat, by omega⟩ ⟨b.toNat, by omega⟩ (by rw [e1, e2]; exact h)
  have := congrArg Fin.val this
  simp only at this
  omega
theorem letter_named {a : Int} (ha : 0 ≤ a ∧ a < 26) : namedB (letter a) = true := by
  have e1 : ((a.toNat : Nat) : Int) = a := by omega
  have := letter_named0 ⟨a.toNat, by omega⟩
  rwa [e1] at this
theorem letter_sz {a : Int} (ha : 0 ≤ a ∧ a < 26) : (letter a).size ≤ 9223372036854775807 := by
  have := letter_named ha
  unfold namedB at this
  simp only [Bool.and_eq_true, decide_eq_true_eq] at this
  omega
structure JS (d : PD) (fail i done : Int) : Prop where
  wf : wfD d
  nms : ∀ f ∈ d.fs, ∃ j : Int, 0 ≤ j ∧ j < i ∧ f.nm = letter j
  emp : ∀ f ∈ d.fs, f.b = []
  len : (d.fs.length : Int) = done
  st : (d.down = false ∧ d.fuse = fail - i ∧ i < fail ∧ done = i) ∨ (d.down = true ∧ done = fail - 1 ∧ fail ≤ i)
section
variable {d : PD} {fail i done : Int} {nm : ByteArray} {y : List Int}
theorem JS.none_ (h : JS d fail i done) (hi : i ≤ 20) (hn : ∀ j : Int, 0 ≤ j → j < 20 → letter j ≠ nm) : getF nm d.fs = none := by
  refine List.find?_eq_none.2 fun f hf => ?_
  obtain ⟨j, h0, h1, e⟩ := h.nms f hf
  have := hn j h0 (by omega)
  simpa [e] using this
theorem JS.remove (h : JS d fail i done) (hi : i ≤ 20) (hn : ∀ j : Int, 0 ≤ j → j < 20 → letter j ≠ nm) : removeD nm d = (d, (removeD nm d).2) := by
  cases hd : d.down
  · rw [show removeD nm d = (d, 4) from with_none hd (h.none_ hi hn)]
  · rw [show removeD nm d = (d, 70) from with_down hd]
theorem JS.append (h : JS d fail i done) (hi : i ≤ 20) (hn : ∀ j : Int, 0 ≤ j → j < 20 → letter j ≠ nm) : appendD nm y d = (d, (appendD nm y d).2) := by
  cases hd : d.down
  · rw [show appendD nm y d = (d, 4) from with_none hd (h.none_ hi hn)]
  · rw [show appendD nm y d = (d, 70) from with_down hd]
theorem create_bad2 (hb : namedB nm = false) : createD nm d = (d, (createD nm d).2) := by
  cases hd : d.down
  · rw [create_bad hd hb]
  · rw [create_down hd]
theorem none_letter : ∀ j : Int, 0 ≤ j → j < 20 → letter j ≠ (⟨#[110, 111, 110, 101]⟩ : ByteArray) := by
  intro j h0 h1 e
  have := letter_named (a := j) ⟨h0, by omega⟩
  have h2 : (letter j).size = 1 := by unfold letter; rfl
  rw [e] at h2
  cases h2
theorem z_letter : ∀ j : Int, 0 ≤ j → j < 20 → letter j ≠ (⟨#[122]⟩ : ByteArray) := by
  intro j h0 h1 e
  have : letter j = letter 25 := e.trans (by decide +kernel)
  have := letter_inj ⟨h0, by omega⟩ ⟨by decide, by decide⟩ this
  omega
theorem JS.create (h : JS d fail i done) (hi : 0 ≤ i ∧ i < 20) : ((createD (letter i) d).2 = 0 ∧ JS (createD (letter i) d).1 fail (i + 1) (done + 1)) ∨ ((createD (letter i) d).2 = 70 ∧ JS (createD (letter i) d).1 fail (i + 1) done) := by
  have hw2 := wf_create (nm := letter i) h.wf
  have hup : ∀ f ∈ d.fs, ∃ j : Int, 0 ≤ j ∧ j < i + 1 ∧ f.nm = letter j := fun f hf => by
    obtain ⟨j, h0, h1, e⟩ := h.nms f hf
    exact ⟨j, h0, by omega, e⟩
  have hg : getF (letter i) d.fs = none := by
    refine List.find?_eq_none.2 fun f hf => ?_
    obtain ⟨j, h0, h1, e⟩ := h.nms f hf
    have : letter j ≠ letter i := fun e2 => by
      have := letter_inj ⟨h0, by omega⟩ ⟨hi.1, by omega⟩ e2
      omega
    simpa [e] using this
  rcases h.st with ⟨hd, hf, hlt, hdn⟩ | ⟨hd, hdn, hle⟩
  · rw [create_go hd (letter_named ⟨hi.1, by omega⟩) hg] at hw2 ⊢
    by_cases h1 : d.fuse = 1
    · rw [step_off h1] at hw2 ⊢
      exact .inr ⟨rfl, hw2, hup, h.emp, h.len, .inr ⟨rfl, by omega, by omega⟩⟩
    · rw [step_on h1 h.wf.fuse.1] at hw2 ⊢
      refine .inl ⟨rfl, hw2, fun f hf => ?_, fun f hf => ?_, ?_, .inl ⟨hd, ?_, by omega, by omega⟩⟩
      · have hf : f ∈ insF ⟨letter i, [], 0⟩ (delF (letter i) d.fs) := hf
        rcases List.mem_cons.1 ((ins_perm _ _).mem_iff.1 hf) with rfl | hf
        · exact ⟨i, hi.1, by omega, rfl⟩
        · exact hup f (del_mem f hf).1
      · have hf : f ∈ insF ⟨letter i, [], 0⟩ (delF (letter i) d.fs) := hf
        rcases List.mem_cons.1 ((ins_perm _ _).mem_iff.1 hf) with rfl | hf
        · rfl
        · exact h.emp f (del_mem f hf).1
      · show ((insF ⟨letter i, [], 0⟩ (delF (letter i) d.fs)).length : Int) = _
        rw [ins_len, del_none (get_none hg)]
        have := h.len
        omega
      · show decF d.fuse = _
        unfold decF
        have := h.wf.fuse
        split <;> omega
  · rw [create_down hd] at hw2 ⊢
    exact .inr ⟨rfl, hw2, hup, h.emp, h.len, .inr ⟨hd, hdn, by omega⟩⟩
theorem JS.down_ (h : JS d fail i done) : d.down = decide (done < i) := by
  rcases h.st with ⟨hd, hf, hlt, hdn⟩ | ⟨hd, hdn, hle⟩
  · rw [hd]; symm; rw [decide_eq_false_iff_not]; omega
  · rw [hd]; symm; rw [decide_eq_true_eq]; omega
theorem crash_empty : ∀ (fs : List PF) (kl : List Int), (∀ f ∈ fs, f.b = [] ∧ 0 ≤ f.sf ∧ f.sf ≤ f.b.length) → (crashF fs kl).1 = fs
  | [], _, _ => rfl
  | f :: r, kl, h => by
    obtain ⟨h1, h2, h3⟩ := h f (List.mem_cons_self ..)
    have hl : (f.b.length : Int) - f.sf = 0 := by rw [h1] at h3 ⊢; simp at h3 ⊢; omega
    rw [crash_keep hl, crash_empty r kl fun g hg => h g (List.mem_cons_of_mem _ hg)]
theorem JS.crash_ (h : JS d fail i done) : (crashD [] d).fs = d.fs := crash_empty d.fs [] fun f hf => ⟨h.emp f hf, h.wf.sf f hf⟩
theorem JS.last (h : JS d fail i done) (hi : i ≤ 20) : (createD (⟨#[122]⟩ : ByteArray) (crashD [] d)).2 = 0 := by
  have hg : getF (⟨#[122]⟩ : ByteArray) (crashD [] d).fs = none := by rw [h.crash_]; exact h.none_ hi z_letter
  rw [create_go rfl (by decide) hg, step_on (by show (0 : Int) ≠ 1; decide) (by show (0 : Int) ≤ 0; decide)]
theorem JS.len2 (h : JS d fail i done) (hi : i ≤ 20) (hf : fail ≤ 20) : d.fs.length ≤ 20 := by
  have := h.len
  rcases h.st with ⟨hd, hf, hlt, hdn⟩ | ⟨hd, hdn, hle⟩ <;> omega
end
/-! ### VfsMoves -/
def nA : ByteArray := ⟨#[97]⟩
def nB : ByteArray := ⟨#[98]⟩
def nC : ByteArray := ⟨#[99]⟩
def M20 : Int := 1048576
section
variable {a b more : List Int}
theorem mv_step (fs : List PF) (u : Int) (k : PD → PD) : stepD ⟨fs, M20, u, 0, false⟩ k = (k ⟨fs, M20, u, 0, false⟩, 0) := rfl
theorem mv1 : createD nA (newD 1048576) = (⟨[⟨nA, [], 0⟩], M20, 0, 0, false⟩, 0) := by kernel_rfl
theorem mv2 : createD nB ⟨[⟨nA, [], 0⟩], M20, 0, 0, false⟩ = (⟨[⟨nA, [], 0⟩, ⟨nB, [], 0⟩], M20, 0, 0, false⟩, 0) := by kernel_rfl
theorem mv3 (h : a.length ≤ 5000) : appendD nA a ⟨[⟨nA, [], 0⟩, ⟨nB, [], 0⟩], M20, 0, 0, false⟩ = (⟨[⟨nA, a, 0⟩, ⟨nB, [], 0⟩], M20, a.length, 0, false⟩, 0) := by
  rw [append_go (f := ⟨nA, [], 0⟩) rfl (by kernel_rfl) (by show ¬ M20 - 0 < (a.length : Int); unfold M20; omega), mv_step]
  have e : updF nA (fun f => { f with b := f.b ++ a }) [⟨nA, [], 0⟩, ⟨nB, [], 0⟩] = [⟨nA, a, 0⟩, ⟨nB, [], 0⟩] := by unfold updF; simp [show ¬ nB = nA from by decide]
  show (PD.mk (updF nA _ _) M20 (0 + (a.length : Int)) 0 false, (0 : Int)) = _
  rw [e, Int.zero_add]
theorem mv4 (h : a.length + b.length ≤ 5000) : appendD nB b ⟨[⟨nA, a, 0⟩, ⟨nB, [], 0⟩], M20, a.length, 0, false⟩ = (⟨[⟨nA, a, 0⟩, ⟨nB, b, 0⟩], M20, a.length + b.length, 0, false⟩, 0) := by
  rw [append_go (f := ⟨nB, [], 0⟩) rfl (by unfold getF; simp [show ¬ nA = nB from by decide]) (by show ¬ M20 - (a.length : Int) < (b.length : Int); unfold M20; omega), mv_step]
  have e : updF nB (fun f => { f with b := f.b ++ b }) [⟨nA, a, 0⟩, ⟨nB, [], 0⟩] = [⟨nA, a, 0⟩, ⟨nB, b, 0⟩] := by unfold updF; simp [show ¬ nA = nB from by decide]
  show (PD.mk (updF nB _ _) M20 ((a.length : Int) + (b.length : Int)) 0 false, (0 : Int)) = _
  rw [e]
theorem mv5 : syncD nA ⟨[⟨nA, a, 0⟩, ⟨nB, b, 0⟩], M20, a.length + b.length, 0, false⟩ = (⟨[⟨nA, a, a.length⟩, ⟨nB, b, 0⟩], M20, a.length + b.length, 0, false⟩, 0) := by
  rw [sync_go (f := ⟨nA, a, 0⟩) rfl (by unfold getF; simp), mv_step]
  have e : updF nA (fun f => { f with sf := f.b.length }) [⟨nA, a, 0⟩, ⟨nB, b, 0⟩] = [⟨nA, a, a.length⟩, ⟨nB, b, 0⟩] := by unfold updF; simp [show ¬ nB = nA from by decide]
  show (PD.mk (updF nA _ _) M20 _ 0 false, (0 : Int)) = _
  rw [e]
theorem mv6 (h : a.length + b.length + more.length ≤ 5000) : appendD nA more ⟨[⟨nA, a, a.length⟩, ⟨nB, b, 0⟩], M20, a.length + b.length, 0, false⟩ = (⟨[⟨nA, a ++ more, a.length⟩, ⟨nB, b, 0⟩], M20, a.length + b.length + more.length, 0, false⟩, 0) := by
  rw [append_go (f := ⟨nA, a, a.length⟩) rfl (by unfold getF; simp) (by show ¬ M20 - ((a.length : Int) + b.length) < (more.length : Int); unfold M20; omega), mv_step]
  have e : updF nA (fun f => { f with b := f.b ++ more }) [⟨nA, a, a.length⟩, ⟨nB, b, 0⟩] = [⟨nA, a ++ more, a.length⟩, ⟨nB, b, 0⟩] := by unfold updF; simp [show ¬ nB = nA from by decide]
  show (PD.mk (updF nA _ _) M20 _ 0 false, (0 : Int)) = _
  rw [e]
theorem mv7 {fs : List PF} {u : Int} {f : PF} (h : getF nA fs = some f) : renameD nA nA ⟨fs, M20, u, 0, false⟩ = (⟨fs, M20, u, 0, false⟩, 0) := by
  rw [rename_go (f := f) rfl (by decide) h, mv_step]
  rfl
theorem mv8 : renameD nA nB ⟨[⟨nA, a ++ more, a.length⟩, ⟨nB, b, 0⟩], M20, a.length + b.length + more.length, 0, false⟩ = (⟨[⟨nB, a ++ more, a.length⟩], M20, ((a ++ more).length : Int), 0, false⟩, 0) := by
  rw [rename_go (f := ⟨nA, a ++ more, a.length⟩) rfl (by decide) (by unfold getF; simp), mv_step]
  unfold renK
  rw [if_neg (by decide), drop_some (f := ⟨nB, b, 0⟩) (by unfold getF; simp [show ¬ nA = nB from by decide])]
  have e1 : delF nB [⟨nA, a ++ more, a.length⟩, ⟨nB, b, 0⟩] = [⟨nA, a ++ more, a.length⟩] := by unfold delF; simp [show ¬ nA = nB from by decide]
  have e2 : delF nA [⟨nA, a ++ more, a.length⟩] = [] := by unfold delF; simp
  show (PD.mk (insF _ (delF nB (delF nA (delF nB _)))) M20 (((a.length : Int) + b.length + more.length) - (b.length : Int)) 0 false, (0 : Int)) = _
  rw [e1, e2, List.length_append]
  show (PD.mk [_] M20 _ 0 false, (0 : Int)) = (PD.mk [_] M20 _ 0 false, (0 : Int))
  rw [show ((a.length : Int) + b.length + more.length) - (b.length : Int) = ((a.length + more.length : Nat) : Int) by omega]
theorem mv9 {f : PF} {u : Int} (h : f.nm = nB) : renameD nA nC ⟨[f], M20, u, 0, false⟩ = (⟨[f], M20, u, 0, false⟩, 4) := rename_none rfl (by decide) (by unfold getF; simp [h, show ¬ nB = nA from by decide])
theorem mvJ (h : a.length + more.length ≤ 5000) : JK nB M20 ⟨[⟨nB, a ++ more, a.length⟩], M20, ((a ++ more).length : Int), 0, false⟩ (a ++ more) a.length := by
  refine ⟨rfl, rfl, by decide, by unfold M20; decide, rfl, ⟨by omega, by rw [List.length_append]; omega, by rw [List.length_append]; unfold M20; omega⟩, f0⟩
end
end Go.Proofs.Ytkdahjnmldeklaa.PA
