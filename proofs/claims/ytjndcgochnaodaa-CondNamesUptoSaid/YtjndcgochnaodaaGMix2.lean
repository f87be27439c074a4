/- Several texts of this seat in one (HCond2 GCond2): put together by a program of this session. -/
import Derived.Test.YtjndcgochnaodaaGMix1
namespace Go.Proofs.Ytjndcgochnaodaa.PA
open Go.RowKit Go.Proofs.YtjndcgochnaodaaW.PrintWords Go.Proofs.YtjndcgochnaodaaW.PrintLast Go.Proofs.YtjndcgochnaodaaW.PrintMore
set_option linter.unusedVariables false
set_option linter.unusedSimpArgs false
/-- A condition, as a call hands it back. -/
abbrev CondR := Int × ByteArray × ByteArray × List S24
def ofR (p : CondR) : S24 := ⟨p.1, p.2.1, p.2.2.1, p.2.2.2⟩
/-- One part more behind those that are there. -/
def joinP (kk : Int) (acc : List S24) (p : CondR) : Option (List S24) :=
  if p.1 = kk ∧ 0 < (p.2.2.2.length : Int) then (if acc.length + p.2.2.2.length ≤ 2199023255552 then some (acc ++ p.2.2.2) else none)
  else if acc.length + 1 ≤ 2199023255552 then some (acc ++ [(⟨p.1, p.2.1, p.2.2.1, p.2.2.2⟩ : S24)]) else none
def partsM {α : Type} (f : α → Option CondR) (kk : Int) : List S24 → List α → Option (List S24)
  | acc, [] => some acc
  | acc, x :: xs => (f x).bind fun p => (joinP kk acc p).bind fun acc' => partsM f kk acc' xs
theorem parts_in {α : Type} {f : α → Option CondR} {kk : Int} {r : List S24} {l : List α} {acc : List S24} {i : Nat} (z : α) (hi : i < l.length) (h : partsM f kk acc (l.drop i) = some r) : ∃ p acc', f (l.getD i z) = some p ∧ joinP kk acc p = some acc' ∧ partsM f kk acc' (l.drop (i + 1)) = some r := by
  rw [List.drop_eq_getElem_cons hi] at h
  have e : l.getD i z = l[i] := by simp [List.getD_eq_getElem?_getD, List.getElem?_eq_getElem hi]
  rw [e]
  unfold partsM at h
  cases hp : f l[i] with
  | none => rw [hp] at h; cases h
  | some p =>
    rw [hp, Option.bind_some] at h
    cases hj : joinP kk acc p with
    | none => rw [hj] at h; cases h
    | some a => rw [hj, Option.bind_some] at h; exact ⟨p, a, rfl, hj, h⟩
theorem parts_out {α : Type} {f : α → Option CondR} {kk : Int} {r : List S24} {l : List α} {acc : List S24} {i : Nat} (hi : l.length ≤ i) (h : partsM f kk acc (l.drop i) = some r) : r = acc := by
  rw [List.drop_of_length_le hi] at h
  exact (Option.some.inj h).symm
theorem join_yes {kk : Int} {acc : List S24} {p : CondR} {a : List S24} (h : joinP kk acc p = some a) (h1 : p.1 = kk) (h2 : 0 < (p.2.2.2.length : Int)) : acc.length + p.2.2.2.length ≤ 2199023255552 ∧ a = acc ++ p.2.2.2 := by
  unfold joinP at h
  rw [if_pos ⟨h1, h2⟩] at h
  split at h
  · rename_i h3; exact ⟨h3, (Option.some.inj h).symm⟩
  · cases h
theorem join_no {kk : Int} {acc : List S24} {p : CondR} {a : List S24} (h : joinP kk acc p = some a) (h1 : ¬ (p.1 = kk ∧ 0 < (p.2.2.2.length : Int))) : acc.length + 1 ≤ 2199023255552 ∧ a = acc ++ [(⟨p.1, p.2.1, p.2.2.1, p.2.2.2⟩ : S24)] := by
  unfold joinP at h
  rw [if_neg h1] at h
  split at h
  · rename_i h3; exact ⟨h3, (Option.some.inj h).symm⟩
  · cases h
theorem partsM_mono {α : Type} {f f' : α → Option CondR} {kk : Int} (hf : ∀ x b, f x = some b → f' x = some b) : ∀ (l : List α) (acc r : List S24), partsM f kk acc l = some r → partsM f' kk acc l = some r
  | [], acc, r, hr => hr
  | x :: xs, acc, r, hr => by
    unfold partsM at hr ⊢
    cases hp : f x with
    | none => rw [hp] at hr; cases hr
    | some b =>
      rw [hp, Option.bind_some] at hr
      rw [hf x b hp, Option.bind_some]
      cases hj : joinP kk acc b with
      | none => rw [hj] at hr; cases hr
      | some a => rw [hj, Option.bind_some] at hr; exact partsM_mono hf xs a r hr
def cond_simple.f : Nat → Int → ByteArray → ByteArray → List S24 → Bool → Option CondR
  | 0, _, _, _, _, _ => none
  | k + 1, kd, nm, vl, kids, fl =>
    if kd = 3 then (if 0 < (kids.length : Int) then cond_simple.f k (kids.getD 0 z24).f0 (kids.getD 0 z24).f1 (kids.getD 0 z24).f2 (kids.getD 0 z24).f3 (!fl) else none)
    else if fl = true then (if 0 ≤ kd ∧ kd < 6 then (partsM (fun x => cond_simple.f k x.f0 x.f1 x.f2 x.f3 fl) (rd [0, 2, 1, 0, 5, 4] kd) [] kids).map fun ps => (rd [0, 2, 1, 0, 5, 4] kd, nm, vl, ps) else none)
    else (partsM (fun x => cond_simple.f k x.f0 x.f1 x.f2 x.f3 fl) kd [] kids).map fun ps => (kd, nm, vl, ps)
theorem cond_simple.mono : ∀ a0 a1 a2 a3 a4 k, LeO (cond_simple.f k a0 a1 a2 a3 a4) (cond_simple.f (k + 1) a0 a1 a2 a3 a4) := by
  intro a0 a1 a2 a3 a4 k
  induction k generalizing a0 a1 a2 a3 a4 with
  | zero => intro r h; simp [cond_simple.f] at h
  | succ k ih =>
    intro r h
    have hm : ∀ (kk : Int) (q : List S24), partsM (fun x => cond_simple.f k x.f0 x.f1 x.f2 x.f3 a4) kk [] a3 = some q → partsM (fun x => cond_simple.f (k + 1) x.f0 x.f1 x.f2 x.f3 a4) kk [] a3 = some q := fun kk q => partsM_mono (fun x b hb => ih _ _ _ _ _ _ hb) _ _ _
    unfold cond_simple.f at h ⊢
    split
    · rename_i h1; rw [if_pos h1] at h
      split
      · rename_i h2; rw [if_pos h2] at h; exact ih _ _ _ _ _ _ h
      · rename_i h2; rw [if_neg h2] at h; cases h
    · rename_i h1; rw [if_neg h1] at h
      split
      · rename_i h2; rw [if_pos h2] at h
        split
        · rename_i h3; rw [if_pos h3, Option.map_eq_some_iff] at h
          obtain ⟨q, hq, rfl⟩ := h
          rw [hm _ _ hq]; rfl
        · rename_i h3; rw [if_neg h3] at h; cases h
      · rename_i h2; rw [if_neg h2, Option.map_eq_some_iff] at h
        obtain ⟨q, hq, rfl⟩ := h
        rw [hm _ _ hq]; rfl
section
variable {k : Nat} {kd : Int} {nm vl : ByteArray} {kids : List S24} {fl : Bool} {r : CondR}
theorem si_not (h : cond_simple.f (k + 1) kd nm vl kids fl = some r) (h1 : kd = 3) : 0 < (kids.length : Int) ∧ cond_simple.f k (kids.getD 0 z24).f0 (kids.getD 0 z24).f1 (kids.getD 0 z24).f2 (kids.getD 0 z24).f3 (!fl) = some r := by
  unfold cond_simple.f at h
  rw [if_pos h1] at h
  split at h
  · rename_i h4; exact ⟨h4, h⟩
  · cases h
theorem si_flip (h : cond_simple.f (k + 1) kd nm vl kids fl = some r) (h1 : ¬ kd = 3) (h2 : fl = true) : 0 ≤ kd ∧ kd < 6 ∧ ∃ ps, partsM (fun x => cond_simple.f k x.f0 x.f1 x.f2 x.f3 fl) (rd [0, 2, 1, 0, 5, 4] kd) [] kids = some ps ∧ r = (rd [0, 2, 1, 0, 5, 4] kd, nm, vl, ps) := by
  unfold cond_simple.f at h
  rw [if_neg h1, if_pos h2] at h
  split at h
  · rename_i h4; rw [Option.map_eq_some_iff] at h; obtain ⟨q, hq, rfl⟩ := h; exact ⟨h4.1, h4.2, q, hq, rfl⟩
  · cases h
theorem si_flat (h : cond_simple.f (k + 1) kd nm vl kids fl = some r) (h1 : ¬ kd = 3) (h2 : fl = false) : ∃ ps, partsM (fun x => cond_simple.f k x.f0 x.f1 x.f2 x.f3 fl) kd [] kids = some ps ∧ r = (kd, nm, vl, ps) := by
  unfold cond_simple.f at h
  rw [if_neg h1, if_neg (by rw [h2]; decide), Option.map_eq_some_iff] at h
  obtain ⟨q, hq, rfl⟩ := h; exact ⟨q, hq, rfl⟩
end
end Go.Proofs.Ytjndcgochnaodaa.PA

/- Conditions: the simple form, walked. Printed by a program of this session; Lean checks it. -/
namespace Go.Proofs.Ytjndcgochnaodaa.PA
open Go.RowKit Go.Proofs.YtjndcgochnaodaaW.PrintWords Go.Proofs.YtjndcgochnaodaaW.PrintLast Go.Proofs.YtjndcgochnaodaaW.PrintMore
set_option linter.unusedVariables false
set_option linter.unusedSimpArgs false
namespace GCond2_
theorem gwagg22 : ∀ w, (isAgg 22).run Try.prog w = .ok false w := fun _ => by kernel_rfl
theorem gwagg24 : ∀ w, (isAgg 24).run Try.prog w = .ok true w := fun _ => by kernel_rfl
theorem gwagg3 : ∀ w, (isAgg 3).run Try.prog w = .ok false w := fun _ => by kernel_rfl
theorem gwagg9 : ∀ w, (isAgg 9).run Try.prog w = .ok false w := fun _ => by kernel_rfl
theorem gwfld24_0 (g off : Nat) : ∀ w, (Instr.fieldAt 24 (.pointer (some ⟨g, off, none⟩)) 0).run Try.prog w = .ok (.pointer (some ⟨g, off + 0, none⟩)) w := fun _ => by kernel_rfl
theorem gwfld24_1 (g off : Nat) : ∀ w, (Instr.fieldAt 24 (.pointer (some ⟨g, off, none⟩)) 1).run Try.prog w = .ok (.pointer (some ⟨g, off + 1, none⟩)) w := fun _ => by kernel_rfl
theorem gwfld24_2 (g off : Nat) : ∀ w, (Instr.fieldAt 24 (.pointer (some ⟨g, off, none⟩)) 2).run Try.prog w = .ok (.pointer (some ⟨g, off + 2, none⟩)) w := fun _ => by kernel_rfl
theorem gwfld24_3 (g off : Nat) : ∀ w, (Instr.fieldAt 24 (.pointer (some ⟨g, off, none⟩)) 3).run Try.prog w = .ok (.pointer (some ⟨g, off + 3, none⟩)) w := fun _ => by kernel_rfl
theorem gwinfo24 : (Try.prog.info? 24).map (fun i => (i.zero, i.size, i.bytes)) = some (some (.agg #[.int .i64 0, .string (⟨#[]⟩ : ByteArray), .string (⟨#[]⟩ : ByteArray), .slice none 0 0]), 4, 64) := by kernel_rfl
theorem gwsiz22 : ∀ w, (sizeOf 22).run Try.prog w = .ok 1 w := fun _ => by kernel_rfl
theorem gwsiz24 : ∀ w, (sizeOf 24).run Try.prog w = .ok 4 w := fun _ => by kernel_rfl
theorem gwsiz3 : ∀ w, (sizeOf 3).run Try.prog w = .ok 1 w := fun _ => by kernel_rfl
theorem gwzer24 : ∀ w, (zeroValue 24).run Try.prog w = .ok (.agg #[.int .i64 0, .string (⟨#[]⟩ : ByteArray), .string (⟨#[]⟩ : ByteArray), .slice none 0 0]) w := fun _ => by kernel_rfl
def SimpleIH (k : Nat) : Prop := ∀ (kd : Int) (nm vl : ByteArray) (A3 : Option Addr) (c3 : Nat) (kids : List S24) (fl : Bool) (r : CondR) (w : World), Kd.C k24 w A3 kids.length kids → kids.length ≤ c3 → cond_simple.f k kd nm vl kids fl = some r → Calls Try.prog 32 #[(.agg #[.int .i64 kd, .string nm, .string vl, .slice A3 kids.length c3] : Value), .bool fl] w fun e w' => ∃ A c S, e = .returned (.agg #[.int .i64 r.1, .string r.2.1, .string r.2.2.1, .slice A r.2.2.2.length c]) ∧ Out w w' (fun _ => False) [Chunk.view k24 S A r.2.2.2.length c r.2.2.2]

set_option maxHeartbeats 4000000 in
set_option maxRecDepth 100000 in
theorem simple_step (k : Nat) (IH : SimpleIH k) (kd : Int) (nm vl : ByteArray) (A3 : Option Addr) (c3 : Nat) (kids : List S24) (fl : Bool) (r : CondR) (w : World) (hr3 : Kd.C k24 w A3 kids.length kids) (hc3 : kids.length ≤ c3) (h : cond_simple.f (k + 1) kd nm vl kids fl = some r) :
    Calls Try.prog 32 #[.agg #[.int .i64 kd, .string nm, .string vl, .slice A3 kids.length c3], .bool fl] w fun e w' => ∃ A c S, e = .returned (.agg #[.int .i64 r.1, .string r.2.1, .string r.2.2.1, .slice A r.2.2.2.length c]) ∧ Out w w' (fun _ => False) [Chunk.view k24 S A r.2.2.2.length c r.2.2.2] := by
  have hkl := len_C hr3
  refine gw_start (N := 68) (vs := [.agg #[.int .i64 kd, .string nm, .string vl, .slice A3 kids.length c3], .bool fl]) Try.func32 rfl rfl (by simp) fun a HF HO => ?_
  replace HO : Own w w [] := HO
  refine gw_seq fun K1 hK1 => ?_
  refine wp_region_lit ?_
  refine gw_new HF HO (want_none rfl) rfl (by decide) (op_box rfl (HF.ev rfl)) ?_
  intro g2 a3 w4 HF5 HO6; clear HF HO
  have HO7 : Own w w4 [Chunk.blk g2 (.cells #[.int .i64 kd, .string nm, .string vl, .slice A3 kids.length c3] 24 (0, 0))] := HO6
  clear HO6
  refine gw_new HF5 HO7 (want_none rfl) rfl (by decide) (op_alloc gwzer24 rfl) ?_
  intro g8 a9 w10 HF11 HO12; clear HF5 HO7
  have HO13 : Own w w10 [Chunk.blk g8 (.cells #[.int .i64 0, .string (⟨#[]⟩ : ByteArray), .string (⟨#[]⟩ : ByteArray), .slice none 0 0] 24 (0, 0)), Chunk.blk g2 (.cells #[.int .i64 kd, .string nm, .string vl, .slice A3 kids.length c3] 24 (0, 0))] := HO12
  clear HO12
  refine wpList_nil ?_
  refine gw_nx (hK1 _ _ ?_)
  refine gw_seq fun K14 hK14 => ?_
  refine gw_seq fun K15 hK15 => ?_
  refine wp_region_lit ?_
  refine gw_ev HF11 (want_none rfl) rfl (by decide) (op_field (gwfld24_0 _ _) rfl (HF11.ev rfl)) ?_
  intro a16 HF17; clear HF11
  refine gw_ev HF17 (want_none rfl) rfl (by decide) (op_load1 gwagg3 rfl (HF17.ev rfl) (blk_at (HO13.get 1 rfl) rfl)) ?_
  intro a18 HF19; clear HF17
  refine gw_ev HF19 (want_none rfl) rfl (by decide) (op_eqi rfl (HF19.ev rfl) (ev_c _ _)) ?_
  intro a20 HF21; clear HF19
  refine wpList_nil ?_
  refine gw_nx (hK15 _ _ ?_)
  refine gw_cond HF21 rfl (fun hb22 => ?_) (fun hb22 => ?_)
  · skip
    have HF23 := HF21.subst_ (d := 11) (b := true) rfl hb22
    clear HF21
    (try simp only [Bool.and_eq_true, Bool.or_eq_true, Bool.and_eq_false_iff, Bool.or_eq_false_iff, Bool.not_and, Bool.not_or, Bool.not_not, decide_eq_true_eq, decide_eq_false_iff_not, Bool.not_eq_true', Bool.not_eq_false', Bool.not_eq_true, Bool.not_eq_false, ne_eq, Decidable.not_not, Int.not_lt, Int.not_le, not_true_eq_false, not_false_eq_true, bne_iff_ne, beq_iff_eq, bne_eq_false_iff_eq, beq_eq_false_iff_ne] at hb22)
    obtain ⟨hlt, hs⟩ := si_not h (by assumption)
    refine gw_seq fun K24 hK24 => ?_
    refine wp_region_lit ?_
    refine gw_ev HF23 (want_none rfl) rfl (by decide) (op_field (gwfld24_3 _ _) rfl (HF23.ev rfl)) ?_
    intro a25 HF26; clear HF23
    refine gw_ev HF26 (want_none rfl) rfl (by decide) (op_load1 gwagg22 rfl (HF26.ev rfl) (blk_at (HO13.get 1 rfl) rfl)) ?_
    intro a27 HF28; clear HF26
    obtain ⟨ad29, cs32, hA30, hl33, hK34, hc31⟩ := Kd.C_get hr3 z24 0 (by omega) (by omega)
    obtain ⟨A35, c36, rfl, hl37, hC38⟩ := k24_open hK34
    clear hl33
    refine gw_ev HF28 (want_none rfl) rfl (by decide) (op_index Try.underlying22 gwsiz24 rfl (HF28.ev rfl) (ev_c _ _) hA30 (⟨by omega, by omega⟩)) ?_
    intro a39 HF40; clear HF28
    refine gw_ev HF40 (want_none rfl) rfl (by decide) (op_loadc gwagg24 gwsiz24 rfl (HF40.ev rfl) rfl (cells0 HO13 hc31)) ?_
    intro a41 HF42; clear HF40
    refine gw_ev HF42 (want_none rfl) rfl (by decide) (op_move rfl (HF42.ev rfl)) ?_
    intro a43 HF44; clear HF42
    refine gw_ev HF44 (want_none rfl) rfl (by decide) (op_not rfl (HF44.ev rfl)) ?_
    intro a45 HF46; clear HF44
    refine gw_call HF46 (want_none rfl) rfl (by decide) (op_callL Try.func32 (by kernel_rfl) rfl rfl (ar_cons (HF46.ev rfl) (ar_cons (HF46.ev rfl) ar_nil))) (IH ((kids.getD (0 : Int).toNat z24).f0) ((kids.getD (0 : Int).toNat z24).f1) ((kids.getD (0 : Int).toNat z24).f2) A35 c36 ((kids.getD (0 : Int).toNat z24).f3) (!fl) r _ (Kd.C_below hC38 HO13.below) hl37 hs) ?_
    rintro e50 w51 ⟨A47, c48, S49, rfl, hb52⟩
    refine ⟨_, rfl, fun a53 HF54 => ?_⟩
    have HO55 := HO13.fresh hb52
    clear HF46 HO13 hb52
    have HO57 : Own w w51 [Chunk.view k24 S49 A47 r.2.2.2.length c48 r.2.2.2, Chunk.blk g8 (.cells #[.int .i64 0, .string (⟨#[]⟩ : ByteArray), .string (⟨#[]⟩ : ByteArray), .slice none 0 0] 24 (0, 0)), Chunk.blk g2 (.cells #[.int .i64 kd, .string nm, .string vl, .slice A3 kids.length c3] 24 (0, 0))] := HO55
    clear HO55
    refine gw_setn 1 HF54 HO57 rfl (want_none rfl) rfl (op_storen gwsiz24 rfl (HF54.ev rfl) (HF54.ev rfl) (HO57.get 1 rfl) rfl (by simp) (by simp [Value.oneCell'])) ?_
    intro a58 w60 HF59 HO61; clear HF54 HO57
    have HO62 : Own w w60 [Chunk.view k24 S49 A47 r.2.2.2.length c48 r.2.2.2, Chunk.blk g8 (.cells #[.int .i64 r.1, .string r.2.1, .string r.2.2.1, .slice A47 r.2.2.2.length c48] 24 (0, 0)), Chunk.blk g2 (.cells #[.int .i64 kd, .string nm, .string vl, .slice A3 kids.length c3] 24 (0, 0))] := HO61
    clear HO61
    refine wpList_nil ?_
    refine gw_nx (hK24 _ _ ?_)
    refine wp_ret ?_
    refine gw_thr ?_
    refine gw_rets1 HF59 rfl (rv_celln HF59 rfl gwagg24 gwsiz24 (HO62.get 1 rfl) rfl) ?_
    exact ⟨_, _, _, rfl, (HO62.sel [0] (by decide)).out⟩
  · skip
    have HF63 := HF21.subst_ (d := 11) (b := false) rfl hb22
    clear HF21
    (try simp only [Bool.and_eq_true, Bool.or_eq_true, Bool.and_eq_false_iff, Bool.or_eq_false_iff, Bool.not_and, Bool.not_or, Bool.not_not, decide_eq_true_eq, decide_eq_false_iff_not, Bool.not_eq_true', Bool.not_eq_false', Bool.not_eq_true, Bool.not_eq_false, ne_eq, Decidable.not_not, Int.not_lt, Int.not_le, not_true_eq_false, not_false_eq_true, bne_iff_ne, beq_iff_eq, bne_eq_false_iff_eq, beq_eq_false_iff_ne] at hb22)
    refine wp_skip ?_
    refine gw_nx (hK14 _ _ ?_)
    refine gw_seq fun K64 hK64 => ?_
    refine wp_region_lit ?_
    refine gw_ev HF63 (want_none rfl) rfl (by decide) (op_field (gwfld24_0 _ _) rfl (HF63.ev rfl)) ?_
    intro a65 HF66; clear HF63
    refine gw_ev HF66 (want_none rfl) rfl (by decide) (op_load1 gwagg3 rfl (HF66.ev rfl) (blk_at (HO13.get 1 rfl) rfl)) ?_
    intro a67 HF68; clear HF66
    refine gw_ev HF68 (want_none rfl) rfl (by decide) (op_field (gwfld24_1 _ _) rfl (HF68.ev rfl)) ?_
    intro a69 HF70; clear HF68
    refine gw_ev HF70 (want_none rfl) rfl (by decide) (op_load1 gwagg9 rfl (HF70.ev rfl) (blk_at (HO13.get 1 rfl) rfl)) ?_
    intro a71 HF72; clear HF70
    refine gw_ev HF72 (want_none rfl) rfl (by decide) (op_field (gwfld24_2 _ _) rfl (HF72.ev rfl)) ?_
    intro a73 HF74; clear HF72
    refine gw_ev HF74 (want_none rfl) rfl (by decide) (op_load1 gwagg9 rfl (HF74.ev rfl) (blk_at (HO13.get 1 rfl) rfl)) ?_
    intro a75 HF76; clear HF74
    refine gw_ev HF76 (want_none rfl) rfl (by decide) (op_build (cells := #[.int .i64 kd, .string nm, .string vl, .slice none 0 0]) rfl (pt_cons (HF76.ev rfl) (pt_cons (HF76.ev rfl) (pt_cons (HF76.ev rfl) pt_nil))) (by kernel_rfl)) ?_
    intro a77 HF78; clear HF76
    refine gw_new HF78 HO13 (want_none rfl) rfl (by decide) (op_alloc gwzer24 rfl) ?_
    intro g79 a80 w81 HF82 HO83; clear HF78 HO13
    have HO84 : Own w w81 [Chunk.blk g79 (.cells #[.int .i64 0, .string (⟨#[]⟩ : ByteArray), .string (⟨#[]⟩ : ByteArray), .slice none 0 0] 24 (0, 0)), Chunk.blk g8 (.cells #[.int .i64 0, .string (⟨#[]⟩ : ByteArray), .string (⟨#[]⟩ : ByteArray), .slice none 0 0] 24 (0, 0)), Chunk.blk g2 (.cells #[.int .i64 kd, .string nm, .string vl, .slice A3 kids.length c3] 24 (0, 0))] := HO83
    clear HO83
    refine gw_setn 0 HF82 HO84 rfl (want_none rfl) rfl (op_storen gwsiz24 rfl (HF82.ev rfl) (HF82.ev rfl) (HO84.get 0 rfl) rfl (by simp) (by simp [Value.oneCell'])) ?_
    intro a85 w87 HF86 HO88; clear HF82 HO84
    have HO89 : Own w w87 [Chunk.blk g79 (.cells #[.int .i64 kd, .string nm, .string vl, .slice none 0 0] 24 (0, 0)), Chunk.blk g8 (.cells #[.int .i64 0, .string (⟨#[]⟩ : ByteArray), .string (⟨#[]⟩ : ByteArray), .slice none 0 0] 24 (0, 0)), Chunk.blk g2 (.cells #[.int .i64 kd, .string nm, .string vl, .slice A3 kids.length c3] 24 (0, 0))] := HO88
    clear HO88
    refine wpList_nil ?_
    refine gw_nx (hK64 _ _ ?_)
    refine gw_seq fun K90 hK90 => ?_
    refine gw_seq fun K91 hK91 => ?_
    refine wp_region_lit ?_
    refine gw_ev HF86 (want_none rfl) rfl (by decide) (op_move rfl (HF86.ev rfl)) ?_
    intro a92 HF93; clear HF86
    refine wpList_nil ?_
    refine gw_nx (hK91 _ _ ?_)
    refine gw_cond HF93 rfl (fun hb94 => ?_) (fun hb94 => ?_)
    · skip
      have HF95 := HF93.subst_ (d := 26) (b := true) rfl hb94
      clear HF93
      (try simp only [Bool.and_eq_true, Bool.or_eq_true, Bool.and_eq_false_iff, Bool.or_eq_false_iff, Bool.not_and, Bool.not_or, Bool.not_not, decide_eq_true_eq, decide_eq_false_iff_not, Bool.not_eq_true', Bool.not_eq_false', Bool.not_eq_true, Bool.not_eq_false, ne_eq, Decidable.not_not, Int.not_lt, Int.not_le, not_true_eq_false, not_false_eq_true, bne_iff_ne, beq_iff_eq, bne_eq_false_iff_eq, beq_eq_false_iff_ne] at hb94)
      obtain ⟨hk0, hk6, ps, hps, rfl⟩ := si_flip h (by assumption) (by assumption)
      refine wp_region_lit ?_
      refine gw_lit (enc := Value.int .i64) (fun _ => rfl) (xs := [0, 2, 1, 0, 5, 4]) (e := 3) HF95 HO89 (want_none rfl) rfl (by decide) (op_bslice (by kernel_rfl) rfl (pt_cons (ev_c _ _) (pt_cons (ev_c _ _) (pt_cons (ev_c _ _) (pt_cons (ev_c _ _) pt_nil))))) (by simp) ?_
      intro A96 S97 a98 w99 HF100 HO101; clear HF95 HO89
      have HO102 : Own w w99 [Chunk.row (Kd.int .i64) 3 w.heap.size S97 (.slice A96 (([0, 2, 1, 0, 5, 4]).length) (([0, 2, 1, 0, 5, 4]).length)) ([0, 2, 1, 0, 5, 4]), Chunk.blk g79 (.cells #[.int .i64 kd, .string nm, .string vl, .slice none 0 0] 24 (0, 0)), Chunk.blk g8 (.cells #[.int .i64 0, .string (⟨#[]⟩ : ByteArray), .string (⟨#[]⟩ : ByteArray), .slice none 0 0] 24 (0, 0)), Chunk.blk g2 (.cells #[.int .i64 kd, .string nm, .string vl, .slice A3 kids.length c3] 24 (0, 0))] := HO101
      clear HO101
      refine gw_ev HF100 (want_none rfl) rfl (by decide) (op_field (gwfld24_0 _ _) rfl (HF100.ev rfl)) ?_
      intro a103 HF104; clear HF100
      refine gw_ev HF104 (want_none rfl) rfl (by decide) (op_load1 gwagg3 rfl (HF104.ev rfl) (blk_at (HO102.get 3 rfl) rfl)) ?_
      intro a105 HF106; clear HF104
      obtain ⟨ad107, hA108⟩ := row_head (HO102.get 0 rfl) kd (by omega) (by omega)
      subst hA108
      refine gw_ev HF106 (want_none rfl) rfl (by decide) (op_index Try.underlying57 gwsiz3 rfl (HF106.ev rfl) (HF106.ev rfl) rfl (⟨by omega, by omega⟩)) ?_
      intro a110 HF111; clear HF106
      refine gw_ev HF111 (want_none rfl) rfl (by decide) (op_load1 gwagg3 rfl (HF111.ev rfl) ((row_cell (HO102.get 0 rfl) kd (by omega) (by omega)).1)) ?_
      intro a112 HF113; clear HF111
      refine gw_ev HF113 (want_none rfl) rfl (by decide) (op_field (gwfld24_0 _ _) rfl (HF113.ev rfl)) ?_
      intro a114 HF115; clear HF113
      refine gw_set 1 HF115 HO102 rfl (want_none rfl) rfl (op_store1 gwsiz3 rfl (HF115.ev rfl) (HF115.ev rfl) rfl (blk_at (HO102.get 1 rfl) rfl) (blkf (HO102.get 1 rfl))) ?_
      intro a116 w118 HF117 HO119; clear HF115 HO102
      have HO120 : Own w w118 [Chunk.row (Kd.int .i64) 3 w.heap.size S97 (.slice (some ad107) (([0, 2, 1, 0, 5, 4]).length) (([0, 2, 1, 0, 5, 4]).length)) ([0, 2, 1, 0, 5, 4]), Chunk.blk g79 (.cells #[.int .i64 (rd ([0, 2, 1, 0, 5, 4]) kd), .string nm, .string vl, .slice none 0 0] 24 (0, 0)), Chunk.blk g8 (.cells #[.int .i64 0, .string (⟨#[]⟩ : ByteArray), .string (⟨#[]⟩ : ByteArray), .slice none 0 0] 24 (0, 0)), Chunk.blk g2 (.cells #[.int .i64 kd, .string nm, .string vl, .slice A3 kids.length c3] 24 (0, 0))] := HO119
      clear HO119
      refine wpList_nil ?_
      refine gw_nx (hK90 _ _ ?_)
      refine gw_seq fun K121 hK121 => ?_
      refine gw_seq fun K122 hK122 => ?_
      refine wp_region_lit ?_
      refine gw_ev HF117 (want_none rfl) rfl (by decide) (op_field (gwfld24_3 _ _) rfl (HF117.ev rfl)) ?_
      intro a123 HF124; clear HF117
      refine gw_ev HF124 (want_none rfl) rfl (by decide) (op_load1 gwagg22 rfl (HF124.ev rfl) (blk_at (HO120.get 3 rfl) rfl)) ?_
      intro a125 HF126; clear HF124
      refine gw_ev HF126 (want_none rfl) rfl (by decide) (op_len Try.underlying22 rfl (HF126.ev rfl)) ?_
      intro a127 HF128; clear HF126
      refine gw_ev HF128 (want_none rfl) rfl (by decide) (op_move rfl (ev_c _ _)) ?_
      intro a129 HF130; clear HF128
      refine wpList_nil ?_
      refine gw_nx (hK122 _ _ ?_)
      refine wp_block ?_
      have HO131 := HO120.nrow_nil k24 24 w.heap.size
      clear HO120
      have HO132 : Own w w118 [Chunk.nrow k24 24 w.heap.size (fun _ => False) (.slice none 0 0) ([] : List S24), Chunk.row (Kd.int .i64) 3 w.heap.size S97 (.slice (some ad107) (([0, 2, 1, 0, 5, 4]).length) (([0, 2, 1, 0, 5, 4]).length)) ([0, 2, 1, 0, 5, 4]), Chunk.blk g79 (.cells #[.int .i64 (rd ([0, 2, 1, 0, 5, 4]) kd), .string nm, .string vl, .slice none 0 0] 24 (0, 0)), Chunk.blk g8 (.cells #[.int .i64 0, .string (⟨#[]⟩ : ByteArray), .string (⟨#[]⟩ : ByteArray), .slice none 0 0] 24 (0, 0)), Chunk.blk g2 (.cells #[.int .i64 kd, .string nm, .string vl, .slice A3 kids.length c3] 24 (0, 0))] := HO131
      clear HO131
      refine gw_loop (fun m_ a_ w_ => ∃ (i : Int) (acc : List S24) (An : Option Addr) (cn : Nat) (Sn : Nat → Prop), Fr 68 a_ [(36, .int .i64 i), (1, .bool fl), (4, .pointer (some ⟨g8, 0, none⟩)), (5, .pointer (some ⟨g79, 0, none⟩)), (34, .slice A3 kids.length c3), (35, .int .i64 (kids.length : Int))] ∧ Own w w_ [Chunk.nrow k24 24 w.heap.size Sn (.slice An acc.length cn) acc, Chunk.blk g79 (.cells #[.int .i64 (rd ([0, 2, 1, 0, 5, 4]) kd), .string nm, .string vl, .slice An acc.length cn] 24 (0, 0)), Chunk.blk g8 (.cells #[.int .i64 0, .string (⟨#[]⟩ : ByteArray), .string (⟨#[]⟩ : ByteArray), .slice none 0 0] 24 (0, 0)), Chunk.blk g2 (.cells #[.int .i64 kd, .string nm, .string vl, .slice A3 kids.length c3] 24 (0, 0))] ∧ (0 ≤ i ∧ i ≤ kids.length) ∧ (partsM (fun x => cond_simple.f k x.f0 x.f1 x.f2 x.f3 fl) (rd ([0, 2, 1, 0, 5, 4]) kd) acc (kids.drop i.toNat) = some ps) ∧ m_ = (kids.length - i.toNat)) ((kids.length - (0 : Int).toNat)) ?_ ?_
      · refine ⟨0, ([] : List S24), none, 0, (fun _ => False), (HF130.pick (t := 36) rfl (HF130.pick (t := 1) rfl (HF130.pick (t := 4) rfl (HF130.pick (t := 5) rfl (HF130.pick (t := 34) rfl (HF130.pick (t := 35) rfl HF130.nil)))))), HO132.sel [0, 2, 3, 4] (by decide), ?_, ?_, rfl⟩
        · omega
        · exact hps
      · rintro m134 a135 w136 ⟨i, acc, An, cn, Sn, HF137, HO138, hi, hps, hm139⟩
        refine gw_seq fun K140 hK140 => ?_
        refine wp_region_lit ?_
        refine gw_ev HF137 (want_none rfl) rfl (by decide) (op_lss rfl (HF137.ev rfl) (HF137.ev rfl)) ?_
        intro a141 HF142; clear HF137
        refine wpList_nil ?_
        refine gw_nx (hK140 _ _ ?_)
        refine gw_seq fun K143 hK143 => ?_
        refine gw_cond HF142 rfl (fun hb144 => ?_) (fun hb144 => ?_)
        · skip
          have HF145 := HF142.subst_ (d := 37) (b := true) rfl hb144
          clear HF142
          (try simp only [Bool.and_eq_true, Bool.or_eq_true, Bool.and_eq_false_iff, Bool.or_eq_false_iff, Bool.not_and, Bool.not_or, Bool.not_not, decide_eq_true_eq, decide_eq_false_iff_not, Bool.not_eq_true', Bool.not_eq_false', Bool.not_eq_true, Bool.not_eq_false, ne_eq, Decidable.not_not, Int.not_lt, Int.not_le, not_true_eq_false, not_false_eq_true, bne_iff_ne, beq_iff_eq, bne_eq_false_iff_eq, beq_eq_false_iff_ne] at hb144)
          refine wp_skip ?_
          refine gw_nx (hK143 _ _ ?_)
          refine gw_seq fun K146 hK146 => ?_
          refine wp_block ?_
          refine gw_seq fun K147 hK147 => ?_
          refine wp_region_lit ?_
          obtain ⟨ad148, cs151, hA149, hl152, hK153, hc150⟩ := Kd.C_get hr3 z24 i (by omega) (by omega)
          obtain ⟨A154, c155, rfl, hl156, hC157⟩ := k24_open hK153
          clear hl152
          refine gw_ev HF145 (want_none rfl) rfl (by decide) (op_index Try.underlying22 gwsiz24 rfl (HF145.ev rfl) (HF145.ev rfl) hA149 (⟨by omega, by omega⟩)) ?_
          intro a158 HF159; clear HF145
          refine gw_ev HF159 (want_none rfl) rfl (by decide) (op_loadc gwagg24 gwsiz24 rfl (HF159.ev rfl) rfl (cells0 HO138 hc150)) ?_
          intro a160 HF161; clear HF159
          refine gw_new HF161 HO138 (want_none rfl) rfl (by decide) (op_alloc gwzer24 rfl) ?_
          intro g162 a163 w164 HF165 HO166; clear HF161 HO138
          have HO167 : Own w w164 [Chunk.blk g162 (.cells #[.int .i64 0, .string (⟨#[]⟩ : ByteArray), .string (⟨#[]⟩ : ByteArray), .slice none 0 0] 24 (0, 0)), Chunk.nrow k24 24 w.heap.size Sn (.slice An acc.length cn) acc, Chunk.blk g79 (.cells #[.int .i64 (rd ([0, 2, 1, 0, 5, 4]) kd), .string nm, .string vl, .slice An acc.length cn] 24 (0, 0)), Chunk.blk g8 (.cells #[.int .i64 0, .string (⟨#[]⟩ : ByteArray), .string (⟨#[]⟩ : ByteArray), .slice none 0 0] 24 (0, 0)), Chunk.blk g2 (.cells #[.int .i64 kd, .string nm, .string vl, .slice A3 kids.length c3] 24 (0, 0))] := HO166
          clear HO166
          refine gw_setn 0 HF165 HO167 rfl (want_none rfl) rfl (op_storen gwsiz24 rfl (HF165.ev rfl) (HF165.ev rfl) (HO167.get 0 rfl) rfl (by simp) (by simp [Value.oneCell'])) ?_
          intro a168 w170 HF169 HO171; clear HF165 HO167
          have HO172 : Own w w170 [Chunk.blk g162 (.cells #[.int .i64 ((kids.getD i.toNat z24).f0), .string ((kids.getD i.toNat z24).f1), .string ((kids.getD i.toNat z24).f2), .slice A154 ((kids.getD i.toNat z24).f3.length) c155] 24 (0, 0)), Chunk.nrow k24 24 w.heap.size Sn (.slice An acc.length cn) acc, Chunk.blk g79 (.cells #[.int .i64 (rd ([0, 2, 1, 0, 5, 4]) kd), .string nm, .string vl, .slice An acc.length cn] 24 (0, 0)), Chunk.blk g8 (.cells #[.int .i64 0, .string (⟨#[]⟩ : ByteArray), .string (⟨#[]⟩ : ByteArray), .slice none 0 0] 24 (0, 0)), Chunk.blk g2 (.cells #[.int .i64 kd, .string nm, .string vl, .slice A3 kids.length c3] 24 (0, 0))] := HO171
          clear HO171
          refine wpList_nil ?_
          refine gw_nx (hK147 _ _ ?_)
          refine gw_seq fun K173 hK173 => ?_
          refine wp_region_lit ?_
          refine gw_ev HF169 (want_none rfl) rfl (by decide) (op_loadn gwagg24 gwsiz24 rfl (HF169.ev rfl) (HO172.get 0 rfl) rfl rfl) ?_
          intro a174 HF175; clear HF169
          refine gw_ev HF175 (want_none rfl) rfl (by decide) (op_move rfl (HF175.ev rfl)) ?_
          intro a176 HF177; clear HF175
          obtain ⟨p, acc', hp, hj, hps'⟩ := parts_in z24 (by omega) hps
          refine gw_call HF177 (want_none rfl) rfl (by decide) (op_callL Try.func32 (by kernel_rfl) rfl rfl (ar_cons (HF177.ev rfl) (ar_cons (HF177.ev rfl) ar_nil))) (IH ((kids.getD i.toNat z24).f0) ((kids.getD i.toNat z24).f1) ((kids.getD i.toNat z24).f2) A154 c155 ((kids.getD i.toNat z24).f3) fl p _ (Kd.C_below hC157 HO172.below) hl156 hp) ?_
          rintro e181 w182 ⟨A178, c179, S180, rfl, hb183⟩
          refine ⟨_, rfl, fun a184 HF185 => ?_⟩
          have HO186 := HO172.fresh hb183
          clear HF177 HO172 hb183
          have HO188 : Own w w182 [Chunk.view k24 S180 A178 p.2.2.2.length c179 p.2.2.2, Chunk.blk g162 (.cells #[.int .i64 ((kids.getD i.toNat z24).f0), .string ((kids.getD i.toNat z24).f1), .string ((kids.getD i.toNat z24).f2), .slice A154 ((kids.getD i.toNat z24).f3.length) c155] 24 (0, 0)), Chunk.nrow k24 24 w.heap.size Sn (.slice An acc.length cn) acc, Chunk.blk g79 (.cells #[.int .i64 (rd ([0, 2, 1, 0, 5, 4]) kd), .string nm, .string vl, .slice An acc.length cn] 24 (0, 0)), Chunk.blk g8 (.cells #[.int .i64 0, .string (⟨#[]⟩ : ByteArray), .string (⟨#[]⟩ : ByteArray), .slice none 0 0] 24 (0, 0)), Chunk.blk g2 (.cells #[.int .i64 kd, .string nm, .string vl, .slice A3 kids.length c3] 24 (0, 0))] := HO186
          clear HO186
          refine gw_new HF185 HO188 (want_none rfl) rfl (by decide) (op_alloc gwzer24 rfl) ?_
          intro g189 a190 w191 HF192 HO193; clear HF185 HO188
          have HO194 : Own w w191 [Chunk.blk g189 (.cells #[.int .i64 0, .string (⟨#[]⟩ : ByteArray), .string (⟨#[]⟩ : ByteArray), .slice none 0 0] 24 (0, 0)), Chunk.view k24 S180 A178 p.2.2.2.length c179 p.2.2.2, Chunk.blk g162 (.cells #[.int .i64 ((kids.getD i.toNat z24).f0), .string ((kids.getD i.toNat z24).f1), .string ((kids.getD i.toNat z24).f2), .slice A154 ((kids.getD i.toNat z24).f3.length) c155] 24 (0, 0)), Chunk.nrow k24 24 w.heap.size Sn (.slice An acc.length cn) acc, Chunk.blk g79 (.cells #[.int .i64 (rd ([0, 2, 1, 0, 5, 4]) kd), .string nm, .string vl, .slice An acc.length cn] 24 (0, 0)), Chunk.blk g8 (.cells #[.int .i64 0, .string (⟨#[]⟩ : ByteArray), .string (⟨#[]⟩ : ByteArray), .slice none 0 0] 24 (0, 0)), Chunk.blk g2 (.cells #[.int .i64 kd, .string nm, .string vl, .slice A3 kids.length c3] 24 (0, 0))] := HO193
          clear HO193
          refine gw_setn 0 HF192 HO194 rfl (want_none rfl) rfl (op_storen gwsiz24 rfl (HF192.ev rfl) (HF192.ev rfl) (HO194.get 0 rfl) rfl (by simp) (by simp [Value.oneCell'])) ?_
          intro a195 w197 HF196 HO198; clear HF192 HO194
          have HO199 : Own w w197 [Chunk.blk g189 (.cells #[.int .i64 p.1, .string p.2.1, .string p.2.2.1, .slice A178 p.2.2.2.length c179] 24 (0, 0)), Chunk.view k24 S180 A178 p.2.2.2.length c179 p.2.2.2, Chunk.blk g162 (.cells #[.int .i64 ((kids.getD i.toNat z24).f0), .string ((kids.getD i.toNat z24).f1), .string ((kids.getD i.toNat z24).f2), .slice A154 ((kids.getD i.toNat z24).f3.length) c155] 24 (0, 0)), Chunk.nrow k24 24 w.heap.size Sn (.slice An acc.length cn) acc, Chunk.blk g79 (.cells #[.int .i64 (rd ([0, 2, 1, 0, 5, 4]) kd), .string nm, .string vl, .slice An acc.length cn] 24 (0, 0)), Chunk.blk g8 (.cells #[.int .i64 0, .string (⟨#[]⟩ : ByteArray), .string (⟨#[]⟩ : ByteArray), .slice none 0 0] 24 (0, 0)), Chunk.blk g2 (.cells #[.int .i64 kd, .string nm, .string vl, .slice A3 kids.length c3] 24 (0, 0))] := HO198
          clear HO198
          refine wpList_nil ?_
          refine gw_nx (hK173 _ _ ?_)
          refine gw_seq fun K200 hK200 => ?_
          refine wp_region_lit ?_
          refine gw_ev HF196 (want_none rfl) rfl (by decide) (op_field (gwfld24_0 _ _) rfl (HF196.ev rfl)) ?_
          intro a201 HF202; clear HF196
          refine gw_ev HF202 (want_none rfl) rfl (by decide) (op_load1 gwagg3 rfl (HF202.ev rfl) (blk_at (HO199.get 0 rfl) rfl)) ?_
          intro a203 HF204; clear HF202
          refine gw_ev HF204 (want_none rfl) rfl (by decide) (op_field (gwfld24_0 _ _) rfl (HF204.ev rfl)) ?_
          intro a205 HF206; clear HF204
          refine gw_ev HF206 (want_none rfl) rfl (by decide) (op_load1 gwagg3 rfl (HF206.ev rfl) (blk_at (HO199.get 4 rfl) rfl)) ?_
          intro a207 HF208; clear HF206
          refine gw_ev HF208 (want_none rfl) rfl (by decide) (op_eqi rfl (HF208.ev rfl) (HF208.ev rfl)) ?_
          intro a209 HF210; clear HF208
          refine gw_ev HF210 (want_none rfl) rfl (by decide) (op_move rfl (HF210.ev rfl)) ?_
          intro a211 HF212; clear HF210
          refine gw_evG HF212 rfl rfl rfl rfl (on_t _) rfl (by decide) (fun h_ => (op_field (gwfld24_3 _ _) rfl (HF212.ev rfl))) ?_
          intro a213 HF214; clear HF212
          refine gw_evG HF214 rfl rfl rfl rfl (on_t _) rfl (by decide) (fun h_ => (op_load1 gwagg22 rfl (ev_gv (HF214.ev rfl) h_) (blk_at (HO199.get 0 rfl) rfl))) ?_
          intro a215 HF216; clear HF214
          refine gw_evG HF216 rfl rfl rfl rfl (on_t _) rfl (by decide) (fun h_ => (op_len Try.underlying22 rfl (ev_gv (HF216.ev rfl) h_))) ?_
          intro a217 HF218; clear HF216
          refine gw_evG HF218 rfl rfl rfl rfl (on_t _) rfl (by decide) (fun h_ => (op_gtr rfl (ev_gv (HF218.ev rfl) h_) (ev_c _ _))) ?_
          intro a219 HF220; clear HF218
          refine gw_ev HF220 (want_none rfl) rfl (by decide) (op_pick_and rfl (HF220.ev rfl) (fun hp_ => (ev_gv (HF220.ev rfl) hp_)) (ev_c _ _)) ?_
          intro a221 HF222; clear HF220
          refine wpList_nil ?_
          refine gw_nx (hK200 _ _ ?_)
          refine gw_cond HF222 rfl (fun hb223 => ?_) (fun hb223 => ?_)
          · skip
            have HF224 := HF222.subst_ (d := 53) (b := true) rfl hb223
            clear HF222
            (try simp only [Bool.and_eq_true, Bool.or_eq_true, Bool.and_eq_false_iff, Bool.or_eq_false_iff, Bool.not_and, Bool.not_or, Bool.not_not, decide_eq_true_eq, decide_eq_false_iff_not, Bool.not_eq_true', Bool.not_eq_false', Bool.not_eq_true, Bool.not_eq_false, ne_eq, Decidable.not_not, Int.not_lt, Int.not_le, not_true_eq_false, not_false_eq_true, bne_iff_ne, beq_iff_eq, bne_eq_false_iff_eq, beq_eq_false_iff_ne] at hb223)
            obtain ⟨hroom, rfl⟩ := join_yes hj hb223.1 (by have := hb223.2; omega)
            refine wp_region_lit ?_
            refine gw_ev HF224 (want_none rfl) rfl (by decide) (op_field (gwfld24_3 _ _) rfl (HF224.ev rfl)) ?_
            intro a225 HF226; clear HF224
            refine gw_ev HF226 (want_none rfl) rfl (by decide) (op_load1 gwagg22 rfl (HF226.ev rfl) (blk_at (HO199.get 4 rfl) rfl)) ?_
            intro a227 HF228; clear HF226
            refine gw_ev HF228 (want_none rfl) rfl (by decide) (op_field (gwfld24_3 _ _) rfl (HF228.ev rfl)) ?_
            intro a229 HF230; clear HF228
            refine gw_ev HF230 (want_none rfl) rfl (by decide) (op_load1 gwagg22 rfl (HF230.ev rfl) (blk_at (HO199.get 0 rfl) rfl)) ?_
            intro a231 HF232; clear HF230
            have HO233 : Own w w197 [Chunk.nrow k24 24 w.heap.size Sn (.slice An acc.length cn) acc, Chunk.view k24 S180 A178 p.2.2.2.length c179 p.2.2.2, Chunk.blk g189 (.cells #[.int .i64 p.1, .string p.2.1, .string p.2.2.1, .slice A178 p.2.2.2.length c179] 24 (0, 0)), Chunk.blk g162 (.cells #[.int .i64 ((kids.getD i.toNat z24).f0), .string ((kids.getD i.toNat z24).f1), .string ((kids.getD i.toNat z24).f2), .slice A154 ((kids.getD i.toNat z24).f3.length) c155] 24 (0, 0)), Chunk.blk g79 (.cells #[.int .i64 (rd ([0, 2, 1, 0, 5, 4]) kd), .string nm, .string vl, .slice An acc.length cn] 24 (0, 0)), Chunk.blk g8 (.cells #[.int .i64 0, .string (⟨#[]⟩ : ByteArray), .string (⟨#[]⟩ : ByteArray), .slice none 0 0] 24 (0, 0)), Chunk.blk g2 (.cells #[.int .i64 kd, .string nm, .string vl, .slice A3 kids.length c3] 24 (0, 0))] := HO199.sel [3, 1, 0, 2, 4, 5, 6] (by decide)
            refine gw_nappend k24 (ys := p.2.2.2) HF232 HO233 (want_none rfl) rfl (by decide) rfl Try.underlying22 gwinfo24 rfl (by decide) (by decide) (HF232.ev rfl) (HF232.ev rfl) (fun w_ h_ => h_.1) HO233.below.size (by omega) ?_
            intro A234 c235 S236 a237 w238 HF239 HO240; clear HF232 HO199 HO233
            have HO241 : Own w w238 [Chunk.nrow k24 24 w.heap.size S236 (.slice A234 ((acc ++ p.2.2.2).length) c235) (acc ++ p.2.2.2), Chunk.blk g189 (.cells #[.int .i64 p.1, .string p.2.1, .string p.2.2.1, .slice A178 p.2.2.2.length c179] 24 (0, 0)), Chunk.blk g162 (.cells #[.int .i64 ((kids.getD i.toNat z24).f0), .string ((kids.getD i.toNat z24).f1), .string ((kids.getD i.toNat z24).f2), .slice A154 ((kids.getD i.toNat z24).f3.length) c155] 24 (0, 0)), Chunk.blk g79 (.cells #[.int .i64 (rd ([0, 2, 1, 0, 5, 4]) kd), .string nm, .string vl, .slice An acc.length cn] 24 (0, 0)), Chunk.blk g8 (.cells #[.int .i64 0, .string (⟨#[]⟩ : ByteArray), .string (⟨#[]⟩ : ByteArray), .slice none 0 0] 24 (0, 0)), Chunk.blk g2 (.cells #[.int .i64 kd, .string nm, .string vl, .slice A3 kids.length c3] 24 (0, 0))] := HO240
            clear HO240
            refine gw_ev HF239 (want_none rfl) rfl (by decide) (op_field (gwfld24_3 _ _) rfl (HF239.ev rfl)) ?_
            intro a242 HF243; clear HF239
            refine gw_set 3 HF243 HO241 rfl (want_none rfl) rfl (op_store1 gwsiz22 rfl (HF243.ev rfl) (HF243.ev rfl) rfl (blk_at (HO241.get 3 rfl) rfl) (blkf (HO241.get 3 rfl))) ?_
            intro a244 w246 HF245 HO247; clear HF243 HO241
            have HO248 : Own w w246 [Chunk.nrow k24 24 w.heap.size S236 (.slice A234 ((acc ++ p.2.2.2).length) c235) (acc ++ p.2.2.2), Chunk.blk g189 (.cells #[.int .i64 p.1, .string p.2.1, .string p.2.2.1, .slice A178 p.2.2.2.length c179] 24 (0, 0)), Chunk.blk g162 (.cells #[.int .i64 ((kids.getD i.toNat z24).f0), .string ((kids.getD i.toNat z24).f1), .string ((kids.getD i.toNat z24).f2), .slice A154 ((kids.getD i.toNat z24).f3.length) c155] 24 (0, 0)), Chunk.blk g79 (.cells #[.int .i64 (rd ([0, 2, 1, 0, 5, 4]) kd), .string nm, .string vl, .slice A234 ((acc ++ p.2.2.2).length) c235] 24 (0, 0)), Chunk.blk g8 (.cells #[.int .i64 0, .string (⟨#[]⟩ : ByteArray), .string (⟨#[]⟩ : ByteArray), .slice none 0 0] 24 (0, 0)), Chunk.blk g2 (.cells #[.int .i64 kd, .string nm, .string vl, .slice A3 kids.length c3] 24 (0, 0))] := HO247
            clear HO247
            refine wpList_nil ?_
            refine gw_blk ?_
            refine gw_nx (hK146 _ _ ?_)
            refine wp_region_lit ?_
            refine gw_ev HF245 (want_none rfl) rfl (by decide) (op_add rfl (HF245.ev rfl) (ev_c _ _) (by omega)) ?_
            intro a249 HF250; clear HF245
            refine gw_ev HF250 (want_none rfl) rfl (by decide) (op_move rfl (HF250.ev rfl)) ?_
            intro a251 HF252; clear HF250
            refine wpList_nil ?_
            refine gw_nx ⟨_, ?_, i + 1, (acc ++ p.2.2.2), A234, c235, _, (HF252.pick (t := 36) rfl (HF252.pick (t := 1) rfl (HF252.pick (t := 4) rfl (HF252.pick (t := 5) rfl (HF252.pick (t := 34) rfl (HF252.pick (t := 35) rfl HF252.nil)))))), HO248.sel [0, 3, 4, 5] (by decide), ?_, ?_, rfl⟩
            · rw [hm139]; omega
            · omega
            · rw [show (i + 1).toNat = i.toNat + 1 by omega]; exact hps'
          · skip
            have HF253 := HF222.subst_ (d := 53) (b := false) rfl hb223
            clear HF222
            (try simp only [Bool.and_eq_true, Bool.or_eq_true, Bool.and_eq_false_iff, Bool.or_eq_false_iff, Bool.not_and, Bool.not_or, Bool.not_not, decide_eq_true_eq, decide_eq_false_iff_not, Bool.not_eq_true', Bool.not_eq_false', Bool.not_eq_true, Bool.not_eq_false, ne_eq, Decidable.not_not, Int.not_lt, Int.not_le, not_true_eq_false, not_false_eq_true, bne_iff_ne, beq_iff_eq, bne_eq_false_iff_eq, beq_eq_false_iff_ne] at hb223)
            obtain ⟨hroom, rfl⟩ := join_no hj (by intro hh_; simp_all)
            refine wp_region_lit ?_
            refine gw_ev HF253 (want_none rfl) rfl (by decide) (op_field (gwfld24_3 _ _) rfl (HF253.ev rfl)) ?_
            intro a254 HF255; clear HF253
            refine gw_ev HF255 (want_none rfl) rfl (by decide) (op_load1 gwagg22 rfl (HF255.ev rfl) (blk_at (HO199.get 4 rfl) rfl)) ?_
            intro a256 HF257; clear HF255
            refine gw_ev HF257 (want_none rfl) rfl (by decide) (op_loadn gwagg24 gwsiz24 rfl (HF257.ev rfl) (HO199.get 0 rfl) rfl rfl) ?_
            intro a258 HF259; clear HF257
            refine gw_news (O := .cells #[.int .i64 p.1, .string p.2.1, .string p.2.2.1, .slice A178 p.2.2.2.length c179] 24 (0, 0)) (n := 1) HF259 HO199 (want_none rfl) rfl (by decide) (op_bslice (by kernel_rfl) rfl (pt_cons (HF259.ev rfl) pt_nil)) ?_
            intro g260 a261 w262 HF263 HO264; clear HF259 HO199
            have HO265 : Own w w262 [Chunk.blk g260 (.cells #[.int .i64 p.1, .string p.2.1, .string p.2.2.1, .slice A178 p.2.2.2.length c179] 24 (0, 0)), Chunk.blk g189 (.cells #[.int .i64 p.1, .string p.2.1, .string p.2.2.1, .slice A178 p.2.2.2.length c179] 24 (0, 0)), Chunk.view k24 S180 A178 p.2.2.2.length c179 p.2.2.2, Chunk.blk g162 (.cells #[.int .i64 ((kids.getD i.toNat z24).f0), .string ((kids.getD i.toNat z24).f1), .string ((kids.getD i.toNat z24).f2), .slice A154 ((kids.getD i.toNat z24).f3.length) c155] 24 (0, 0)), Chunk.nrow k24 24 w.heap.size Sn (.slice An acc.length cn) acc, Chunk.blk g79 (.cells #[.int .i64 (rd ([0, 2, 1, 0, 5, 4]) kd), .string nm, .string vl, .slice An acc.length cn] 24 (0, 0)), Chunk.blk g8 (.cells #[.int .i64 0, .string (⟨#[]⟩ : ByteArray), .string (⟨#[]⟩ : ByteArray), .slice none 0 0] 24 (0, 0)), Chunk.blk g2 (.cells #[.int .i64 kd, .string nm, .string vl, .slice A3 kids.length c3] 24 (0, 0))] := HO264
            clear HO264
            have HO266 : Own w w262 [Chunk.view k24 (fun k_ => k_ = g260 ∨ S180 k_) (some ⟨g260, 0, none⟩) (([(⟨p.1, p.2.1, p.2.2.1, p.2.2.2⟩ : S24)]).length) (([(⟨p.1, p.2.1, p.2.2.1, p.2.2.2⟩ : S24)]).length) ([(⟨p.1, p.2.1, p.2.2.1, p.2.2.2⟩ : S24)]), Chunk.blk g189 (.cells #[.int .i64 p.1, .string p.2.1, .string p.2.2.1, .slice A178 p.2.2.2.length c179] 24 (0, 0)), Chunk.blk g162 (.cells #[.int .i64 ((kids.getD i.toNat z24).f0), .string ((kids.getD i.toNat z24).f1), .string ((kids.getD i.toNat z24).f2), .slice A154 ((kids.getD i.toNat z24).f3.length) c155] 24 (0, 0)), Chunk.nrow k24 24 w.heap.size Sn (.slice An acc.length cn) acc, Chunk.blk g79 (.cells #[.int .i64 (rd ([0, 2, 1, 0, 5, 4]) kd), .string nm, .string vl, .slice An acc.length cn] 24 (0, 0)), Chunk.blk g8 (.cells #[.int .i64 0, .string (⟨#[]⟩ : ByteArray), .string (⟨#[]⟩ : ByteArray), .slice none 0 0] 24 (0, 0)), Chunk.blk g2 (.cells #[.int .i64 kd, .string nm, .string vl, .slice A3 kids.length c3] 24 (0, 0))] := Own.lit_view (cs := [.int .i64 p.1, .string p.2.1, .string p.2.2.1, .slice A178 p.2.2.2.length c179]) (HO265.sel [0, 2, 1, 3, 4, 5, 6, 7] (by decide)) k24 [(⟨p.1, p.2.1, p.2.2.1, p.2.2.2⟩ : S24)] (fun w_ h_ => reps_more (k24_mkF _ _ (⟨p.1, p.2.1, p.2.2.1, p.2.2.2⟩ : S24) h_.2.1 h_.1) rfl reps_none) (by simp [maxLen])
            clear HO265
            have HO268 : Own w w262 [Chunk.nrow k24 24 w.heap.size Sn (.slice An acc.length cn) acc, Chunk.view k24 (fun k_ => k_ = g260 ∨ S180 k_) (some ⟨g260, 0, none⟩) (([(⟨p.1, p.2.1, p.2.2.1, p.2.2.2⟩ : S24)]).length) (([(⟨p.1, p.2.1, p.2.2.1, p.2.2.2⟩ : S24)]).length) ([(⟨p.1, p.2.1, p.2.2.1, p.2.2.2⟩ : S24)]), Chunk.blk g189 (.cells #[.int .i64 p.1, .string p.2.1, .string p.2.2.1, .slice A178 p.2.2.2.length c179] 24 (0, 0)), Chunk.blk g162 (.cells #[.int .i64 ((kids.getD i.toNat z24).f0), .string ((kids.getD i.toNat z24).f1), .string ((kids.getD i.toNat z24).f2), .slice A154 ((kids.getD i.toNat z24).f3.length) c155] 24 (0, 0)), Chunk.blk g79 (.cells #[.int .i64 (rd ([0, 2, 1, 0, 5, 4]) kd), .string nm, .string vl, .slice An acc.length cn] 24 (0, 0)), Chunk.blk g8 (.cells #[.int .i64 0, .string (⟨#[]⟩ : ByteArray), .string (⟨#[]⟩ : ByteArray), .slice none 0 0] 24 (0, 0)), Chunk.blk g2 (.cells #[.int .i64 kd, .string nm, .string vl, .slice A3 kids.length c3] 24 (0, 0))] := HO266.sel [3, 0, 1, 2, 4, 5, 6] (by decide)
            refine gw_nappend k24 (ys := [(⟨p.1, p.2.1, p.2.2.1, p.2.2.2⟩ : S24)]) HF263 HO268 (want_none rfl) rfl (by decide) rfl Try.underlying22 gwinfo24 rfl (by decide) (by decide) (HF263.ev rfl) (HF263.ev rfl) (fun w_ h_ => h_.1) HO268.below.size (by omega) ?_
            intro A269 c270 S271 a272 w273 HF274 HO275; clear HF263 HO266 HO268
            have HO276 : Own w w273 [Chunk.nrow k24 24 w.heap.size S271 (.slice A269 ((acc ++ [(⟨p.1, p.2.1, p.2.2.1, p.2.2.2⟩ : S24)]).length) c270) (acc ++ [(⟨p.1, p.2.1, p.2.2.1, p.2.2.2⟩ : S24)]), Chunk.blk g189 (.cells #[.int .i64 p.1, .string p.2.1, .string p.2.2.1, .slice A178 p.2.2.2.length c179] 24 (0, 0)), Chunk.blk g162 (.cells #[.int .i64 ((kids.getD i.toNat z24).f0), .string ((kids.getD i.toNat z24).f1), .string ((kids.getD i.toNat z24).f2), .slice A154 ((kids.getD i.toNat z24).f3.length) c155] 24 (0, 0)), Chunk.blk g79 (.cells #[.int .i64 (rd ([0, 2, 1, 0, 5, 4]) kd), .string nm, .string vl, .slice An acc.length cn] 24 (0, 0)), Chunk.blk g8 (.cells #[.int .i64 0, .string (⟨#[]⟩ : ByteArray), .string (⟨#[]⟩ : ByteArray), .slice none 0 0] 24 (0, 0)), Chunk.blk g2 (.cells #[.int .i64 kd, .string nm, .string vl, .slice A3 kids.length c3] 24 (0, 0))] := HO275
            clear HO275
            refine gw_ev HF274 (want_none rfl) rfl (by decide) (op_field (gwfld24_3 _ _) rfl (HF274.ev rfl)) ?_
            intro a277 HF278; clear HF274
            refine gw_set 3 HF278 HO276 rfl (want_none rfl) rfl (op_store1 gwsiz22 rfl (HF278.ev rfl) (HF278.ev rfl) rfl (blk_at (HO276.get 3 rfl) rfl) (blkf (HO276.get 3 rfl))) ?_
            intro a279 w281 HF280 HO282; clear HF278 HO276
            have HO283 : Own w w281 [Chunk.nrow k24 24 w.heap.size S271 (.slice A269 ((acc ++ [(⟨p.1, p.2.1, p.2.2.1, p.2.2.2⟩ : S24)]).length) c270) (acc ++ [(⟨p.1, p.2.1, p.2.2.1, p.2.2.2⟩ : S24)]), Chunk.blk g189 (.cells #[.int .i64 p.1, .string p.2.1, .string p.2.2.1, .slice A178 p.2.2.2.length c179] 24 (0, 0)), Chunk.blk g162 (.cells #[.int .i64 ((kids.getD i.toNat z24).f0), .string ((kids.getD i.toNat z24).f1), .string ((kids.getD i.toNat z24).f2), .slice A154 ((kids.getD i.toNat z24).f3.length) c155] 24 (0, 0)), Chunk.blk g79 (.cells #[.int .i64 (rd ([0, 2, 1, 0, 5, 4]) kd), .string nm, .string vl, .slice A269 ((acc ++ [(⟨p.1, p.2.1, p.2.2.1, p.2.2.2⟩ : S24)]).length) c270] 24 (0, 0)), Chunk.blk g8 (.cells #[.int .i64 0, .string (⟨#[]⟩ : ByteArray), .string (⟨#[]⟩ : ByteArray), .slice none 0 0] 24 (0, 0)), Chunk.blk g2 (.cells #[.int .i64 kd, .string nm, .string vl, .slice A3 kids.length c3] 24 (0, 0))] := HO282
            clear HO282
            refine wpList_nil ?_
            refine gw_blk ?_
            refine gw_nx (hK146 _ _ ?_)
            refine wp_region_lit ?_
            refine gw_ev HF280 (want_none rfl) rfl (by decide) (op_add rfl (HF280.ev rfl) (ev_c _ _) (by omega)) ?_
            intro a284 HF285; clear HF280
            refine gw_ev HF285 (want_none rfl) rfl (by decide) (op_move rfl (HF285.ev rfl)) ?_
            intro a286 HF287; clear HF285
            refine wpList_nil ?_
            refine gw_nx ⟨_, ?_, i + 1, (acc ++ [(⟨p.1, p.2.1, p.2.2.1, p.2.2.2⟩ : S24)]), A269, c270, _, (HF287.pick (t := 36) rfl (HF287.pick (t := 1) rfl (HF287.pick (t := 4) rfl (HF287.pick (t := 5) rfl (HF287.pick (t := 34) rfl (HF287.pick (t := 35) rfl HF287.nil)))))), HO283.sel [0, 3, 4, 5] (by decide), ?_, ?_, rfl⟩
            · rw [hm139]; omega
            · omega
            · rw [show (i + 1).toNat = i.toNat + 1 by omega]; exact hps'
        · skip
          have HF288 := HF142.subst_ (d := 37) (b := false) rfl hb144
          clear HF142
          (try simp only [Bool.and_eq_true, Bool.or_eq_true, Bool.and_eq_false_iff, Bool.or_eq_false_iff, Bool.not_and, Bool.not_or, Bool.not_not, decide_eq_true_eq, decide_eq_false_iff_not, Bool.not_eq_true', Bool.not_eq_false', Bool.not_eq_true, Bool.not_eq_false, ne_eq, Decidable.not_not, Int.not_lt, Int.not_le, not_true_eq_false, not_false_eq_true, bne_iff_ne, beq_iff_eq, bne_eq_false_iff_eq, beq_eq_false_iff_ne] at hb144)
          refine wp_exit ?_
          refine gw_thx ?_
          refine gw_thx ?_
          refine gw_in ?_
          refine gw_nx (hK121 _ _ ?_)
          refine gw_seq fun K289 hK289 => ?_
          refine wp_region_lit ?_
          refine gw_ev HF288 (want_none rfl) rfl (by decide) (op_loadn gwagg24 gwsiz24 rfl (HF288.ev rfl) (HO138.get 1 rfl) rfl rfl) ?_
          intro a290 HF291; clear HF288
          refine gw_setn 2 HF291 HO138 rfl (want_none rfl) rfl (op_storen gwsiz24 rfl (HF291.ev rfl) (HF291.ev rfl) (HO138.get 2 rfl) rfl (by simp) (by simp [Value.oneCell'])) ?_
          intro a292 w294 HF293 HO295; clear HF291 HO138
          have HO296 : Own w w294 [Chunk.nrow k24 24 w.heap.size Sn (.slice An acc.length cn) acc, Chunk.blk g79 (.cells #[.int .i64 (rd ([0, 2, 1, 0, 5, 4]) kd), .string nm, .string vl, .slice An acc.length cn] 24 (0, 0)), Chunk.blk g8 (.cells #[.int .i64 (rd ([0, 2, 1, 0, 5, 4]) kd), .string nm, .string vl, .slice An acc.length cn] 24 (0, 0)), Chunk.blk g2 (.cells #[.int .i64 kd, .string nm, .string vl, .slice A3 kids.length c3] 24 (0, 0))] := HO295
          clear HO295
          refine wpList_nil ?_
          refine gw_nx (hK289 _ _ ?_)
          refine wp_ret ?_
          refine gw_rets1 HF293 rfl (rv_celln HF293 rfl gwagg24 gwsiz24 (HO296.get 2 rfl) rfl) ?_
          obtain rfl := parts_out (by omega) hps
          exact ⟨_, _, _, rfl, ((HO296.nrow_view 0 rfl).sel [0] (by decide)).out⟩
    · skip
      have HF297 := HF93.subst_ (d := 26) (b := false) rfl hb94
      clear HF93
      (try simp only [Bool.and_eq_true, Bool.or_eq_true, Bool.and_eq_false_iff, Bool.or_eq_false_iff, Bool.not_and, Bool.not_or, Bool.not_not, decide_eq_true_eq, decide_eq_false_iff_not, Bool.not_eq_true', Bool.not_eq_false', Bool.not_eq_true, Bool.not_eq_false, ne_eq, Decidable.not_not, Int.not_lt, Int.not_le, not_true_eq_false, not_false_eq_true, bne_iff_ne, beq_iff_eq, bne_eq_false_iff_eq, beq_eq_false_iff_ne] at hb94)
      obtain ⟨ps, hps, rfl⟩ := si_flat h (by assumption) hb94
      refine wp_skip ?_
      refine gw_nx (hK90 _ _ ?_)
      refine gw_seq fun K298 hK298 => ?_
      refine gw_seq fun K299 hK299 => ?_
      refine wp_region_lit ?_
      refine gw_ev HF297 (want_none rfl) rfl (by decide) (op_field (gwfld24_3 _ _) rfl (HF297.ev rfl)) ?_
      intro a300 HF301; clear HF297
      refine gw_ev HF301 (want_none rfl) rfl (by decide) (op_load1 gwagg22 rfl (HF301.ev rfl) (blk_at (HO89.get 2 rfl) rfl)) ?_
      intro a302 HF303; clear HF301
      refine gw_ev HF303 (want_none rfl) rfl (by decide) (op_len Try.underlying22 rfl (HF303.ev rfl)) ?_
      intro a304 HF305; clear HF303
      refine gw_ev HF305 (want_none rfl) rfl (by decide) (op_move rfl (ev_c _ _)) ?_
      intro a306 HF307; clear HF305
      refine wpList_nil ?_
      refine gw_nx (hK299 _ _ ?_)
      refine wp_block ?_
      have HO308 := HO89.nrow_nil k24 24 w.heap.size
      clear HO89
      have HO309 : Own w w87 [Chunk.nrow k24 24 w.heap.size (fun _ => False) (.slice none 0 0) ([] : List S24), Chunk.blk g79 (.cells #[.int .i64 kd, .string nm, .string vl, .slice none 0 0] 24 (0, 0)), Chunk.blk g8 (.cells #[.int .i64 0, .string (⟨#[]⟩ : ByteArray), .string (⟨#[]⟩ : ByteArray), .slice none 0 0] 24 (0, 0)), Chunk.blk g2 (.cells #[.int .i64 kd, .string nm, .string vl, .slice A3 kids.length c3] 24 (0, 0))] := HO308
      clear HO308
      refine gw_loop (fun m_ a_ w_ => ∃ (i : Int) (acc : List S24) (An : Option Addr) (cn : Nat) (Sn : Nat → Prop), Fr 68 a_ [(36, .int .i64 i), (1, .bool fl), (4, .pointer (some ⟨g8, 0, none⟩)), (5, .pointer (some ⟨g79, 0, none⟩)), (34, .slice A3 kids.length c3), (35, .int .i64 (kids.length : Int))] ∧ Own w w_ [Chunk.nrow k24 24 w.heap.size Sn (.slice An acc.length cn) acc, Chunk.blk g79 (.cells #[.int .i64 kd, .string nm, .string vl, .slice An acc.length cn] 24 (0, 0)), Chunk.blk g8 (.cells #[.int .i64 0, .string (⟨#[]⟩ : ByteArray), .string (⟨#[]⟩ : ByteArray), .slice none 0 0] 24 (0, 0)), Chunk.blk g2 (.cells #[.int .i64 kd, .string nm, .string vl, .slice A3 kids.length c3] 24 (0, 0))] ∧ (0 ≤ i ∧ i ≤ kids.length) ∧ (partsM (fun x => cond_simple.f k x.f0 x.f1 x.f2 x.f3 fl) kd acc (kids.drop i.toNat) = some ps) ∧ m_ = (kids.length - i.toNat)) ((kids.length - (0 : Int).toNat)) ?_ ?_
      · refine ⟨0, ([] : List S24), none, 0, (fun _ => False), (HF307.pick (t := 36) rfl (HF307.pick (t := 1) rfl (HF307.pick (t := 4) rfl (HF307.pick (t := 5) rfl (HF307.pick (t := 34) rfl (HF307.pick (t := 35) rfl HF307.nil)))))), HO309.sel [0, 1, 2, 3] (by decide), ?_, ?_, rfl⟩
        · omega
        · exact hps
      · rintro m311 a312 w313 ⟨i, acc, An, cn, Sn, HF314, HO315, hi, hps, hm316⟩
        refine gw_seq fun K317 hK317 => ?_
        refine wp_region_lit ?_
        refine gw_ev HF314 (want_none rfl) rfl (by decide) (op_lss rfl (HF314.ev rfl) (HF314.ev rfl)) ?_
        intro a318 HF319; clear HF314
        refine wpList_nil ?_
        refine gw_nx (hK317 _ _ ?_)
        refine gw_seq fun K320 hK320 => ?_
        refine gw_cond HF319 rfl (fun hb321 => ?_) (fun hb321 => ?_)
        · skip
          have HF322 := HF319.subst_ (d := 37) (b := true) rfl hb321
          clear HF319
          (try simp only [Bool.and_eq_true, Bool.or_eq_true, Bool.and_eq_false_iff, Bool.or_eq_false_iff, Bool.not_and, Bool.not_or, Bool.not_not, decide_eq_true_eq, decide_eq_false_iff_not, Bool.not_eq_true', Bool.not_eq_false', Bool.not_eq_true, Bool.not_eq_false, ne_eq, Decidable.not_not, Int.not_lt, Int.not_le, not_true_eq_false, not_false_eq_true, bne_iff_ne, beq_iff_eq, bne_eq_false_iff_eq, beq_eq_false_iff_ne] at hb321)
          refine wp_skip ?_
          refine gw_nx (hK320 _ _ ?_)
          refine gw_seq fun K323 hK323 => ?_
          refine wp_block ?_
          refine gw_seq fun K324 hK324 => ?_
          refine wp_region_lit ?_
          obtain ⟨ad325, cs328, hA326, hl329, hK330, hc327⟩ := Kd.C_get hr3 z24 i (by omega) (by omega)
          obtain ⟨A331, c332, rfl, hl333, hC334⟩ := k24_open hK330
          clear hl329
          refine gw_ev HF322 (want_none rfl) rfl (by decide) (op_index Try.underlying22 gwsiz24 rfl (HF322.ev rfl) (HF322.ev rfl) hA326 (⟨by omega, by omega⟩)) ?_
          intro a335 HF336; clear HF322
          refine gw_ev HF336 (want_none rfl) rfl (by decide) (op_loadc gwagg24 gwsiz24 rfl (HF336.ev rfl) rfl (cells0 HO315 hc327)) ?_
          intro a337 HF338; clear HF336
          refine gw_new HF338 HO315 (want_none rfl) rfl (by decide) (op_alloc gwzer24 rfl) ?_
          intro g339 a340 w341 HF342 HO343; clear HF338 HO315
          have HO344 : Own w w341 [Chunk.blk g339 (.cells #[.int .i64 0, .string (⟨#[]⟩ : ByteArray), .string (⟨#[]⟩ : ByteArray), .slice none 0 0] 24 (0, 0)), Chunk.nrow k24 24 w.heap.size Sn (.slice An acc.length cn) acc, Chunk.blk g79 (.cells #[.int .i64 kd, .string nm, .string vl, .slice An acc.length cn] 24 (0, 0)), Chunk.blk g8 (.cells #[.int .i64 0, .string (⟨#[]⟩ : ByteArray), .string (⟨#[]⟩ : ByteArray), .slice none 0 0] 24 (0, 0)), Chunk.blk g2 (.cells #[.int .i64 kd, .string nm, .string vl, .slice A3 kids.length c3] 24 (0, 0))] := HO343
          clear HO343
          refine gw_setn 0 HF342 HO344 rfl (want_none rfl) rfl (op_storen gwsiz24 rfl (HF342.ev rfl) (HF342.ev rfl) (HO344.get 0 rfl) rfl (by simp) (by simp [Value.oneCell'])) ?_
          intro a345 w347 HF346 HO348; clear HF342 HO344
          have HO349 : Own w w347 [Chunk.blk g339 (.cells #[.int .i64 ((kids.getD i.toNat z24).f0), .string ((kids.getD i.toNat z24).f1), .string ((kids.getD i.toNat z24).f2), .slice A331 ((kids.getD i.toNat z24).f3.length) c332] 24 (0, 0)), Chunk.nrow k24 24 w.heap.size Sn (.slice An acc.length cn) acc, Chunk.blk g79 (.cells #[.int .i64 kd, .string nm, .string vl, .slice An acc.length cn] 24 (0, 0)), Chunk.blk g8 (.cells #[.int .i64 0, .string (⟨#[]⟩ : ByteArray), .string (⟨#[]⟩ : ByteArray), .slice none 0 0] 24 (0, 0)), Chunk.blk g2 (.cells #[.int .i64 kd, .string nm, .string vl, .slice A3 kids.length c3] 24 (0, 0))] := HO348
          clear HO348
          refine wpList_nil ?_
          refine gw_nx (hK324 _ _ ?_)
          refine gw_seq fun K350 hK350 => ?_
          refine wp_region_lit ?_
          refine gw_ev HF346 (want_none rfl) rfl (by decide) (op_loadn gwagg24 gwsiz24 rfl (HF346.ev rfl) (HO349.get 0 rfl) rfl rfl) ?_
          intro a351 HF352; clear HF346
          refine gw_ev HF352 (want_none rfl) rfl (by decide) (op_move rfl (HF352.ev rfl)) ?_
          intro a353 HF354; clear HF352
          obtain ⟨p, acc', hp, hj, hps'⟩ := parts_in z24 (by omega) hps
          refine gw_call HF354 (want_none rfl) rfl (by decide) (op_callL Try.func32 (by kernel_rfl) rfl rfl (ar_cons (HF354.ev rfl) (ar_cons (HF354.ev rfl) ar_nil))) (IH ((kids.getD i.toNat z24).f0) ((kids.getD i.toNat z24).f1) ((kids.getD i.toNat z24).f2) A331 c332 ((kids.getD i.toNat z24).f3) fl p _ (Kd.C_below hC334 HO349.below) hl333 hp) ?_
          rintro e358 w359 ⟨A355, c356, S357, rfl, hb360⟩
          refine ⟨_, rfl, fun a361 HF362 => ?_⟩
          have HO363 := HO349.fresh hb360
          clear HF354 HO349 hb360
          have HO365 : Own w w359 [Chunk.view k24 S357 A355 p.2.2.2.length c356 p.2.2.2, Chunk.blk g339 (.cells #[.int .i64 ((kids.getD i.toNat z24).f0), .string ((kids.getD i.toNat z24).f1), .string ((kids.getD i.toNat z24).f2), .slice A331 ((kids.getD i.toNat z24).f3.length) c332] 24 (0, 0)), Chunk.nrow k24 24 w.heap.size Sn (.slice An acc.length cn) acc, Chunk.blk g79 (.cells #[.int .i64 kd, .string nm, .string vl, .slice An acc.length cn] 24 (0, 0)), Chunk.blk g8 (.cells #[.int .i64 0, .string (⟨#[]⟩ : ByteArray), .string (⟨#[]⟩ : ByteArray), .slice none 0 0] 24 (0, 0)), Chunk.blk g2 (.cells #[.int .i64 kd, .string nm, .string vl, .slice A3 kids.length c3] 24 (0, 0))] := HO363
          clear HO363
          refine gw_new HF362 HO365 (want_none rfl) rfl (by decide) (op_alloc gwzer24 rfl) ?_
          intro g366 a367 w368 HF369 HO370; clear HF362 HO365
          have HO371 : Own w w368 [Chunk.blk g366 (.cells #[.int .i64 0, .string (⟨#[]⟩ : ByteArray), .string (⟨#[]⟩ : ByteArray), .slice none 0 0] 24 (0, 0)), Chunk.view k24 S357 A355 p.2.2.2.length c356 p.2.2.2, Chunk.blk g339 (.cells #[.int .i64 ((kids.getD i.toNat z24).f0), .string ((kids.getD i.toNat z24).f1), .string ((kids.getD i.toNat z24).f2), .slice A331 ((kids.getD i.toNat z24).f3.length) c332] 24 (0, 0)), Chunk.nrow k24 24 w.heap.size Sn (.slice An acc.length cn) acc, Chunk.blk g79 (.cells #[.int .i64 kd, .string nm, .string vl, .slice An acc.length cn] 24 (0, 0)), Chunk.blk g8 (.cells #[.int .i64 0, .string (⟨#[]⟩ : ByteArray), .string (⟨#[]⟩ : ByteArray), .slice none 0 0] 24 (0, 0)), Chunk.blk g2 (.cells #[.int .i64 kd, .string nm, .string vl, .slice A3 kids.length c3] 24 (0, 0))] := HO370
          clear HO370
          refine gw_setn 0 HF369 HO371 rfl (want_none rfl) rfl (op_storen gwsiz24 rfl (HF369.ev rfl) (HF369.ev rfl) (HO371.get 0 rfl) rfl (by simp) (by simp [Value.oneCell'])) ?_
          intro a372 w374 HF373 HO375; clear HF369 HO371
          have HO376 : Own w w374 [Chunk.blk g366 (.cells #[.int .i64 p.1, .string p.2.1, .string p.2.2.1, .slice A355 p.2.2.2.length c356] 24 (0, 0)), Chunk.view k24 S357 A355 p.2.2.2.length c356 p.2.2.2, Chunk.blk g339 (.cells #[.int .i64 ((kids.getD i.toNat z24).f0), .string ((kids.getD i.toNat z24).f1), .string ((kids.getD i.toNat z24).f2), .slice A331 ((kids.getD i.toNat z24).f3.length) c332] 24 (0, 0)), Chunk.nrow k24 24 w.heap.size Sn (.slice An acc.length cn) acc, Chunk.blk g79 (.cells #[.int .i64 kd, .string nm, .string vl, .slice An acc.length cn] 24 (0, 0)), Chunk.blk g8 (.cells #[.int .i64 0, .string (⟨#[]⟩ : ByteArray), .string (⟨#[]⟩ : ByteArray), .slice none 0 0] 24 (0, 0)), Chunk.blk g2 (.cells #[.int .i64 kd, .string nm, .string vl, .slice A3 kids.length c3] 24 (0, 0))] := HO375
          clear HO375
          refine wpList_nil ?_
          refine gw_nx (hK350 _ _ ?_)
          refine gw_seq fun K377 hK377 => ?_
          refine wp_region_lit ?_
          refine gw_ev HF373 (want_none rfl) rfl (by decide) (op_field (gwfld24_0 _ _) rfl (HF373.ev rfl)) ?_
          intro a378 HF379; clear HF373
          refine gw_ev HF379 (want_none rfl) rfl (by decide) (op_load1 gwagg3 rfl (HF379.ev rfl) (blk_at (HO376.get 0 rfl) rfl)) ?_
          intro a380 HF381; clear HF379
          refine gw_ev HF381 (want_none rfl) rfl (by decide) (op_field (gwfld24_0 _ _) rfl (HF381.ev rfl)) ?_
          intro a382 HF383; clear HF381
          refine gw_ev HF383 (want_none rfl) rfl (by decide) (op_load1 gwagg3 rfl (HF383.ev rfl) (blk_at (HO376.get 4 rfl) rfl)) ?_
          intro a384 HF385; clear HF383
          refine gw_ev HF385 (want_none rfl) rfl (by decide) (op_eqi rfl (HF385.ev rfl) (HF385.ev rfl)) ?_
          intro a386 HF387; clear HF385
          refine gw_ev HF387 (want_none rfl) rfl (by decide) (op_move rfl (HF387.ev rfl)) ?_
          intro a388 HF389; clear HF387
          refine gw_evG HF389 rfl rfl rfl rfl (on_t _) rfl (by decide) (fun h_ => (op_field (gwfld24_3 _ _) rfl (HF389.ev rfl))) ?_
          intro a390 HF391; clear HF389
          refine gw_evG HF391 rfl rfl rfl rfl (on_t _) rfl (by decide) (fun h_ => (op_load1 gwagg22 rfl (ev_gv (HF391.ev rfl) h_) (blk_at (HO376.get 0 rfl) rfl))) ?_
          intro a392 HF393; clear HF391
          refine gw_evG HF393 rfl rfl rfl rfl (on_t _) rfl (by decide) (fun h_ => (op_len Try.underlying22 rfl (ev_gv (HF393.ev rfl) h_))) ?_
          intro a394 HF395; clear HF393
          refine gw_evG HF395 rfl rfl rfl rfl (on_t _) rfl (by decide) (fun h_ => (op_gtr rfl (ev_gv (HF395.ev rfl) h_) (ev_c _ _))) ?_
          intro a396 HF397; clear HF395
          refine gw_ev HF397 (want_none rfl) rfl (by decide) (op_pick_and rfl (HF397.ev rfl) (fun hp_ => (ev_gv (HF397.ev rfl) hp_)) (ev_c _ _)) ?_
          intro a398 HF399; clear HF397
          refine wpList_nil ?_
          refine gw_nx (hK377 _ _ ?_)
          refine gw_cond HF399 rfl (fun hb400 => ?_) (fun hb400 => ?_)
          · skip
            have HF401 := HF399.subst_ (d := 53) (b := true) rfl hb400
            clear HF399
            (try simp only [Bool.and_eq_true, Bool.or_eq_true, Bool.and_eq_false_iff, Bool.or_eq_false_iff, Bool.not_and, Bool.not_or, Bool.not_not, decide_eq_true_eq, decide_eq_false_iff_not, Bool.not_eq_true', Bool.not_eq_false', Bool.not_eq_true, Bool.not_eq_false, ne_eq, Decidable.not_not, Int.not_lt, Int.not_le, not_true_eq_false, not_false_eq_true, bne_iff_ne, beq_iff_eq, bne_eq_false_iff_eq, beq_eq_false_iff_ne] at hb400)
            obtain ⟨hroom, rfl⟩ := join_yes hj hb400.1 (by have := hb400.2; omega)
            refine wp_region_lit ?_
            refine gw_ev HF401 (want_none rfl) rfl (by decide) (op_field (gwfld24_3 _ _) rfl (HF401.ev rfl)) ?_
            intro a402 HF403; clear HF401
            refine gw_ev HF403 (want_none rfl) rfl (by decide) (op_load1 gwagg22 rfl (HF403.ev rfl) (blk_at (HO376.get 4 rfl) rfl)) ?_
            intro a404 HF405; clear HF403
            refine gw_ev HF405 (want_none rfl) rfl (by decide) (op_field (gwfld24_3 _ _) rfl (HF405.ev rfl)) ?_
            intro a406 HF407; clear HF405
            refine gw_ev HF407 (want_none rfl) rfl (by decide) (op_load1 gwagg22 rfl (HF407.ev rfl) (blk_at (HO376.get 0 rfl) rfl)) ?_
            intro a408 HF409; clear HF407
            have HO410 : Own w w374 [Chunk.nrow k24 24 w.heap.size Sn (.slice An acc.length cn) acc, Chunk.view k24 S357 A355 p.2.2.2.length c356 p.2.2.2, Chunk.blk g366 (.cells #[.int .i64 p.1, .string p.2.1, .string p.2.2.1, .slice A355 p.2.2.2.length c356] 24 (0, 0)), Chunk.blk g339 (.cells #[.int .i64 ((kids.getD i.toNat z24).f0), .string ((kids.getD i.toNat z24).f1), .string ((kids.getD i.toNat z24).f2), .slice A331 ((kids.getD i.toNat z24).f3.length) c332] 24 (0, 0)), Chunk.blk g79 (.cells #[.int .i64 kd, .string nm, .string vl, .slice An acc.length cn] 24 (0, 0)), Chunk.blk g8 (.cells #[.int .i64 0, .string (⟨#[]⟩ : ByteArray), .string (⟨#[]⟩ : ByteArray), .slice none 0 0] 24 (0, 0)), Chunk.blk g2 (.cells #[.int .i64 kd, .string nm, .string vl, .slice A3 kids.length c3] 24 (0, 0))] := HO376.sel [3, 1, 0, 2, 4, 5, 6] (by decide)
            refine gw_nappend k24 (ys := p.2.2.2) HF409 HO410 (want_none rfl) rfl (by decide) rfl Try.underlying22 gwinfo24 rfl (by decide) (by decide) (HF409.ev rfl) (HF409.ev rfl) (fun w_ h_ => h_.1) HO410.below.size (by omega) ?_
            intro A411 c412 S413 a414 w415 HF416 HO417; clear HF409 HO376 HO410
            have HO418 : Own w w415 [Chunk.nrow k24 24 w.heap.size S413 (.slice A411 ((acc ++ p.2.2.2).length) c412) (acc ++ p.2.2.2), Chunk.blk g366 (.cells #[.int .i64 p.1, .string p.2.1, .string p.2.2.1, .slice A355 p.2.2.2.length c356] 24 (0, 0)), Chunk.blk g339 (.cells #[.int .i64 ((kids.getD i.toNat z24).f0), .string ((kids.getD i.toNat z24).f1), .string ((kids.getD i.toNat z24).f2), .slice A331 ((kids.getD i.toNat z24).f3.length) c332] 24 (0, 0)), Chunk.blk g79 (.cells #[.int .i64 kd, .string nm, .string vl, .slice An acc.length cn] 24 (0, 0)), Chunk.blk g8 (.cells #[.int .i64 0, .string (⟨#[]⟩ : ByteArray), .string (⟨#[]⟩ : ByteArray), .slice none 0 0] 24 (0, 0)), Chunk.blk g2 (.cells #[.int .i64 kd, .string nm, .string vl, .slice A3 kids.length c3] 24 (0, 0))] := HO417
            clear HO417
            refine gw_ev HF416 (want_none rfl) rfl (by decide) (op_field (gwfld24_3 _ _) rfl (HF416.ev rfl)) ?_
            intro a419 HF420; clear HF416
            refine gw_set 3 HF420 HO418 rfl (want_none rfl) rfl (op_store1 gwsiz22 rfl (HF420.ev rfl) (HF420.ev rfl) rfl (blk_at (HO418.get 3 rfl) rfl) (blkf (HO418.get 3 rfl))) ?_
            intro a421 w423 HF422 HO424; clear HF420 HO418
            have HO425 : Own w w423 [Chunk.nrow k24 24 w.heap.size S413 (.slice A411 ((acc ++ p.2.2.2).length) c412) (acc ++ p.2.2.2), Chunk.blk g366 (.cells #[.int .i64 p.1, .string p.2.1, .string p.2.2.1, .slice A355 p.2.2.2.length c356] 24 (0, 0)), Chunk.blk g339 (.cells #[.int .i64 ((kids.getD i.toNat z24).f0), .string ((kids.getD i.toNat z24).f1), .string ((kids.getD i.toNat z24).f2), .slice A331 ((kids.getD i.toNat z24).f3.length) c332] 24 (0, 0)), Chunk.blk g79 (.cells #[.int .i64 kd, .string nm, .string vl, .slice A411 ((acc ++ p.2.2.2).length) c412] 24 (0, 0)), Chunk.blk g8 (.cells #[.int .i64 0, .string (⟨#[]⟩ : ByteArray), .string (⟨#[]⟩ : ByteArray), .slice none 0 0] 24 (0, 0)), Chunk.blk g2 (.cells #[.int .i64 kd, .string nm, .string vl, .slice A3 kids.length c3] 24 (0, 0))] := HO424
            clear HO424
            refine wpList_nil ?_
            refine gw_blk ?_
            refine gw_nx (hK323 _ _ ?_)
            refine wp_region_lit ?_
            refine gw_ev HF422 (want_none rfl) rfl (by decide) (op_add rfl (HF422.ev rfl) (ev_c _ _) (by omega)) ?_
            intro a426 HF427; clear HF422
            refine gw_ev HF427 (want_none rfl) rfl (by decide) (op_move rfl (HF427.ev rfl)) ?_
            intro a428 HF429; clear HF427
            refine wpList_nil ?_
            refine gw_nx ⟨_, ?_, i + 1, (acc ++ p.2.2.2), A411, c412, _, (HF429.pick (t := 36) rfl (HF429.pick (t := 1) rfl (HF429.pick (t := 4) rfl (HF429.pick (t := 5) rfl (HF429.pick (t := 34) rfl (HF429.pick (t := 35) rfl HF429.nil)))))), HO425.sel [0, 3, 4, 5] (by decide), ?_, ?_, rfl⟩
            · rw [hm316]; omega
            · omega
            · rw [show (i + 1).toNat = i.toNat + 1 by omega]; exact hps'
          · skip
            have HF430 := HF399.subst_ (d := 53) (b := false) rfl hb400
            clear HF399
            (try simp only [Bool.and_eq_true, Bool.or_eq_true, Bool.and_eq_false_iff, Bool.or_eq_false_iff, Bool.not_and, Bool.not_or, Bool.not_not, decide_eq_true_eq, decide_eq_false_iff_not, Bool.not_eq_true', Bool.not_eq_false', Bool.not_eq_true, Bool.not_eq_false, ne_eq, Decidable.not_not, Int.not_lt, Int.not_le, not_true_eq_false, not_false_eq_true, bne_iff_ne, beq_iff_eq, bne_eq_false_iff_eq, beq_eq_false_iff_ne] at hb400)
            obtain ⟨hroom, rfl⟩ := join_no hj (by intro hh_; simp_all)
            refine wp_region_lit ?_
            refine gw_ev HF430 (want_none rfl) rfl (by decide) (op_field (gwfld24_3 _ _) rfl (HF430.ev rfl)) ?_
            intro a431 HF432; clear HF430
            refine gw_ev HF432 (want_none rfl) rfl (by decide) (op_load1 gwagg22 rfl (HF432.ev rfl) (blk_at (HO376.get 4 rfl) rfl)) ?_
            intro a433 HF434; clear HF432
            refine gw_ev HF434 (want_none rfl) rfl (by decide) (op_loadn gwagg24 gwsiz24 rfl (HF434.ev rfl) (HO376.get 0 rfl) rfl rfl) ?_
            intro a435 HF436; clear HF434
            refine gw_news (O := .cells #[.int .i64 p.1, .string p.2.1, .string p.2.2.1, .slice A355 p.2.2.2.length c356] 24 (0, 0)) (n := 1) HF436 HO376 (want_none rfl) rfl (by decide) (op_bslice (by kernel_rfl) rfl (pt_cons (HF436.ev rfl) pt_nil)) ?_
            intro g437 a438 w439 HF440 HO441; clear HF436 HO376
            have HO442 : Own w w439 [Chunk.blk g437 (.cells #[.int .i64 p.1, .string p.2.1, .string p.2.2.1, .slice A355 p.2.2.2.length c356] 24 (0, 0)), Chunk.blk g366 (.cells #[.int .i64 p.1, .string p.2.1, .string p.2.2.1, .slice A355 p.2.2.2.length c356] 24 (0, 0)), Chunk.view k24 S357 A355 p.2.2.2.length c356 p.2.2.2, Chunk.blk g339 (.cells #[.int .i64 ((kids.getD i.toNat z24).f0), .string ((kids.getD i.toNat z24).f1), .string ((kids.getD i.toNat z24).f2), .slice A331 ((kids.getD i.toNat z24).f3.length) c332] 24 (0, 0)), Chunk.nrow k24 24 w.heap.size Sn (.slice An acc.length cn) acc, Chunk.blk g79 (.cells #[.int .i64 kd, .string nm, .string vl, .slice An acc.length cn] 24 (0, 0)), Chunk.blk g8 (.cells #[.int .i64 0, .string (⟨#[]⟩ : ByteArray), .string (⟨#[]⟩ : ByteArray), .slice none 0 0] 24 (0, 0)), Chunk.blk g2 (.cells #[.int .i64 kd, .string nm, .string vl, .slice A3 kids.length c3] 24 (0, 0))] := HO441
            clear HO441
            have HO443 : Own w w439 [Chunk.view k24 (fun k_ => k_ = g437 ∨ S357 k_) (some ⟨g437, 0, none⟩) (([(⟨p.1, p.2.1, p.2.2.1, p.2.2.2⟩ : S24)]).length) (([(⟨p.1, p.2.1, p.2.2.1, p.2.2.2⟩ : S24)]).length) ([(⟨p.1, p.2.1, p.2.2.1, p.2.2.2⟩ : S24)]), Chunk.blk g366 (.cells #[.int .i64 p.1, .string p.2.1, .string p.2.2.1, .slice A355 p.2.2.2.length c356] 24 (0, 0)), Chunk.blk g339 (.cells #[.int .i64 ((kids.getD i.toNat z24).f0), .string ((kids.getD i.toNat z24).f1), .string ((kids.getD i.toNat z24).f2), .slice A331 ((kids.getD i.toNat z24).f3.length) c332] 24 (0, 0)), Chunk.nrow k24 24 w.heap.size Sn (.slice An acc.length cn) acc, Chunk.blk g79 (.cells #[.int .i64 kd, .string nm, .string vl, .slice An acc.length cn] 24 (0, 0)), Chunk.blk g8 (.cells #[.int .i64 0, .string (⟨#[]⟩ : ByteArray), .string (⟨#[]⟩ : ByteArray), .slice none 0 0] 24 (0, 0)), Chunk.blk g2 (.cells #[.int .i64 kd, .string nm, .string vl, .slice A3 kids.length c3] 24 (0, 0))] := Own.lit_view (cs := [.int .i64 p.1, .string p.2.1, .string p.2.2.1, .slice A355 p.2.2.2.length c356]) (HO442.sel [0, 2, 1, 3, 4, 5, 6, 7] (by decide)) k24 [(⟨p.1, p.2.1, p.2.2.1, p.2.2.2⟩ : S24)] (fun w_ h_ => reps_more (k24_mkF _ _ (⟨p.1, p.2.1, p.2.2.1, p.2.2.2⟩ : S24) h_.2.1 h_.1) rfl reps_none) (by simp [maxLen])
            clear HO442
            have HO445 : Own w w439 [Chunk.nrow k24 24 w.heap.size Sn (.slice An acc.length cn) acc, Chunk.view k24 (fun k_ => k_ = g437 ∨ S357 k_) (some ⟨g437, 0, none⟩) (([(⟨p.1, p.2.1, p.2.2.1, p.2.2.2⟩ : S24)]).length) (([(⟨p.1, p.2.1, p.2.2.1, p.2.2.2⟩ : S24)]).length) ([(⟨p.1, p.2.1, p.2.2.1, p.2.2.2⟩ : S24)]), Chunk.blk g366 (.cells #[.int .i64 p.1, .string p.2.1, .string p.2.2.1, .slice A355 p.2.2.2.length c356] 24 (0, 0)), Chunk.blk g339 (.cells #[.int .i64 ((kids.getD i.toNat z24).f0), .string ((kids.getD i.toNat z24).f1), .string ((kids.getD i.toNat z24).f2), .slice A331 ((kids.getD i.toNat z24).f3.length) c332] 24 (0, 0)), Chunk.blk g79 (.cells #[.int .i64 kd, .string nm, .string vl, .slice An acc.length cn] 24 (0, 0)), Chunk.blk g8 (.cells #[.int .i64 0, .string (⟨#[]⟩ : ByteArray), .string (⟨#[]⟩ : ByteArray), .slice none 0 0] 24 (0, 0)), Chunk.blk g2 (.cells #[.int .i64 kd, .string nm, .string vl, .slice A3 kids.length c3] 24 (0, 0))] := HO443.sel [3, 0, 1, 2, 4, 5, 6] (by decide)
            refine gw_nappend k24 (ys := [(⟨p.1, p.2.1, p.2.2.1, p.2.2.2⟩ : S24)]) HF440 HO445 (want_none rfl) rfl (by decide) rfl Try.underlying22 gwinfo24 rfl (by decide) (by decide) (HF440.ev rfl) (HF440.ev rfl) (fun w_ h_ => h_.1) HO445.below.size (by omega) ?_
            intro A446 c447 S448 a449 w450 HF451 HO452; clear HF440 HO443 HO445
            have HO453 : Own w w450 [Chunk.nrow k24 24 w.heap.size S448 (.slice A446 ((acc ++ [(⟨p.1, p.2.1, p.2.2.1, p.2.2.2⟩ : S24)]).length) c447) (acc ++ [(⟨p.1, p.2.1, p.2.2.1, p.2.2.2⟩ : S24)]), Chunk.blk g366 (.cells #[.int .i64 p.1, .string p.2.1, .string p.2.2.1, .slice A355 p.2.2.2.length c356] 24 (0, 0)), Chunk.blk g339 (.cells #[.int .i64 ((kids.getD i.toNat z24).f0), .string ((kids.getD i.toNat z24).f1), .string ((kids.getD i.toNat z24).f2), .slice A331 ((kids.getD i.toNat z24).f3.length) c332] 24 (0, 0)), Chunk.blk g79 (.cells #[.int .i64 kd, .string nm, .string vl, .slice An acc.length cn] 24 (0, 0)), Chunk.blk g8 (.cells #[.int .i64 0, .string (⟨#[]⟩ : ByteArray), .string (⟨#[]⟩ : ByteArray), .slice none 0 0] 24 (0, 0)), Chunk.blk g2 (.cells #[.int .i64 kd, .string nm, .string vl, .slice A3 kids.length c3] 24 (0, 0))] := HO452
            clear HO452
            refine gw_ev HF451 (want_none rfl) rfl (by decide) (op_field (gwfld24_3 _ _) rfl (HF451.ev rfl)) ?_
            intro a454 HF455; clear HF451
            refine gw_set 3 HF455 HO453 rfl (want_none rfl) rfl (op_store1 gwsiz22 rfl (HF455.ev rfl) (HF455.ev rfl) rfl (blk_at (HO453.get 3 rfl) rfl) (blkf (HO453.get 3 rfl))) ?_
            intro a456 w458 HF457 HO459; clear HF455 HO453
            have HO460 : Own w w458 [Chunk.nrow k24 24 w.heap.size S448 (.slice A446 ((acc ++ [(⟨p.1, p.2.1, p.2.2.1, p.2.2.2⟩ : S24)]).length) c447) (acc ++ [(⟨p.1, p.2.1, p.2.2.1, p.2.2.2⟩ : S24)]), Chunk.blk g366 (.cells #[.int .i64 p.1, .string p.2.1, .string p.2.2.1, .slice A355 p.2.2.2.length c356] 24 (0, 0)), Chunk.blk g339 (.cells #[.int .i64 ((kids.getD i.toNat z24).f0), .string ((kids.getD i.toNat z24).f1), .string ((kids.getD i.toNat z24).f2), .slice A331 ((kids.getD i.toNat z24).f3.length) c332] 24 (0, 0)), Chunk.blk g79 (.cells #[.int .i64 kd, .string nm, .string vl, .slice A446 ((acc ++ [(⟨p.1, p.2.1, p.2.2.1, p.2.2.2⟩ : S24)]).length) c447] 24 (0, 0)), Chunk.blk g8 (.cells #[.int .i64 0, .string (⟨#[]⟩ : ByteArray), .string (⟨#[]⟩ : ByteArray), .slice none 0 0] 24 (0, 0)), Chunk.blk g2 (.cells #[.int .i64 kd, .string nm, .string vl, .slice A3 kids.length c3] 24 (0, 0))] := HO459
            clear HO459
            refine wpList_nil ?_
            refine gw_blk ?_
            refine gw_nx (hK323 _ _ ?_)
            refine wp_region_lit ?_
            refine gw_ev HF457 (want_none rfl) rfl (by decide) (op_add rfl (HF457.ev rfl) (ev_c _ _) (by omega)) ?_
            intro a461 HF462; clear HF457
            refine gw_ev HF462 (want_none rfl) rfl (by decide) (op_move rfl (HF462.ev rfl)) ?_
            intro a463 HF464; clear HF462
            refine wpList_nil ?_
            refine gw_nx ⟨_, ?_, i + 1, (acc ++ [(⟨p.1, p.2.1, p.2.2.1, p.2.2.2⟩ : S24)]), A446, c447, _, (HF464.pick (t := 36) rfl (HF464.pick (t := 1) rfl (HF464.pick (t := 4) rfl (HF464.pick (t := 5) rfl (HF464.pick (t := 34) rfl (HF464.pick (t := 35) rfl HF464.nil)))))), HO460.sel [0, 3, 4, 5] (by decide), ?_, ?_, rfl⟩
            · rw [hm316]; omega
            · omega
            · rw [show (i + 1).toNat = i.toNat + 1 by omega]; exact hps'
        · skip
          have HF465 := HF319.subst_ (d := 37) (b := false) rfl hb321
          clear HF319
          (try simp only [Bool.and_eq_true, Bool.or_eq_true, Bool.and_eq_false_iff, Bool.or_eq_false_iff, Bool.not_and, Bool.not_or, Bool.not_not, decide_eq_true_eq, decide_eq_false_iff_not, Bool.not_eq_true', Bool.not_eq_false', Bool.not_eq_true, Bool.not_eq_false, ne_eq, Decidable.not_not, Int.not_lt, Int.not_le, not_true_eq_false, not_false_eq_true, bne_iff_ne, beq_iff_eq, bne_eq_false_iff_eq, beq_eq_false_iff_ne] at hb321)
          refine wp_exit ?_
          refine gw_thx ?_
          refine gw_thx ?_
          refine gw_in ?_
          refine gw_nx (hK298 _ _ ?_)
          refine gw_seq fun K466 hK466 => ?_
          refine wp_region_lit ?_
          refine gw_ev HF465 (want_none rfl) rfl (by decide) (op_loadn gwagg24 gwsiz24 rfl (HF465.ev rfl) (HO315.get 1 rfl) rfl rfl) ?_
          intro a467 HF468; clear HF465
          refine gw_setn 2 HF468 HO315 rfl (want_none rfl) rfl (op_storen gwsiz24 rfl (HF468.ev rfl) (HF468.ev rfl) (HO315.get 2 rfl) rfl (by simp) (by simp [Value.oneCell'])) ?_
          intro a469 w471 HF470 HO472; clear HF468 HO315
          have HO473 : Own w w471 [Chunk.nrow k24 24 w.heap.size Sn (.slice An acc.length cn) acc, Chunk.blk g79 (.cells #[.int .i64 kd, .string nm, .string vl, .slice An acc.length cn] 24 (0, 0)), Chunk.blk g8 (.cells #[.int .i64 kd, .string nm, .string vl, .slice An acc.length cn] 24 (0, 0)), Chunk.blk g2 (.cells #[.int .i64 kd, .string nm, .string vl, .slice A3 kids.length c3] 24 (0, 0))] := HO472
          clear HO472
          refine wpList_nil ?_
          refine gw_nx (hK466 _ _ ?_)
          refine wp_ret ?_
          refine gw_rets1 HF470 rfl (rv_celln HF470 rfl gwagg24 gwsiz24 (HO473.get 2 rfl) rfl) ?_
          obtain rfl := parts_out (by omega) hps
          exact ⟨_, _, _, rfl, ((HO473.nrow_view 0 rfl).sel [0] (by decide)).out⟩
set_option maxHeartbeats 4000000 in
set_option maxRecDepth 100000 in
theorem is_calls (s1 s2 : ByteArray) (w : World) :
    Calls Try.prog 20 #[.string s1, .string s2] w fun e w' => e = .returned (.agg #[.int .i64 1, .string s1, .string s2, .slice none 0 0]) ∧ Below w.heap.size w w' := by
  refine gw_start (N := 8) (vs := [.string s1, .string s2]) Try.func20 rfl rfl (by simp) fun a HF HO => ?_
  replace HO : Own w w [] := HO
  refine gw_seq fun K1 hK1 => ?_
  refine wp_region_lit ?_
  refine gw_new HF HO (want_none rfl) rfl (by decide) (op_alloc gwzer24 rfl) ?_
  intro g2 a3 w4 HF5 HO6; clear HF HO
  have HO7 : Own w w4 [Chunk.blk g2 (.cells #[.int .i64 0, .string (⟨#[]⟩ : ByteArray), .string (⟨#[]⟩ : ByteArray), .slice none 0 0] 24 (0, 0))] := HO6
  clear HO6
  refine wpList_nil ?_
  refine gw_nx (hK1 _ _ ?_)
  refine gw_seq fun K8 hK8 => ?_
  refine wp_region_lit ?_
  refine gw_ev HF5 (want_none rfl) rfl (by decide) (op_move rfl (HF5.ev rfl)) ?_
  intro a9 HF10; clear HF5
  refine gw_ev HF10 (want_none rfl) rfl (by decide) (op_move rfl (HF10.ev rfl)) ?_
  intro a11 HF12; clear HF10
  refine gw_ev HF12 (want_none rfl) rfl (by decide) (op_build (cells := #[.int .i64 1, .string s1, .string s2, .slice none 0 0]) rfl (pt_cons (ev_c _ _) (pt_cons (HF12.ev rfl) (pt_cons (HF12.ev rfl) pt_nil))) (by kernel_rfl)) ?_
  intro a13 HF14; clear HF12
  refine gw_setn 0 HF14 HO7 rfl (want_none rfl) rfl (op_storen gwsiz24 rfl (HF14.ev rfl) (HF14.ev rfl) (HO7.get 0 rfl) rfl (by simp) (by simp [Value.oneCell'])) ?_
  intro a15 w17 HF16 HO18; clear HF14 HO7
  have HO19 : Own w w17 [Chunk.blk g2 (.cells #[.int .i64 1, .string s1, .string s2, .slice none 0 0] 24 (0, 0))] := HO18
  clear HO18
  refine wpList_nil ?_
  refine gw_nx (hK8 _ _ ?_)
  refine wp_ret ?_
  refine gw_rets1 HF16 rfl (rv_celln HF16 rfl gwagg24 gwsiz24 (HO19.get 0 rfl) rfl) ?_
  exact ⟨rfl, HO19.below⟩
def noR : CondR := (3, (⟨#[]⟩ : ByteArray), (⟨#[]⟩ : ByteArray), [(⟨5, (⟨#[]⟩ : ByteArray), (⟨#[]⟩ : ByteArray), ([(⟨1, (⟨#[97]⟩ : ByteArray), (⟨#[49]⟩ : ByteArray), []⟩ : S24), (⟨1, (⟨#[97]⟩ : ByteArray), (⟨#[50]⟩ : ByteArray), []⟩ : S24)] : List S24)⟩ : S24)])

set_option maxHeartbeats 4000000 in
set_option maxRecDepth 100000 in
theorem no_walk (w : World) :
    Calls Try.prog 22 #[] w fun e w' => ∃ A c S, e = .returned (.agg #[.int .i64 noR.1, .string noR.2.1, .string noR.2.2.1, .slice A noR.2.2.2.length c]) ∧ Out w w' (fun _ => False) [Chunk.view k24 S A noR.2.2.2.length c noR.2.2.2] := by
  refine gw_start (N := 7) (vs := []) Try.func22 rfl rfl (by simp) fun a HF HO => ?_
  replace HO : Own w w [] := HO
  refine gw_seq fun K1 hK1 => ?_
  refine wp_region_lit ?_
  refine gw_new HF HO (want_none rfl) rfl (by decide) (op_alloc gwzer24 rfl) ?_
  intro g2 a3 w4 HF5 HO6; clear HF HO
  have HO7 : Own w w4 [Chunk.blk g2 (.cells #[.int .i64 0, .string (⟨#[]⟩ : ByteArray), .string (⟨#[]⟩ : ByteArray), .slice none 0 0] 24 (0, 0))] := HO6
  clear HO6
  refine wpList_nil ?_
  refine gw_nx (hK1 _ _ ?_)
  refine gw_seq fun K8 hK8 => ?_
  refine wp_region_lit ?_
  refine gw_call HF5 (want_none rfl) rfl (by decide) (op_callL Try.func20 (by kernel_rfl) rfl rfl (ar_cons (ev_c _ _) (ar_cons (ev_c _ _) ar_nil))) (is_calls (⟨#[97]⟩ : ByteArray) (⟨#[49]⟩ : ByteArray) _) ?_
  rintro e9 w10 ⟨rfl, hb11⟩
  refine ⟨_, rfl, fun a12 HF13 => ?_⟩
  have HO14 := HO7.after hb11
  clear HF5 HO7 hb11
  refine gw_call HF13 (want_none rfl) rfl (by decide) (op_callL Try.func20 (by kernel_rfl) rfl rfl (ar_cons (ev_c _ _) (ar_cons (ev_c _ _) ar_nil))) (is_calls (⟨#[97]⟩ : ByteArray) (⟨#[50]⟩ : ByteArray) _) ?_
  rintro e16 w17 ⟨rfl, hb18⟩
  refine ⟨_, rfl, fun a19 HF20 => ?_⟩
  have HO21 := HO14.after hb18
  clear HF13 HO14 hb18
  refine gw_news (O := .cells #[.int .i64 1, .string (⟨#[97]⟩ : ByteArray), .string (⟨#[49]⟩ : ByteArray), .slice none 0 0, .int .i64 1, .string (⟨#[97]⟩ : ByteArray), .string (⟨#[50]⟩ : ByteArray), .slice none 0 0] 24 (0, 0)) (n := 2) HF20 HO21 (want_none rfl) rfl (by decide) (op_bslice (by kernel_rfl) rfl (pt_cons (HF20.ev rfl) (pt_cons (HF20.ev rfl) pt_nil))) ?_
  intro g23 a24 w25 HF26 HO27; clear HF20 HO21
  have HO28 : Own w w25 [Chunk.blk g23 (.cells #[.int .i64 1, .string (⟨#[97]⟩ : ByteArray), .string (⟨#[49]⟩ : ByteArray), .slice none 0 0, .int .i64 1, .string (⟨#[97]⟩ : ByteArray), .string (⟨#[50]⟩ : ByteArray), .slice none 0 0] 24 (0, 0)), Chunk.blk g2 (.cells #[.int .i64 0, .string (⟨#[]⟩ : ByteArray), .string (⟨#[]⟩ : ByteArray), .slice none 0 0] 24 (0, 0))] := HO27
  clear HO27
  have HO30 : Own w w25 [Chunk.view k24 (fun k_ => k_ = g23 ∨ Chunk.void.S k_) (some ⟨g23, 0, none⟩) (([(⟨1, (⟨#[97]⟩ : ByteArray), (⟨#[49]⟩ : ByteArray), []⟩ : S24), (⟨1, (⟨#[97]⟩ : ByteArray), (⟨#[50]⟩ : ByteArray), []⟩ : S24)]).length) (([(⟨1, (⟨#[97]⟩ : ByteArray), (⟨#[49]⟩ : ByteArray), []⟩ : S24), (⟨1, (⟨#[97]⟩ : ByteArray), (⟨#[50]⟩ : ByteArray), []⟩ : S24)]).length) ([(⟨1, (⟨#[97]⟩ : ByteArray), (⟨#[49]⟩ : ByteArray), []⟩ : S24), (⟨1, (⟨#[97]⟩ : ByteArray), (⟨#[50]⟩ : ByteArray), []⟩ : S24)]), Chunk.blk g2 (.cells #[.int .i64 0, .string (⟨#[]⟩ : ByteArray), .string (⟨#[]⟩ : ByteArray), .slice none 0 0] 24 (0, 0))] := Own.lit_view (cs := [.int .i64 1, .string (⟨#[97]⟩ : ByteArray), .string (⟨#[49]⟩ : ByteArray), .slice none 0 0, .int .i64 1, .string (⟨#[97]⟩ : ByteArray), .string (⟨#[50]⟩ : ByteArray), .slice none 0 0]) (HO28.void.sel [1, 0, 2] (by decide)) k24 [(⟨1, (⟨#[97]⟩ : ByteArray), (⟨#[49]⟩ : ByteArray), []⟩ : S24), (⟨1, (⟨#[97]⟩ : ByteArray), (⟨#[50]⟩ : ByteArray), []⟩ : S24)] (fun w_ h_ => (reps_more (k24_mkF _ _ (⟨1, (⟨#[97]⟩ : ByteArray), (⟨#[49]⟩ : ByteArray), []⟩ : S24) (Nat.le_refl _) (Kd.F_nil _ _ _)) rfl (reps_more (k24_mkF _ _ (⟨1, (⟨#[97]⟩ : ByteArray), (⟨#[50]⟩ : ByteArray), []⟩ : S24) (Nat.le_refl _) (Kd.F_nil _ _ _)) rfl reps_none))) (by simp [maxLen])
  clear HO28
  refine gw_ev HF26 (want_none rfl) rfl (by decide) (op_build (cells := #[.int .i64 5, .string (⟨#[]⟩ : ByteArray), .string (⟨#[]⟩ : ByteArray), .slice (some ⟨g23, 0, none⟩) (([(⟨1, (⟨#[97]⟩ : ByteArray), (⟨#[49]⟩ : ByteArray), []⟩ : S24), (⟨1, (⟨#[97]⟩ : ByteArray), (⟨#[50]⟩ : ByteArray), []⟩ : S24)]).length) (([(⟨1, (⟨#[97]⟩ : ByteArray), (⟨#[49]⟩ : ByteArray), []⟩ : S24), (⟨1, (⟨#[97]⟩ : ByteArray), (⟨#[50]⟩ : ByteArray), []⟩ : S24)]).length)]) rfl (pt_cons (ev_c _ _) (pt_cons (HF26.ev rfl) pt_nil)) (by kernel_rfl)) ?_
  intro a31 HF32; clear HF26
  refine gw_news (O := .cells #[.int .i64 5, .string (⟨#[]⟩ : ByteArray), .string (⟨#[]⟩ : ByteArray), .slice (some ⟨g23, 0, none⟩) (([(⟨1, (⟨#[97]⟩ : ByteArray), (⟨#[49]⟩ : ByteArray), []⟩ : S24), (⟨1, (⟨#[97]⟩ : ByteArray), (⟨#[50]⟩ : ByteArray), []⟩ : S24)]).length) (([(⟨1, (⟨#[97]⟩ : ByteArray), (⟨#[49]⟩ : ByteArray), []⟩ : S24), (⟨1, (⟨#[97]⟩ : ByteArray), (⟨#[50]⟩ : ByteArray), []⟩ : S24)]).length)] 24 (0, 0)) (n := 1) HF32 HO30 (want_none rfl) rfl (by decide) (op_bslice (by kernel_rfl) rfl (pt_cons (HF32.ev rfl) pt_nil)) ?_
  intro g33 a34 w35 HF36 HO37; clear HF32 HO30
  have HO38 : Own w w35 [Chunk.blk g33 (.cells #[.int .i64 5, .string (⟨#[]⟩ : ByteArray), .string (⟨#[]⟩ : ByteArray), .slice (some ⟨g23, 0, none⟩) (([(⟨1, (⟨#[97]⟩ : ByteArray), (⟨#[49]⟩ : ByteArray), []⟩ : S24), (⟨1, (⟨#[97]⟩ : ByteArray), (⟨#[50]⟩ : ByteArray), []⟩ : S24)]).length) (([(⟨1, (⟨#[97]⟩ : ByteArray), (⟨#[49]⟩ : ByteArray), []⟩ : S24), (⟨1, (⟨#[97]⟩ : ByteArray), (⟨#[50]⟩ : ByteArray), []⟩ : S24)]).length)] 24 (0, 0)), Chunk.view k24 (fun k_ => k_ = g23 ∨ Chunk.void.S k_) (some ⟨g23, 0, none⟩) (([(⟨1, (⟨#[97]⟩ : ByteArray), (⟨#[49]⟩ : ByteArray), []⟩ : S24), (⟨1, (⟨#[97]⟩ : ByteArray), (⟨#[50]⟩ : ByteArray), []⟩ : S24)]).length) (([(⟨1, (⟨#[97]⟩ : ByteArray), (⟨#[49]⟩ : ByteArray), []⟩ : S24), (⟨1, (⟨#[97]⟩ : ByteArray), (⟨#[50]⟩ : ByteArray), []⟩ : S24)]).length) ([(⟨1, (⟨#[97]⟩ : ByteArray), (⟨#[49]⟩ : ByteArray), []⟩ : S24), (⟨1, (⟨#[97]⟩ : ByteArray), (⟨#[50]⟩ : ByteArray), []⟩ : S24)]), Chunk.blk g2 (.cells #[.int .i64 0, .string (⟨#[]⟩ : ByteArray), .string (⟨#[]⟩ : ByteArray), .slice none 0 0] 24 (0, 0))] := HO37
  clear HO37
  have HO39 : Own w w35 [Chunk.view k24 (fun k_ => k_ = g33 ∨ (fun k_ => k_ = g23 ∨ Chunk.void.S k_) k_) (some ⟨g33, 0, none⟩) (([(⟨5, (⟨#[]⟩ : ByteArray), (⟨#[]⟩ : ByteArray), [(⟨1, (⟨#[97]⟩ : ByteArray), (⟨#[49]⟩ : ByteArray), []⟩ : S24), (⟨1, (⟨#[97]⟩ : ByteArray), (⟨#[50]⟩ : ByteArray), []⟩ : S24)]⟩ : S24)]).length) (([(⟨5, (⟨#[]⟩ : ByteArray), (⟨#[]⟩ : ByteArray), [(⟨1, (⟨#[97]⟩ : ByteArray), (⟨#[49]⟩ : ByteArray), []⟩ : S24), (⟨1, (⟨#[97]⟩ : ByteArray), (⟨#[50]⟩ : ByteArray), []⟩ : S24)]⟩ : S24)]).length) ([(⟨5, (⟨#[]⟩ : ByteArray), (⟨#[]⟩ : ByteArray), [(⟨1, (⟨#[97]⟩ : ByteArray), (⟨#[49]⟩ : ByteArray), []⟩ : S24), (⟨1, (⟨#[97]⟩ : ByteArray), (⟨#[50]⟩ : ByteArray), []⟩ : S24)]⟩ : S24)]), Chunk.blk g2 (.cells #[.int .i64 0, .string (⟨#[]⟩ : ByteArray), .string (⟨#[]⟩ : ByteArray), .slice none 0 0] 24 (0, 0))] := Own.lit_view (cs := [.int .i64 5, .string (⟨#[]⟩ : ByteArray), .string (⟨#[]⟩ : ByteArray), .slice (some ⟨g23, 0, none⟩) (([(⟨1, (⟨#[97]⟩ : ByteArray), (⟨#[49]⟩ : ByteArray), []⟩ : S24), (⟨1, (⟨#[97]⟩ : ByteArray), (⟨#[50]⟩ : ByteArray), []⟩ : S24)]).length) (([(⟨1, (⟨#[97]⟩ : ByteArray), (⟨#[49]⟩ : ByteArray), []⟩ : S24), (⟨1, (⟨#[97]⟩ : ByteArray), (⟨#[50]⟩ : ByteArray), []⟩ : S24)]).length)]) (HO38.sel [0, 1, 2] (by decide)) k24 [(⟨5, (⟨#[]⟩ : ByteArray), (⟨#[]⟩ : ByteArray), [(⟨1, (⟨#[97]⟩ : ByteArray), (⟨#[49]⟩ : ByteArray), []⟩ : S24), (⟨1, (⟨#[97]⟩ : ByteArray), (⟨#[50]⟩ : ByteArray), []⟩ : S24)]⟩ : S24)] (fun w_ h_ => reps_more (k24_mkF _ _ (⟨5, (⟨#[]⟩ : ByteArray), (⟨#[]⟩ : ByteArray), [(⟨1, (⟨#[97]⟩ : ByteArray), (⟨#[49]⟩ : ByteArray), []⟩ : S24), (⟨1, (⟨#[97]⟩ : ByteArray), (⟨#[50]⟩ : ByteArray), []⟩ : S24)]⟩ : S24) h_.2.1 h_.1) rfl reps_none) (by simp [maxLen])
  clear HO38
  refine gw_ev HF36 (want_none rfl) rfl (by decide) (op_build (cells := #[.int .i64 3, .string (⟨#[]⟩ : ByteArray), .string (⟨#[]⟩ : ByteArray), .slice (some ⟨g33, 0, none⟩) (([(⟨5, (⟨#[]⟩ : ByteArray), (⟨#[]⟩ : ByteArray), [(⟨1, (⟨#[97]⟩ : ByteArray), (⟨#[49]⟩ : ByteArray), []⟩ : S24), (⟨1, (⟨#[97]⟩ : ByteArray), (⟨#[50]⟩ : ByteArray), []⟩ : S24)]⟩ : S24)]).length) (([(⟨5, (⟨#[]⟩ : ByteArray), (⟨#[]⟩ : ByteArray), [(⟨1, (⟨#[97]⟩ : ByteArray), (⟨#[49]⟩ : ByteArray), []⟩ : S24), (⟨1, (⟨#[97]⟩ : ByteArray), (⟨#[50]⟩ : ByteArray), []⟩ : S24)]⟩ : S24)]).length)]) rfl (pt_cons (ev_c _ _) (pt_cons (HF36.ev rfl) pt_nil)) (by kernel_rfl)) ?_
  intro a41 HF42; clear HF36
  refine gw_setn 1 HF42 HO39 rfl (want_none rfl) rfl (op_storen gwsiz24 rfl (HF42.ev rfl) (HF42.ev rfl) (HO39.get 1 rfl) rfl (by simp) (by simp [Value.oneCell'])) ?_
  intro a43 w45 HF44 HO46; clear HF42 HO39
  have HO47 : Own w w45 [Chunk.view k24 (fun k_ => k_ = g33 ∨ (fun k_ => k_ = g23 ∨ Chunk.void.S k_) k_) (some ⟨g33, 0, none⟩) (([(⟨5, (⟨#[]⟩ : ByteArray), (⟨#[]⟩ : ByteArray), [(⟨1, (⟨#[97]⟩ : ByteArray), (⟨#[49]⟩ : ByteArray), []⟩ : S24), (⟨1, (⟨#[97]⟩ : ByteArray), (⟨#[50]⟩ : ByteArray), []⟩ : S24)]⟩ : S24)]).length) (([(⟨5, (⟨#[]⟩ : ByteArray), (⟨#[]⟩ : ByteArray), [(⟨1, (⟨#[97]⟩ : ByteArray), (⟨#[49]⟩ : ByteArray), []⟩ : S24), (⟨1, (⟨#[97]⟩ : ByteArray), (⟨#[50]⟩ : ByteArray), []⟩ : S24)]⟩ : S24)]).length) ([(⟨5, (⟨#[]⟩ : ByteArray), (⟨#[]⟩ : ByteArray), [(⟨1, (⟨#[97]⟩ : ByteArray), (⟨#[49]⟩ : ByteArray), []⟩ : S24), (⟨1, (⟨#[97]⟩ : ByteArray), (⟨#[50]⟩ : ByteArray), []⟩ : S24)]⟩ : S24)]), Chunk.blk g2 (.cells #[.int .i64 3, .string (⟨#[]⟩ : ByteArray), .string (⟨#[]⟩ : ByteArray), .slice (some ⟨g33, 0, none⟩) (([(⟨5, (⟨#[]⟩ : ByteArray), (⟨#[]⟩ : ByteArray), [(⟨1, (⟨#[97]⟩ : ByteArray), (⟨#[49]⟩ : ByteArray), []⟩ : S24), (⟨1, (⟨#[97]⟩ : ByteArray), (⟨#[50]⟩ : ByteArray), []⟩ : S24)]⟩ : S24)]).length) (([(⟨5, (⟨#[]⟩ : ByteArray), (⟨#[]⟩ : ByteArray), [(⟨1, (⟨#[97]⟩ : ByteArray), (⟨#[49]⟩ : ByteArray), []⟩ : S24), (⟨1, (⟨#[97]⟩ : ByteArray), (⟨#[50]⟩ : ByteArray), []⟩ : S24)]⟩ : S24)]).length)] 24 (0, 0))] := HO46
  clear HO46
  refine wpList_nil ?_
  refine gw_nx (hK8 _ _ ?_)
  refine wp_ret ?_
  refine gw_rets1 HF44 rfl (rv_celln HF44 rfl gwagg24 gwsiz24 (HO47.get 1 rfl) rfl) ?_
  exact ⟨_, _, _, rfl, (HO47.sel [0] (by decide)).out⟩
theorem cond_simple.own (k : Nat) : SimpleIH k := by
  induction k with
  | zero => intro _ _ _ _ _ _ _ _ _ _ _ h; cases h
  | succ k ih => intro kd nm vl A3 c3 kids fl r w hr3 hc3 h; exact simple_step k ih kd nm vl A3 c3 kids fl r w hr3 hc3 h
def cond_Simple.f (k : Nat) (kd : Int) (nm vl : ByteArray) (kids : List S24) : Option CondR := (cond_Right.f k kd nm vl kids).bind fun t => if t = true then cond_simple.f k kd nm vl kids false else some (0, (⟨#[]⟩ : ByteArray), (⟨#[]⟩ : ByteArray), [])
theorem cond_Simple.mono : ∀ a0 a1 a2 a3 k, LeO (cond_Simple.f k a0 a1 a2 a3) (cond_Simple.f (k + 1) a0 a1 a2 a3) := by
  intro a0 a1 a2 a3 k r h
  unfold cond_Simple.f at h ⊢
  obtain ⟨t, ht, h⟩ := Option.bind_eq_some_iff.mp h
  rw [cond_Right.mono _ _ _ _ _ _ ht, Option.bind_some]
  split
  · rename_i h1; rw [if_pos h1] at h; exact cond_simple.mono _ _ _ _ _ _ _ h
  · rename_i h1; rw [if_neg h1] at h; exact h
theorem simple_in {k : Nat} {kd : Int} {nm vl : ByteArray} {kids : List S24} {r : CondR} (h : cond_Simple.f k kd nm vl kids = some r) : ∃ t, cond_Right.f k kd nm vl kids = some t ∧ (t = true → cond_simple.f k kd nm vl kids false = some r) ∧ (t = false → r = (0, (⟨#[]⟩ : ByteArray), (⟨#[]⟩ : ByteArray), [])) := by
  unfold cond_Simple.f at h
  obtain ⟨t, ht, h⟩ := Option.bind_eq_some_iff.mp h
  refine ⟨t, ht, fun h1 => ?_, fun h1 => ?_⟩
  · rwa [if_pos h1] at h
  · rw [if_neg (by rw [h1]; decide)] at h; exact (Option.some.inj h).symm
theorem view_V {α : Type} {d : Kd α} {e : Nat} {w w' : World} {S : Nat → Prop} {A : Option Addr} {c : Nat} {xs : List α} (h : Out w w' (fun _ => False) [Chunk.view d S A xs.length c xs]) : Kd.V d e w' w.heap.size (fun k_ => w.heap.size ≤ k_) (.slice A xs.length c) xs ∧ Below w.heap.size w w' := by
  have h1 := h.holds _ (List.mem_cons_self ..)
  exact ⟨⟨A, c, rfl, h1.2.1, Kd.F_mono h1.1 (fun k hk => (h.inside _ (List.mem_cons_self ..) k hk).1.resolve_left id)⟩, ((Own.start w).fresh h).below⟩

set_option maxHeartbeats 4000000 in
set_option maxRecDepth 100000 in
theorem Simple_walk (k : Nat) (kd : Int) (nm vl : ByteArray) (A3 : Option Addr) (c3 : Nat) (kids : List S24) (r : CondR) (w : World) (hr3 : Kd.C k24 w A3 kids.length kids) (hc3 : kids.length ≤ c3) (h : cond_Simple.f k kd nm vl kids = some r) :
    Calls Try.prog 17 #[.agg #[.int .i64 kd, .string nm, .string vl, .slice A3 kids.length c3]] w fun e w' => ∃ A c S, e = .returned (.agg #[.int .i64 r.1, .string r.2.1, .string r.2.2.1, .slice A r.2.2.2.length c]) ∧ Out w w' (fun _ => False) [Chunk.view k24 S A r.2.2.2.length c r.2.2.2] := by
  obtain ⟨t, ht, h2, h3⟩ := simple_in h
  refine gw_start (N := 9) (vs := [.agg #[.int .i64 kd, .string nm, .string vl, .slice A3 kids.length c3]]) Try.func17 rfl rfl (by simp) fun a HF HO => ?_
  replace HO : Own w w [] := HO
  refine gw_seq fun K1 hK1 => ?_
  refine wp_region_lit ?_
  refine gw_new HF HO (want_none rfl) rfl (by decide) (op_box rfl (HF.ev rfl)) ?_
  intro g2 a3 w4 HF5 HO6; clear HF HO
  have HO7 : Own w w4 [Chunk.blk g2 (.cells #[.int .i64 kd, .string nm, .string vl, .slice A3 kids.length c3] 24 (0, 0))] := HO6
  clear HO6
  refine gw_new HF5 HO7 (want_none rfl) rfl (by decide) (op_alloc gwzer24 rfl) ?_
  intro g8 a9 w10 HF11 HO12; clear HF5 HO7
  have HO13 : Own w w10 [Chunk.blk g8 (.cells #[.int .i64 0, .string (⟨#[]⟩ : ByteArray), .string (⟨#[]⟩ : ByteArray), .slice none 0 0] 24 (0, 0)), Chunk.blk g2 (.cells #[.int .i64 kd, .string nm, .string vl, .slice A3 kids.length c3] 24 (0, 0))] := HO12
  clear HO12
  refine wpList_nil ?_
  refine gw_nx (hK1 _ _ ?_)
  refine gw_seq fun K14 hK14 => ?_
  refine gw_seq fun K15 hK15 => ?_
  refine wp_region_lit ?_
  refine gw_ev HF11 (want_none rfl) rfl (by decide) (op_loadn gwagg24 gwsiz24 rfl (HF11.ev rfl) (HO13.get 1 rfl) rfl rfl) ?_
  intro a16 HF17; clear HF11
  refine gw_call HF17 (want_none rfl) rfl (by decide) (op_callL Try.func11 (by kernel_rfl) rfl rfl (ar_cons (HF17.ev rfl) ar_nil)) (cond_Right.calls k kd nm vl A3 c3 kids t _ (Kd.C_below hr3 HO13.below) hc3 ht) ?_
  rintro e18 w19 ⟨rfl, hb20⟩
  refine ⟨_, rfl, fun a21 HF22 => ?_⟩
  have HO23 := HO13.after hb20
  clear HF17 HO13 hb20
  refine gw_ev HF22 (want_none rfl) rfl (by decide) (op_not rfl (HF22.ev rfl)) ?_
  intro a25 HF26; clear HF22
  refine wpList_nil ?_
  refine gw_nx (hK15 _ _ ?_)
  refine gw_cond HF26 rfl (fun hb27 => ?_) (fun hb27 => ?_)
  · skip
    have HF28 := HF26.subst_ (d := 5) (b := true) rfl hb27
    clear HF26
    (try simp only [Bool.and_eq_true, Bool.or_eq_true, Bool.and_eq_false_iff, Bool.or_eq_false_iff, Bool.not_and, Bool.not_or, Bool.not_not, decide_eq_true_eq, decide_eq_false_iff_not, Bool.not_eq_true', Bool.not_eq_false', Bool.not_eq_true, Bool.not_eq_false, ne_eq, Decidable.not_not, Int.not_lt, Int.not_le, not_true_eq_false, not_false_eq_true, bne_iff_ne, beq_iff_eq, bne_eq_false_iff_eq, beq_eq_false_iff_ne] at hb27)
    obtain rfl := h3 hb27
    refine gw_seq fun K29 hK29 => ?_
    refine wp_region_lit ?_
    refine gw_ev HF28 (want_none rfl) rfl (by decide) (op_build (cells := #[.int .i64 0, .string (⟨#[]⟩ : ByteArray), .string (⟨#[]⟩ : ByteArray), .slice none 0 0]) rfl pt_nil (by kernel_rfl)) ?_
    intro a30 HF31; clear HF28
    refine gw_setn 0 HF31 HO23 rfl (want_none rfl) rfl (op_storen gwsiz24 rfl (HF31.ev rfl) (HF31.ev rfl) (HO23.get 0 rfl) rfl (by simp) (by simp [Value.oneCell'])) ?_
    intro a32 w34 HF33 HO35; clear HF31 HO23
    have HO36 : Own w w34 [Chunk.blk g8 (.cells #[.int .i64 0, .string (⟨#[]⟩ : ByteArray), .string (⟨#[]⟩ : ByteArray), .slice none 0 0] 24 (0, 0)), Chunk.blk g2 (.cells #[.int .i64 kd, .string nm, .string vl, .slice A3 kids.length c3] 24 (0, 0))] := HO35
    clear HO35
    refine wpList_nil ?_
    refine gw_nx (hK29 _ _ ?_)
    refine wp_ret ?_
    refine gw_thr ?_
    refine gw_rets1 HF33 rfl (rv_celln HF33 rfl gwagg24 gwsiz24 (HO36.get 0 rfl) rfl) ?_
    exact ⟨none, 0, (fun _ => False), rfl, ((HO36.view_nil k24).sel [0] (by decide)).out⟩
  · skip
    have HF37 := HF26.subst_ (d := 5) (b := false) rfl hb27
    clear HF26
    (try simp only [Bool.and_eq_true, Bool.or_eq_true, Bool.and_eq_false_iff, Bool.or_eq_false_iff, Bool.not_and, Bool.not_or, Bool.not_not, decide_eq_true_eq, decide_eq_false_iff_not, Bool.not_eq_true', Bool.not_eq_false', Bool.not_eq_true, Bool.not_eq_false, ne_eq, Decidable.not_not, Int.not_lt, Int.not_le, not_true_eq_false, not_false_eq_true, bne_iff_ne, beq_iff_eq, bne_eq_false_iff_eq, beq_eq_false_iff_ne] at hb27)
    refine wp_skip ?_
    refine gw_nx (hK14 _ _ ?_)
    refine gw_seq fun K38 hK38 => ?_
    refine wp_region_lit ?_
    refine gw_ev HF37 (want_none rfl) rfl (by decide) (op_loadn gwagg24 gwsiz24 rfl (HF37.ev rfl) (HO23.get 1 rfl) rfl rfl) ?_
    intro a39 HF40; clear HF37
    refine gw_call HF40 (want_none rfl) rfl (by decide) (op_callL Try.func32 (by kernel_rfl) rfl rfl (ar_cons (HF40.ev rfl) (ar_cons (ev_c _ _) ar_nil))) (cond_simple.own k kd nm vl A3 c3 kids false r _ (Kd.C_below hr3 HO23.below) hc3 (h2 (by assumption))) ?_
    rintro e44 w45 ⟨A41, c42, S43, rfl, hb46⟩
    refine ⟨_, rfl, fun a47 HF48 => ?_⟩
    have HO49 := HO23.fresh hb46
    clear HF40 HO23 hb46
    have HO51 : Own w w45 [Chunk.view k24 S43 A41 r.2.2.2.length c42 r.2.2.2, Chunk.blk g8 (.cells #[.int .i64 0, .string (⟨#[]⟩ : ByteArray), .string (⟨#[]⟩ : ByteArray), .slice none 0 0] 24 (0, 0)), Chunk.blk g2 (.cells #[.int .i64 kd, .string nm, .string vl, .slice A3 kids.length c3] 24 (0, 0))] := HO49
    clear HO49
    refine gw_setn 1 HF48 HO51 rfl (want_none rfl) rfl (op_storen gwsiz24 rfl (HF48.ev rfl) (HF48.ev rfl) (HO51.get 1 rfl) rfl (by simp) (by simp [Value.oneCell'])) ?_
    intro a52 w54 HF53 HO55; clear HF48 HO51
    have HO56 : Own w w54 [Chunk.view k24 S43 A41 r.2.2.2.length c42 r.2.2.2, Chunk.blk g8 (.cells #[.int .i64 r.1, .string r.2.1, .string r.2.2.1, .slice A41 r.2.2.2.length c42] 24 (0, 0)), Chunk.blk g2 (.cells #[.int .i64 kd, .string nm, .string vl, .slice A3 kids.length c3] 24 (0, 0))] := HO55
    clear HO55
    refine wpList_nil ?_
    refine gw_nx (hK38 _ _ ?_)
    refine wp_ret ?_
    refine gw_rets1 HF53 rfl (rv_celln HF53 rfl gwagg24 gwsiz24 (HO56.get 1 rfl) rfl) ?_
    exact ⟨_, _, _, rfl, (HO56.sel [0] (by decide)).out⟩
theorem cond_simple.calls (k : Nat) (a0_0 : Int) (a0_1 a0_2 : ByteArray) (A0_3 : Option Addr) (c0_3 : Nat) (l0_3 : List S24) (a1 : Bool) (r1 : Int) (r2 r3 : ByteArray) (r4 : List S24) (w : World) (hr0_3 : Kd.C k24 w A0_3 l0_3.length l0_3) (hc0_3 : l0_3.length ≤ c0_3) (h : cond_simple.f k a0_0 a0_1 a0_2 l0_3 a1 = some (r1, r2, r3, r4)) : Calls Try.prog 32 #[.agg #[.int .i64 a0_0, .string a0_1, .string a0_2, .slice A0_3 l0_3.length c0_3], .bool a1] w fun e w' => ∃ v3_ : Value, e = .returned (.agg #[.int .i64 r1, .string r2, .string r3, v3_]) ∧ Kd.V k24 24 w' w.heap.size (fun k_ => w.heap.size ≤ k_) v3_ r4 ∧ Below w.heap.size w w' :=
  (cond_simple.own k a0_0 a0_1 a0_2 A0_3 c0_3 l0_3 a1 (r1, r2, r3, r4) w hr0_3 hc0_3 h).mono fun e w' h_ => by obtain ⟨A_, c_, S_, he, ho_⟩ := h_; exact ⟨_, he, view_V (e := 24) ho_⟩

theorem cond_Simple.calls (k : Nat) (a0_0 : Int) (a0_1 a0_2 : ByteArray) (A0_3 : Option Addr) (c0_3 : Nat) (l0_3 : List S24) (r1 : Int) (r2 r3 : ByteArray) (r4 : List S24) (w : World) (hr0_3 : Kd.C k24 w A0_3 l0_3.length l0_3) (hc0_3 : l0_3.length ≤ c0_3) (h : cond_Simple.f k a0_0 a0_1 a0_2 l0_3 = some (r1, r2, r3, r4)) : Calls Try.prog 17 #[.agg #[.int .i64 a0_0, .string a0_1, .string a0_2, .slice A0_3 l0_3.length c0_3]] w fun e w' => ∃ v3_ : Value, e = .returned (.agg #[.int .i64 r1, .string r2, .string r3, v3_]) ∧ Kd.V k24 24 w' w.heap.size (fun k_ => w.heap.size ≤ k_) v3_ r4 ∧ Below w.heap.size w w' :=
  (Simple_walk k a0_0 a0_1 a0_2 A0_3 c0_3 l0_3 (r1, r2, r3, r4) w hr0_3 hc0_3 h).mono fun e w' h_ => by obtain ⟨A_, c_, S_, he, ho_⟩ := h_; exact ⟨_, he, view_V (e := 24) ho_⟩

def colloquylaw12_no.f : Option CondR := some noR
theorem colloquylaw12_no.calls (r1 : Int) (r2 r3 : ByteArray) (r4 : List S24) (w : World) (h : colloquylaw12_no.f = some (r1, r2, r3, r4)) : Calls Try.prog 22 #[] w fun e w' => ∃ v3_ : Value, e = .returned (.agg #[.int .i64 r1, .string r2, .string r3, v3_]) ∧ Kd.V k24 24 w' w.heap.size (fun k_ => w.heap.size ≤ k_) v3_ r4 ∧ Below w.heap.size w w' := by
  obtain ⟨rfl, rfl, rfl, rfl⟩ : 3 = r1 ∧ (⟨#[]⟩ : ByteArray) = r2 ∧ (⟨#[]⟩ : ByteArray) = r3 ∧ [(⟨5, (⟨#[]⟩ : ByteArray), (⟨#[]⟩ : ByteArray), ([(⟨1, (⟨#[97]⟩ : ByteArray), (⟨#[49]⟩ : ByteArray), []⟩ : S24), (⟨1, (⟨#[97]⟩ : ByteArray), (⟨#[50]⟩ : ByteArray), []⟩ : S24)] : List S24)⟩ : S24)] = r4 := by simpa [colloquylaw12_no.f, noR] using h
  exact (no_walk w).mono fun e w' h_ => by obtain ⟨A_, c_, S_, he, ho_⟩ := h_; exact ⟨_, he, view_V (e := 24) ho_⟩

end GCond2_
export GCond2_ (cond_simple.calls cond_Simple.f cond_Simple.mono cond_Simple.calls colloquylaw12_no.f colloquylaw12_no.calls noR no_walk is_calls Simple_walk cond_simple.own view_V simple_in)
end Go.Proofs.Ytjndcgochnaodaa.PA

