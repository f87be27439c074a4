/- slices.Clone of bytes: a copy of its own. -/
import Derived.Test.YtkdahjnmldeklaaPAx0
import Derived.WalkSpells
namespace Go.Proofs.Ytkdahjnmldeklaa.PA
open Go.RowKit Go.Proofs.YtkdahjnmldeklaaW.PrintWords Go.Proofs.YtkdahjnmldeklaaW.PrintLast Go.Proofs.YtkdahjnmldeklaaW.PrintMore
set_option linter.unusedVariables false
set_option linter.unusedSimpArgs false

theorem cloneInfo : (Try.prog.info? 5).map (fun i => (i.zero, i.size, i.bytes)) = some (some (.int .u8 0), 1, 1) := by kernel_rfl
def slices_Clone_byte_byte.f (l0 : List Int) : Option (List Int) := if l0.length < 140737488355328 then some l0 else none
set_option maxHeartbeats 8000000 in
set_option maxRecDepth 100000 in
theorem slices_Clone_byte_byte.calls (A0 : Option Addr) (c0 : Nat) (l0 : List Int) (r : List Int) (w : World) (hr0 : Kd.C (Kd.int .u8) w A0 l0.length l0) (_hc0 : l0.length ≤ c0) (h : slices_Clone_byte_byte.f l0 = some r) :
    Calls Try.prog 45 #[.slice A0 l0.length c0] w fun e w' => ∃ v0_ : Value, e = .returned (v0_) ∧ Kd.R (Kd.int .u8) 5 w' w.heap.size (fun _ => True) v0_ r ∧ Below w.heap.size w w' := by
  have hl : l0.length < 140737488355328 := by
    unfold slices_Clone_byte_byte.f at h; split at h
    · assumption
    · cases h
  obtain rfl : l0 = r := by
    unfold slices_Clone_byte_byte.f at h; rw [if_pos hl] at h; exact Option.some.inj h
  clear h
  have HL := Aside0.mk hl
  clear hl
  cases A0 with
  | none =>
    have h0 : l0 = [] := by
      have := hr0.2.2
      cases l0 with
      | nil => rfl
      | cons x xs => obtain ⟨ad, e, _⟩ := this (by simp); cases e
    subst h0
    clear hr0
    have hq := Lib.run_eql_slice_nil (P := Try.prog) w 28 5 none 0 c0 0 0 Try.underlying28
    simp only [List.length_nil]
    go_enter Try.func45, Try.ntmps45
    go_wp2
    go_ret
    exact ⟨_, rfl, Kd.R_nil _ _ _ _ _, Below.refl _ _⟩
  | some a =>
    have HR := Aside0.mk hr0
    clear hr0
    have hq := Lib.run_eql_slice_nil (P := Try.prog) w 28 5 (some a) l0.length c0 0 0 Try.underlying28
    have HB := Aside0.mk (Below.refl w.heap.size w)
    go_enter Try.func45, Try.ntmps45
    go_wp2_with (first
      | ((with_reducible refine gate_dst (N := 5) rfl ?_); refine Kd.R_lit (Kd.int .u8) _ 5 ?hg (N := 5) ?hd (xs := ([] : List Int)) (inner := []) (ok := fun _ => True) (okp := fun _ => True) ?hr ?hp (fun _ hk => hk) trivial HB.out (Nat.le_refl _) (by simp) ?_; (case hd => rfl); (case hg => rfl); (case hr => first | (go_simp; done) | (go_simp; rfl)); (case hp => exact Reps.none _ _); intro v1 w1 ho hb hg_ hnew_; have HO := Aside0.mk ho; have HB1 := Aside0.mk hb; clear ho hb hg_ hnew_)
      | ((with_reducible refine gate_builtin (b := .append) (xs := #[.tmp 5, .tmp 6]) rfl ?_); at_builtin; refine Kd.R_append_rows (Kd.int .u8) (w0 := w) w.heap.size rfl (.tmp 5) (.tmp 6) 28 5 (.int .u8 0) 1 rfl Try.underlying28 cloneInfo rfl (by decide) (by omega) _ [] l0 _ _ _ (fun _ => True) (fun _ => False) rfl rfl ?aO ?aR (fun _ _ h => h) (fun _ h => h.elim) (fun _ _ => trivial) ?aB ?aS ?aL ?_; (case aO => exact HO.out); (case aR => exact Kd.C_below HR.out HB1.out); (case aB => exact HB1.out); (case aS => exact HB1.out.size); (case aL => have := HL.out; simp; omega); intro v2 w2 ho hb hg hat; simp only [List.nil_append] at ho; have HO2 := Aside0.mk ho; have HB2 := Aside0.mk hb; clear ho hb hg hat))
    go_ret
    exact ⟨_, rfl, HO2.out, HB2.out⟩
/-- .. told as a slice. -/
theorem clone_bytes (A0 : Option Addr) (c0 : Nat) (l : List Int) (w : World) (hr : Kd.C (Kd.int .u8) w A0 l.length l) (hc : l.length ≤ c0) (hl : l.length < 140737488355328) :
    Calls Try.prog 45 #[.slice A0 l.length c0] w fun e w' => ∃ A' c', e = .returned (.slice A' l.length c') ∧ Kd.R (Kd.int .u8) 5 w' w.heap.size (fun _ => True) (.slice A' l.length c') l ∧ Below w.heap.size w w' := by
  refine (slices_Clone_byte_byte.calls A0 c0 l l w hr hc (by unfold slices_Clone_byte_byte.f; rw [if_pos hl])).mono ?_
  rintro e w' ⟨v, rfl, h, hb⟩
  obtain ⟨A', c', rfl⟩ := Kd.R_slice h
  exact ⟨A', c', rfl, h, hb⟩
end Go.Proofs.Ytkdahjnmldeklaa.PA
