/- The row of the law CondParts: for every input of bulk at most 1048576 the call returns true and leaves its arguments as they were. Printed by a program of this session. -/

import Derived.Test.YtjndcgochnaodaaRows
import Derived.Test.YtjndcgochnaodaaStmtCondParts
import Derived.Test.YtjndcgochnaodaaPureCondParts
import Derived.WalkKit
import Derived.ProofKit
import Derived.OpenShut
import Derived.ShutString
import Derived.ChangeOld
import Derived.Below
import Derived.SizedLaws
import Derived.JoinedCond
import Derived.WideShapes
import Derived.Carry
import Derived.Deep.CondSized
namespace Go.Proofs.Ytjndcgochnaodaa.condParts
open Go.ChangeShapes Go.WideShapes Go.ChangeAt Go.RowKit
open Go.ChangeMaps (open_string shut_string)
open Go.RowKit Go.Proofs.YtjndcgochnaodaaW.PrintWords Go.Proofs.YtjndcgochnaodaaW.PrintLast Go.Proofs.YtjndcgochnaodaaW.PrintMore Go.Proofs.Ytjndcgochnaodaa.PA
set_option linter.unusedVariables false
set_option linter.unusedSimpArgs false
theorem own : ownKnob Try.prog.godebug = none := by kernel_rfl
theorem laidOut : laidOutB Try.prog = true := by kernel_rfl
set_option maxRecDepth 100000 in
theorem contract (H : Type) (enc : TypeId × Value → H) (W : World) (base : Nat) (args : Array Value) (ds gs : List (DataW H)) (before : List MemPlace)
    (hval0 : ∀ (j : Nat) t v, Try.f6.params[j]? = some t → args[j]? = some v → Value.okWide Try.prog W .any base t v)
    (hW : DataW.Whole enc Try.prog Try.f6.params.toList Rows.condPartsSpec.vars false W args.toList ds gs before) (hk : Rows.uptoSmall H (ds ++ gs) = true)
    (hsz0 : (DataW.weightsEach Try.prog (Try.f6.params.toList ++ Rows.condPartsSpec.plain.varTypes Try.prog) (ds ++ gs)).all (· ≤ reachBytes) = true) :
    Calls Try.prog 6 args W fun e W' => ∃ v, e = .returned v ∧ Rows.condPartsSpec.post enc Try.prog Try.f6 false true false false W args v W' := by
  have hsz : (DataW.weightsEach Try.prog (Try.f6.params.toList ++ Rows.condPartsSpec.plain.varTypes Try.prog) (ds ++ gs)).all (· ≤ reachBytes) = true := hsz0
  have hval : ∀ (j : Nat) t v, Try.f6.params[j]? = some t → args[j]? = some v → Value.okWide Try.prog W .any base t v := hval0
  have hW' := hW
  obtain ⟨p, q, hA0, hV, rfl, hfz, hnd⟩ := hW
  have hA : DataW.TrodAll enc Try.prog W 0 (fun _ => true) true Try.f6.params.toList args.toList ds p := hA0
  rw [Try.params6] at hA hval hsz
  obtain ⟨v0, vs0, d0, ds0, p0, q0, hargs, rfl, rfl, h0, r0⟩ := trodAll_cons hA
  obtain ⟨v1, vs1, d1, ds1, p1, q1, rfl, rfl, rfl, h1, r1⟩ := trodAll_cons r0
  obtain ⟨v2, vs2, d2, ds2, p2, q2, rfl, rfl, rfl, h2, r2⟩ := trodAll_cons r1
  obtain ⟨rfl, rfl, rfl⟩ := trodAll_nil r2
  obtain rfl : args = #[v0, v1, v2] := by cases args; simp_all
  obtain ⟨rfl, rfl⟩ := trodVars_none hV
  have hbk := upto_bound hk
  simp only [List.append_nil, Rows.uptoBulkAll] at hbk
  have k0 := h0
  have lt0 : ∀ x ∈ p0, x.block < W.heap.size := by obtain ⟨m, hm⟩ := k0; exact DataW.trod_lt m _ _ _ hm
  obtain ⟨fuel0, hf0⟩ := h0
  obtain ⟨x0, hK0, g0, z0, s00⟩ := opens24.run enc W _ _ fuel0 _ _ hf0
  obtain ⟨cs0, rfl, _⟩ := okWide_struct Try.underlying24 (hval 0 24 v0 rfl rfl)
  obtain ⟨A0_3, c0_3, hcs0, hc0_3, hr0_3⟩ := k24_open hK0
  obtain rfl : cs0 = #[.int .i64 x0.f0, .string x0.f1, .string x0.f2, .slice A0_3 x0.f3.length c0_3] := by
    have hcs' : cs0.toList = [.int .i64 x0.f0, .string x0.f1, .string x0.f2, .slice A0_3 x0.f3.length c0_3] := hcs0
    cases cs0; simp_all
  have z0' : wt24 (x0) ≤ Rows.uptoBulk d0 := z0
  have k1 := h1
  have lt1 : ∀ x ∈ p1, x.block < W.heap.size := by obtain ⟨m, hm⟩ := k1; exact DataW.trod_lt m _ _ _ hm
  obtain ⟨fuel1, hf1⟩ := h1
  obtain ⟨x1, hK1, g1, z1, s10⟩ := opens24.run enc W _ _ fuel1 _ _ hf1
  obtain ⟨cs1, rfl, _⟩ := okWide_struct Try.underlying24 (hval 1 24 v1 rfl rfl)
  obtain ⟨A1_3, c1_3, hcs1, hc1_3, hr1_3⟩ := k24_open hK1
  obtain rfl : cs1 = #[.int .i64 x1.f0, .string x1.f1, .string x1.f2, .slice A1_3 x1.f3.length c1_3] := by
    have hcs' : cs1.toList = [.int .i64 x1.f0, .string x1.f1, .string x1.f2, .slice A1_3 x1.f3.length c1_3] := hcs1
    cases cs1; simp_all
  have z1' : wt24 (x1) ≤ Rows.uptoBulk d1 := z1
  have k2 := h2
  have lt2 : ∀ x ∈ p2, x.block < W.heap.size := by obtain ⟨m, hm⟩ := k2; exact DataW.trod_lt m _ _ _ hm
  obtain ⟨fuel2, hf2⟩ := h2
  obtain ⟨x2, hK2, g2, z2, s20⟩ := opens27.run enc W _ _ fuel2 _ _ hf2
  obtain ⟨cs2, rfl, _⟩ := okWide_struct Try.underlying27 (hval 2 27 v2 rfl rfl)
  obtain ⟨A2_1, c2_1, hcs2, hc2_1, hr2_1⟩ := k27_open hK2
  obtain rfl : cs2 = #[.string x2.f0, .slice A2_1 x2.f1.length c2_1] := by
    have hcs' : cs2.toList = [.string x2.f0, .slice A2_1 x2.f1.length c2_1] := hcs2
    cases cs2; simp_all
  have z2' : wt27 (x2) ≤ Rows.uptoBulk d2 := z2
  obtain ⟨k, h⟩ := Pure.CondParts x0 x1 x2 g0 g1 g2 (by have := hbk; have := z0'; have := z1'; have := z2'; omega)
  refine (PA.colloquylaw12_CondParts.calls (a0_0 := x0.f0) (a0_1 := x0.f1) (a0_2 := x0.f2) (A0_3 := A0_3) (c0_3 := c0_3) (l0_3 := x0.f3) (a1_0 := x1.f0) (a1_1 := x1.f1) (a1_2 := x1.f2) (A1_3 := A1_3) (c1_3 := c1_3) (l1_3 := x1.f3) (a2_0 := x2.f0) (A2_1 := A2_1) (c2_1 := c2_1) (l2_1 := x2.f1) (r := true) (w := W) (hr0_3 := hr0_3) (hc0_3 := hc0_3) (hr1_3 := hr1_3) (hc1_3 := hc1_3) (hr2_1 := hr2_1) (hc2_1 := hc2_1) (h := h)).mono fun e W' ⟨he, hb⟩ => ?_
  have bel : Below W.heap.size W W' := by first | exact hb | exact Drawn0.below hb
  subst he
  exact ⟨_, rfl, _, _, _, [], _, [], hW', trodAll_mk1 (shut_bool Try.underlying4 _), (trodAll_cons_mk (Below.trod laidOut (by kernel_rfl) (of_decide_eq_true (by kernel_rfl)) k0 bel lt0) (trodAll_cons_mk (Below.trod laidOut (by kernel_rfl) (of_decide_eq_true (by kernel_rfl)) k1 bel lt1) (trodAll_cons_mk (Below.trod laidOut (by kernel_rfl) (of_decide_eq_true (by kernel_rfl)) k2 bel lt2) trodAll_mk0))), rfl, bel.frame _, fun h => by cases h⟩
set_option maxRecDepth 100000 in
theorem lifted (os : Os) (started : os.Started) (H : Type) (enc : TypeId × Value → H) (F : Stop.Interp) :
    ReturnsInHanded {} Try.checked os 6 .any ((Rows.OpenSpec.upto Rows.condPartsSpec).pre6 enc Try.prog Try.f6 Rows.condPartsUptoRow.domain false) (((Rows.OpenSpec.upto Rows.condPartsSpec).at F).post enc Try.prog Try.f6 false true false false) := by
  refine returnsInHanded_of_cond_sized (C := Try.checked) (s := Rows.OpenSpec.upto Rows.condPartsSpec) (k := Rows.uptoSmall) rfl own started (by kernel_rfl) Try.func6
    (OpenSpec.witness (enc := enc) (C := Try.checked) (s := Rows.OpenSpec.upto Rows.condPartsSpec) (k := Rows.uptoSmall) rfl false ⟨#[], #[.agg #[.int .i64 0, .string ByteArray.empty, .string ByteArray.empty, .slice none 0 0], .agg #[.int .i64 0, .string ByteArray.empty, .string ByteArray.empty, .slice none 0 0], .agg #[.string ByteArray.empty, .slice none 0 0]], []⟩ 8 (by kernel_rfl) (by kernel_rfl) (by kernel_rfl)
      (x := ([.agg [.lit (.int .i64 0), .lit (.string []), .lit (.string []), .nil], .agg [.lit (.int .i64 0), .lit (.string []), .lit (.string []), .nil], .agg [.lit (.string []), .nil]], [], [])) (by kernel_rfl) rfl (by kernel_rfl)) ?_
  intro W base args ds gs before hval hW _ hk hsz _
  exact contract H enc W base args ds gs before hval hW hk hsz
theorem proved : Rows.CondPartsUptoSaid :=
  OpenClaim.holds_of_cond 6 Try.f6 rfl rfl rfl rfl rfl rfl rfl ⟨rfl, rfl, rfl, rfl, rfl⟩ rfl rfl rfl rfl rfl (by kernel_rfl) Try.func6 (by kernel_rfl)
    (of_decide_eq_true (by kernel_rfl)) (by unfold Func.isWrapper; first | (rw [if_pos (by decide +kernel)]; kernel_rfl) | (rw [if_neg (by decide +kernel)]; exact ⟨rfl, rfl⟩))
    (fun os started H enc _ F => lifted os started H enc F)
#print axioms proved
end Go.Proofs.Ytjndcgochnaodaa.condParts
namespace Go.Proofs.Ytjndcgochnaodaa
/-- The row, under a short name, for the claim. -/
theorem condPartsUpto_holds : Rows.CondPartsUptoSaid := condParts.proved
end Go.Proofs.Ytjndcgochnaodaa
