/- The reference's Text: its number and its bytes, one behind the other. -/
import Derived.Test.YtmlemnfleicnfaaHWords
import Derived.Test.YtmlemnfleicnfaaPAx21
import Derived.Test.YtmlemnfleicnfaaPAx22
namespace Go.Proofs.Ytmlemnfleicnfaa.PA
open Go.RowKit Go.Proofs.YtmlemnfleicnfaaW.PrintWords Go.Proofs.YtmlemnfleicnfaaW.PrintLast Go.Proofs.YtmlemnfleicnfaaW.PrintMore

def colloquyref08_Text.f (k : Nat) (a0 : ByteArray) : Option (List Int) := if a0.size ≤ 9223372036854775807 then (colloquyref08_Num.f k (a0.size : Int)).bind fun n => colloquyref08_Join.f k n (bytesOf a0) else none
theorem colloquyref08_Text.mono (a0 : ByteArray) (k : Nat) : LeO (colloquyref08_Text.f k a0) (colloquyref08_Text.f (k + 1) a0) := LeO.ite (LeO.bind (colloquyref08_Num.mono _ k) (fun _ => colloquyref08_Join.mono _ _ k)) (LeO.refl _)
set_option maxHeartbeats 8000000 in
theorem colloquyref08_Text.calls (k : Nat) (a0 : ByteArray) (r : List Int) (w : World) (h : colloquyref08_Text.f k a0 = some r) :
    Calls Try.prog 24 #[.string a0] w fun e w' => ∃ v0_ : Value, e = .returned (v0_) ∧ Kd.R (Kd.int .u8) 5 w' w.heap.size (fun _ => True) v0_ r ∧ Below w.heap.size w w' := by
  have hs0 : a0.size ≤ 9223372036854775807 := by
    unfold colloquyref08_Text.f at h; split at h
    · assumption
    · cases h
  unfold colloquyref08_Text.f at h
  rw [if_pos hs0] at h
  obtain ⟨n, h1, h2⟩ := Option.bind_eq_some_iff.mp h
  clear h
  have H1 := Aside0.mk h1
  have H2 := Aside0.mk h2
  have HS := Aside0.mk hs0
  clear h1 h2 hs0
  go_enter Try.func24, Try.ntmps24
  go_wp2_with (fail)
  refine (colloquyref08_Num.calls k _ n _ H1.out).mono ?_
  rintro e w1 ⟨v1, rfl, hr1, hb1⟩
  have HR1 := Aside0.mk hr1
  have HB1 := Aside0.mk hb1
  clear hr1 hb1
  go_wp2_with (refine ev_conv (w0 := w) rfl 9 22 5 _ a0 rfl Try.underlying9 Try.underlying22 Try.underlying5 rfl HS.out w.heap.size HB1.out HB1.out.size ?_; intro A2 c2 w2 hc2 hl2 hb2 hbb2; have HC2 := Aside0.mk hc2; have HL2 := Aside0.mk hl2; have HB2 := Aside0.mk hb2; have HBB2 := Aside0.mk hbb2; clear hc2 hl2 hb2 hbb2)
  obtain ⟨A1, c1, rfl, hl1, hc1⟩ := Kd.R_reads HR1.out
  refine (colloquyref08_Join.calls k A1 c1 n A2 c2 (bytesOf a0) r w2 (Kd.C_below hc1 HB2.out) hl1 HC2.out HL2.out H2.out).mono ?_
  rintro e w3 ⟨v3, rfl, hr3, hb3⟩
  have HR3 := Aside0.mk (Kd.R_lower hr3 HBB2.out.size)
  have HB3 := Aside0.mk (below_step HBB2.out hb3)
  clear hr3 hb3
  go_wp2
  go_ret
  exact ⟨_, rfl, HR3.out, HB3.out⟩
end Go.Proofs.Ytmlemnfleicnfaa.PA
