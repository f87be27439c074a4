/- summing: the document's example of a sum. -/
import Derived.Test.YtmlemnfleicnfaaHWords
import Derived.Test.YtmlemnfleicnfaaPAx1
namespace Go.Proofs.Ytmlemnfleicnfaa.PA
open Go.RowKit Go.Proofs.YtmlemnfleicnfaaW.PrintWords Go.Proofs.YtmlemnfleicnfaaW.PrintLast Go.Proofs.YtmlemnfleicnfaaW.PrintMore

def colloquylaw08_summing.f (k : Nat) : Option Bool := (pack_Sum.f k [49, 50, 51, 52, 53, 54, 55, 56, 57]).bind fun t => some (t == 3421780262)
theorem colloquylaw08_summing.mono (k : Nat) : LeO (colloquylaw08_summing.f k) (colloquylaw08_summing.f (k + 1)) := LeO.bind (pack_Sum.mono _ k) (fun _ => LeO.refl _)
set_option maxHeartbeats 8000000 in
theorem colloquylaw08_summing.calls (k : Nat) (r : Bool) (w : World) (h : colloquylaw08_summing.f k = some r) :
    Calls Try.prog 15 #[] w fun e w' => e = .returned (.bool r) ∧ Below w.heap.size w w' := by
  obtain ⟨t, h1, h2⟩ := Option.bind_eq_some_iff.mp h
  obtain rfl := Option.some.inj h2
  clear h h2
  have H1 := Aside0.mk h1
  clear h1
  have kc := fun (w : World) (C : Array Value) (n c : Nat) => Lib.run_convert_bytes_const (P := Try.prog) w 22 5 C n c Try.underlying22 Try.underlying5
  go_enter Try.func15, Try.ntmps15
  go_wp2_with (fail)
  refine (pack_Sum.calls k (some ⟨w.heap.size, 0, none⟩) 9 [49, 50, 51, 52, 53, 54, 55, 56, 57] t _ (C_lit .u8 w _ _ _ _ rfl (by decide)) (Nat.le_refl _) H1.out).mono ?_
  rintro e w1 ⟨rfl, hb⟩
  have HB := Aside0.mk (below_then ((Below.refl w.heap.size w).alloc (Nat.le_refl _) _) (by simp) hb.below)
  clear hb
  go_wp2
  go_ret
  exact ⟨rfl, HB.out⟩
end Go.Proofs.Ytmlemnfleicnfaa.PA
