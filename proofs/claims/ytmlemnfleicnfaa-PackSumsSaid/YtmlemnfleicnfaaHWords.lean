/- Small lemmas of this session for the contracts that are proved by hand. -/
import Derived.Test.YtmlemnfleicnfaaPAx0
import Derived.Lib.SlBytesConst
import Derived.WalkSpells
namespace Go.Proofs.Ytmlemnfleicnfaa.PA
open Go.RowKit Go.Proofs.YtmlemnfleicnfaaW.PrintWords Go.Proofs.YtmlemnfleicnfaaW.PrintLast Go.Proofs.YtmlemnfleicnfaaW.PrintMore

/-- A literal's row, just laid (with the run-time's mark or without): it reads as its list. -/
theorem C_lit (k : IntKind) (w : World) (e : TypeId) (fr : Nat × Nat) (cs : Array Value) (xs : List Int) (h : cs.toList = xs.map (Value.int k)) (hm : xs.length ≤ 9223372036854775807) :
    Kd.C (Kd.int k) (w.alloc (.cells cs e fr)) (some ⟨w.heap.size, 0, none⟩) xs.length xs := by
  refine ⟨rfl, hm, fun _ => ⟨_, rfl, fun j p hj => ⟨[.int k p], rfl, rfl, fun i u hu => ?_⟩⟩⟩
  have hi : i = 0 := by
    rcases i with _ | i
    · rfl
    · simp at hu
  subst hi
  have hu' : Value.int k p = u := by simpa using hu
  subst hu'
  show (w.alloc (.cells cs e fr)).cell? ((⟨w.heap.size, 0, none⟩ : Addr).add (j * 1 + 0)) = _
  rw [add_plain]
  have hc : cs[j * 1 + 0]? = some (Value.int k p) := by
    rw [← Array.getElem?_toList, h]
    simp [hj]
  have hh : (w.alloc (.cells cs e fr)).heap[w.heap.size]? = some (.cells cs e fr) := by
    show (w.heap.push (.cells cs e fr))[w.heap.size]? = _
    simp
  simp only [World.cell?, hh]
  simpa using hc
end Go.Proofs.Ytmlemnfleicnfaa.PA
