/- strings.TrimLeft at a cutset of one byte, by the shelf's contract. -/
import Derived.Test.YtoinmpjjmkpamaaDoorPAx0
import Derived.Test.YtoinmpjjmkpamaaDoorShelf
namespace Go.Proofs.YtoinmpjjmkpamaaDoor.PA
open Go.RowKit Go.Proofs.YtoinmpjjmkpamaaDoorW.PrintWords Go.Proofs.YtoinmpjjmkpamaaDoorW.PrintLast Go.Proofs.YtoinmpjjmkpamaaDoorW.PrintMore
def strings_TrimLeft.f (a0 a1 : ByteArray) : Option ByteArray := match a1.data.toList with
  | [c] => if c.toNat < 128 then some ⟨(Lib.trimLeftB a0.data.toList c).toArray⟩ else none
  | _ => none
theorem strings_TrimLeft.calls (a0 a1 : ByteArray) (r : ByteArray) (w : World) (h : strings_TrimLeft.f a0 a1 = some r) :
    Calls Tryd.prog 17 #[.string a0, .string a1] w fun e w' => e = .returned (.string r) ∧ Drawn0 w w' := by
  unfold strings_TrimLeft.f at h
  split at h
  · rename_i c hc
    split at h
    · rename_i hlt
      obtain rfl := Option.some.inj h
      have e : a1 = ⟨#[c]⟩ := ByteArray.ext (Array.ext' (by rw [hc]))
      subst e
      refine (Tryd.strings_TrimLeft_one a0 c hlt w).mono ?_
      rintro e w' ⟨rfl, rfl⟩
      exact ⟨rfl, Drawn0.refl _⟩
    · exact absurd h (by simp)
  · exact absurd h (by simp)
end Go.Proofs.YtoinmpjjmkpamaaDoor.PA
