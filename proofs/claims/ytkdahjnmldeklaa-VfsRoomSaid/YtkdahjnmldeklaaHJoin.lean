/- Ways that come together again. -/
import Derived.Test.YtkdahjnmldeklaaHObj
namespace Go.Proofs.Ytkdahjnmldeklaa.PA
open Go.RowKit Go.Proofs.YtkdahjnmldeklaaW.PrintWords Go.Proofs.YtkdahjnmldeklaaW.PrintLast Go.Proofs.YtkdahjnmldeklaaW.PrintMore
set_option linter.unusedVariables false
set_option linter.unusedSimpArgs false
variable {P : Program} {ops : Array Oper} {Q : Exit → Act → World → Prop} {a : Act} {w : World}
theorem gw_joinS {x y : Code} (V : Act → World → Prop) (h1 : x.wp P (Exit.then V Q) a w) (h2 : ∀ a w, V a w → y.wp P Q a w) : (Code.seq x y).wp P Q a w :=
  gw_seq fun K hK => Code.wp_mono (fun e a w h => by cases e <;> first | exact hK _ _ (h2 _ _ h) | exact h) h1
theorem wpList_app {V : Act → World → Prop} {l2 : List Oper} (h2 : ∀ a w, V a w → wpList P ops Q l2 a w) : ∀ (l1 : List Oper) (a : Act) (w : World), wpList P ops (Patch V Q) l1 a w → wpList P ops Q (l1 ++ l2) a w
  | [], a, w, h => h2 a w h
  | o :: l1, a, w, h => by
    have ih := wpList_app h2 l1
    rw [List.cons_append]
    unfold wpList at h ⊢
    split
    · rename_i hw
      rw [if_pos hw] at h
      rcases h with h | h
      · refine .inl ?_
        unfold Oper.wp at *
        generalize (execOp a.eval o).run P w = r at *
        cases r with
        | ok n w' =>
          cases n <;> simp only [Oper.upon] at h ⊢ <;>
            first
              | exact ih _ _ h
              | exact Calls.mono h (fun e w'' he => by cases e <;> first | exact ih _ _ he | exact he)
              | exact Rows.mono h (fun _ _ he => ih _ _ he)
        | halt x w' => cases x <;> simp only [Oper.upon] at h ⊢ <;> exact h
      · exact .inr h
    · rename_i hw
      rw [if_neg hw] at h
      exact ih _ _ h
theorem gw_joinL {l : List Oper} (n : Nat) (V : Act → World → Prop) (h1 : wpList P ops (Patch V Q) (l.take n) a w) (h2 : ∀ a w, V a w → wpList P ops Q (l.drop n) a w) : wpList P ops Q l a w := by
  have := wpList_app h2 (l.take n) a w h1
  rwa [List.take_append_drop] at this
end Go.Proofs.Ytkdahjnmldeklaa.PA
