/- The buffer's calls in the walker's form. -/
import Derived.Test.YtbnoedefkbnpjaaHBuf
import Derived.Test.YtbnoedefkbnpjaaHGw
import Derived.Test.YtbnoedefkbnpjaaHSame
namespace Go.Proofs.Ytbnoedefkbnpjaa.PA
open Go.RowKit Go.Proofs.YtbnoedefkbnpjaaW.PrintWords Go.Proofs.YtbnoedefkbnpjaaW.PrintLast Go.Proofs.YtbnoedefkbnpjaaW.PrintMore
set_option linter.unusedVariables false
set_option linter.unusedSimpArgs false

theorem buf_new0 (base : Nat) (n : Int) (w : World) (hb : base ≤ w.heap.size) : Calls Try.prog 11 #[.int .i64 n] w fun e w' =>
    ∃ g S, e = .returned (.pointer (some ⟨g, 0, none⟩)) ∧ Out w w' (fun _ => False) [Chunk.buf base g S (mn (mx n 1) 2000) [] 0] := by
  refine (buf_new n w).mono ?_
  rintro e w' ⟨rfl, h⟩
  refine ⟨_, fun k => k = w.heap.size, rfl, Out.one h.bare ?_ (fun k hk => h.inside _ (List.mem_cons_self ..) k hk)⟩
  obtain ⟨h1, v, h2, h3⟩ := h.holds _ (List.mem_cons_self ..)
  exact ⟨h1, v, h2, Kd.Q_lower h3 hb⟩
theorem buf_take0 (base g : Nat) (S : Nat → Prop) (most : Int) (xs : List Int) (gone n : Int) (w : World) (h : IsBuf base g S most xs gone w) (hl : xs.length < 140737488355328) (hlt : ∀ k, S k → k < w.heap.size) :
    Calls Try.prog 16 #[.pointer (some ⟨g, 0, none⟩), .int .i64 n] w fun e w' =>
      ∃ A c S', e = .returned (.slice A (xs.take (mn (mx n 0) xs.length).toNat).length c) ∧ Out w w' S [Chunk.buf base g S most (xs.drop (mn (mx n 0) xs.length).toNat) gone, Chunk.row (Kd.int .u8) 5 w.heap.size S' (.slice A (xs.take (mn (mx n 0) xs.length).toNat).length c) (xs.take (mn (mx n 0) xs.length).toNat)] := by
  refine (buf_take_at base g S most xs gone n (mn (mx n 0) xs.length) w h hl hlt ?_).mono ?_
  · unfold mn mx
    split <;> split <;> omega
  · rintro e w' ⟨v, S', rfl, ho⟩
    obtain ⟨A, c, rfl⟩ := Kd.R_slice (show (Kd.int .u8).R 5 w' w.heap.size S' v _ from ho.holds _ (List.mem_cons_of_mem _ (List.mem_singleton.2 rfl)))
    exact ⟨A, c, S', rfl, ho⟩
theorem buf_bytes0 (base g : Nat) (S : Nat → Prop) (most : Int) (xs : List Int) (gone : Int) (w : World) (h : IsBuf base g S most xs gone w) (hl : xs.length < 140737488355328) :
    Calls Try.prog 19 #[.pointer (some ⟨g, 0, none⟩)] w fun e w' =>
      ∃ A c S', e = .returned (.slice A xs.length c) ∧ Out w w' (fun _ => False) [Chunk.row (Kd.int .u8) 5 w.heap.size S' (.slice A xs.length c) xs] := by
  refine (buf_bytes base g S most xs gone w h hl).mono ?_
  rintro e w' ⟨v, S', rfl, ho⟩
  obtain ⟨A, c, rfl⟩ := Kd.R_slice (show (Kd.int .u8).R 5 w' w.heap.size S' v _ from ho.holds _ (List.mem_singleton.2 rfl))
  exact ⟨A, c, S', rfl, ho⟩
theorem buf_full0 (base g : Nat) (S : Nat → Prop) (most : Int) (xs : List Int) (gone : Int) (w : World) (h : IsBuf base g S most xs gone w) :
    Calls Try.prog 20 #[.pointer (some ⟨g, 0, none⟩)] w fun e w' => e = .returned (.bool (decide ((xs.length : Int) = most))) ∧ Below w.heap.size w w' :=
  buf_full base g S most xs gone w h
end Go.Proofs.Ytbnoedefkbnpjaa.PA
