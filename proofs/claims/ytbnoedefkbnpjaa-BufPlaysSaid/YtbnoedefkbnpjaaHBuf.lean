/- A buffer: what each of its calls answers and leaves. -/
import Derived.Test.YtbnoedefkbnpjaaHClone
import Derived.Test.YtbnoedefkbnpjaaHOwn
import Derived.Test.YtbnoedefkbnpjaaHQrows
import Derived.Outline
namespace Go.Proofs.Ytbnoedefkbnpjaa.PA
open Go.RowKit Go.Proofs.YtbnoedefkbnpjaaW.PrintWords Go.Proofs.YtbnoedefkbnpjaaW.PrintLast Go.Proofs.YtbnoedefkbnpjaaW.PrintMore
set_option linter.unusedVariables false
set_option linter.unusedSimpArgs false
attribute [local go_sem] max2_int min2_int max_two min_two

def IsBuf (base g : Nat) (S : Nat → Prop) (most : Int) (xs : List Int) (gone : Int) (w : World) : Prop :=
  S g ∧ ∃ v, w.heap[g]? = some (.cells #[.int .i64 most, v, .int .i64 gone] 79 (0, 0)) ∧ (Kd.int .u8).Q 5 w base (fun k => S k ∧ k ≠ g) v xs
def Chunk.buf (base g : Nat) (S : Nat → Prop) (most : Int) (xs : List Int) (gone : Int) : Chunk :=
  ⟨S, IsBuf base g S most xs gone, fun ⟨hg, v, h, hq⟩ hm => ⟨hg, v, (hm g hg).trans h, Kd.Q_move hq fun k hk => hm k hk.1⟩⟩
theorem buf_new (n : Int) (w : World) : Calls Try.prog 11 #[.int .i64 n] w fun e w' =>
    e = .returned (.pointer (some ⟨w.heap.size, 0, none⟩)) ∧ Out w w' (fun _ => False) [Chunk.buf w.heap.size w.heap.size (fun k => k = w.heap.size) (mn (mx n 1) 2000) [] 0] := by
  have key : ∀ m : Int, m = mn (mx n 1) 2000 → Out w (w.alloc (.cells #[.int .i64 m, .slice none 0 0, .int .i64 0] 79 (0, 0))) (fun _ => False) [Chunk.buf w.heap.size w.heap.size (fun k => k = w.heap.size) (mn (mx n 1) 2000) [] 0] := by
    intro m hm
    have hb := below_alloc (Below.refl w.heap.size w) (.cells #[.int .i64 m, .slice none 0 0, .int .i64 0] 79 (0, 0))
    refine ⟨hb.os, hb.tape, hb.output, hb.size, fun k hk _ => hb.block k hk, ?_, ?_, List.pairwise_singleton _ _⟩
    · intro c hc
      rw [List.mem_singleton.1 hc]
      exact ⟨rfl, _, by rw [← hm]; exact heap_alloc_new w _, Kd.Q_nil _ _ _ _ _⟩
    · intro c hc k hk
      rw [List.mem_singleton.1 hc] at hk
      have hk' : k = w.heap.size := hk
      subst hk'
      exact ⟨.inr (Nat.le_refl _), by simp⟩
  have K := Aside0.mk key
  clear key
  go_enter Try.func11, Try.ntmps11
  go_wp2
  all_goals go_ret
  all_goals refine ⟨rfl, K.out _ ?_⟩
  all_goals unfold mn mx
  all_goals (repeat' split) <;> omega
theorem buf_full (base g : Nat) (S : Nat → Prop) (most : Int) (xs : List Int) (gone : Int) (w : World) (h : IsBuf base g S most xs gone w) :
    Calls Try.prog 20 #[.pointer (some ⟨g, 0, none⟩)] w fun e w' => e = .returned (.bool ((xs.length : Int) == most)) ∧ Below w.heap.size w w' := by
  obtain ⟨hg, v, hb, hq⟩ := h
  obtain ⟨A, c, rfl, _⟩ := Kd.Q_slice hq
  have h0 := blk_cell hb 0
  have h1 := blk_cell hb 1
  clear hq hg hb
  have HB := Aside0.mk (Below.refl w.heap.size w)
  go_enter Try.func20, Try.ntmps20
  go_wp2
  go_quiet (fail)
  go_wp2
  go_ret
  exact ⟨rfl, pw_below_drewN HB.out _⟩
theorem buf_gone (base g : Nat) (S : Nat → Prop) (most : Int) (xs : List Int) (gone : Int) (w : World) (h : IsBuf base g S most xs gone w) :
    Calls Try.prog 21 #[.pointer (some ⟨g, 0, none⟩)] w fun e w' => e = .returned (.int .i64 gone) ∧ Below w.heap.size w w' := by
  obtain ⟨hg, v, hb, hq⟩ := h
  have h2 := blk_cell hb 2
  clear hq hg hb
  have HB := Aside0.mk (Below.refl w.heap.size w)
  go_enter Try.func21, Try.ntmps21
  go_wp2
  go_ret
  exact ⟨rfl, HB.out⟩
theorem buf_bytes (base g : Nat) (S : Nat → Prop) (most : Int) (xs : List Int) (gone : Int) (w : World) (h : IsBuf base g S most xs gone w) (hl : xs.length < 140737488355328) :
    Calls Try.prog 19 #[.pointer (some ⟨g, 0, none⟩)] w fun e w' =>
      ∃ v S', e = .returned v ∧ Out w w' (fun _ => False) [Chunk.row (Kd.int .u8) 5 w.heap.size S' v xs] := by
  obtain ⟨hg, v, hb, hq⟩ := h
  obtain ⟨A, c, rfl, hc, hC⟩ := Kd.Q_reads hq
  have h1 := blk_cell hb 1
  have HC := Aside0.mk hC
  have HF := Aside0.mk (show slices_Clone_byte_byte.f xs = some xs by unfold slices_Clone_byte_byte.f; rw [if_pos hl])
  clear hq hg hb hC hl
  go_enter Try.func19, Try.ntmps19
  go_wp2_with (first | (go_at_call 36; ((with_reducible refine (slices_Clone_byte_byte.calls _ _ xs xs _ HC.out hc HF.out).mono ?_); rintro e w1 ⟨v1, rfl, hr, hb1⟩; have HR := Aside0.mk hr; have HB := Aside0.mk hb1; clear hr hb1)))
  go_ret
  exact ⟨_, _, rfl, Out.row HR.out HB.out⟩
theorem u8Info : ∃ i : TypeInfo, Try.prog.info? 5 = some i ∧ i.size = 1 := by
  obtain ⟨i, hi, hz⟩ := Option.map_eq_some_iff.1 cloneInfo
  simp only [Prod.mk.injEq] at hz
  exact ⟨i, hi, hz.2.1⟩
/-- A cut at the front and one at the back of a row of one's own. -/
theorem q_cut_to {w : World} {base : Nat} {ok : Nat → Prop} {A : Option Addr} {c : Nat} {xs : List Int} (h : (Kd.int .u8).Q 5 w base ok (.slice A xs.length c) xs) (hc : xs.length ≤ c) (j : Int) (h0 : 0 ≤ j) (hj : j ≤ xs.length) :
    ∃ v, (∀ W : World, (Instr.slice 26 (.slice A xs.length c) none (some (.int .i64 j)) none).run Try.prog W = .ok v W) ∧ (Kd.int .u8).Q 5 w base ok v (xs.take j.toNat) := by
  obtain ⟨i, hi, hz⟩ := u8Info
  exact ⟨_, cut_to 26 5 .i64 Try.underlying26 hi A xs.length c j h0 hj hc, Kd.Q_take h (by omega)⟩
theorem q_cut_from {w : World} {base : Nat} {ok : Nat → Prop} {A : Option Addr} {c : Nat} {xs : List Int} (h : (Kd.int .u8).Q 5 w base ok (.slice A xs.length c) xs) (j : Int) (h0 : 0 ≤ j) (hj : j ≤ xs.length) :
    ∃ v, (∀ W : World, (Instr.slice 26 (.slice A xs.length c) (some (.int .i64 j)) none none).run Try.prog W = .ok v W) ∧ (Kd.int .u8).Q 5 w base ok v (xs.drop j.toNat) := by
  obtain ⟨i, hi, hz⟩ := u8Info
  exact ⟨_, cut_from 26 5 .i64 Try.underlying26 hi 1 hz A xs.length c j h0 hj, Kd.Q_drop h (by omega)⟩
/-- What is behind a store into the buffer's field. -/
theorem buf_set {base g : Nat} {S S' : Nat → Prop} {most gone : Int} {v v1 : Value} {xs1 : List Int} {w1 : World} (hg : S g) (hS : ∀ k, S k → S' k) (hb : w1.heap[g]? = some (.cells #[.int .i64 most, v, .int .i64 gone] 79 (0, 0)))
    (hq : (Kd.int .u8).Q 5 w1 base (fun k => S' k ∧ k ≠ g) v1 xs1) : IsBuf base g S' most xs1 gone (w1.setCell ⟨g, 1, none⟩ v1) :=
  ⟨hS g hg, v1, blk_set hb 1 v1, Kd.Q_far hq (fun _ hk => hk.2) v1⟩
theorem buf_take_at (base g : Nat) (S : Nat → Prop) (most : Int) (xs : List Int) (gone n j : Int) (w : World) (h : IsBuf base g S most xs gone w) (hl : xs.length < 140737488355328) (hlt : ∀ k, S k → k < w.heap.size)
    (hj : (n < 0 ∧ j = 0) ∨ (0 ≤ n ∧ n ≤ xs.length ∧ j = n) ∨ (xs.length < n ∧ j = xs.length)) :
    Calls Try.prog 16 #[.pointer (some ⟨g, 0, none⟩), .int .i64 n] w fun e w' =>
      ∃ v S', e = .returned v ∧ Out w w' S [Chunk.buf base g S most (xs.drop j.toNat) gone, Chunk.row (Kd.int .u8) 5 w.heap.size S' v (xs.take j.toNat)] := by
  have hj0 : 0 ≤ j ∧ j ≤ xs.length := by omega
  obtain ⟨hg, v, hb, hq⟩ := h
  obtain ⟨A, c, rfl, hc⟩ := Kd.Q_slice hq
  have h1 := blk_cell hb 1
  have hfz := blk_frozen hb 1
  obtain ⟨v2, hcut2, hq2⟩ := q_cut_to hq hc j hj0.1 hj0.2
  obtain ⟨v3, hcut3, hq3⟩ := q_cut_from hq j hj0.1 hj0.2
  obtain ⟨ys, hys⟩ : ∃ ys, ys = xs.take j.toNat := ⟨_, rfl⟩
  have hyl : ys.length < 140737488355328 := by rw [hys, List.length_take]; omega
  obtain ⟨zs, hzs⟩ : ∃ zs, zs = xs.drop j.toNat := ⟨_, rfl⟩
  rw [← hzs] at hq3 ⊢
  rw [← hys] at hq2 ⊢
  clear hys hzs
  obtain ⟨A3, c3, rfl, hc3⟩ := Kd.Q_slice hq3
  obtain ⟨A2, c2, rfl, hc2, hC2⟩ := Kd.Q_reads hq2
  have HC := Aside0.mk hC2
  have HQ3 := Aside0.mk hq3
  have HG := Aside0.mk hg
  have HBk := Aside0.mk hb
  have HLT := Aside0.mk (hlt g hg)
  have HF := Aside0.mk (show slices_Clone_byte_byte.f ys = some ys by unfold slices_Clone_byte_byte.f; rw [if_pos hyl])
  have fin : ∀ (w1 : World) (v1 : Value), Kd.R (Kd.int .u8) 5 w1 w.heap.size (fun _ => True) v1 ys → Below w.heap.size w w1 →
      Out w (w1.setCell ⟨g, 1, none⟩ (.slice A3 zs.length c3)) S [Chunk.buf base g S most zs gone, Chunk.row (Kd.int .u8) 5 w.heap.size (fun k => w.heap.size ≤ k ∧ k < w1.heap.size) v1 ys] := by
    intro w1 v1 hr hb1
    have hsz : (w1.setCell ⟨g, 1, none⟩ (.slice A3 zs.length c3)).heap.size = w1.heap.size := by simp [World.setCell]
    refine ⟨hb1.os, hb1.tape, hb1.output, by rw [hsz]; exact hb1.size, fun k hk hn => ?_, ?_, ?_, ?_⟩
    · rw [Below.heap_setCell w1 ⟨g, 1, none⟩ (.slice A3 zs.length c3) k (fun e => hn (by rw [e]; exact hg))]
      exact hb1.block k hk
    · intro d hd
      rcases List.mem_cons.1 hd with rfl | hd
      · exact buf_set hg (fun _ h => h) (blk_below hb hb1) (Kd.Q_below hq3 hb1)
      · rw [List.mem_singleton.1 hd]
        exact Kd.R_far (Kd.R_mono (Kd.R_bound hr) (fun k hk => ⟨hk.2.1, hk.2.2.1⟩)) (p := ⟨g, 1, none⟩) (fun k hk e => by have e' : k = g := e; have := hlt g hg; have := hk.1; omega) _
    · intro d hd k hk
      rw [hsz]
      rcases List.mem_cons.1 hd with rfl | hd
      · exact ⟨.inl hk, Nat.lt_of_lt_of_le (hlt k hk) hb1.size⟩
      · rw [List.mem_singleton.1 hd] at hk
        exact ⟨.inr hk.1, hk.2⟩
    · refine List.pairwise_cons.2 ⟨fun d hd k hk hk' => ?_, List.pairwise_singleton _ _⟩
      rw [List.mem_singleton.1 hd] at hk'
      have := hlt k hk
      have := hk'.1
      omega
  have FIN := Aside0.mk fin
  clear hq hg hb hl hyl hq2 hq3 hC2 hlt fin
  rcases hj with ⟨hn, rfl⟩ | ⟨hn1, hn2, rfl⟩ | ⟨hn, rfl⟩
  all_goals
    go_enter Try.func16, Try.ntmps16
    go_wp2_with (first | (go_at_call 36; ((with_reducible refine (slices_Clone_byte_byte.calls _ _ _ _ _ HC.out hc2 HF.out).mono ?_); rintro e w1 ⟨v1, rfl, hr, hb1⟩; have HR := Aside0.mk hr; have HB := Aside0.mk hb1; have h1' := (blk_cell (blk_below HBk.out hb1) 1); have hfz' := (blk_frozen (blk_below HBk.out hb1) 1); clear hr hb1)))
    go_ret
    exact ⟨_, _, rfl, FIN.out _ _ HR.out HB.out⟩
/-- A cut of a row that is read. -/
theorem c_cut_from {w : World} {A : Option Addr} {c : Nat} {xs : List Int} (h : (Kd.int .u8).C w A xs.length xs) (hc : xs.length ≤ c) (j : Int) (h0 : 0 ≤ j) (hj : j ≤ xs.length) :
    ∃ A' c', (∀ W : World, (Instr.slice 26 (.slice A xs.length c) (some (.int .i64 j)) none none).run Try.prog W = .ok (.slice A' (xs.drop j.toNat).length c') W) ∧ (xs.drop j.toNat).length ≤ c' ∧ (Kd.int .u8).C w A' (xs.drop j.toNat).length (xs.drop j.toNat) ∧ ∀ ad, A' = some ad → ∃ ad0, A = some ad0 ∧ ad.block = ad0.block := by
  obtain ⟨i, hi, hz⟩ := u8Info
  have hl : (xs.drop j.toNat).length = xs.length - j.toNat := List.length_drop
  refine ⟨_, c - j.toNat, fun W => ?_, by omega, Kd.C_drop h (m := j.toNat) (by omega) hc, fun ad e => ?_⟩
  · rw [hl]
    exact cut_from 26 5 .i64 Try.underlying26 hi 1 hz A xs.length c j h0 hj W
  · by_cases hcj : c = j.toNat
    · rw [if_pos hcj] at e
      exact ⟨ad, e, rfl⟩
    · rw [if_neg hcj] at e
      cases A with
      | none => cases e
      | some ad0 =>
        refine ⟨ad0, rfl, ?_⟩
        rw [← Option.some.inj e]
        exact add_block _ _
/-- How many bytes go, and what is there behind them. -/
def ovN (most : Int) (n l : Nat) : Nat := n + l - most.toNat
def putL (most : Int) (xs l : List Int) : List Int := (xs ++ l).drop (ovN most xs.length l.length)
theorem buf_fin {base g : Nat} {S : Nat → Prop} {most gone : Int} {w W : World} {vo v1 : Value} {ys : List Int} (hg : S g) (hlt : ∀ k, S k → k < w.heap.size) (hO : Out w W S [])
    (hbk : W.heap[g]? = some (.cells #[.int .i64 most, vo, .int .i64 gone] 79 (0, 0))) (hQ : (Kd.int .u8).Q 5 W base (fun k => (S k ∨ w.heap.size ≤ k) ∧ k ≠ g) v1 ys) :
    ∃ S', Out w (W.setCell ⟨g, 1, none⟩ v1) S [Chunk.buf base g S' most ys gone] := by
  have hsz : (W.setCell ⟨g, 1, none⟩ v1).heap.size = W.heap.size := by simp [World.setCell]
  have hQ' : (Kd.int .u8).Q 5 W base (fun k => (S k ∨ w.heap.size ≤ k ∧ k < W.heap.size) ∧ k ≠ g) v1 ys :=
    Kd.Q_mono (Kd.Q_bound hQ) (fun k hk => ⟨hk.1.1.elim .inl (fun h => .inr ⟨h, hk.2.2.1⟩), hk.1.2⟩)
  refine ⟨fun k => S k ∨ w.heap.size ≤ k ∧ k < W.heap.size, (hO.setCell (p := ⟨g, 1, none⟩) (.inl hg) v1).one ?_ ?_⟩
  · exact buf_set (S := S) hg (fun _ h => .inl h) hbk hQ'
  · intro k hk
    rw [hsz]
    rcases hk with hk | hk
    · exact ⟨.inl hk, Nat.lt_of_lt_of_le (hlt k hk) hO.size⟩
    · exact ⟨.inr hk.1, hk.2⟩
theorem buf_put_A (base g : Nat) (S : Nat → Prop) (most : Int) (xs : List Int) (gone : Int) (A : Option Addr) (c : Nat) (l : List Int) (w : World) (h : IsBuf base g S most xs gone w) (hlt : ∀ k, S k → k < w.heap.size) (hbs : base ≤ w.heap.size)
    (hC : (Kd.int .u8).C w A l.length l) (hc : l.length ≤ c) (hA : 0 < l.length → ∀ ad, A = some ad → ¬ S ad.block) (hm : 1 ≤ most ∧ most ≤ 2000) (hx : (xs.length : Int) ≤ most) (hg0 : 0 ≤ gone ∧ gone ≤ 1000000000000000000) (hl : l.length < 140737488350000) (hp : most < (xs.length : Int) + l.length) (hge : most ≤ l.length) :
    Calls Try.prog 14 #[.pointer (some ⟨g, 0, none⟩), .slice A l.length c] w fun e w' =>
      ∃ S', e = .returned (.int .i64 ((xs.length : Int) + l.length - most)) ∧ Out w w' S [Chunk.buf base g S' most (putL most xs l) (gone + ((xs.length : Int) + l.length - most))] := by
  obtain ⟨hg, v, hb, hq⟩ := h
  obtain ⟨A0, c0, rfl, hc0⟩ := Kd.Q_slice hq
  have h0 := blk_cell hb 0
  have h1 := blk_cell hb 1
  have h2 := blk_cell hb 2
  have hf1 := blk_frozen hb 1
  have hf2 := blk_frozen hb 2
  obtain ⟨n, hn⟩ : ∃ n, n = xs.length := ⟨_, rfl⟩
  obtain ⟨t, ht⟩ : ∃ t : Int, t = (xs.length : Int) + l.length - most := ⟨_, rfl⟩
  have hgn := hlt g hg
  obtain ⟨A2, c2, hcut, hc2, hC2, hA2⟩ := c_cut_from hC hc (t - n) (by omega) (by omega)
  obtain ⟨ys, hys⟩ : ∃ ys, ys = l.drop (t - n).toNat := ⟨_, rfl⟩
  have hyl : ys.length < 140737488355328 := by rw [hys, List.length_drop]; omega
  have hput : putL most xs l = ys := by
    unfold putL ovN
    rw [hys, List.drop_append, List.drop_of_length_le (by omega), List.nil_append]
    congr 1
    omega
  rw [← hys] at hcut hc2 hC2
  rw [hput, ← ht]
  have hgt : (n : Int) ≤ t := by omega
  have htp : 0 < t := by omega
  have htu : t ≤ 140737488352000 := by omega
  have HG := Aside0.mk hg
  have HGN := Aside0.mk hgn
  have HBk := Aside0.mk hb
  have HLT := Aside0.mk hlt
  have HQ := Aside0.mk hq
  have W1 := Aside0.mk (show IntKind.i64.wrap ((n : Int) + (l.length : Int)) = (n : Int) + (l.length : Int) from IntWalk.i64_in _ (by omega))
  have W2 := Aside0.mk (show IntKind.i64.wrap ((n : Int) + (l.length : Int) - most) = t from by rw [hn, ← ht]; exact IntWalk.i64_in _ (by omega))
  have HC2 := Aside0.mk hC2
  have HNE := Aside0.mk (show 0 < ys.length → ∀ ad, A2 = some ad → ad.block ≠ g from fun hn_ ad e e2 => by
    obtain ⟨ad0, h3, h4⟩ := hA2 ad e
    exact hA (by rw [hys, List.length_drop] at hn_; omega) ad0 h3 (by rw [← h4, e2]; exact hg))
  have HF := Aside0.mk hyl
  have HBS := Aside0.mk hbs
  clear hq hC hA hys hyl hput hC2 hA2 hlt hc hc0 hg hb hgn hx hm hge hp
  rw [← hn] at h0 h1 h2
  clear hn ht
  have k1 := W1.out
  have k2 := W2.out
  go_enter Try.func14, Try.ntmps14
  go_wp2
  go_quiet (fail)
  clear k1 k2
  go_wp2_with (first | (go_at_call 36; ((with_reducible refine (clone_bytes _ _ ys _ ?hC hc2 HF.out).mono ?_); (case hC => exact C_int_at HC2.out (fun hn_ ad e _ => Below.heap_setCell _ _ _ _ (HNE.out hn_ ad e))); rintro e w3 ⟨A4, c4, rfl, hr, hb1⟩; have HR := Aside0.mk hr; have HB := Aside0.mk hb1; have HK3 := Aside0.mk (blk_below (blk_set (w := World.drewN w _) HBk.out 2 _) hb1); have h1' := (blk_cell HK3.out 1); have hf1' := (blk_frozen HK3.out 1); clear hr hb1)))
  go_ret
  have hO := (((Out.refl w S).drewN _).setCell (p := ⟨g, 2, none⟩) (.inl HG.out) _).below_ HB.out
  obtain ⟨S', hS'⟩ := buf_fin HG.out HLT.out hO (by simpa using HK3.out) (Kd.Q_lower (Kd.Q_mono (Kd.Q_of_R (Kd.R_bound HR.out)) (fun k hk => ⟨.inr (by simpa using hk.2.1), by have := HGN.out; have h3 : w.heap.size ≤ k := (by simpa using hk.2.1); omega⟩)) (by simpa using HBS.out))
  exact ⟨S', rfl, hS'⟩
theorem buf_put_A0 (base g : Nat) (S : Nat → Prop) (most : Int) (xs : List Int) (gone : Int) (A : Option Addr) (c : Nat) (l : List Int) (w : World) (h : IsBuf base g S most xs gone w) (hlt : ∀ k, S k → k < w.heap.size) (hbs : base ≤ w.heap.size)
    (hC : (Kd.int .u8).C w A l.length l) (hc : l.length ≤ c) (hA : 0 < l.length → ∀ ad, A = some ad → ¬ S ad.block) (hm : 1 ≤ most ∧ most ≤ 2000) (hx : (xs.length : Int) ≤ most) (hg0 : 0 ≤ gone ∧ gone ≤ 1000000000000000000) (hl : l.length < 140737488350000) (hp : (xs.length : Int) + l.length ≤ most) (hn0 : xs.length = 0) :
    Calls Try.prog 14 #[.pointer (some ⟨g, 0, none⟩), .slice A l.length c] w fun e w' =>
      ∃ S', e = .returned (.int .i64 0) ∧ Out w w' S [Chunk.buf base g S' most (putL most xs l) gone] := by
  obtain rfl : xs = [] := List.eq_nil_of_length_eq_zero hn0
  obtain ⟨hg, v, hb, hq⟩ := h
  obtain ⟨A0, c0, rfl, hc0⟩ := Kd.Q_slice hq
  simp only [List.length_nil] at hb hc0 hp hx
  have h0 := blk_cell hb 0
  have h1 := blk_cell hb 1
  have h2 := blk_cell hb 2
  have hf1 := blk_frozen hb 1
  have hf2 := blk_frozen hb 2
  obtain ⟨t, ht⟩ : ∃ t : Int, t = (l.length : Int) - most := ⟨_, rfl⟩
  have hgn := hlt g hg
  have hput : putL most [] l = l := by
    unfold putL ovN
    rw [List.nil_append, show ([] : List Int).length + l.length - most.toNat = 0 by simp; omega]
    rfl
  rw [hput]
  have htp : t ≤ 0 := by omega
  have HG := Aside0.mk hg
  have HGN := Aside0.mk hgn
  have HBk := Aside0.mk hb
  have HLT := Aside0.mk hlt
  have HQ := Aside0.mk hq
  have W2 := Aside0.mk (show IntKind.i64.wrap ((l.length : Int) - most) = t from by rw [← ht]; exact IntWalk.i64_in _ (by omega))
  have HC2 := Aside0.mk hC
  have HNE := Aside0.mk (show 0 < l.length → ∀ ad, A = some ad → ad.block ≠ g from fun hn_ ad e e2 => hA hn_ ad e (by rw [e2]; exact hg))
  have HCC := Aside0.mk hc
  have HF := Aside0.mk (show l.length < 140737488355328 by omega)
  have HBS := Aside0.mk hbs
  clear hq hC hA hput hlt hc hc0 hg hb hgn hx hm hp hn0
  clear ht
  rcases Int.lt_or_eq_of_le htp with hneg | rfl
  all_goals have k2 := W2.out
  all_goals go_enter Try.func14, Try.ntmps14
  all_goals go_wp2
  all_goals go_quiet (fail)
  all_goals clear k2
  all_goals go_wp2_with (first | (go_at_call 36; ((with_reducible refine (clone_bytes _ _ l _ ?hC ?hL HF.out).mono ?_); (case hL => have := HCC.out; first | assumption | omega); (case hC => exact C_int_at HC2.out (fun hn_ ad e _ => Below.heap_setCell _ _ _ _ (HNE.out hn_ ad e))); rintro e w3 ⟨A4, c4, rfl, hr, hb1⟩; have HR := Aside0.mk hr; have HB := Aside0.mk hb1; have HK3 := Aside0.mk (blk_below (blk_set (w := World.drewN w _) HBk.out 2 _) hb1); have h1' := (blk_cell HK3.out 1); have hf1' := (blk_frozen HK3.out 1); clear hr hb1)))
  all_goals go_ret
  all_goals have hO := (((Out.refl w S).drewN _).setCell (p := ⟨g, 2, none⟩) (.inl HG.out) _).below_ HB.out
  all_goals obtain ⟨S', hS'⟩ := buf_fin HG.out HLT.out hO (by simpa using HK3.out) (Kd.Q_lower (Kd.Q_mono (Kd.Q_of_R (Kd.R_bound HR.out)) (fun k hk => ⟨.inr (by simpa using hk.2.1), by have := HGN.out; have h3 : w.heap.size ≤ k := (by simpa using hk.2.1); omega⟩)) (by simpa using HBS.out))
  all_goals exact ⟨S', rfl, hS'⟩
theorem buf_put_B (base g : Nat) (S : Nat → Prop) (most : Int) (xs : List Int) (gone : Int) (A : Option Addr) (c : Nat) (l : List Int) (w : World) (h : IsBuf base g S most xs gone w) (hlt : ∀ k, S k → k < w.heap.size) (hbs : base ≤ w.heap.size)
    (hC : (Kd.int .u8).C w A l.length l) (hc : l.length ≤ c) (hA : 0 < l.length → ∀ ad, A = some ad → ¬ S ad.block) (hm : 1 ≤ most ∧ most ≤ 2000) (hx : (xs.length : Int) ≤ most) (hg0 : 0 ≤ gone ∧ gone ≤ 1000000000000000000) (hl : l.length < 140737488350000) (hp : most < (xs.length : Int) + l.length) (hge : (l.length : Int) < most) :
    Calls Try.prog 14 #[.pointer (some ⟨g, 0, none⟩), .slice A l.length c] w fun e w' =>
      ∃ S', e = .returned (.int .i64 ((xs.length : Int) + l.length - most)) ∧ Out w w' S [Chunk.buf base g S' most (putL most xs l) (gone + ((xs.length : Int) + l.length - most))] := by
  obtain ⟨hg, v, hb, hq⟩ := h
  obtain ⟨A0, c0, rfl, hc0⟩ := Kd.Q_slice hq
  have h0 := blk_cell hb 0
  have h1 := blk_cell hb 1
  have h2 := blk_cell hb 2
  have hf1 := blk_frozen hb 1
  have hf2 := blk_frozen hb 2
  obtain ⟨n, hn⟩ : ∃ n, n = xs.length := ⟨_, rfl⟩
  obtain ⟨t, ht⟩ : ∃ t : Int, t = (xs.length : Int) + l.length - most := ⟨_, rfl⟩
  have hgn := hlt g hg
  obtain ⟨v3, hcut, hq3⟩ := q_cut_from hq t (by omega) (by omega)
  obtain ⟨ys, hys⟩ : ∃ ys, ys = xs.drop (t : Int).toNat := ⟨_, rfl⟩
  have hyl : ys.length + l.length ≤ 2000 := by rw [hys, List.length_drop]; omega
  have hput : putL most xs l = ys ++ l := by
    unfold putL ovN
    rw [hys, List.drop_append_of_le_length (by omega)]
    congr 2
    omega
  rw [← hys] at hq3
  rw [hput, ← ht]
  have hgt : t < (n : Int) := by omega
  have htp : 0 < t := by omega
  have htu : t ≤ 4000 := by omega
  have HG := Aside0.mk hg
  have HGN := Aside0.mk hgn
  have HBk := Aside0.mk hb
  have HLT := Aside0.mk hlt
  have HQ := Aside0.mk hq
  have W1 := Aside0.mk (show IntKind.i64.wrap ((n : Int) + (l.length : Int)) = (n : Int) + (l.length : Int) from IntWalk.i64_in _ (by omega))
  have W2 := Aside0.mk (show IntKind.i64.wrap ((n : Int) + (l.length : Int) - most) = t from by rw [hn, ← ht]; exact IntWalk.i64_in _ (by omega))
  obtain ⟨A3, c3, rfl, _⟩ := Kd.Q_slice hq3
  have HC2 := Aside0.mk hC
  have HQ3 := Aside0.mk hq3
  have HNE := Aside0.mk (show 0 < l.length → ∀ ad, A = some ad → ad.block ≠ g from fun hn_ ad e e2 => hA hn_ ad e (by rw [e2]; exact hg))
  have HF := Aside0.mk hyl
  have HBS := Aside0.mk hbs
  clear hq hC hA hys hyl hput hq3 hlt hc hc0 hg hb hgn hx hm hge hp
  rw [← hn] at h0 h1 h2 hcut
  clear hn ht
  have k1 := W1.out
  have k2 := W2.out
  go_enter Try.func14, Try.ntmps14
  go_wp2
  go_quiet (fail)
  clear k1 k2
  go_wp2_with (first | ((with_reducible refine gate_builtin (b := .append) (xs := #[.tmp 55, .tmp 56]) rfl ?_); at_builtin; refine Q_append_rows (Kd.int .u8) base rfl (.tmp 55) (.tmp 56) 26 5 (.int .u8 0) 1 rfl Try.underlying26 cloneInfo rfl (by decide) (by omega) _ ys l _ _ _ (fun k => (S k ∨ w.heap.size ≤ k) ∧ k ≠ g) (fun _ => False) rfl rfl ?aO ?aR (fun _ _ h => h) (fun _ h => h.elim) ?aF ?aB ?aL ?_; (case aO => exact Kd.Q_far (Kd.Q_mono HQ3.out (fun k hk => ⟨.inl hk.1, hk.2⟩)) (p := ⟨g, 2, none⟩) (fun k hk => hk.2) _); (case aR => exact C_int_at HC2.out (fun hn_ ad e _ => Below.heap_setCell _ _ _ _ (HNE.out hn_ ad e))); (case aF => exact (fun k hk => ⟨.inr (by simpa using hk), by have := HGN.out; have h3 : w.heap.size ≤ k := (by simpa using hk); omega⟩)); (case aB => simpa using HBS.out); (case aL => have := HF.out; omega); intro v1 w3 ho hg3 hat3; obtain ⟨A4, c4, hv, _⟩ := Kd.Q_slice ho; subst hv; have HO := Aside0.mk ho; have HG3 := Aside0.mk hg3; have HK3 := Aside0.mk (blk_grown (blk_set (w := World.drewN w _) HBk.out 2 _) hg3 (fun e => (HQ3.out.1 g e.symm).2 rfl)); have h1' := (blk_cell HK3.out 1); have hf1' := (blk_frozen HK3.out 1); clear ho hg3 hat3))
  go_ret
  have hO := (((Out.refl w S).drewN _).setCell (p := ⟨g, 2, none⟩) (.inl HG.out) _).grown HG3.out (fun k e => .inl (HQ3.out.1 k e).1)
  obtain ⟨S', hS'⟩ := buf_fin HG.out HLT.out hO (by simpa using HK3.out) HO.out
  simp only [List.length_append] at hS'
  exact ⟨S', rfl, hS'⟩
theorem buf_put_B0 (base g : Nat) (S : Nat → Prop) (most : Int) (xs : List Int) (gone : Int) (A : Option Addr) (c : Nat) (l : List Int) (w : World) (h : IsBuf base g S most xs gone w) (hlt : ∀ k, S k → k < w.heap.size) (hbs : base ≤ w.heap.size)
    (hC : (Kd.int .u8).C w A l.length l) (hc : l.length ≤ c) (hA : 0 < l.length → ∀ ad, A = some ad → ¬ S ad.block) (hm : 1 ≤ most ∧ most ≤ 2000) (hx : (xs.length : Int) ≤ most) (hg0 : 0 ≤ gone ∧ gone ≤ 1000000000000000000) (hl : l.length < 140737488350000) (hp : (xs.length : Int) + l.length ≤ most) (hn0 : 0 < xs.length) :
    Calls Try.prog 14 #[.pointer (some ⟨g, 0, none⟩), .slice A l.length c] w fun e w' =>
      ∃ S', e = .returned (.int .i64 0) ∧ Out w w' S [Chunk.buf base g S' most (putL most xs l) gone] := by
  obtain ⟨hg, v, hb, hq⟩ := h
  obtain ⟨A0, c0, rfl, hc0⟩ := Kd.Q_slice hq
  have h0 := blk_cell hb 0
  have h1 := blk_cell hb 1
  have h2 := blk_cell hb 2
  have hf1 := blk_frozen hb 1
  have hf2 := blk_frozen hb 2
  obtain ⟨n, hn⟩ : ∃ n, n = xs.length := ⟨_, rfl⟩
  obtain ⟨t, ht⟩ : ∃ t : Int, t = (xs.length : Int) + l.length - most := ⟨_, rfl⟩
  have hgn := hlt g hg
  have hyl : xs.length + l.length ≤ 2000 := by omega
  have hput : putL most xs l = xs ++ l := by
    unfold putL ovN
    rw [show xs.length + l.length - most.toNat = 0 by omega]
    rfl
  rw [hput]
  rw [← hn] at hq hyl
  have hgt : 0 < (n : Int) := by omega
  have htp : t ≤ 0 := by omega
  have HG := Aside0.mk hg
  have HGN := Aside0.mk hgn
  have HBk := Aside0.mk hb
  have HLT := Aside0.mk hlt
  have HQ := Aside0.mk hq
  have W1 := Aside0.mk (show IntKind.i64.wrap ((n : Int) + (l.length : Int)) = (n : Int) + (l.length : Int) from IntWalk.i64_in _ (by omega))
  have W2 := Aside0.mk (show IntKind.i64.wrap ((n : Int) + (l.length : Int) - most) = t from by rw [hn, ← ht]; exact IntWalk.i64_in _ (by omega))
  have HC2 := Aside0.mk hC
  have HNE := Aside0.mk (show 0 < l.length → ∀ ad, A = some ad → ad.block ≠ g from fun hn_ ad e e2 => hA hn_ ad e (by rw [e2]; exact hg))
  have HF := Aside0.mk hyl
  have HBS := Aside0.mk hbs
  clear hq hC hA hyl hput hlt hc hc0 hg hb hgn hx hm hn0 hp
  rw [← hn] at h0 h1 h2
  have HN := Aside0.mk hn
  clear hn ht
  rcases Int.lt_or_eq_of_le htp with hneg | rfl
  all_goals have k1 := W1.out
  all_goals have k2 := W2.out
  all_goals go_enter Try.func14, Try.ntmps14
  all_goals go_wp2
  all_goals go_quiet (fail)
  all_goals clear k1 k2
  all_goals go_wp2_with (first | ((with_reducible refine gate_builtin (b := .append) (xs := #[.tmp 55, .tmp 56]) rfl ?_); at_builtin; refine Q_append_rows (Kd.int .u8) base rfl (.tmp 55) (.tmp 56) 26 5 (.int .u8 0) 1 rfl Try.underlying26 cloneInfo rfl (by decide) (by omega) _ xs l _ _ _ (fun k => (S k ∨ w.heap.size ≤ k) ∧ k ≠ g) (fun _ => False) rfl rfl ?aO ?aR (fun _ _ h => h) (fun _ h => h.elim) ?aF ?aB ?aL ?_; (case aO => exact Kd.Q_far (Kd.Q_mono HQ.out (fun k hk => ⟨.inl hk.1, hk.2⟩)) (p := ⟨g, 2, none⟩) (fun k hk => hk.2) _); (case aR => exact C_int_at HC2.out (fun hn_ ad e _ => Below.heap_setCell _ _ _ _ (HNE.out hn_ ad e))); (case aF => exact (fun k hk => ⟨.inr (by simpa using hk), by have := HGN.out; have h3 : w.heap.size ≤ k := (by simpa using hk); omega⟩)); (case aB => simpa using HBS.out); (case aL => have := HF.out; have := HN.out; omega); intro v1 w3 ho hg3 hat3; obtain ⟨A4, c4, hv, _⟩ := Kd.Q_slice ho; subst hv; have HO := Aside0.mk ho; have HG3 := Aside0.mk hg3; have HK3 := Aside0.mk (blk_grown (blk_set (w := World.drewN w _) HBk.out 2 _) hg3 (fun e => (HQ.out.1 g e.symm).2 rfl)); have h1' := (blk_cell HK3.out 1); have hf1' := (blk_frozen HK3.out 1); clear ho hg3 hat3))
  all_goals go_ret
  all_goals have hO := (((Out.refl w S).drewN _).setCell (p := ⟨g, 2, none⟩) (.inl HG.out) _).grown HG3.out (fun k e => .inl (HQ.out.1 k e).1)
  all_goals obtain ⟨S', hS'⟩ := buf_fin HG.out HLT.out hO (by simpa using HK3.out) HO.out
  all_goals simp only [List.length_append] at hS'
  all_goals exact ⟨S', rfl, hS'⟩
theorem buf_put (base g : Nat) (S : Nat → Prop) (most : Int) (xs : List Int) (gone : Int) (A : Option Addr) (c : Nat) (l : List Int) (w : World) (h : IsBuf base g S most xs gone w) (hlt : ∀ k, S k → k < w.heap.size) (hbs : base ≤ w.heap.size)
    (hC : (Kd.int .u8).C w A l.length l) (hc : l.length ≤ c) (hA : 0 < l.length → ∀ ad, A = some ad → ¬ S ad.block) (hm : 1 ≤ most ∧ most ≤ 2000) (hx : (xs.length : Int) ≤ most) (hg0 : 0 ≤ gone ∧ gone ≤ 1000000000000000000) (hl : l.length < 140737488350000) :
    Calls Try.prog 14 #[.pointer (some ⟨g, 0, none⟩), .slice A l.length c] w fun e w' =>
      ∃ S', e = .returned (.int .i64 (ovN most xs.length l.length)) ∧ Out w w' S [Chunk.buf base g S' most (putL most xs l) (gone + ovN most xs.length l.length)] := by
  by_cases hp : most < (xs.length : Int) + l.length
  · have e : ((ovN most xs.length l.length : Nat) : Int) = (xs.length : Int) + l.length - most := by unfold ovN; omega
    rw [e]
    by_cases hge : most ≤ l.length
    · exact buf_put_A base g S most xs gone A c l w h hlt hbs hC hc hA hm hx hg0 hl hp hge
    · exact buf_put_B base g S most xs gone A c l w h hlt hbs hC hc hA hm hx hg0 hl hp (by omega)
  · have e : ((ovN most xs.length l.length : Nat) : Int) = 0 := by unfold ovN; omega
    rw [e, Int.add_zero]
    by_cases hn0 : xs.length = 0
    · exact buf_put_A0 base g S most xs gone A c l w h hlt hbs hC hc hA hm hx hg0 hl (by omega) hn0
    · exact buf_put_B0 base g S most xs gone A c l w h hlt hbs hC hc hA hm hx hg0 hl (by omega) (by omega)
end Go.Proofs.Ytbnoedefkbnpjaa.PA
