/- The verdicts' words: words, Text and Parse of the layer trace. -/
import Derived.Test.YtmlemnfleicnfaaHWords
import Derived.Test.YtmlemnfleicnfaaPAx10
namespace Go.Proofs.Ytmlemnfleicnfaa.PA
open Go.RowKit Go.Proofs.YtmlemnfleicnfaaW.PrintWords Go.Proofs.YtmlemnfleicnfaaW.PrintLast Go.Proofs.YtmlemnfleicnfaaW.PrintMore
attribute [local go_sem] max2_int min2_int max_two min_two

/-- The words, by their verdicts' numbers. -/
def wordsL : List ByteArray := [⟨#[]⟩, ⟨#[80, 65, 83, 83]⟩, ⟨#[70, 65, 73, 76]⟩, ⟨#[88, 80, 65, 83, 83]⟩, ⟨#[88, 70, 65, 73, 76]⟩, ⟨#[85, 78, 82, 69, 83, 79, 76, 86, 69, 68]⟩, ⟨#[85, 78, 84, 69, 83, 84, 69, 68]⟩, ⟨#[85, 78, 83, 85, 80, 80, 79, 82, 84, 69, 68]⟩]
def wordsV : Array Value := #[.string ⟨#[]⟩, .string ⟨#[80, 65, 83, 83]⟩, .string ⟨#[70, 65, 73, 76]⟩, .string ⟨#[88, 80, 65, 83, 83]⟩, .string ⟨#[88, 70, 65, 73, 76]⟩, .string ⟨#[85, 78, 82, 69, 83, 79, 76, 86, 69, 68]⟩, .string ⟨#[85, 78, 84, 69, 83, 84, 69, 68]⟩, .string ⟨#[85, 78, 83, 85, 80, 80, 79, 82, 84, 69, 68]⟩]
theorem trace_words.calls (w : World) : Calls Try.prog 64 #[] w fun e w' => e = .returned (.agg wordsV) ∧ Below w.heap.size w w' := by
  have HB := Aside0.mk (Below.refl w.heap.size w)
  go_enter Try.func64, Try.ntmps64
  go_wp2
  exact bodyPost_ret (v := .agg wordsV) (by simp [results, Try.results64, go_sem, wordsV]) rfl ⟨rfl, below_alloc HB.out _⟩

theorem index_word (n : Nat) (h : n < 8) (W : World) : (Instr.index 82 (.agg wordsV) (.int .i64 (n : Int))).run Try.prog W = .ok (.string (wordsL.getD n ⟨#[]⟩)) W := by
  have h8 : n = 0 ∨ n = 1 ∨ n = 2 ∨ n = 3 ∨ n = 4 ∨ n = 5 ∨ n = 6 ∨ n = 7 := by omega
  rcases h8 with rfl | rfl | rfl | rfl | rfl | rfl | rfl | rfl <;> rfl
def trace_Text.f (v : Int) : Option ByteArray := some (if v < 0 ∨ 7 < v then ⟨#[]⟩ else wordsL.getD v.toNat ⟨#[]⟩)
set_option maxHeartbeats 4000000 in
theorem trace_Text.calls (a0 : Int) (r : ByteArray) (w : World) (h : trace_Text.f a0 = some r) :
    Calls Try.prog 45 #[.int .i64 a0] w fun e w' => e = .returned (.string r) ∧ Below w.heap.size w w' := by
  have h' := Option.some.inj h
  clear h
  have HB := Aside0.mk (Below.refl w.heap.size w)
  by_cases h1 : a0 < 0
  · rw [if_pos (Or.inl h1)] at h'
    subst h'
    have d1 : decide (a0 < 0) = true := decide_eq_true h1
    clear h1
    go_enter Try.func45, Try.ntmps45
    go_wp2
    go_ret
    exact ⟨rfl, HB.out⟩
  by_cases h2 : 7 < a0
  · rw [if_pos (Or.inr h2)] at h'
    subst h'
    have d1 : decide (a0 < 0) = false := decide_eq_false h1
    have d2 : decide (7 < a0) = true := decide_eq_true h2
    clear h1 h2
    go_enter Try.func45, Try.ntmps45
    go_wp2
    go_ret
    exact ⟨rfl, HB.out⟩
  rw [if_neg (by omega)] at h'
  obtain ⟨n, rfl⟩ := Int.eq_ofNat_of_zero_le (show 0 ≤ a0 by omega)
  rw [Int.toNat_natCast] at h'
  subst h'
  have hix := fun W => index_word n (by omega) W
  have d1 : decide ((n : Int) < 0) = false := decide_eq_false h1
  have d2 : decide (7 < (n : Int)) = false := decide_eq_false h2
  clear h1 h2
  go_enter Try.func45, Try.ntmps45
  go_wp2_with (fail)
  refine (trace_words.calls _).mono ?_
  rintro e w1 ⟨rfl, hb⟩
  have HB1 := Aside0.mk hb
  clear hb
  go_wp2
  go_ret
  exact ⟨rfl, HB1.out⟩

def trace_Parse.f (k : Nat) (s : ByteArray) : Option Int := (slices_Index_string_string.f k wordsL s).bind fun t => some (mx t 0)
theorem trace_Parse.mono (s : ByteArray) (k : Nat) : LeO (trace_Parse.f k s) (trace_Parse.f (k + 1) s) := LeO.bind (slices_Index_string_string.mono _ _ k) (fun _ => LeO.refl _)
theorem C_strs (w : World) (e : TypeId) : Kd.C Kd.string (w.alloc (.cells wordsV e)) (some ⟨w.heap.size, 0, none⟩) 8 wordsL := by
  refine ⟨rfl, by decide, fun _ => ⟨_, rfl, fun j p hj => ⟨[.string p], rfl, rfl, fun i u hu => ?_⟩⟩⟩
  have hi : i = 0 := by
    rcases i with _ | i
    · rfl
    · simp at hu
  subst hi
  have hu' : Value.string p = u := by simpa using hu
  subst hu'
  show (w.alloc (.cells wordsV e)).cell? ((⟨w.heap.size, 0, none⟩ : Addr).add (j * 1 + 0)) = _
  rw [add_plain]
  have hv : wordsV.toList = wordsL.map Value.string := rfl
  have hc : wordsV[j * 1 + 0]? = some (Value.string p) := by
    rw [← Array.getElem?_toList, hv]
    simp [hj]
  have hh : (w.alloc (.cells wordsV e)).heap[w.heap.size]? = some (.cells wordsV e) := by
    show (w.heap.push (.cells wordsV e))[w.heap.size]? = _
    simp
  simp only [World.cell?, hh]
  simpa using hc
set_option maxHeartbeats 4000000 in
theorem trace_Parse.calls (k : Nat) (a0 : ByteArray) (r : Int) (w : World) (h : trace_Parse.f k a0 = some r) :
    Calls Try.prog 47 #[.string a0] w fun e w' => e = .returned (.int .i64 r) ∧ Below w.heap.size w w' := by
  obtain ⟨t, h1, h2⟩ := Option.bind_eq_some_iff.mp h
  obtain rfl := Option.some.inj h2
  clear h h2
  have H1 := Aside0.mk h1
  clear h1
  go_enter Try.func47, Try.ntmps47
  go_wp2_with (fail)
  refine (trace_words.calls _).mono ?_
  rintro e w1 ⟨rfl, hb⟩
  have HB1 := Aside0.mk hb
  clear hb
  unfold wordsV
  go_wp2_with (fail)
  refine (slices_Index_string_string.calls k (some ⟨w1.heap.size, 0, none⟩) 8 wordsL a0 t _ (C_strs w1 82) (Nat.le_refl _) H1.out).mono ?_
  rintro e w2 ⟨rfl, hb⟩
  have HB2 := Aside0.mk (below_step (below_alloc HB1.out _) hb.below)
  clear hb
  by_cases ht : t < 0
  · have HE := Aside0.mk (show mx t 0 = 0 from if_pos ht)
    go_wp2
    go_ret
    exact ⟨by first | (rw [HE.out]; done) | (rw [HE.out]; rfl), HB2.out⟩
  · have HE := Aside0.mk (show mx t 0 = t from if_neg ht)
    go_wp2
    go_ret
    exact ⟨by first | (rw [HE.out]; done) | (rw [HE.out]; rfl), HB2.out⟩
end Go.Proofs.Ytmlemnfleicnfaa.PA
