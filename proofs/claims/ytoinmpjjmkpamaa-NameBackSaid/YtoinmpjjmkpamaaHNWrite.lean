/- name.Write: a name written, byte by byte into a builder of its own. -/
import Derived.Test.YtoinmpjjmkpamaaHBuilder
import Derived.Laws.BitsAllLaws
import Derived.Test.YtoinmpjjmkpamaaPAx1
import Derived.Test.YtoinmpjjmkpamaaPAx2
namespace Go.Proofs.Ytoinmpjjmkpamaa.PA
open Go.RowKit Go.Proofs.YtoinmpjjmkpamaaW.PrintWords Go.Proofs.YtoinmpjjmkpamaaW.PrintLast Go.Proofs.YtoinmpjjmkpamaaW.PrintMore
attribute [local go_sem] max2_int min2_int max_two min_two

/-- The digits. -/
def nmDig : ByteArray := ⟨#[48, 49, 50, 51, 52, 53, 54, 55, 56, 57, 97, 98, 99, 100, 101, 102]⟩
/-- What is written of the byte at a place. -/
def nmStep (s : ByteArray) (i : Nat) : List Int := if name_plain.f s i = some true then [bt s i] else [92, bt nmDig (bt s i / 16), bt nmDig (bt s i % 16)]
/-- What is written of the first bytes. -/
def nmPre (s : ByteArray) (n : Nat) : List Int := (List.range n).flatMap (nmStep s)
def name_Write.f (s : ByteArray) : Option ByteArray := some (if 1 ≤ s.size ∧ s.size ≤ 80 then ⟨((nmPre s s.size).map fun x => x.toNat.toUInt8).toArray⟩ else ⟨#[]⟩)

theorem nmPre_succ (s : ByteArray) (n : Nat) : nmPre s (n + 1) = nmPre s n ++ nmStep s n := by
  simp [nmPre, List.range_succ]
theorem nmStep_range (s : ByteArray) (i : Nat) : ∀ x ∈ nmStep s i, 0 ≤ x ∧ x ≤ 255 := by
  intro x hx
  unfold nmStep at hx
  split at hx
  · simp only [List.mem_singleton] at hx
    subst hx
    exact bt_range _ _
  · simp only [List.mem_cons, List.not_mem_nil, or_false] at hx
    rcases hx with rfl | rfl | rfl
    · omega
    · exact bt_range _ _
    · exact bt_range _ _
theorem nmStep_len (s : ByteArray) (i : Nat) : (nmStep s i).length ≤ 3 := by
  unfold nmStep
  split <;> simp
theorem nmPre_range (s : ByteArray) (n : Nat) : ∀ x ∈ nmPre s n, 0 ≤ x ∧ x ≤ 255 := by
  intro x hx
  obtain ⟨i, _, hi⟩ := List.mem_flatMap.1 hx
  exact nmStep_range s i x hi
theorem nmPre_len (s : ByteArray) (n : Nat) : (nmPre s n).length ≤ 3 * n := by
  induction n with
  | zero => simp [nmPre]
  | succ n ih =>
    rw [nmPre_succ, List.length_append]
    have := nmStep_len s n
    omega
theorem cells_bytes (l : List Int) (h : ∀ x ∈ l, 0 ≤ x ∧ x ≤ 255) : l.map (Value.int .u8) = Lib.byteCells (l.map fun x => x.toNat.toUInt8) := by
  unfold Lib.byteCells
  rw [List.map_map]
  refine List.map_congr_left fun x hx => ?_
  obtain ⟨h0, h1⟩ := h x hx
  obtain ⟨n, rfl⟩ := Int.eq_ofNat_of_zero_le h0
  have hn : n < 256 := by omega
  simp [Nat.mod_eq_of_lt hn]
theorem plain_some (s : ByteArray) (i : Nat) (hi : i < s.size) : ∃ b, name_plain.f s i = some b := by
  unfold name_plain.f
  rw [if_pos (Int.natCast_nonneg i), if_pos (Int.ofNat_lt.2 hi)]
  repeat' split
  all_goals exact ⟨_, rfl⟩
theorem low4 {x : Int} (h0 : 0 ≤ x) (h1 : x ≤ 255) : bits .and .u8 x 15 = x % 16 := by
  rw [u8_and x 15 h0 (by omega) (by omega) (by omega)]
  have : x.toNat &&& (15 : Int).toNat = x.toNat % 16 := Nat.and_two_pow_sub_one_eq_mod x.toNat 4
  rw [this]
  omega
theorem isB_drewN {T e : TypeId} {B b : Nat} {bs : List Value} {w : World} (n : Nat) (h : Lib.IsBuilder T e B b bs w) : Lib.IsBuilder T e B b bs (w.drewN n) := h
theorem below_drewN' {B : Nat} {w v : World} (n : Nat) (h : Below B w v) : Below B w (v.drewN n) := pw_below_drewN h n

set_option maxHeartbeats 400000 in
theorem name_Write.calls (a0 : ByteArray) (r : ByteArray) (w : World) (h : name_Write.f a0 = some r) :
    Calls Try.prog 8 #[.string a0] w fun e w' => e = .returned (.string r) ∧ Below w.heap.size w w' := by
  have h' := Option.some.inj h
  clear h
  by_cases hs : 1 ≤ a0.size ∧ a0.size ≤ 80
  · rw [if_pos hs] at h'
    subst h'
    obtain ⟨hs1, hs2⟩ := hs
    have hR : name_Right.f a0 = some true := by
      unfold name_Right.f
      rw [if_pos (by omega)]
      simp
      omega
    go_enter Try.func8, Try.ntmps8
    go_wp2_with (go_at_call 10; refine (name_Right.calls a0 true _ hR).mono ?_; rintro e w' ⟨rfl, ⟨nd, rfl⟩⟩)
    go_loopg [10] a0.size (fun kq v10 w' => ∃ i : Nat, v10 = .int .i64 (i : Int) ∧ Aside0 (i + kq = a0.size) ∧ Aside0 (Lib.IsBuilder 31 5 w.heap.size w.heap.size ((nmPre a0 i).map (Value.int .u8)) w' ∧ Below w.heap.size w w'))
    case atStart => exact ⟨0, rfl, ⟨by omega⟩, ⟨Lib.fresh_isBuilder 31 5 _, below_alloc (by repeat (first | exact Below.refl _ _ | apply pw_below_drewN | apply below_drew1)) _⟩⟩
    case round =>
      obtain ⟨i, rfl, HK, HB⟩ := hrel
      cases gk with
      | zero =>
        have d1 : decide ((i : Int) < (a0.size : Int)) = false := decide_eq_false (by have := HK.out; omega)
        have hi : i = a0.size := by have := HK.out; omega
        subst hi
        have HB2 : Lib.IsBuilder 31 5 w.heap.size w.heap.size (Lib.byteCells ((nmPre a0 a0.size).map fun x => x.toNat.toUInt8)) wr := by
          rw [← cells_bytes _ (nmPre_range a0 _)]
          exact HB.out.1
        have HB3 := Aside0.mk HB2
        clear HB2
        have HL := Aside0.mk HB.out.2
        clear HB
        go_wp2_with (go_at_call 19; refine (Try.Builder_String_any w.heap.size w.heap.size _ _ HB3.out (by have := HL.out.size; exact this)).mono ?_)
        rintro e w1 ⟨rfl, hb⟩
        have HL1 := Aside0.mk (HL.out.trans hb)
        go_wp2
        go_ret
        exact ⟨rfl, HL1.out⟩
      | succ k2 =>
        have d1 : decide ((i : Int) < (a0.size : Int)) = true := decide_eq_true (by have := HK.out; omega)
        have hlt : i < a0.size := by have := HK.out; omega
        have hnx : wrap64 ((i : Int) + 1) = ((i + 1 : Nat) : Int) := by unfold wrap64; omega
        obtain ⟨bp, hbp⟩ := plain_some a0 i hlt
        have p12 : 0 ≤ (i : Int) := Int.natCast_nonneg i
        have q12 : (i : Int) < (a0.size : Int) := by omega
        have hx12 : ∀ h : i < a0.size, ((a0[i]'h).toNat : Int) = bt a0 i := bt_at a0 i
        replace p12 := eq_true p12
        replace q12 := eq_true q12
        have HC := Aside0.mk (nmPre_len a0 i)
        have HL := Aside0.mk HB.out.2
        have HB1 := Aside0.mk HB.out.1
        clear HB
        have hR := True.intro
        cases bp with
        | true =>
          have hst : nmStep a0 i = [bt a0 i] := by unfold nmStep; rw [if_pos hbp]
          go_wp2_with (first | (go_at_call 17; refine (name_plain.calls a0 i true _ hbp).mono ?_; rintro e w' ⟨rfl, ⟨nd, rfl⟩⟩) | (go_at_call 18; refine (writeByte_calls w.heap.size w.heap.size _ (bt a0 i) _ (isB_drewN _ HB1.out) (by have := HC.out; simp; omega) (by have := HL.out.size; exact this)).mono ?_; rintro e w1 ⟨rfl, hb1, hb⟩; have HB2 := Aside0.mk hb1; have HL1 := Aside0.mk ((below_drewN' _ HL.out).trans hb); clear hb hb1))
          go_roundg k2
          case measure => have := HK.out; omega
          case rel => exact ⟨i + 1, by first | rw [hnx] | (simp; done), ⟨by have := HK.out; omega⟩, ⟨by rw [nmPre_succ, hst, List.map_append]; exact Or.inr HB2.out, HL1.out⟩⟩
        | false =>
          have hst : nmStep a0 i = [92, bt nmDig (bt a0 i / 16), bt nmDig (bt a0 i % 16)] := by unfold nmStep; rw [if_neg (by rw [hbp]; simp)]
          have hbr := bt_range a0 i
          have e1 : (0 ≤ bt a0 i / 16) = True := eq_true (by omega)
          have e2 : (bt a0 i / 16 < 16) = True := eq_true (by omega)
          have e3 := bt_at (⟨#[48, 49, 50, 51, 52, 53, 54, 55, 56, 57, 97, 98, 99, 100, 101, 102]⟩ : ByteArray) (bt a0 i / 16)
          have e4 : (0 ≤ bt a0 i % 16) = True := eq_true (by omega)
          have e5 : (bt a0 i % 16 < 16) = True := eq_true (by omega)
          have e6 := bt_at (⟨#[48, 49, 50, 51, 52, 53, 54, 55, 56, 57, 97, 98, 99, 100, 101, 102]⟩ : ByteArray) (bt a0 i % 16)
          have e7 : bits .and .u8 (bt a0 i) 15 = bt a0 i % 16 := low4 hbr.1 hbr.2
          clear hbr
          go_wp2_with (go_at_call 17; refine (name_plain.calls a0 i false _ hbp).mono ?_; rintro e w' ⟨rfl, ⟨nd, rfl⟩⟩)
          refine (writeByte_calls w.heap.size w.heap.size _ 92 _ (isB_drewN _ HB1.out) (by have := HC.out; simp; omega) (by have := HL.out.size; exact this)).mono ?_
          rintro e w1 ⟨rfl, hb1, hb⟩
          have HB2 := Aside0.mk hb1
          have HL1 := Aside0.mk ((below_drewN' _ HL.out).trans hb)
          clear hb hb1
          go_wp2_with (fail)
          refine (writeByte_calls w.heap.size w.heap.size _ (bt (⟨#[48, 49, 50, 51, 52, 53, 54, 55, 56, 57, 97, 98, 99, 100, 101, 102]⟩ : ByteArray) (bt a0 i / 16)) _ (Or.inr HB2.out) (by have := HC.out; simp; omega) (by have := HL1.out.size; exact this)).mono ?_
          rintro e w2 ⟨rfl, hb1, hb⟩
          have HB3 := Aside0.mk hb1
          have HL2 := Aside0.mk (HL1.out.trans hb)
          clear hb hb1
          go_wp2_with (fail)
          refine (writeByte_calls w.heap.size w.heap.size _ (bt (⟨#[48, 49, 50, 51, 52, 53, 54, 55, 56, 57, 97, 98, 99, 100, 101, 102]⟩ : ByteArray) (bt a0 i % 16)) _ (Or.inr HB3.out) (by have := HC.out; simp; omega) (by have := HL2.out.size; exact this)).mono ?_
          rintro e w3 ⟨rfl, hb1, hb⟩
          have HB4 := Aside0.mk hb1
          have HL3 := Aside0.mk (HL2.out.trans hb)
          clear hb hb1
          go_wp2
          go_roundg k2
          case measure => have := HK.out; omega
          case rel => exact ⟨i + 1, by first | rw [hnx] | (simp; done), ⟨by have := HK.out; omega⟩, ⟨by rw [nmPre_succ, hst, List.map_append]; exact Or.inr (by have := HB4.out; rw [List.append_assoc, List.append_assoc] at this; exact this), HL3.out⟩⟩
  · rw [if_neg hs] at h'
    subst h'
    have hR : name_Right.f a0 = some false := by
      unfold name_Right.f
      by_cases h1 : (a0.size : Int) ≥ 1
      · rw [if_pos h1]
        simp
        omega
      · rw [if_neg h1]
    go_enter Try.func8, Try.ntmps8
    go_wp2_with (go_at_call 10; refine (name_Right.calls a0 false _ hR).mono ?_; rintro e w' ⟨rfl, ⟨nd, rfl⟩⟩)
    go_ret
    exact ⟨rfl, by repeat (first | exact Below.refl _ _ | apply pw_below_drewN | apply below_drew1)⟩
end Go.Proofs.Ytoinmpjjmkpamaa.PA
