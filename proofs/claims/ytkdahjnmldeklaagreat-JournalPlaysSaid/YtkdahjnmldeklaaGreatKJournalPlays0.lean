/- What this claim uses of this session's own texts, put together by a program: PAx0 PAx10 PAx46 PAx47 PAx9 HClone PAx11 HPut PAx49 HOwn HGw HGw2 HDraw HObj HJoin HLazy HPan HRead HShort HPack PAx86 PAx87 PAx91. -/
import Derived.Test.YtkdahjnmldeklaaGreatKJournalPlaysW0
import Derived.WalkSpells
import Derived.Lib.SlBytesConst
import Derived.Scope
import Derived.ScopeJumps
import Derived.FnLit
import Derived.WalkLawsBesides
import Derived.Deep.Quiet
import Derived.Recover
import Derived.Maps.OwnSet
import Derived.StringKeys
import Derived.Sort.KeysCollected
import Derived.Shelf.SlIterI.Nil
import Derived.Shelf.SortM.Plain
import Derived.Shelf.SortM.SortNone
import Derived.Ground.GgzProg
import Derived.Ground.SlgmProg
import Derived.Shelf.SlIter.Nil
import Derived.Deep.Slices
import Derived.ChangeArms
import Derived.WideShapes
import Derived.DataReads
import Derived.DataElems
import Derived.ProofKit
import Derived.OpenShut
import Derived.ShutString
import Derived.ChangeOld
import Derived.SizedLaws
import Derived.JoinedCond
import Derived.Carry
import Derived.Deep.CondSized
import Derived.Test.YtkdahjnmldeklaaGreatProg
import Derived.Test.YtkdahjnmldeklaaGreatRows
namespace Go.Proofs.YtkdahjnmldeklaaGreat.PA
theorem bxs_ : (∀ a b : Bool, ((a && b) = true) = (a = true ∧ b = true)) ∧ (∀ a b : Bool, ((a || b) = true) = (a = true ∨ b = true)) ∧ (∀ a b : Bool, ((a && b) = false) = (a = false ∨ b = false)) ∧ (∀ a b : Bool, ((a || b) = false) = (a = false ∧ b = false)) ∧ (∀ a b : Bool, (!(a && b)) = (!a || !b)) ∧ (∀ a b : Bool, (!(a || b)) = (!a && !b)) ∧ (∀ a : Bool, (!!a) = a) ∧ (∀ (p : Prop) [Decidable p], (decide p = true) = p) ∧ (∀ (p : Prop) [Decidable p], (decide p = false) = ¬p) ∧ (∀ a : Bool, ((!a) = true) = (a = false)) ∧ (∀ a : Bool, ((!a) = false) = (a = true)) ∧ (∀ a : Bool, (¬a = true) = (a = false)) ∧ (∀ a : Bool, (¬a = false) = (a = true)) ∧ (∀ (p : Prop) [Decidable p], (¬¬p) = p) ∧ (∀ a b : Int, (¬a < b) = (b ≤ a)) ∧ (∀ a b : Int, (¬a ≤ b) = (b < a)) ∧ (¬True) = False ∧ (¬False) = True := by
  refine ⟨?_, ?_, ?_, ?_, ?_, ?_, ?_, ?_, ?_, ?_, ?_, ?_, ?_, ?_, ?_, ?_, ?_, ?_⟩ <;> intros <;> first | (simp; done) | (rename_i a b; cases a <;> cases b <;> simp)
end Go.Proofs.YtkdahjnmldeklaaGreat.PA
namespace Go.Proofs.YtkdahjnmldeklaaGreat.PA
open Go.RowKit Go.Proofs.YtkdahjnmldeklaaGreatW.PrintWords Go.Proofs.YtkdahjnmldeklaaGreatW.PrintLast Go.Proofs.YtkdahjnmldeklaaGreatW.PrintMore
set_option linter.unusedVariables false
set_option linter.unusedSimpArgs false
set_option maxRecDepth 100000
set_option maxHeartbeats 8000000
section
attribute [local go_sem] max2_int min2_int max_two min_two max_three min_three max_four min_four   -- for this text's walks alone
def errW : Option Int → Value
  | none => .nilIface
  | some c => .iface 0 (.int .i64 c)
theorem errW_none : errW none = .nilIface := rfl
theorem errW_some (c : Int) : errW (some c) = .iface 0 (.int .i64 c) := rfl
theorem info5 : (Tryz.prog.info? 5).map (fun i => (i.zero, i.size, i.bytes)) = some (some (.int .u8 0), 1, 1) := by kernel_rfl
structure S38 where
  f0 : ByteArray
  f1 : (List Int)
  f2 : Int
def z38 : S38 := ⟨(⟨#[]⟩ : ByteArray), ([] : List Int), (0 : Int)⟩
def k38 : Kd S38 := Kd.iso (Kd.pair Kd.string (Kd.pair (Kd.slice 5 (Kd.int .u8)) (Kd.int .i64))) (fun x : S38 => (x.f0, x.f1, x.f2))
theorem k38_open {w : World} {x : S38} {cs : List Value} (h : k38.K w x cs) : ∃ A1 c1, cs = [.string x.f0, .slice A1 x.f1.length c1, .int .i64 x.f2] ∧ x.f1.length ≤ c1 ∧ (Kd.int .u8).C w A1 x.f1.length x.f1 := by
  obtain ⟨_, _, rfl, rfl, ⟨_, _, rfl, ⟨A1, c1, rfl, l1, g1⟩, rfl⟩⟩ := h
  exact ⟨A1, c1, rfl, l1, g1⟩
theorem k38_mk (w : World) (x : S38) {A1 : Option Addr} {c1 : Nat} (l1 : x.f1.length ≤ c1) (g1 : (Kd.int .u8).C w A1 x.f1.length x.f1) : k38.K w x [.string x.f0, .slice A1 x.f1.length c1, .int .i64 x.f2] := ⟨[.string x.f0], [.slice A1 x.f1.length c1, .int .i64 x.f2], rfl, rfl, ⟨[.slice A1 x.f1.length c1], [.int .i64 x.f2], rfl, ⟨A1, c1, rfl, l1, g1⟩, rfl⟩⟩
theorem k38_openF {W : World} {ok : Nat → Prop} {x : S38} {cs : List Value} (h : Kd.FK k38 W ok x cs) : ∃ A1 c1, cs = [.string x.f0, .slice A1 x.f1.length c1, .int .i64 x.f2] ∧ x.f1.length ≤ c1 ∧ Kd.F (Kd.int .u8) W ok A1 x.f1.length x.f1 := by
  obtain ⟨A1, c1, rfl, l1, _⟩ := k38_open (Kd.FK_now h)
  exact ⟨A1, c1, rfl, l1, (fun W' hW => by obtain ⟨A1_, c1_, he, l1_, g1_⟩ := k38_open (h W' hW); injection (Option.some.inj (show some (Value.slice A1 x.f1.length c1) = some (Value.slice A1_ x.f1.length c1_) from congrArg (fun l => l[1]?) he)) with ha_ _ _; rw [ha_]; exact g1_)⟩
theorem k38_mkF (W : World) (ok : Nat → Prop) (x : S38) {A1 : Option Addr} {c1 : Nat} (l1 : x.f1.length ≤ c1) (g1 : Kd.F (Kd.int .u8) W ok A1 x.f1.length x.f1) : Kd.FK k38 W ok x [.string x.f0, .slice A1 x.f1.length c1, .int .i64 x.f2] := fun W2 hW => k38_mk W2 x l1 (g1 W2 hW)
structure S54 where
  f0 : Int
  f1 : (List Int)
def z54 : S54 := ⟨(0 : Int), ([] : List Int)⟩
def k54 : Kd S54 := Kd.iso (Kd.pair (Kd.int .i64) (Kd.slice 5 (Kd.int .u8))) (fun x : S54 => (x.f0, x.f1))
theorem k54_open {w : World} {x : S54} {cs : List Value} (h : k54.K w x cs) : ∃ A1 c1, cs = [.int .i64 x.f0, .slice A1 x.f1.length c1] ∧ x.f1.length ≤ c1 ∧ (Kd.int .u8).C w A1 x.f1.length x.f1 := by
  obtain ⟨_, _, rfl, rfl, ⟨A1, c1, rfl, l1, g1⟩⟩ := h
  exact ⟨A1, c1, rfl, l1, g1⟩
theorem k54_mk (w : World) (x : S54) {A1 : Option Addr} {c1 : Nat} (l1 : x.f1.length ≤ c1) (g1 : (Kd.int .u8).C w A1 x.f1.length x.f1) : k54.K w x [.int .i64 x.f0, .slice A1 x.f1.length c1] := ⟨[.int .i64 x.f0], [.slice A1 x.f1.length c1], rfl, rfl, ⟨A1, c1, rfl, l1, g1⟩⟩
theorem k54_openF {W : World} {ok : Nat → Prop} {x : S54} {cs : List Value} (h : Kd.FK k54 W ok x cs) : ∃ A1 c1, cs = [.int .i64 x.f0, .slice A1 x.f1.length c1] ∧ x.f1.length ≤ c1 ∧ Kd.F (Kd.int .u8) W ok A1 x.f1.length x.f1 := by
  obtain ⟨A1, c1, rfl, l1, _⟩ := k54_open (Kd.FK_now h)
  exact ⟨A1, c1, rfl, l1, (fun W' hW => by obtain ⟨A1_, c1_, he, l1_, g1_⟩ := k54_open (h W' hW); injection (Option.some.inj (show some (Value.slice A1 x.f1.length c1) = some (Value.slice A1_ x.f1.length c1_) from congrArg (fun l => l[1]?) he)) with ha_ _ _; rw [ha_]; exact g1_)⟩
theorem k54_mkF (W : World) (ok : Nat → Prop) (x : S54) {A1 : Option Addr} {c1 : Nat} (l1 : x.f1.length ≤ c1) (g1 : Kd.F (Kd.int .u8) W ok A1 x.f1.length x.f1) : Kd.FK k54 W ok x [.int .i64 x.f0, .slice A1 x.f1.length c1] := fun W2 hW => k54_mk W2 x l1 (g1 W2 hW)
end
section
attribute [local go_sem] max2_int min2_int max_two min_two max_three min_three max_four min_four   -- for this text's walks alone
mutual
def pack_Sum.l0 : Nat → Int → List Int → Int → Int → Option (Int)
  | 0, _, _, _, _ => none
  | k + 1, x3, x6, x7, x8 => if x8 < x7 then (if 0 ≤ x8 then (if x8 < (x6.length : Int) then (pack_Sum.l1 k (Go.bits .xor .u32 x3 ((rd x6 x8) % 4294967296)) x6 x7 x8 0) else (none)) else (none)) else (some (Go.bits .xor .u32 4294967295 x3))
def pack_Sum.l1 : Nat → Int → List Int → Int → Int → Int → Option (Int)
  | 0, _, _, _, _, _ => none
  | k + 1, x3, x6, x7, x8, x16 => if x16 < 8 then (pack_Sum.l1 k (Go.bits .xor .u32 (x3 / 2) (Go.bits .and .u32 3988292384 ((-(Go.bits .and .u32 x3 1)) % 4294967296))) x6 x7 x8 (wrap64 (x16 + 1))) else (pack_Sum.l0 k x3 x6 x7 (wrap64 (x8 + 1)))
end
def pack_Sum.f (k : Nat) (l0 : List Int) : Option (Int) := pack_Sum.l0 k 4294967295 l0 (l0.length : Int) 0
theorem pack_Sum.mono_l : ∀ k, (∀ y0 y1 y2 y3, LeO (pack_Sum.l0 k y0 y1 y2 y3) (pack_Sum.l0 (k + 1) y0 y1 y2 y3)) ∧ (∀ y0 y1 y2 y3 y4, LeO (pack_Sum.l1 k y0 y1 y2 y3 y4) (pack_Sum.l1 (k + 1) y0 y1 y2 y3 y4))
  | 0 => ⟨fun _ _ _ _ r h => by simp [pack_Sum.l0] at h, fun _ _ _ _ _ r h => by simp [pack_Sum.l1] at h⟩
  | k + 1 => by
    obtain ⟨ih0, ih1⟩ := pack_Sum.mono_l k
    refine ⟨?_, ?_⟩
    · intro y0 y1 y2 y3
      unfold pack_Sum.l0
      repeat' first
      | (with_reducible exact ih0 _ _ _ _)
      | (with_reducible exact ih1 _ _ _ _ _)
      | (with_reducible exact LeO.refl _)
      | (with_reducible exact LeO.none _)
      | (with_reducible refine LeO.ite ?_ ?_)
      | (with_reducible refine LeO.bind ?_ (fun _ => ?_))
      | exact ih0 _ _ _ _
      | exact ih1 _ _ _ _ _
      | exact LeO.none _
      | refine LeO.ite ?_ ?_
      | refine LeO.bind ?_ (fun _ => ?_)
    · intro y0 y1 y2 y3 y4
      unfold pack_Sum.l1
      repeat' first
      | (with_reducible exact ih0 _ _ _ _)
      | (with_reducible exact ih1 _ _ _ _ _)
      | (with_reducible exact LeO.refl _)
      | (with_reducible exact LeO.none _)
      | (with_reducible refine LeO.ite ?_ ?_)
      | (with_reducible refine LeO.bind ?_ (fun _ => ?_))
      | exact ih0 _ _ _ _
      | exact ih1 _ _ _ _ _
      | exact LeO.none _
      | refine LeO.ite ?_ ?_
      | refine LeO.bind ?_ (fun _ => ?_)
theorem pack_Sum.mono : ∀ a0 k, LeO (pack_Sum.f k a0) (pack_Sum.f (k + 1) a0) := by
  intro a0 k
  obtain ⟨ih0, ih1⟩ := pack_Sum.mono_l k
  unfold pack_Sum.f
  repeat' first
      | (with_reducible exact ih0 _ _ _ _)
      | (with_reducible exact ih1 _ _ _ _ _)
      | (with_reducible exact LeO.refl _)
      | (with_reducible exact LeO.none _)
      | (with_reducible refine LeO.ite ?_ ?_)
      | (with_reducible refine LeO.bind ?_ (fun _ => ?_))
      | exact ih0 _ _ _ _
      | exact ih1 _ _ _ _ _
      | exact LeO.none _
      | refine LeO.ite ?_ ?_
      | refine LeO.bind ?_ (fun _ => ?_)
theorem pack_Sum.calls (k : Nat) (A0 : Option Addr) (c0 : Nat) (l0 : List Int) (r : Int) (w : World) (hr0 : Kd.C (Kd.int .u8) w A0 l0.length l0) (hc0 : l0.length ≤ c0) (h : pack_Sum.f k l0 = some r) :
    Calls Tryz.prog 53 #[.slice A0 l0.length c0] w fun e w' => e = .returned (.int .u32 r) ∧ Drawn0 w w' := by
  have HR0 := Aside0.mk hr0
  have HC0 := Aside0.mk hc0
  clear hr0 hc0
  have H : (pack_Sum.l0 k 4294967295 l0 (l0.length : Int) 0) = some r := h
  clear h
  have H' := Aside0.mk H
  clear H
  go_enter Tryz.func53, Tryz.ntmps53
  go_wp2
  go_loopg [3, 8] k (fun kq v3 v8 w' => ∃ (x3_1 : Int) (x8_1 : Int), v3 = .int .u32 x3_1 ∧ v8 = .int .i64 x8_1 ∧ Aside0 (pack_Sum.l0 kq x3_1 l0 (l0.length : Int) x8_1 = some r) ∧ Aside0 (kq ≤ k) ∧ Drawn0 w w')
  case atStart => exact ⟨(4294967295), (0), (by first | rfl | (simp; done) | (simp [*]; done)), (by first | rfl | (simp; done) | (simp [*]; done)), H', ⟨Nat.le_refl _⟩, by repeat (first | exact Drawn0.refl _ | apply Drawn0.step)⟩
  case round =>
    clear H'
    obtain ⟨x3_1, x8_1, rfl, rfl, HA, HK1, ⟨m1, rfl⟩⟩ := hrel
    cases gk with
    | zero => exact absurd HA.out (by simp [pack_Sum.l0])
    | succ k1 =>
      have H := HA.out
      clear HA
      simp only [pack_Sum.l0] at H
      by_cases c2 : x8_1 < (l0.length : Int)
      · rw [if_pos c2] at H
        have c2b0 : decide (x8_1 < (l0.length : Int)) = true := decide_eq_true c2
        clear c2
        by_cases c3 : 0 ≤ x8_1
        · rw [if_pos c3] at H
          have c3b0 : decide (0 ≤ x8_1) = true := decide_eq_true c3
          clear c3
          by_cases c4 : x8_1 < (l0.length : Int)
          · rw [if_pos c4] at H
            have c4b0 : decide (x8_1 < (l0.length : Int)) = true := decide_eq_true c4
            clear c4
            have H' := Aside0.mk H
            clear H
            have p105 : 0 ≤ (x8_1 : Int) := of_decide_eq_true (by first | (with_reducible assumption) | assumption)
            have q105 : x8_1 < (l0.length : Int) := of_decide_eq_true (by first | (with_reducible assumption) | assumption)
            obtain ⟨ad105, e105, hx105_0⟩ := Kd.at_int HR0.out x8_1 p105 q105
            cases e105
            replace p105 := eq_true p105
            replace q105 := eq_true q105
            go_wp2
            go_loopg [3, 16] k1 (fun kq v3 v16 w' => ∃ (x3_2 : Int) (x16_2 : Int), v3 = .int .u32 x3_2 ∧ v16 = .int .i64 x16_2 ∧ Aside0 (pack_Sum.l1 kq x3_2 l0 (l0.length : Int) x8_1 x16_2 = some r) ∧ Aside0 (kq ≤ k1) ∧ Drawn0 w w')
            case atStart => exact ⟨(Go.bits .xor .u32 x3_1 ((rd l0 x8_1) % 4294967296)), (0), (by first | rfl | (simp; done) | (simp [*]; done)), (by first | rfl | (simp; done) | (simp [*]; done)), H', ⟨Nat.le_refl _⟩, by repeat (first | exact Drawn0.refl _ | apply Drawn0.step)⟩
            case round =>
              clear H'
              try clear p1
              try clear q1
              try clear hx1
              try clear c2
              try clear c2b0
              try clear p2
              try clear c3
              try clear c3b0
              try clear c4
              try clear c4b0
              try clear hx105_0
              try clear p105
              try clear q105
              obtain ⟨x3_2, x16_2, rfl, rfl, HA, HK2, ⟨m2, rfl⟩⟩ := hrel
              cases gk with
              | zero => exact absurd HA.out (by simp [pack_Sum.l1])
              | succ k2 =>
                have H := HA.out
                clear HA
                simp only [pack_Sum.l1] at H
                by_cases c5 : x16_2 < 8
                · rw [if_pos c5] at H
                  have c5b0 : decide (x16_2 < 8) = true := decide_eq_true c5
                  clear c5
                  have H' := Aside0.mk H
                  clear H
                  go_wp2
                  go_roundg k2
                  case measure => have := HK1.out; have := HK2.out; omega
                  case rel => exact ⟨(Go.bits .xor .u32 (x3_2 / 2) (Go.bits .and .u32 3988292384 ((-(Go.bits .and .u32 x3_2 1)) % 4294967296))), (wrap64 (x16_2 + 1)), (by first | rfl | (simp; done) | (simp [*]; done)), (by first | rfl | (simp; done) | (simp [*]; done)), H', ⟨by have := HK1.out; have := HK2.out; omega⟩, by repeat (first | exact Drawn0.refl _ | apply Drawn0.step)⟩
                · rw [if_neg c5] at H
                  have c5b0 : decide (x16_2 < 8) = false := decide_eq_false c5
                  clear c5
                  have H' := Aside0.mk H
                  clear H
                  go_wp2
                  go_roundg k2
                  case measure => have := HK1.out; have := HK2.out; omega
                  case rel => exact ⟨(x3_2), (wrap64 (x8_1 + 1)), (by first | rfl | (simp; done) | (simp [*]; done)), (by first | rfl | (simp; done) | (simp [*]; done)), H', ⟨by have := HK1.out; have := HK2.out; omega⟩, by repeat (first | exact Drawn0.refl _ | apply Drawn0.step)⟩
          · rw [if_neg c4] at H
            exact absurd H (by simp)
        · rw [if_neg c3] at H
          exact absurd H (by simp)
      · rw [if_neg c2] at H
        have c2b0 : decide (x8_1 < (l0.length : Int)) = false := decide_eq_false c2
        clear c2
        obtain rfl := Option.some.inj H
        go_wp2
        go_ret
        exact ⟨by first | rfl | (simp; done) | (simp [*]; done), by repeat (first | exact Drawn0.refl _ | apply Drawn0.step)⟩
end
section
attribute [local go_sem] max2_int min2_int max_two min_two max_three min_three max_four min_four   -- for this text's walks alone
def pack_four.f (l0 : List Int) (a1 : Int) : Option (List Int) := (some (([(a1) % 256, (a1 / 256) % 256, (a1 / 65536) % 256, (a1 / 16777216) % 256] : List Int) : List Int)).bind fun y240 => (if l0.length + y240.length < 140737488355328 then (some (l0 ++ y240)) else (none))
theorem pack_four.calls (P0_ : Nat → Prop) (u9000_ : Value) (l0 : List Int) (a1 : Int) (r : List Int) (w0 w : World) (hB : Below w0.heap.size w0 w) (ho0 : Kd.R (Kd.int .u8) 5 w w0.heap.size P0_ u9000_ l0) (h : pack_four.f l0 a1 = some r) :
    Calls Tryz.prog 68 #[u9000_, .int .u32 a1] w fun e w' => ∃ v0_ : Value, e = .returned (v0_) ∧ Kd.R (Kd.int .u8) 5 w' w0.heap.size (fun k_ => (P0_ k_ ∨ w.heap.size ≤ k_)) v0_ r ∧ Below w0.heap.size w0 w' ∧ Kept w w' (fun k_ => P0_ k_) := by
  have HO0 := Aside0.mk (show Kd.R (Kd.int .u8) 5 w w0.heap.size (fun k_ => (P0_ k_ ∨ w.heap.size ≤ k_)) u9000_ l0 from Kd.R_mono ho0 (fun k_ hk => (.inl hk)))
  have HK := Aside0.mk (Kept.refl w (fun k_ => P0_ k_))
  have HW0 := Aside0.mk hB.size
  have HB := Aside0.mk hB
  clear hB
  have H : ((some (([(a1) % 256, (a1 / 256) % 256, (a1 / 65536) % 256, (a1 / 16777216) % 256] : List Int) : List Int)).bind fun y240 => (if l0.length + y240.length < 140737488355328 then (some (l0 ++ y240)) else (none))) = some r := h
  clear h
  obtain ⟨y240, hy240⟩ : ∃ y_ : List Int, y_ = (([(a1) % 256, (a1 / 256) % 256, (a1 / 65536) % 256, (a1 / 16777216) % 256] : List Int)) := ⟨_, rfl⟩
  replace H : (if l0.length + y240.length < 140737488355328 then (some (l0 ++ y240)) else (none)) = some r := by first | (rw [hy240]; with_reducible exact H) | (have H2_ := (Option.bind_some _ _).symm.trans H; rw [hy240]; with_reducible exact H2_) | (have H2_ := (Option.bind_some _ _).symm.trans H; with_reducible exact H2_) | with_reducible exact H | (rw [hy240]; exact H) | exact H
  have Ny240 := Aside0.mk hy240
  clear hy240
  by_cases c3 : l0.length + y240.length < 140737488355328
  · rw [if_pos c3] at H
    have LMc3 := Aside0.mk c3
    clear c3
    obtain ⟨y243, hy243⟩ : ∃ y_ : List Int, y_ = (l0 ++ y240) := ⟨_, rfl⟩
    replace H : (some y243) = some r := by first | (rw [hy243]; with_reducible exact H) | (have H2_ := (Option.bind_some _ _).symm.trans H; rw [hy243]; with_reducible exact H2_) | (have H2_ := (Option.bind_some _ _).symm.trans H; with_reducible exact H2_) | with_reducible exact H | (rw [hy243]; exact H) | exact H
    have Ny243 := Aside0.mk hy243
    clear hy243
    obtain rfl := Option.some.inj H
    go_enter Tryz.func68, Tryz.ntmps68
    go_wp2_with (first | ((with_reducible refine gate_dst (N := 17) rfl ?_); refine Kd.R_lit (Kd.int .u8) _ 5 ?hg (N := 17) ?hd (xs := ([(a1) % 256, (a1 / 256) % 256, (a1 / 65536) % 256, (a1 / 16777216) % 256] : List Int)) (inner := [.int .u8 ((a1) % 256), .int .u8 ((a1 / 256) % 256), .int .u8 ((a1 / 65536) % 256), .int .u8 ((a1 / 16777216) % 256)]) (ok := fun _ => True) (okp := fun _ => True) ?hr ?hp (fun _ hk => hk) trivial (Below.refl _ _) (Nat.le_refl _) (by simp) ?_; (case hd => rfl); (case hg => rfl); (case hr => first | (go_simp; done) | (go_simp; rfl)); (case hp => exact (Reps.one (show Kd.M (Kd.int .u8) _ _ _ ((a1) % 256) [.int .u8 ((a1) % 256)] from rfl) (Reps.one (show Kd.M (Kd.int .u8) _ _ _ ((a1 / 256) % 256) [.int .u8 ((a1 / 256) % 256)] from rfl) (Reps.one (show Kd.M (Kd.int .u8) _ _ _ ((a1 / 65536) % 256) [.int .u8 ((a1 / 65536) % 256)] from rfl) (Reps.one (show Kd.M (Kd.int .u8) _ _ _ ((a1 / 16777216) % 256) [.int .u8 ((a1 / 16777216) % 256)] from rfl) (Reps.none _ _)))))); intro v241 w4 ho5 hb hg_ hnew_; clear hg_ hnew_; (first | rw [← Ny240.out] at ho5 | (simp only [Int.reduceToNat] at ho5; rw [← Ny240.out] at ho5)); have n0_ := Aside0.mk (Kd.R_elder' (by (with_reducible repeat (first | apply Kd.R_alloc | apply Kd.R_drewN | apply Kd.R_drew)); exact HO0.out) (Kd.R_base ho5) hb); have n1_ := Aside0.mk (Kd.R_lower (Kd.R_new' (Kd.R_newM (M := fun k_ => (P0_ k_ ∨ w.heap.size ≤ k_)) ho5 (by first | exact HK.out.1 | exact (show Kept w _ (fun k_ => P0_ k_) from by repeat (first | (with_reducible first | exact HK.out | apply Kept.alloc | apply Kept.drewN | apply Kept.drew) | exact HK.out)).1) (fun k_ h_ => .inr h_)) (Kd.R_lt (by (with_reducible repeat (first | apply Kd.R_alloc | apply Kd.R_drewN | apply Kd.R_drew)); exact HO0.out))) (below_size (by repeat (first | (with_reducible first | exact HB.out | apply below_alloc | apply pw_below_drewN | apply below_drew1) | exact HB.out)))); have n2_ := Aside0.mk (Kept.below (S := (fun k_ => P0_ k_)) (by repeat (first | (with_reducible first | exact HK.out | apply Kept.alloc | apply Kept.drewN | apply Kept.drew) | exact HK.out)) hb); have n3_ := Aside0.mk (below_step (by repeat (first | (with_reducible first | exact HB.out | apply below_alloc | apply pw_below_drewN | apply below_drew1) | exact HB.out)) hb); clear HO0; clear HK; clear HB; have HO0 := n0_; have HO242 := n1_; have HK := n2_; have HB := n3_; clear n0_ n1_ n2_ n3_; clear hb ho5; obtain ⟨Ao7, co7, eo7⟩ := Kd.R_slice HO242.out; subst eo7) | ((with_reducible refine gate_builtin (b := .append) (xs := #[.tmp 5, .tmp 17]) rfl ?_); at_builtin; refine Kd.R_append_rows (Kd.int .u8) (w0 := w0) w0.heap.size rfl (.tmp 5) (.tmp 17) 22 5 (.int .u8 0) 1 rfl Tryz.underlying22 info5 rfl (by decide) (by omega) u9000_ l0 y240 _ _ _ (fun k_ => (P0_ k_ ∨ w.heap.size ≤ k_) ∧ some k_ ≠ (.slice Ao7 y240.length co7 : Value).ownBlock) (fun _ => False) rfl rfl ?aO ?aR (fun _ _ h => h) (fun _ h => h.elim) ?aF ?aB ?aS ?aL ?_; (case aR => repeat (first | exact (Kd.R_reads' HO242.out).2.2 | (with_reducible refine Kd.C_alloc ?_ _) | (with_reducible refine Kd.C_drewN ?_ _) | (with_reducible refine Kd.C_drew ?_))); (case aB => exact (by repeat (first | (with_reducible first | exact HB.out | apply below_alloc | apply pw_below_drewN | apply below_drew1) | exact HB.out))); (case aF => exact (fun k_ hk => ⟨(.inr (Nat.le_trans (by first | exact HK.out.1 | exact (show Kept w _ (fun k_ => P0_ k_) from by repeat (first | (with_reducible first | exact HK.out | apply Kept.alloc | apply Kept.drewN | apply Kept.drew) | exact HK.out)).1) hk)), Kd.fresh' (Kd.R_lt (by (with_reducible repeat (first | apply Kd.R_alloc | apply Kd.R_drewN | apply Kd.R_drew)); exact HO242.out)) k_ hk⟩)); (case aO => exact (by (with_reducible repeat (first | apply Kd.R_alloc | apply Kd.R_drewN | apply Kd.R_drew)); exact HO0.out)); (case aS => exact (below_size (by repeat (first | (with_reducible first | exact HB.out | apply below_alloc | apply pw_below_drewN | apply below_drew1) | exact HB.out)))); (case aL => have := LMc3.out; omega); intro v244 w6 ho hb hg hat; rw [← Ny243.out] at ho; have n0_ := Aside0.mk (Kd.R_after (ok := (fun k_ => (P0_ k_ ∨ w.heap.size ≤ k_))) (by (with_reducible repeat (first | apply Kd.R_alloc | apply Kd.R_drewN | apply Kd.R_drew)); exact Kd.R_mono HO242.out (fun _ hk => ⟨hk.1.1, hk.2⟩)) hg hat); have n1_ := Aside0.mk (hb); have n2_ := Aside0.mk (Kept.of_grown (S := (fun k_ => P0_ k_)) hg (by repeat (first | (with_reducible first | exact HK.out | apply Kept.alloc | apply Kept.drewN | apply Kept.drew) | exact HK.out)) (fun k_ e_ => (HO0.out.1 k_ e_).1)); have n3_ := Aside0.mk (ho); clear HO242; clear HB; clear HK; clear HO0; have HO242 := n0_; have HB := n1_; have HK := n2_; have HO245 := n3_; clear n0_ n1_ n2_ n3_; clear ho hb hg hat))
    go_ret
    exact ⟨_, by first | rfl | (simp [errW_none, errW_some] <;> rfl) | (simp [*, errW_none, errW_some] <;> rfl), by (with_reducible repeat (first | apply Kd.R_alloc | apply Kd.R_drewN | apply Kd.R_drew)); exact Kd.R_mono HO245.out (fun _ hk => hk.1), by repeat (first | (with_reducible first | exact HB.out | apply below_alloc | apply pw_below_drewN | apply below_drew1) | exact HB.out), by repeat (first | (with_reducible first | exact HK.out | apply Kept.alloc | apply Kept.drewN | apply Kept.drew) | exact HK.out)⟩
  · rw [if_neg c3] at H
    exact absurd H (by simp)
end
section
attribute [local go_sem] max2_int min2_int max_two min_two max_three min_three max_four min_four   -- for this text's walks alone
def pack_Record.f (k : Nat) (l0 : List Int) : Option (List Int) := (pack_four.f ([] : List Int) (((l0.length : Int)) % 4294967296)).bind fun t246 => ((pack_Sum.f k l0).bind fun t249 => ((pack_four.f t246 t249).bind fun t250 => (if t250.length + l0.length < 140737488355328 then (some (t250 ++ l0)) else (none))))
theorem pack_Record.mono : ∀ a0 k, LeO (pack_Record.f k a0) (pack_Record.f (k + 1) a0) := by
  intro a0 k
  unfold pack_Record.f
  repeat' first
      | (with_reducible exact pack_Sum.mono _ _)
      | (with_reducible exact LeO.refl _)
      | (with_reducible exact LeO.none _)
      | (with_reducible refine LeO.ite ?_ ?_)
      | (with_reducible refine LeO.bind ?_ (fun _ => ?_))
      | exact pack_Sum.mono _ _
      | exact LeO.none _
      | refine LeO.ite ?_ ?_
      | refine LeO.bind ?_ (fun _ => ?_)
theorem pack_Record.calls (k : Nat) (A0 : Option Addr) (c0 : Nat) (l0 : List Int) (r : List Int) (w : World) (hr0 : Kd.C (Kd.int .u8) w A0 l0.length l0) (hc0 : l0.length ≤ c0) (h : pack_Record.f k l0 = some r) :
    Calls Tryz.prog 46 #[.slice A0 l0.length c0] w fun e w' => ∃ v0_ : Value, e = .returned (v0_) ∧ Kd.R (Kd.int .u8) 5 w' w.heap.size (fun _ => True) v0_ r ∧ Below w.heap.size w w' := by
  have HR0 := Aside0.mk hr0
  have HC0 := Aside0.mk hc0
  clear hr0 hc0
  have HB := Aside0.mk (Below.refl w.heap.size w)
  have H : ((pack_four.f ([] : List Int) (((l0.length : Int)) % 4294967296)).bind fun t246 => ((pack_Sum.f k l0).bind fun t249 => ((pack_four.f t246 t249).bind fun t250 => (if t250.length + l0.length < 140737488355328 then (some (t250 ++ l0)) else (none))))) = some r := h
  clear h
  replace H := Option.bind_eq_some_iff.mp H
  obtain ⟨t246, A20, H⟩ := H
  replace H : ((pack_Sum.f k l0).bind fun t249 => ((pack_four.f t246 t249).bind fun t250 => (if t250.length + l0.length < 140737488355328 then (some (t250 ++ l0)) else (none)))) = some r := H
  have A2 := Aside0.mk A20
  clear A20
  replace H := Option.bind_eq_some_iff.mp H
  obtain ⟨t249, A30, H⟩ := H
  replace H : ((pack_four.f t246 t249).bind fun t250 => (if t250.length + l0.length < 140737488355328 then (some (t250 ++ l0)) else (none))) = some r := H
  have A3 := Aside0.mk A30
  clear A30
  replace H := Option.bind_eq_some_iff.mp H
  obtain ⟨t250, A40, H⟩ := H
  replace H : (if t250.length + l0.length < 140737488355328 then (some (t250 ++ l0)) else (none)) = some r := H
  have A4 := Aside0.mk A40
  clear A40
  by_cases c5 : t250.length + l0.length < 140737488355328
  · rw [if_pos c5] at H
    have LMc5 := Aside0.mk c5
    clear c5
    obtain ⟨y253, hy253⟩ : ∃ y_ : List Int, y_ = (t250 ++ l0) := ⟨_, rfl⟩
    replace H : (some y253) = some r := by first | (rw [hy253]; with_reducible exact H) | (have H2_ := (Option.bind_some _ _).symm.trans H; rw [hy253]; with_reducible exact H2_) | (have H2_ := (Option.bind_some _ _).symm.trans H; with_reducible exact H2_) | with_reducible exact H | (rw [hy253]; exact H) | exact H
    have Ny253 := Aside0.mk hy253
    clear hy253
    obtain rfl := Option.some.inj H
    go_enter Tryz.func46, Tryz.ntmps46
    go_wp2_with (first | ((with_reducible refine gate_callee (f := 68) rfl ?_); refine goesL_ (some 6) rfl rfl Tryz.func68 (by kernel_rfl) rfl #[.slice none 0 0, .int .u32 (((l0.length : Int)) % 4294967296)] rfl (by (try simp only [List.map_toArray, List.map_cons, List.map_nil]); first | done | rfl | (simp only [List.length_drop, List.length_take]; rfl)) ?_; (refine (pack_four.calls (fun k_ => some k_ = (.slice none 0 0 : Value).ownBlock) (.slice none 0 0) ([] : List Int) (((l0.length : Int)) % 4294967296) t246 w _ ?side1 ?side2 A2.out).mono ?_); (case side1 => repeat (first | (with_reducible first | exact HB.out | apply below_alloc | apply pw_below_drewN | apply below_drew1) | exact HB.out)); (case side2 => exact Kd.R_nil _ _ _ _ _); rintro e w6 ⟨v247, rfl, ho0, hb, hkp⟩; refine ⟨_, rfl, ?_⟩; have n0_ := Aside0.mk (Kd.R_mono (ok' := fun k_ => True) ho0 (fun k_ hk_ => trivial)); have n1_ := Aside0.mk (hb); clear HB; have HO248 := n0_; have HB := n1_; clear n0_ n1_; (try clear hb); (try clear hkp); (try clear ho0)) | ((with_reducible refine gate_callee (f := 53) rfl ?_); refine goesL_ (some 8) rfl rfl Tryz.func53 (by kernel_rfl) rfl #[.slice A0 l0.length c0] rfl (by (try simp only [List.map_toArray, List.map_cons, List.map_nil]); first | done | rfl | (simp only [List.length_drop, List.length_take]; rfl)) ?_; (with_reducible refine (pack_Sum.calls k _ _ l0 t249 _ ?side1 ?side2 A3.out).mono ?_); (case side1 => repeat (first | exact (Kd.C_below HR0.out HB.out) | (with_reducible refine Kd.C_alloc ?_ _) | (with_reducible refine Kd.C_drewN ?_ _) | (with_reducible refine Kd.C_drew ?_))); (case side2 => exact HC0.out); rintro e w' ⟨rfl, ⟨nd, rfl⟩⟩; refine ⟨_, rfl, ?_⟩; obtain ⟨Ao7, co7, eo7⟩ := Kd.R_slice HO248.out; subst eo7) | ((with_reducible refine gate_callee (f := 68) rfl ?_); refine goesL_ (some 9) rfl rfl Tryz.func68 (by kernel_rfl) rfl #[.slice Ao7 t246.length co7, .int .u32 t249] rfl (by (try simp only [List.map_toArray, List.map_cons, List.map_nil]); first | done | rfl | (simp only [List.length_drop, List.length_take]; rfl)) ?_; (with_reducible refine (pack_four.calls (fun k_ => some k_ = (.slice Ao7 t246.length co7 : Value).ownBlock) (.slice Ao7 t246.length co7) t246 t249 t250 w _ ?side1 ?side2 A4.out).mono ?_); (case side1 => repeat (first | (with_reducible first | exact HB.out | apply below_alloc | apply pw_below_drewN | apply below_drew1) | exact HB.out)); (case side2 => exact Kd.R_tight rfl HO248.out); rintro e w8 ⟨v251, rfl, ho0, hb, hkp⟩; refine ⟨_, rfl, ?_⟩; have n0_ := Aside0.mk (Kd.R_mono (ok' := fun k_ => True) ho0 (fun k_ hk_ => trivial)); have n1_ := Aside0.mk (hb); clear HB; clear HO248; have HO252 := n0_; have HB := n1_; clear n0_ n1_; (try clear hb); (try clear hkp); (try clear ho0)) | ((with_reducible refine gate_builtin (b := .append) (xs := #[.tmp 9, .tmp 10]) rfl ?_); at_builtin; refine Kd.R_append_rows (Kd.int .u8) (w0 := w) w.heap.size rfl (.tmp 9) (.tmp 10) 22 5 (.int .u8 0) 1 rfl Tryz.underlying22 info5 rfl (by decide) (by omega) v251 t250 l0 _ _ _ (fun _ => True) (fun _ => False) rfl rfl ?aO ?aR (fun _ _ h => h) (fun _ h => h.elim) ?aF ?aB ?aS ?aL ?_; (case aR => repeat (first | exact (Kd.C_below HR0.out HB.out) | (with_reducible refine Kd.C_alloc ?_ _) | (with_reducible refine Kd.C_drewN ?_ _) | (with_reducible refine Kd.C_drew ?_))); (case aB => exact (by repeat (first | (with_reducible first | exact HB.out | apply below_alloc | apply pw_below_drewN | apply below_drew1) | exact HB.out))); (case aF => exact (fun _ _ => trivial)); (case aO => exact (by (with_reducible repeat (first | apply Kd.R_alloc | apply Kd.R_drewN | apply Kd.R_drew)); exact HO252.out)); (case aS => exact (below_size (by repeat (first | (with_reducible first | exact HB.out | apply below_alloc | apply pw_below_drewN | apply below_drew1) | exact HB.out)))); (case aL => have := LMc5.out; omega); intro v254 w9 ho hb hg hat; rw [← Ny253.out] at ho; have n0_ := Aside0.mk (hb); have n1_ := Aside0.mk (ho); clear HB; clear HO252; have HB := n0_; have HO255 := n1_; clear n0_ n1_; clear ho hb hg hat))
    go_ret
    exact ⟨_, by first | rfl | (simp [errW_none, errW_some] <;> rfl) | (simp [*, errW_none, errW_some] <;> rfl), by (with_reducible repeat (first | apply Kd.R_alloc | apply Kd.R_drewN | apply Kd.R_drew)); exact HO255.out, by repeat (first | (with_reducible first | exact HB.out | apply below_alloc | apply pw_below_drewN | apply below_drew1) | exact HB.out)⟩
  · rw [if_neg c5] at H
    exact absurd H (by simp)
end
section
attribute [local go_sem] max2_int min2_int max_two min_two max_three min_three max_four min_four   -- for this text's walks alone
def pack_get.f (l0 : List Int) : Option (Int) := if 0 < (l0.length : Int) then (if 1 < (l0.length : Int) then (if 2 < (l0.length : Int) then (if 3 < (l0.length : Int) then (some (Go.bits .or .u32 (Go.bits .or .u32 (Go.bits .or .u32 ((rd l0 0) % 4294967296) ((((rd l0 1) % 4294967296) * 256) % 4294967296)) ((((rd l0 2) % 4294967296) * 65536) % 4294967296)) ((((rd l0 3) % 4294967296) * 16777216) % 4294967296))) else (none)) else (none)) else (none)) else (none)
theorem pack_get.calls (A0 : Option Addr) (c0 : Nat) (l0 : List Int) (r : Int) (w : World) (hr0 : Kd.C (Kd.int .u8) w A0 l0.length l0) (hc0 : l0.length ≤ c0) (h : pack_get.f l0 = some r) :
    Calls Tryz.prog 52 #[.slice A0 l0.length c0] w fun e w' => e = .returned (.int .u32 r) ∧ Drawn0 w w' := by
  have HR0 := Aside0.mk hr0
  have HC0 := Aside0.mk hc0
  clear hr0 hc0
  have H : (if 0 < (l0.length : Int) then (if 1 < (l0.length : Int) then (if 2 < (l0.length : Int) then (if 3 < (l0.length : Int) then (some (Go.bits .or .u32 (Go.bits .or .u32 (Go.bits .or .u32 ((rd l0 0) % 4294967296) ((((rd l0 1) % 4294967296) * 256) % 4294967296)) ((((rd l0 2) % 4294967296) * 65536) % 4294967296)) ((((rd l0 3) % 4294967296) * 16777216) % 4294967296))) else (none)) else (none)) else (none)) else (none)) = some r := h
  clear h
  by_cases c2 : 0 < (l0.length : Int)
  · rw [if_pos c2] at H
    have c2b0 : decide (0 < (l0.length : Int)) = true := decide_eq_true c2
    have c2b1 : decide (0 < l0.length) = true := decide_eq_true (by omega)
    clear c2
    by_cases c3 : 1 < (l0.length : Int)
    · rw [if_pos c3] at H
      have c3b0 : decide (1 < (l0.length : Int)) = true := decide_eq_true c3
      have c3b1 : decide (1 < l0.length) = true := decide_eq_true (by omega)
      clear c3
      by_cases c4 : 2 < (l0.length : Int)
      · rw [if_pos c4] at H
        have c4b0 : decide (2 < (l0.length : Int)) = true := decide_eq_true c4
        have c4b1 : decide (2 < l0.length) = true := decide_eq_true (by omega)
        clear c4
        by_cases c5 : 3 < (l0.length : Int)
        · rw [if_pos c5] at H
          have c5b0 : decide (3 < (l0.length : Int)) = true := decide_eq_true c5
          have c5b1 : decide (3 < l0.length) = true := decide_eq_true (by omega)
          clear c5
          obtain rfl := Option.some.inj H
          have p101 : 0 ≤ (0 : Int) := (by omega)
          have q101 : 0 < (l0.length : Int) := of_decide_eq_true (by first | (with_reducible assumption) | assumption)
          obtain ⟨ad101, e101, hx101_0⟩ := Kd.at_int HR0.out 0 p101 q101
          cases e101
          have qi101 : (0 < l0.length) = True := eq_true (by omega)
          (try rw [show ((0 : Int)).toNat = 0 from rfl] at hx101_0)
          (try rw [Addr.add_zero'] at hx101_0)
          replace p101 := eq_true p101
          replace q101 := eq_true q101
          have p102 : 0 ≤ (1 : Int) := (by omega)
          have q102 : 1 < (l0.length : Int) := of_decide_eq_true (by first | (with_reducible assumption) | assumption)
          obtain ⟨ad102, e102, hx102_0⟩ := Kd.at_int HR0.out 1 p102 q102
          obtain rfl : ad101 = ad102 := (by injection e102)
          (try simp only [show (1 : Int).toNat = 1 from rfl, Nat.reduceMul, Nat.reduceEqDiff, Go.Addr.add, ↓reduceIte] at hx102_0)
          have qi102 : (1 < l0.length) = True := eq_true (by omega)
          (try rw [show ((1 : Int)).toNat = 1 from rfl] at hx102_0)
          replace p102 := eq_true p102
          replace q102 := eq_true q102
          have p103 : 0 ≤ (2 : Int) := (by omega)
          have q103 : 2 < (l0.length : Int) := of_decide_eq_true (by first | (with_reducible assumption) | assumption)
          obtain ⟨ad103, e103, hx103_0⟩ := Kd.at_int HR0.out 2 p103 q103
          obtain rfl : ad101 = ad103 := (by injection e103)
          (try simp only [show (2 : Int).toNat = 2 from rfl, Nat.reduceMul, Nat.reduceEqDiff, Go.Addr.add, ↓reduceIte] at hx103_0)
          have qi103 : (2 < l0.length) = True := eq_true (by omega)
          (try rw [show ((2 : Int)).toNat = 2 from rfl] at hx103_0)
          replace p103 := eq_true p103
          replace q103 := eq_true q103
          have p104 : 0 ≤ (3 : Int) := (by omega)
          have q104 : 3 < (l0.length : Int) := of_decide_eq_true (by first | (with_reducible assumption) | assumption)
          obtain ⟨ad104, e104, hx104_0⟩ := Kd.at_int HR0.out 3 p104 q104
          obtain rfl : ad101 = ad104 := (by injection e104)
          (try simp only [show (3 : Int).toNat = 3 from rfl, Nat.reduceMul, Nat.reduceEqDiff, Go.Addr.add, ↓reduceIte] at hx104_0)
          have qi104 : (3 < l0.length) = True := eq_true (by omega)
          (try rw [show ((3 : Int)).toNat = 3 from rfl] at hx104_0)
          replace p104 := eq_true p104
          replace q104 := eq_true q104
          go_enter Tryz.func52, Tryz.ntmps52
          go_wp2
          repeat (go_quiet (fail); try go_wp2)
          go_ret
          exact ⟨by first | rfl | (simp; done) | (simp [*]; done), by repeat (first | exact Drawn0.refl _ | apply Drawn0.step)⟩
        · rw [if_neg c5] at H
          exact absurd H (by simp)
      · rw [if_neg c4] at H
        exact absurd H (by simp)
    · rw [if_neg c3] at H
      exact absurd H (by simp)
  · rw [if_neg c2] at H
    exact absurd H (by simp)
end
theorem cloneInfo : (Tryz.prog.info? 5).map (fun i => (i.zero, i.size, i.bytes)) = some (some (.int .u8 0), 1, 1) := by kernel_rfl
def slices_Clone_byte_byte.f (l0 : List Int) : Option (List Int) := if l0.length < 140737488355328 then some l0 else none
theorem slices_Clone_byte_byte.calls (A0 : Option Addr) (c0 : Nat) (l0 : List Int) (r : List Int) (w : World) (hr0 : Kd.C (Kd.int .u8) w A0 l0.length l0) (_hc0 : l0.length ≤ c0) (h : slices_Clone_byte_byte.f l0 = some r) :
    Calls Tryz.prog 34 #[.slice A0 l0.length c0] w fun e w' => ∃ v0_ : Value, e = .returned (v0_) ∧ Kd.R (Kd.int .u8) 5 w' w.heap.size (fun _ => True) v0_ r ∧ Below w.heap.size w w' := by
  have hl : l0.length < 140737488355328 := by
    unfold slices_Clone_byte_byte.f at h; split at h
    · assumption
    · cases h
  obtain rfl : l0 = r := by
    unfold slices_Clone_byte_byte.f at h; rw [if_pos hl] at h; exact Option.some.inj h
  clear h
  have HL := Aside0.mk hl
  clear hl
  cases A0 with
  | none =>
    have h0 : l0 = [] := by
      have := hr0.2.2
      cases l0 with
      | nil => rfl
      | cons x xs => obtain ⟨ad, e, _⟩ := this (by simp); cases e
    subst h0
    clear hr0
    have hq := Lib.run_eql_slice_nil (P := Tryz.prog) w 22 5 none 0 c0 0 0 Tryz.underlying22
    simp only [List.length_nil]
    go_enter Tryz.func34, Tryz.ntmps34
    go_wp2
    go_ret
    exact ⟨_, rfl, Kd.R_nil _ _ _ _ _, Below.refl _ _⟩
  | some a =>
    have HR := Aside0.mk hr0
    clear hr0
    have hq := Lib.run_eql_slice_nil (P := Tryz.prog) w 22 5 (some a) l0.length c0 0 0 Tryz.underlying22
    have HB := Aside0.mk (Below.refl w.heap.size w)
    go_enter Tryz.func34, Tryz.ntmps34
    go_wp2_with (first
      | ((with_reducible refine gate_dst (N := 5) rfl ?_); refine Kd.R_lit (Kd.int .u8) _ 5 ?hg (N := 5) ?hd (xs := ([] : List Int)) (inner := []) (ok := fun _ => True) (okp := fun _ => True) ?hr ?hp (fun _ hk => hk) trivial HB.out (Nat.le_refl _) (by simp) ?_; (case hd => rfl); (case hg => rfl); (case hr => first | (go_simp; done) | (go_simp; rfl)); (case hp => exact Reps.none _ _); intro v1 w1 ho hb hg_ hnew_; have HO := Aside0.mk ho; have HB1 := Aside0.mk hb; clear ho hb hg_ hnew_)
      | ((with_reducible refine gate_builtin (b := .append) (xs := #[.tmp 5, .tmp 6]) rfl ?_); at_builtin; refine Kd.R_append_rows (Kd.int .u8) (w0 := w) w.heap.size rfl (.tmp 5) (.tmp 6) 22 5 (.int .u8 0) 1 rfl Tryz.underlying22 cloneInfo rfl (by decide) (by omega) _ [] l0 _ _ _ (fun _ => True) (fun _ => False) rfl rfl ?aO ?aR (fun _ _ h => h) (fun _ h => h.elim) (fun _ _ => trivial) ?aB ?aS ?aL ?_; (case aO => exact HO.out); (case aR => exact Kd.C_below HR.out HB1.out); (case aB => exact HB1.out); (case aS => exact HB1.out.size); (case aL => have := HL.out; simp; omega); intro v2 w2 ho hb hg hat; simp only [List.nil_append] at ho; have HO2 := Aside0.mk ho; have HB2 := Aside0.mk hb; clear ho hb hg hat))
    go_ret
    exact ⟨_, rfl, HO2.out, HB2.out⟩
theorem clone_bytes (A0 : Option Addr) (c0 : Nat) (l : List Int) (w : World) (hr : Kd.C (Kd.int .u8) w A0 l.length l) (hc : l.length ≤ c0) (hl : l.length < 140737488355328) :
    Calls Tryz.prog 34 #[.slice A0 l.length c0] w fun e w' => ∃ A' c', e = .returned (.slice A' l.length c') ∧ Kd.R (Kd.int .u8) 5 w' w.heap.size (fun _ => True) (.slice A' l.length c') l ∧ Below w.heap.size w w' := by
  refine (slices_Clone_byte_byte.calls A0 c0 l l w hr hc (by unfold slices_Clone_byte_byte.f; rw [if_pos hl])).mono ?_
  rintro e w' ⟨v, rfl, h, hb⟩
  obtain ⟨A', c', rfl⟩ := Kd.R_slice h
  exact ⟨A', c', rfl, h, hb⟩
section
attribute [local go_sem] max2_int min2_int max_two min_two max_three min_three max_four min_four   -- for this text's walks alone
def pack_Split.j0 : Nat → List Int → Int → Bool → Option (List Int × Int × Bool)
  | 0, _, _, _ => none
  | k + 1, x0, x5, x21 => if x21 = true then (some (([] : List Int), 0, false)) else (if 8 ≤ (wrap64 (8 + x5)) then (if (wrap64 (8 + x5)) ≤ (x0.length : Int) then ((some ((x0.take ((wrap64 (8 + x5)) : Int).toNat).drop 8 : List Int)).bind fun y107 => ((pack_Sum.f k y107).bind fun t111 => (if 4 ≤ (x0.length : Int) then ((pack_get.f (x0.drop 4)).bind fun t116 => (if t111 = t116 then ((slices_Clone_byte_byte.f y107).bind fun t117 => (some (t117, wrap64 (8 + x5), true))) else (some (([] : List Int), 0, false)))) else (none)))) else (none)) else (none))
def pack_Split.f (k : Nat) (l0 : List Int) : Option (List Int × Int × Bool) := if (l0.length : Int) < 8 then (some (([] : List Int), 0, false)) else ((pack_get.f l0).bind fun t106 => (if (wrap64 (t106)) > 1073741824 then (pack_Split.j0 k l0 (wrap64 (t106)) true) else (pack_Split.j0 k l0 (wrap64 (t106)) (decide ((wrap64 (t106)) > (wrap64 ((l0.length : Int) - 8)))))))
theorem pack_Split.mono_l : ∀ k, (∀ y0 y1 y2, LeO (pack_Split.j0 k y0 y1 y2) (pack_Split.j0 (k + 1) y0 y1 y2))
  | 0 => fun _ _ _ r h => by simp [pack_Split.j0] at h
  | k + 1 => by
    have ih0 := pack_Split.mono_l k
    · intro y0 y1 y2
      unfold pack_Split.j0
      repeat' first
      | (with_reducible exact ih0 _ _ _)
      | (with_reducible exact pack_Sum.mono _ _)
      | (with_reducible exact LeO.refl _)
      | (with_reducible exact LeO.none _)
      | (with_reducible refine LeO.ite ?_ ?_)
      | (with_reducible refine LeO.bind ?_ (fun _ => ?_))
      | exact ih0 _ _ _
      | exact pack_Sum.mono _ _
      | exact LeO.none _
      | refine LeO.ite ?_ ?_
      | refine LeO.bind ?_ (fun _ => ?_)
theorem pack_Split.mono : ∀ a0 k, LeO (pack_Split.f k a0) (pack_Split.f (k + 1) a0) := by
  intro a0 k
  have ih0 := pack_Split.mono_l k
  unfold pack_Split.f
  repeat' first
      | (with_reducible exact ih0 _ _ _)
      | (with_reducible exact pack_Sum.mono _ _)
      | (with_reducible exact LeO.refl _)
      | (with_reducible exact LeO.none _)
      | (with_reducible refine LeO.ite ?_ ?_)
      | (with_reducible refine LeO.bind ?_ (fun _ => ?_))
      | exact ih0 _ _ _
      | exact pack_Sum.mono _ _
      | exact LeO.none _
      | refine LeO.ite ?_ ?_
      | refine LeO.bind ?_ (fun _ => ?_)
theorem pack_Split.calls (k : Nat) (A0 : Option Addr) (c0 : Nat) (l0 : List Int) (r1 : List Int) (r2 : Int) (r3 : Bool) (w : World) (hr0 : Kd.C (Kd.int .u8) w A0 l0.length l0) (hc0 : l0.length ≤ c0) (h : pack_Split.f k l0 = some (r1, r2, r3)) :
    Calls Tryz.prog 32 #[.slice A0 l0.length c0] w fun e w' => ∃ v0_ : Value, e = .returned (.tuple #[v0_, .int .i64 r2, .bool r3]) ∧ Kd.R (Kd.int .u8) 5 w' w.heap.size (fun _ => True) v0_ r1 ∧ Below w.heap.size w w' := by
  have HR0 := Aside0.mk hr0
  have HC0 := Aside0.mk hc0
  clear hr0 hc0
  have HB := Aside0.mk (Below.refl w.heap.size w)
  have H : (if (l0.length : Int) < 8 then (some (([] : List Int), 0, false)) else ((pack_get.f l0).bind fun t106 => (if (wrap64 (t106)) > 1073741824 then (pack_Split.j0 k l0 (wrap64 (t106)) true) else (pack_Split.j0 k l0 (wrap64 (t106)) (decide ((wrap64 (t106)) > (wrap64 ((l0.length : Int) - 8)))))))) = some (r1, r2, r3) := h
  clear h
  by_cases c2 : (l0.length : Int) < 8
  · rw [if_pos c2] at H
    have c2b0 : decide ((l0.length : Int) < 8) = true := decide_eq_true c2
    have c2b1 : decide (l0.length < 8) = true := decide_eq_true (by omega)
    clear c2
    simp only [Option.some.injEq, Prod.mk.injEq] at H
    obtain ⟨rfl, rfl, rfl⟩ := H
    go_enter Tryz.func32, Tryz.ntmps32
    go_wp2
    repeat (go_quiet (fail); try go_wp2)
    go_ret3
    exact ⟨_, by first | rfl | (simp [errW_none, errW_some] <;> rfl) | (simp [*, errW_none, errW_some] <;> rfl), by first | exact Kd.R_nil _ _ _ _ _ | exact Kd.N_nil _ _ _ _ _ | exact Kd.V_nil _ _ _ _ _ | exact Kd.Q_nil _ _ _ _ _ | exact Kd.S_nil _ _ _ _ _, by repeat (first | (with_reducible first | exact HB.out | apply below_alloc | apply pw_below_drewN | apply below_drew1) | exact HB.out)⟩
  · rw [if_neg c2] at H
    have c2b0 : decide ((l0.length : Int) < 8) = false := decide_eq_false c2
    have c2b1 : decide (l0.length < 8) = false := decide_eq_false (by omega)
    clear c2
    replace H := Option.bind_eq_some_iff.mp H
    obtain ⟨t106, A30, H⟩ := H
    replace H : (if (wrap64 (t106)) > 1073741824 then (pack_Split.j0 k l0 (wrap64 (t106)) true) else (pack_Split.j0 k l0 (wrap64 (t106)) (decide ((wrap64 (t106)) > (wrap64 ((l0.length : Int) - 8)))))) = some (r1, r2, r3) := H
    have A3 := Aside0.mk A30
    clear A30
    have HC4 := Aside0.mk H
    clear H
    go_enter Tryz.func32, Tryz.ntmps32
    go_upto_region 4 with (first | (go_at_call 52; (with_reducible refine (pack_get.calls _ _ l0 t106 _ ?side1 ?side2 A3.out).mono ?_); (case side1 => repeat (first | exact HR0.out | (with_reducible refine Kd.C_alloc ?_ _) | (with_reducible refine Kd.C_drewN ?_ _) | (with_reducible refine Kd.C_drew ?_))); (case side2 => exact HC0.out); rintro e w' ⟨rfl, ⟨nd, rfl⟩⟩; (try first | exact ⟨rfl, _, World.drewN_drewN _ _ _⟩ | exact ⟨rfl, _, Eq.trans (World.drewN_drewN _ _ _) (congrArg (World.drewN _) (Nat.add_assoc _ _ _))⟩)))
    repeat (go_quiet (first | (go_at_call 52; (with_reducible refine (pack_get.calls _ _ l0 t106 _ ?side1 ?side2 A3.out).mono ?_); (case side1 => repeat (first | exact HR0.out | (with_reducible refine Kd.C_alloc ?_ _) | (with_reducible refine Kd.C_drewN ?_ _) | (with_reducible refine Kd.C_drew ?_))); (case side2 => exact HC0.out); rintro e w' ⟨rfl, ⟨nd, rfl⟩⟩; (try first | exact ⟨rfl, _, World.drewN_drewN _ _ _⟩ | exact ⟨rfl, _, Eq.trans (World.drewN_drewN _ _ _) (congrArg (World.drewN _) (Nat.add_assoc _ _ _))⟩))); go_upto_region 4 with (first | (go_at_call 52; (with_reducible refine (pack_get.calls _ _ l0 t106 _ ?side1 ?side2 A3.out).mono ?_); (case side1 => repeat (first | exact HR0.out | (with_reducible refine Kd.C_alloc ?_ _) | (with_reducible refine Kd.C_drewN ?_ _) | (with_reducible refine Kd.C_drew ?_))); (case side2 => exact HC0.out); rintro e w' ⟨rfl, ⟨nd, rfl⟩⟩; (try first | exact ⟨rfl, _, World.drewN_drewN _ _ _⟩ | exact ⟨rfl, _, Eq.trans (World.drewN_drewN _ _ _) (congrArg (World.drewN _) (Nat.add_assoc _ _ _))⟩))))
    (try simp only [Act.put, List.setIfInBounds_toArray, List.set_cons_zero, List.set_cons_succ])
    go_cut [21] (fun v21 wc => ∃ (kq : Nat) (x21_3 : Bool), v21 = .bool x21_3 ∧ Aside0 (pack_Split.j0 kq l0 (wrap64 (t106)) x21_3 = some (r1, r2, r3)) ∧ Aside0 (kq ≤ k) ∧ Aside0 (Below w.heap.size w wc))
    case first =>
      have H := HC4.out
      clear HC4
      by_cases c5 : (wrap64 (t106)) > 1073741824
      · rw [if_pos c5] at H
        have c5b0 : decide (1073741824 < (wrap64 (t106))) = true := decide_eq_true c5
        clear c5
        (first | rw [c5b0] | rw [c5b1] | (simp only [i64_w, i32_w]; rw [c5b0]) | skip)
        have H' := Aside0.mk H
        clear H
        go_wp2
        repeat (go_quiet (fail); try go_wp2)
        go_meet
        case rel => exact ⟨_, (true), (by first | rfl | (simp; done) | (simp [*]; done)), H', ⟨by first | omega | exact Nat.le_refl _⟩, ⟨by repeat (first | (with_reducible first | exact HB.out | apply below_alloc | apply pw_below_drewN | apply below_drew1) | exact HB.out)⟩⟩
      · rw [if_neg c5] at H
        have c5b0 : decide (1073741824 < (wrap64 (t106))) = false := decide_eq_false c5
        clear c5
        (first | rw [c5b0] | rw [c5b1] | (simp only [i64_w, i32_w]; rw [c5b0]) | skip)
        have H' := Aside0.mk H
        clear H
        go_wp2
        repeat (go_quiet (fail); try go_wp2)
        go_meet
        case rel => exact ⟨_, (decide ((wrap64 (t106)) > (wrap64 ((l0.length : Int) - 8)))), (by first | rfl | (simp; done) | (simp [*]; done)), H', ⟨by first | omega | exact Nat.le_refl _⟩, ⟨by repeat (first | (with_reducible first | exact HB.out | apply below_alloc | apply pw_below_drewN | apply below_drew1) | exact HB.out)⟩⟩
    case rest =>
      clear HC4
      try clear c2
      try clear c2b0
      try clear c2b1
      try clear p2
      try clear c3
      try clear c5
      try clear c5b0
      try clear c5b1
      obtain ⟨kq, x21_3, rfl, HA, HJ3, HB⟩ := hcut
      cases kq with
      | zero => exact absurd HA.out (by simp [pack_Split.j0])
      | succ kj3 =>
        have H := HA.out
        clear HA
        simp only [pack_Split.j0] at H
        by_cases c6 : x21_3 = true
        · subst c6
          have H1 : (some (([] : List Int), 0, false)) = some (r1, r2, r3) := by rw [if_pos rfl] at H; exact H
          clear H
          have H := H1
          clear H1
          simp only [Option.some.injEq, Prod.mk.injEq] at H
          obtain ⟨rfl, rfl, rfl⟩ := H
          go_wp2
          repeat (go_quiet (fail); try go_wp2)
          go_ret3
          exact ⟨_, by first | rfl | (simp [errW_none, errW_some] <;> rfl) | (simp [*, errW_none, errW_some] <;> rfl), by first | exact Kd.R_nil _ _ _ _ _ | exact Kd.N_nil _ _ _ _ _ | exact Kd.V_nil _ _ _ _ _ | exact Kd.Q_nil _ _ _ _ _ | exact Kd.S_nil _ _ _ _ _, by repeat (first | (with_reducible first | exact HB.out | apply below_alloc | apply pw_below_drewN | apply below_drew1) | exact HB.out)⟩
        · replace c6 := Bool.eq_false_iff.mpr c6
          subst c6
          have H1 : (if 8 ≤ (wrap64 (8 + (wrap64 (t106)))) then (if (wrap64 (8 + (wrap64 (t106)))) ≤ (l0.length : Int) then ((some ((l0.take ((wrap64 (8 + (wrap64 (t106)))) : Int).toNat).drop 8 : List Int)).bind fun y107 => ((pack_Sum.f kj3 y107).bind fun t111 => (if 4 ≤ (l0.length : Int) then ((pack_get.f (l0.drop 4)).bind fun t116 => (if t111 = t116 then ((slices_Clone_byte_byte.f y107).bind fun t117 => (some (t117, wrap64 (8 + (wrap64 (t106))), true))) else (some (([] : List Int), 0, false)))) else (none)))) else (none)) else (none)) = some (r1, r2, r3) := by rw [if_neg (show ¬ (false = true) by decide)] at H; exact H
          clear H
          have H := H1
          clear H1
          by_cases c7 : 8 ≤ (wrap64 (8 + (wrap64 (t106))))
          · rw [if_pos c7] at H
            have c7b0 := eq_true c7
            have c7b1 : decide (8 ≤ (wrap64 (8 + (wrap64 (t106))))) = true := decide_eq_true c7
            by_cases c8 : (wrap64 (8 + (wrap64 (t106)))) ≤ (l0.length : Int)
            · rw [if_pos c8] at H
              have c8b0 := eq_true c8
              have c8b1 : decide ((wrap64 (8 + (wrap64 (t106)))) ≤ (l0.length : Int)) = true := decide_eq_true c8
              obtain ⟨y107, hy107⟩ : ∃ y_ : List Int, y_ = ((l0.take ((wrap64 (8 + (wrap64 (t106)))) : Int).toNat).drop 8) := ⟨_, rfl⟩
              replace H : ((pack_Sum.f kj3 y107).bind fun t111 => (if 4 ≤ (l0.length : Int) then ((pack_get.f (l0.drop 4)).bind fun t116 => (if t111 = t116 then ((slices_Clone_byte_byte.f y107).bind fun t117 => (some (t117, wrap64 (8 + (wrap64 (t106))), true))) else (some (([] : List Int), 0, false)))) else (none))) = some (r1, r2, r3) := by first | (rw [hy107]; with_reducible exact H) | (have H2_ := (Option.bind_some _ _).symm.trans H; rw [hy107]; with_reducible exact H2_) | (have H2_ := (Option.bind_some _ _).symm.trans H; with_reducible exact H2_) | with_reducible exact H | (rw [hy107]; exact H) | exact H
              have Ny107 := Aside0.mk hy107
              clear hy107
              replace H := Option.bind_eq_some_iff.mp H
              obtain ⟨t111, A90, H⟩ := H
              replace H : (if 4 ≤ (l0.length : Int) then ((pack_get.f (l0.drop 4)).bind fun t116 => (if t111 = t116 then ((slices_Clone_byte_byte.f y107).bind fun t117 => (some (t117, wrap64 (8 + (wrap64 (t106))), true))) else (some (([] : List Int), 0, false)))) else (none)) = some (r1, r2, r3) := H
              have A9 := Aside0.mk A90
              clear A90
              by_cases c10 : 4 ≤ (l0.length : Int)
              · rw [if_pos c10] at H
                have c10b0 := eq_true c10
                have c10b1 : decide (4 ≤ (l0.length : Int)) = true := decide_eq_true c10
                clear c10
                obtain ⟨y112, hy112⟩ : ∃ y_ : List Int, y_ = (l0.drop 4) := ⟨_, rfl⟩
                replace H : ((pack_get.f y112).bind fun t116 => (if t111 = t116 then ((slices_Clone_byte_byte.f y107).bind fun t117 => (some (t117, wrap64 (8 + (wrap64 (t106))), true))) else (some (([] : List Int), 0, false)))) = some (r1, r2, r3) := by first | (rw [hy112]; with_reducible exact H) | (have H2_ := (Option.bind_some _ _).symm.trans H; rw [hy112]; with_reducible exact H2_) | (have H2_ := (Option.bind_some _ _).symm.trans H; with_reducible exact H2_) | with_reducible exact H | (rw [hy112]; exact H) | exact H
                have Ny112 := Aside0.mk hy112
                clear hy112
                replace H := Option.bind_eq_some_iff.mp H
                obtain ⟨t116, A110, H⟩ := H
                replace H : (if t111 = t116 then ((slices_Clone_byte_byte.f y107).bind fun t117 => (some (t117, wrap64 (8 + (wrap64 (t106))), true))) else (some (([] : List Int), 0, false))) = some (r1, r2, r3) := H
                have A11 := Aside0.mk A110
                clear A110
                by_cases c12 : t111 = t116
                · rw [if_pos c12] at H
                  have c12b0 : (t111 == t116) = true := beq_iff_eq.mpr c12
                  have c12b1 : (t111 != t116) = false := bne_eq_false_iff_eq.mpr c12
                  clear c12
                  replace H := Option.bind_eq_some_iff.mp H
                  obtain ⟨t117, A130, H⟩ := H
                  replace H : (some (t117, wrap64 (8 + (wrap64 (t106))), true)) = some (r1, r2, r3) := H
                  have A13 := Aside0.mk A130
                  clear A130
                  simp only [Option.some.injEq, Prod.mk.injEq] at H
                  obtain ⟨rfl, rfl, rfl⟩ := H
                  have q14 : ((wrap64 (8 + (wrap64 (t106)))) : Int) ≤ ((l0.length : Int) : Int) := of_decide_eq_true (by first | (with_reducible assumption) | assumption)
                  obtain ⟨i014, hi014, _, hsz14, _⟩ := info_parts info5
                  have hroom14 : l0.length ≤ c0 := HC0.out
                  have hC14 : Kd.C (Kd.int .u8) _ A0 l0.length l0 := HR0.out
                  have ql14 : (8 : Int) ≤ ((wrap64 (8 + (wrap64 (t106)))) : Int) := of_decide_eq_true (by first | (with_reducible assumption) | assumption)
                  have hcut14 := cut_mid (P := Tryz.prog) 22 5 .i64 .i64 Tryz.underlying22 hi014 1 hsz14 A0 l0.length c0 8 (wrap64 (8 + (wrap64 (t106)))) (by omega) ql14 q14 hroom14
                  have hr14 := Kd.C_mid (lo := (8 : Int).toNat) (hi := ((wrap64 (8 + (wrap64 (t106)))) : Int).toNat) (c := c0) hC14 (by omega) (by omega) hroom14
                  obtain ⟨A14, hA14⟩ : ∃ A1, A1 = (if c0 = (8 : Int).toNat then A0 else (A0 : Option Addr).map (·.add ((8 : Int).toNat * 1))) := ⟨_, rfl⟩
                  obtain ⟨c14, hc14⟩ : ∃ c1, c1 = c0 - (8 : Int).toNat := ⟨_, rfl⟩
                  have hy14 : y107.length = ((wrap64 (8 + (wrap64 (t106)))) : Int).toNat - (8 : Int).toNat := (by rw [Ny107.out, List.length_drop, List.length_take] <;> omega)
                  rw [show ((l0).take ((wrap64 (8 + (wrap64 (t106)))) : Int).toNat).drop (8 : Int).toNat = y107 from Ny107.out.symm] at hr14
                  replace hr14 : Kd.C (Kd.int .u8) _ A14 y107.length y107 := (by rw [hA14]; exact hr14)
                  rw [← hy14, ← hA14, ← hc14] at hcut14
                  have HR110 := Aside0.mk hr14
                  have HC110 := Aside0.mk (show y107.length ≤ c14 from by rw [hy14, hc14]; exact Nat.sub_le_sub_right (Nat.le_trans (by omega) hroom14) _)
                  clear hr14 hC14 hroom14 hi014 hsz14 hc14
                  have KY14 := Aside0.mk hy14
                  have KA14 := Aside0.mk hA14
                  clear hy14 hA14
                  replace q14 := eq_true q14
                  go_wp2_with (first | (go_at_call 53; (with_reducible refine (pack_Sum.calls kj3 _ _ y107 t111 _ ?side1 ?side2 A9.out).mono ?_); (case side1 => repeat (first | exact (Kd.C_below HR110.out HB.out) | (with_reducible refine Kd.C_alloc ?_ _) | (with_reducible refine Kd.C_drewN ?_ _) | (with_reducible refine Kd.C_drew ?_))); (case side2 => exact HC110.out); rintro e w' ⟨rfl, ⟨nd, rfl⟩⟩; (try first | exact ⟨rfl, _, World.drewN_drewN _ _ _⟩ | exact ⟨rfl, _, Eq.trans (World.drewN_drewN _ _ _) (congrArg (World.drewN _) (Nat.add_assoc _ _ _))⟩); have q15 : (4 : Int) ≤ ((l0.length : Int) : Int) := of_decide_eq_true (by first | (with_reducible assumption) | assumption); obtain ⟨i015, hi015, _, hsz15, _⟩ := info_parts info5; have hroom15 : l0.length ≤ c0 := HC0.out; have hC15 : Kd.C (Kd.int .u8) _ A0 l0.length l0 := HR0.out; have hcut15 := cut_from (P := Tryz.prog) 22 5 .i64 Tryz.underlying22 hi015 1 hsz15 A0 l0.length c0 4 (by omega) q15; have hr15 := Kd.C_drop (m := (4 : Int).toNat) (c := c0) hC15 (by omega) hroom15; obtain ⟨A15, hA15⟩ : ∃ A1, A1 = (if c0 = (4 : Int).toNat then A0 else (A0 : Option Addr).map (·.add ((4 : Int).toNat * 1))) := ⟨_, rfl⟩; obtain ⟨c15, hc15⟩ : ∃ c1, c1 = c0 - (4 : Int).toNat := ⟨_, rfl⟩; have hy15 : y112.length = l0.length - (4 : Int).toNat := (by rw [Ny112.out, List.length_drop] <;> omega); rw [show (l0).drop (4 : Int).toNat = y112 from Ny112.out.symm] at hr15; replace hr15 : Kd.C (Kd.int .u8) _ A15 y112.length y112 := (by rw [hA15]; exact hr15); rw [← hy15, ← hA15, ← hc15] at hcut15; have HR115 := Aside0.mk hr15; have HC115 := Aside0.mk (show y112.length ≤ c15 from by rw [hy15, hc15]; exact Nat.sub_le_sub_right hroom15 _); clear hr15 hC15 hroom15 hi015 hsz15 hc15; have KY15 := Aside0.mk hy15; have KA15 := Aside0.mk hA15; clear hy15 hA15; replace q15 := eq_true q15) | (go_at_call 52; (with_reducible refine (pack_get.calls _ _ y112 t116 _ ?side1 ?side2 A11.out).mono ?_); (case side1 => repeat (first | exact (Kd.C_below HR115.out (by repeat (first | (with_reducible first | exact HB.out | apply below_alloc | apply pw_below_drewN | apply below_drew1) | exact HB.out))) | (with_reducible refine Kd.C_alloc ?_ _) | (with_reducible refine Kd.C_drewN ?_ _) | (with_reducible refine Kd.C_drew ?_))); (case side2 => exact HC115.out); rintro e w' ⟨rfl, ⟨nd, rfl⟩⟩; (try first | exact ⟨rfl, _, World.drewN_drewN _ _ _⟩ | exact ⟨rfl, _, Eq.trans (World.drewN_drewN _ _ _) (congrArg (World.drewN _) (Nat.add_assoc _ _ _))⟩)) | (go_at_call 34; (with_reducible refine (slices_Clone_byte_byte.calls _ _ y107 t117 _ ?side1 ?side2 A13.out).mono ?_); (case side1 => repeat (first | exact (Kd.C_below HR110.out (by repeat (first | (with_reducible first | exact HB.out | apply below_alloc | apply pw_below_drewN | apply below_drew1) | exact HB.out))) | (with_reducible refine Kd.C_alloc ?_ _) | (with_reducible refine Kd.C_drewN ?_ _) | (with_reducible refine Kd.C_drew ?_))); (case side2 => exact HC110.out); rintro e w16 ⟨v118, rfl, ho0, hb⟩; have n0_ := Aside0.mk (Kd.R_lower ho0 (below_size (by repeat (first | (with_reducible first | exact HB.out | apply below_alloc | apply pw_below_drewN | apply below_drew1) | exact HB.out)))); have n1_ := Aside0.mk (below_step (by repeat (first | (with_reducible first | exact HB.out | apply below_alloc | apply pw_below_drewN | apply below_drew1) | exact HB.out)) hb); clear HB; have HO119 := n0_; have HB := n1_; clear n0_ n1_; (try clear hb); (try clear hb2); (try clear hk); (try clear hi); (try clear ho0)))
                  repeat (go_quiet (first | (go_at_call 53; (with_reducible refine (pack_Sum.calls kj3 _ _ y107 t111 _ ?side1 ?side2 A9.out).mono ?_); (case side1 => repeat (first | exact (Kd.C_below HR110.out HB.out) | (with_reducible refine Kd.C_alloc ?_ _) | (with_reducible refine Kd.C_drewN ?_ _) | (with_reducible refine Kd.C_drew ?_))); (case side2 => exact HC110.out); rintro e w' ⟨rfl, ⟨nd, rfl⟩⟩; (try first | exact ⟨rfl, _, World.drewN_drewN _ _ _⟩ | exact ⟨rfl, _, Eq.trans (World.drewN_drewN _ _ _) (congrArg (World.drewN _) (Nat.add_assoc _ _ _))⟩); have q15 : (4 : Int) ≤ ((l0.length : Int) : Int) := of_decide_eq_true (by first | (with_reducible assumption) | assumption); obtain ⟨i015, hi015, _, hsz15, _⟩ := info_parts info5; have hroom15 : l0.length ≤ c0 := HC0.out; have hC15 : Kd.C (Kd.int .u8) _ A0 l0.length l0 := HR0.out; have hcut15 := cut_from (P := Tryz.prog) 22 5 .i64 Tryz.underlying22 hi015 1 hsz15 A0 l0.length c0 4 (by omega) q15; have hr15 := Kd.C_drop (m := (4 : Int).toNat) (c := c0) hC15 (by omega) hroom15; obtain ⟨A15, hA15⟩ : ∃ A1, A1 = (if c0 = (4 : Int).toNat then A0 else (A0 : Option Addr).map (·.add ((4 : Int).toNat * 1))) := ⟨_, rfl⟩; obtain ⟨c15, hc15⟩ : ∃ c1, c1 = c0 - (4 : Int).toNat := ⟨_, rfl⟩; have hy15 : y112.length = l0.length - (4 : Int).toNat := (by rw [Ny112.out, List.length_drop] <;> omega); rw [show (l0).drop (4 : Int).toNat = y112 from Ny112.out.symm] at hr15; replace hr15 : Kd.C (Kd.int .u8) _ A15 y112.length y112 := (by rw [hA15]; exact hr15); rw [← hy15, ← hA15, ← hc15] at hcut15; have HR115 := Aside0.mk hr15; have HC115 := Aside0.mk (show y112.length ≤ c15 from by rw [hy15, hc15]; exact Nat.sub_le_sub_right hroom15 _); clear hr15 hC15 hroom15 hi015 hsz15 hc15; have KY15 := Aside0.mk hy15; have KA15 := Aside0.mk hA15; clear hy15 hA15; replace q15 := eq_true q15) | (go_at_call 52; (with_reducible refine (pack_get.calls _ _ y112 t116 _ ?side1 ?side2 A11.out).mono ?_); (case side1 => repeat (first | exact (Kd.C_below HR115.out (by repeat (first | (with_reducible first | exact HB.out | apply below_alloc | apply pw_below_drewN | apply below_drew1) | exact HB.out))) | (with_reducible refine Kd.C_alloc ?_ _) | (with_reducible refine Kd.C_drewN ?_ _) | (with_reducible refine Kd.C_drew ?_))); (case side2 => exact HC115.out); rintro e w' ⟨rfl, ⟨nd, rfl⟩⟩; (try first | exact ⟨rfl, _, World.drewN_drewN _ _ _⟩ | exact ⟨rfl, _, Eq.trans (World.drewN_drewN _ _ _) (congrArg (World.drewN _) (Nat.add_assoc _ _ _))⟩)) | (go_at_call 34; (with_reducible refine (slices_Clone_byte_byte.calls _ _ y107 t117 _ ?side1 ?side2 A13.out).mono ?_); (case side1 => repeat (first | exact (Kd.C_below HR110.out (by repeat (first | (with_reducible first | exact HB.out | apply below_alloc | apply pw_below_drewN | apply below_drew1) | exact HB.out))) | (with_reducible refine Kd.C_alloc ?_ _) | (with_reducible refine Kd.C_drewN ?_ _) | (with_reducible refine Kd.C_drew ?_))); (case side2 => exact HC110.out); rintro e w16 ⟨v118, rfl, ho0, hb⟩; have n0_ := Aside0.mk (Kd.R_lower ho0 (below_size (by repeat (first | (with_reducible first | exact HB.out | apply below_alloc | apply pw_below_drewN | apply below_drew1) | exact HB.out)))); have n1_ := Aside0.mk (below_step (by repeat (first | (with_reducible first | exact HB.out | apply below_alloc | apply pw_below_drewN | apply below_drew1) | exact HB.out)) hb); clear HB; have HO119 := n0_; have HB := n1_; clear n0_ n1_; (try clear hb); (try clear hb2); (try clear hk); (try clear hi); (try clear ho0))); try go_wp2_with (first | (go_at_call 53; (with_reducible refine (pack_Sum.calls kj3 _ _ y107 t111 _ ?side1 ?side2 A9.out).mono ?_); (case side1 => repeat (first | exact (Kd.C_below HR110.out HB.out) | (with_reducible refine Kd.C_alloc ?_ _) | (with_reducible refine Kd.C_drewN ?_ _) | (with_reducible refine Kd.C_drew ?_))); (case side2 => exact HC110.out); rintro e w' ⟨rfl, ⟨nd, rfl⟩⟩; (try first | exact ⟨rfl, _, World.drewN_drewN _ _ _⟩ | exact ⟨rfl, _, Eq.trans (World.drewN_drewN _ _ _) (congrArg (World.drewN _) (Nat.add_assoc _ _ _))⟩); have q15 : (4 : Int) ≤ ((l0.length : Int) : Int) := of_decide_eq_true (by first | (with_reducible assumption) | assumption); obtain ⟨i015, hi015, _, hsz15, _⟩ := info_parts info5; have hroom15 : l0.length ≤ c0 := HC0.out; have hC15 : Kd.C (Kd.int .u8) _ A0 l0.length l0 := HR0.out; have hcut15 := cut_from (P := Tryz.prog) 22 5 .i64 Tryz.underlying22 hi015 1 hsz15 A0 l0.length c0 4 (by omega) q15; have hr15 := Kd.C_drop (m := (4 : Int).toNat) (c := c0) hC15 (by omega) hroom15; obtain ⟨A15, hA15⟩ : ∃ A1, A1 = (if c0 = (4 : Int).toNat then A0 else (A0 : Option Addr).map (·.add ((4 : Int).toNat * 1))) := ⟨_, rfl⟩; obtain ⟨c15, hc15⟩ : ∃ c1, c1 = c0 - (4 : Int).toNat := ⟨_, rfl⟩; have hy15 : y112.length = l0.length - (4 : Int).toNat := (by rw [Ny112.out, List.length_drop] <;> omega); rw [show (l0).drop (4 : Int).toNat = y112 from Ny112.out.symm] at hr15; replace hr15 : Kd.C (Kd.int .u8) _ A15 y112.length y112 := (by rw [hA15]; exact hr15); rw [← hy15, ← hA15, ← hc15] at hcut15; have HR115 := Aside0.mk hr15; have HC115 := Aside0.mk (show y112.length ≤ c15 from by rw [hy15, hc15]; exact Nat.sub_le_sub_right hroom15 _); clear hr15 hC15 hroom15 hi015 hsz15 hc15; have KY15 := Aside0.mk hy15; have KA15 := Aside0.mk hA15; clear hy15 hA15; replace q15 := eq_true q15) | (go_at_call 52; (with_reducible refine (pack_get.calls _ _ y112 t116 _ ?side1 ?side2 A11.out).mono ?_); (case side1 => repeat (first | exact (Kd.C_below HR115.out (by repeat (first | (with_reducible first | exact HB.out | apply below_alloc | apply pw_below_drewN | apply below_drew1) | exact HB.out))) | (with_reducible refine Kd.C_alloc ?_ _) | (with_reducible refine Kd.C_drewN ?_ _) | (with_reducible refine Kd.C_drew ?_))); (case side2 => exact HC115.out); rintro e w' ⟨rfl, ⟨nd, rfl⟩⟩; (try first | exact ⟨rfl, _, World.drewN_drewN _ _ _⟩ | exact ⟨rfl, _, Eq.trans (World.drewN_drewN _ _ _) (congrArg (World.drewN _) (Nat.add_assoc _ _ _))⟩)) | (go_at_call 34; (with_reducible refine (slices_Clone_byte_byte.calls _ _ y107 t117 _ ?side1 ?side2 A13.out).mono ?_); (case side1 => repeat (first | exact (Kd.C_below HR110.out (by repeat (first | (with_reducible first | exact HB.out | apply below_alloc | apply pw_below_drewN | apply below_drew1) | exact HB.out))) | (with_reducible refine Kd.C_alloc ?_ _) | (with_reducible refine Kd.C_drewN ?_ _) | (with_reducible refine Kd.C_drew ?_))); (case side2 => exact HC110.out); rintro e w16 ⟨v118, rfl, ho0, hb⟩; have n0_ := Aside0.mk (Kd.R_lower ho0 (below_size (by repeat (first | (with_reducible first | exact HB.out | apply below_alloc | apply pw_below_drewN | apply below_drew1) | exact HB.out)))); have n1_ := Aside0.mk (below_step (by repeat (first | (with_reducible first | exact HB.out | apply below_alloc | apply pw_below_drewN | apply below_drew1) | exact HB.out)) hb); clear HB; have HO119 := n0_; have HB := n1_; clear n0_ n1_; (try clear hb); (try clear hb2); (try clear hk); (try clear hi); (try clear ho0))))
                  go_ret3
                  exact ⟨_, by first | rfl | (simp [errW_none, errW_some] <;> rfl) | (simp [*, errW_none, errW_some] <;> rfl), by (with_reducible repeat (first | apply Kd.R_alloc | apply Kd.R_drewN | apply Kd.R_drew)); exact HO119.out, by repeat (first | (with_reducible first | exact HB.out | apply below_alloc | apply pw_below_drewN | apply below_drew1) | exact HB.out)⟩
                · rw [if_neg c12] at H
                  have c12b0 : (t111 == t116) = false := beq_eq_false_iff_ne.mpr c12
                  have c12b1 : (t111 != t116) = true := bne_iff_ne.mpr c12
                  simp only [Option.some.injEq, Prod.mk.injEq] at H
                  obtain ⟨rfl, rfl, rfl⟩ := H
                  have q17 : ((wrap64 (8 + (wrap64 (t106)))) : Int) ≤ ((l0.length : Int) : Int) := of_decide_eq_true (by first | (with_reducible assumption) | assumption)
                  obtain ⟨i017, hi017, _, hsz17, _⟩ := info_parts info5
                  have hroom17 : l0.length ≤ c0 := HC0.out
                  have hC17 : Kd.C (Kd.int .u8) _ A0 l0.length l0 := HR0.out
                  have ql17 : (8 : Int) ≤ ((wrap64 (8 + (wrap64 (t106)))) : Int) := of_decide_eq_true (by first | (with_reducible assumption) | assumption)
                  have hcut17 := cut_mid (P := Tryz.prog) 22 5 .i64 .i64 Tryz.underlying22 hi017 1 hsz17 A0 l0.length c0 8 (wrap64 (8 + (wrap64 (t106)))) (by omega) ql17 q17 hroom17
                  have hr17 := Kd.C_mid (lo := (8 : Int).toNat) (hi := ((wrap64 (8 + (wrap64 (t106)))) : Int).toNat) (c := c0) hC17 (by omega) (by omega) hroom17
                  obtain ⟨A17, hA17⟩ : ∃ A1, A1 = (if c0 = (8 : Int).toNat then A0 else (A0 : Option Addr).map (·.add ((8 : Int).toNat * 1))) := ⟨_, rfl⟩
                  obtain ⟨c17, hc17⟩ : ∃ c1, c1 = c0 - (8 : Int).toNat := ⟨_, rfl⟩
                  have hy17 : y107.length = ((wrap64 (8 + (wrap64 (t106)))) : Int).toNat - (8 : Int).toNat := (by rw [Ny107.out, List.length_drop, List.length_take] <;> omega)
                  rw [show ((l0).take ((wrap64 (8 + (wrap64 (t106)))) : Int).toNat).drop (8 : Int).toNat = y107 from Ny107.out.symm] at hr17
                  replace hr17 : Kd.C (Kd.int .u8) _ A17 y107.length y107 := (by rw [hA17]; exact hr17)
                  rw [← hy17, ← hA17, ← hc17] at hcut17
                  have HR110 := Aside0.mk hr17
                  have HC110 := Aside0.mk (show y107.length ≤ c17 from by rw [hy17, hc17]; exact Nat.sub_le_sub_right (Nat.le_trans (by omega) hroom17) _)
                  clear hr17 hC17 hroom17 hi017 hsz17 hc17
                  have KY17 := Aside0.mk hy17
                  have KA17 := Aside0.mk hA17
                  clear hy17 hA17
                  replace q17 := eq_true q17
                  go_wp2_with (first | (go_at_call 53; (with_reducible refine (pack_Sum.calls kj3 _ _ y107 t111 _ ?side1 ?side2 A9.out).mono ?_); (case side1 => repeat (first | exact (Kd.C_below HR110.out HB.out) | (with_reducible refine Kd.C_alloc ?_ _) | (with_reducible refine Kd.C_drewN ?_ _) | (with_reducible refine Kd.C_drew ?_))); (case side2 => exact HC110.out); rintro e w' ⟨rfl, ⟨nd, rfl⟩⟩; (try first | exact ⟨rfl, _, World.drewN_drewN _ _ _⟩ | exact ⟨rfl, _, Eq.trans (World.drewN_drewN _ _ _) (congrArg (World.drewN _) (Nat.add_assoc _ _ _))⟩); have q18 : (4 : Int) ≤ ((l0.length : Int) : Int) := of_decide_eq_true (by first | (with_reducible assumption) | assumption); obtain ⟨i018, hi018, _, hsz18, _⟩ := info_parts info5; have hroom18 : l0.length ≤ c0 := HC0.out; have hC18 : Kd.C (Kd.int .u8) _ A0 l0.length l0 := HR0.out; have hcut18 := cut_from (P := Tryz.prog) 22 5 .i64 Tryz.underlying22 hi018 1 hsz18 A0 l0.length c0 4 (by omega) q18; have hr18 := Kd.C_drop (m := (4 : Int).toNat) (c := c0) hC18 (by omega) hroom18; obtain ⟨A18, hA18⟩ : ∃ A1, A1 = (if c0 = (4 : Int).toNat then A0 else (A0 : Option Addr).map (·.add ((4 : Int).toNat * 1))) := ⟨_, rfl⟩; obtain ⟨c18, hc18⟩ : ∃ c1, c1 = c0 - (4 : Int).toNat := ⟨_, rfl⟩; have hy18 : y112.length = l0.length - (4 : Int).toNat := (by rw [Ny112.out, List.length_drop] <;> omega); rw [show (l0).drop (4 : Int).toNat = y112 from Ny112.out.symm] at hr18; replace hr18 : Kd.C (Kd.int .u8) _ A18 y112.length y112 := (by rw [hA18]; exact hr18); rw [← hy18, ← hA18, ← hc18] at hcut18; have HR115 := Aside0.mk hr18; have HC115 := Aside0.mk (show y112.length ≤ c18 from by rw [hy18, hc18]; exact Nat.sub_le_sub_right hroom18 _); clear hr18 hC18 hroom18 hi018 hsz18 hc18; have KY18 := Aside0.mk hy18; have KA18 := Aside0.mk hA18; clear hy18 hA18; replace q18 := eq_true q18) | (go_at_call 52; (with_reducible refine (pack_get.calls _ _ y112 t116 _ ?side1 ?side2 A11.out).mono ?_); (case side1 => repeat (first | exact (Kd.C_below HR115.out (by repeat (first | (with_reducible first | exact HB.out | apply below_alloc | apply pw_below_drewN | apply below_drew1) | exact HB.out))) | (with_reducible refine Kd.C_alloc ?_ _) | (with_reducible refine Kd.C_drewN ?_ _) | (with_reducible refine Kd.C_drew ?_))); (case side2 => exact HC115.out); rintro e w' ⟨rfl, ⟨nd, rfl⟩⟩; (try first | exact ⟨rfl, _, World.drewN_drewN _ _ _⟩ | exact ⟨rfl, _, Eq.trans (World.drewN_drewN _ _ _) (congrArg (World.drewN _) (Nat.add_assoc _ _ _))⟩)))
                  repeat (go_quiet (first | (go_at_call 53; (with_reducible refine (pack_Sum.calls kj3 _ _ y107 t111 _ ?side1 ?side2 A9.out).mono ?_); (case side1 => repeat (first | exact (Kd.C_below HR110.out HB.out) | (with_reducible refine Kd.C_alloc ?_ _) | (with_reducible refine Kd.C_drewN ?_ _) | (with_reducible refine Kd.C_drew ?_))); (case side2 => exact HC110.out); rintro e w' ⟨rfl, ⟨nd, rfl⟩⟩; (try first | exact ⟨rfl, _, World.drewN_drewN _ _ _⟩ | exact ⟨rfl, _, Eq.trans (World.drewN_drewN _ _ _) (congrArg (World.drewN _) (Nat.add_assoc _ _ _))⟩); have q18 : (4 : Int) ≤ ((l0.length : Int) : Int) := of_decide_eq_true (by first | (with_reducible assumption) | assumption); obtain ⟨i018, hi018, _, hsz18, _⟩ := info_parts info5; have hroom18 : l0.length ≤ c0 := HC0.out; have hC18 : Kd.C (Kd.int .u8) _ A0 l0.length l0 := HR0.out; have hcut18 := cut_from (P := Tryz.prog) 22 5 .i64 Tryz.underlying22 hi018 1 hsz18 A0 l0.length c0 4 (by omega) q18; have hr18 := Kd.C_drop (m := (4 : Int).toNat) (c := c0) hC18 (by omega) hroom18; obtain ⟨A18, hA18⟩ : ∃ A1, A1 = (if c0 = (4 : Int).toNat then A0 else (A0 : Option Addr).map (·.add ((4 : Int).toNat * 1))) := ⟨_, rfl⟩; obtain ⟨c18, hc18⟩ : ∃ c1, c1 = c0 - (4 : Int).toNat := ⟨_, rfl⟩; have hy18 : y112.length = l0.length - (4 : Int).toNat := (by rw [Ny112.out, List.length_drop] <;> omega); rw [show (l0).drop (4 : Int).toNat = y112 from Ny112.out.symm] at hr18; replace hr18 : Kd.C (Kd.int .u8) _ A18 y112.length y112 := (by rw [hA18]; exact hr18); rw [← hy18, ← hA18, ← hc18] at hcut18; have HR115 := Aside0.mk hr18; have HC115 := Aside0.mk (show y112.length ≤ c18 from by rw [hy18, hc18]; exact Nat.sub_le_sub_right hroom18 _); clear hr18 hC18 hroom18 hi018 hsz18 hc18; have KY18 := Aside0.mk hy18; have KA18 := Aside0.mk hA18; clear hy18 hA18; replace q18 := eq_true q18) | (go_at_call 52; (with_reducible refine (pack_get.calls _ _ y112 t116 _ ?side1 ?side2 A11.out).mono ?_); (case side1 => repeat (first | exact (Kd.C_below HR115.out (by repeat (first | (with_reducible first | exact HB.out | apply below_alloc | apply pw_below_drewN | apply below_drew1) | exact HB.out))) | (with_reducible refine Kd.C_alloc ?_ _) | (with_reducible refine Kd.C_drewN ?_ _) | (with_reducible refine Kd.C_drew ?_))); (case side2 => exact HC115.out); rintro e w' ⟨rfl, ⟨nd, rfl⟩⟩; (try first | exact ⟨rfl, _, World.drewN_drewN _ _ _⟩ | exact ⟨rfl, _, Eq.trans (World.drewN_drewN _ _ _) (congrArg (World.drewN _) (Nat.add_assoc _ _ _))⟩))); try go_wp2_with (first | (go_at_call 53; (with_reducible refine (pack_Sum.calls kj3 _ _ y107 t111 _ ?side1 ?side2 A9.out).mono ?_); (case side1 => repeat (first | exact (Kd.C_below HR110.out HB.out) | (with_reducible refine Kd.C_alloc ?_ _) | (with_reducible refine Kd.C_drewN ?_ _) | (with_reducible refine Kd.C_drew ?_))); (case side2 => exact HC110.out); rintro e w' ⟨rfl, ⟨nd, rfl⟩⟩; (try first | exact ⟨rfl, _, World.drewN_drewN _ _ _⟩ | exact ⟨rfl, _, Eq.trans (World.drewN_drewN _ _ _) (congrArg (World.drewN _) (Nat.add_assoc _ _ _))⟩); have q18 : (4 : Int) ≤ ((l0.length : Int) : Int) := of_decide_eq_true (by first | (with_reducible assumption) | assumption); obtain ⟨i018, hi018, _, hsz18, _⟩ := info_parts info5; have hroom18 : l0.length ≤ c0 := HC0.out; have hC18 : Kd.C (Kd.int .u8) _ A0 l0.length l0 := HR0.out; have hcut18 := cut_from (P := Tryz.prog) 22 5 .i64 Tryz.underlying22 hi018 1 hsz18 A0 l0.length c0 4 (by omega) q18; have hr18 := Kd.C_drop (m := (4 : Int).toNat) (c := c0) hC18 (by omega) hroom18; obtain ⟨A18, hA18⟩ : ∃ A1, A1 = (if c0 = (4 : Int).toNat then A0 else (A0 : Option Addr).map (·.add ((4 : Int).toNat * 1))) := ⟨_, rfl⟩; obtain ⟨c18, hc18⟩ : ∃ c1, c1 = c0 - (4 : Int).toNat := ⟨_, rfl⟩; have hy18 : y112.length = l0.length - (4 : Int).toNat := (by rw [Ny112.out, List.length_drop] <;> omega); rw [show (l0).drop (4 : Int).toNat = y112 from Ny112.out.symm] at hr18; replace hr18 : Kd.C (Kd.int .u8) _ A18 y112.length y112 := (by rw [hA18]; exact hr18); rw [← hy18, ← hA18, ← hc18] at hcut18; have HR115 := Aside0.mk hr18; have HC115 := Aside0.mk (show y112.length ≤ c18 from by rw [hy18, hc18]; exact Nat.sub_le_sub_right hroom18 _); clear hr18 hC18 hroom18 hi018 hsz18 hc18; have KY18 := Aside0.mk hy18; have KA18 := Aside0.mk hA18; clear hy18 hA18; replace q18 := eq_true q18) | (go_at_call 52; (with_reducible refine (pack_get.calls _ _ y112 t116 _ ?side1 ?side2 A11.out).mono ?_); (case side1 => repeat (first | exact (Kd.C_below HR115.out (by repeat (first | (with_reducible first | exact HB.out | apply below_alloc | apply pw_below_drewN | apply below_drew1) | exact HB.out))) | (with_reducible refine Kd.C_alloc ?_ _) | (with_reducible refine Kd.C_drewN ?_ _) | (with_reducible refine Kd.C_drew ?_))); (case side2 => exact HC115.out); rintro e w' ⟨rfl, ⟨nd, rfl⟩⟩; (try first | exact ⟨rfl, _, World.drewN_drewN _ _ _⟩ | exact ⟨rfl, _, Eq.trans (World.drewN_drewN _ _ _) (congrArg (World.drewN _) (Nat.add_assoc _ _ _))⟩))))
                  go_ret3
                  exact ⟨_, by first | rfl | (simp [errW_none, errW_some] <;> rfl) | (simp [*, errW_none, errW_some] <;> rfl), by first | exact Kd.R_nil _ _ _ _ _ | exact Kd.N_nil _ _ _ _ _ | exact Kd.V_nil _ _ _ _ _ | exact Kd.Q_nil _ _ _ _ _ | exact Kd.S_nil _ _ _ _ _, by repeat (first | (with_reducible first | exact HB.out | apply below_alloc | apply pw_below_drewN | apply below_drew1) | exact HB.out)⟩
              · rw [if_neg c10] at H
                exact absurd H (by simp)
            · rw [if_neg c8] at H
              exact absurd H (by simp)
          · rw [if_neg c7] at H
            exact absurd H (by simp)
end
section
attribute [local go_sem] max2_int min2_int max_two min_two
theorem put_info5 : (Tryz.prog.info? 5).map (fun i => (i.zero, i.size, i.bytes)) = some (some (.int .u8 0), 1, 1) := by kernel_rfl
theorem kept_grown2 {w W w1 : World} {S : Nat → Prop} {row : Option Nat} (hk : Kept w W S) (hg : W.grownBy w1 row) (hr : ∀ k, row = some k → S k ∨ w.heap.size ≤ k) : Kept w w1 S :=
  ⟨Nat.le_trans hk.1 hg.size, fun i hi hs => by
    rw [hg.block i (Nat.lt_of_lt_of_le hi hk.1) (fun e => by
      rcases hr i e.symm with h | h
      · exact hs h
      · omega)]
    exact hk.2 i hi hs⟩
theorem wp_scope_jumps_pass {P : Program} {a : Act} {w : World} {Q : Exit → Act → World → Prop} {c rest : Code} (l : Nat) (J : Act → World → Prop) (μ : Act → World → Nat) (hf : findLabel c l = some (Code.seq .skip rest))
    (first : (∀ a w, J a w → rest.wp P (Exit.jump l J Q) a w) → c.wp P (Exit.jump l J Q) a w)
    (pass : ∀ a w, J a w → rest.wp P (Exit.jump l (fun a' w' => J a' w' ∧ μ a' w' < μ a w) Q) a w) : (Code.scope c).wp P Q a w := by
  refine wp_scope_jumps l J μ hf (first fun a w hJ => ?_) (fun a w hJ => wp_seq (wp_skip (pass a w hJ)))
  intro b k cs
  obtain ⟨e, a', w', hq, harr⟩ := pass a w hJ b k cs
  refine ⟨e, a', w', ?_, harr⟩
  cases e <;> first | exact hq | exact ⟨hq.1, hq.2.1⟩
def putN : Nat → Nat → List Int
  | 0, _ => []
  | f + 1, u => if 127 < u then ((u % 128 + 128 : Nat) : Int) :: putN f (u / 128) else [(u : Int)]
def numOf (n : Int) : Nat := (mn (mx n 0) 4611686018427387904).toNat
def pack_put.f (l0 : List Int) (a1 : Int) : Option (List Int) := if l0.length < 140737488355300 then some (l0 ++ putN 9 (numOf a1)) else none
theorem or128_all : ∀ x : Fin 256, Go.bits .or .u8 ((x.val : Nat) : Int) 128 = ((x.val % 128 + 128 : Nat) : Int) := by decide +kernel
theorem or128 (u : Nat) : Go.bits .or .u8 (((u : Nat) : Int) % 256) 128 = ((u % 128 + 128 : Nat) : Int) := by
  have h := or128_all ⟨u % 256, Nat.mod_lt _ (by decide)⟩
  have e : ((u : Int) % 256) = ((u % 256 : Nat) : Int) := by omega
  rw [e, h]
  have : u % 256 % 128 = u % 128 := by omega
  show (((u % 256 % 128 + 128 : Nat)) : Int) = _
  rw [this]
theorem pack_put.calls (P0_ : Nat → Prop) (u9000_ : Value) (l0 : List Int) (a1 : Int) (r : List Int) (w0 w : World) (hB : Below w0.heap.size w0 w) (ho0 : Kd.R (Kd.int .u8) 5 w w0.heap.size P0_ u9000_ l0) (h : pack_put.f l0 a1 = some r) :
    Calls Tryz.prog 69 #[u9000_, .int .i64 a1] w fun e w' => ∃ v0_ : Value, e = .returned (v0_) ∧ Kd.R (Kd.int .u8) 5 w' w0.heap.size (fun k_ => (P0_ k_ ∨ w.heap.size ≤ k_)) v0_ r ∧ Below w0.heap.size w0 w' ∧ Kept w w' (fun k_ => P0_ k_) := by
  have hl : l0.length < 140737488355300 := by
    unfold pack_put.f at h; split at h
    · assumption
    · cases h
  have hr : l0 ++ putN 9 (numOf a1) = r := by
    unfold pack_put.f at h; rw [if_pos hl] at h; exact Option.some.inj h
  clear h
  have HR := Aside0.mk hr
  have HL := Aside0.mk hl
  clear hr hl
  have HO0 := Aside0.mk (show Kd.R (Kd.int .u8) 5 w w0.heap.size (fun k_ => (P0_ k_ ∨ w.heap.size ≤ k_)) u9000_ l0 from Kd.R_mono ho0 (fun k_ hk => (.inl hk)))
  have HK0 := Aside0.mk (Kept.refl w (fun k_ => P0_ k_))
  have HB0 := Aside0.mk hB
  have HW0 := Aside0.mk hB.size
  clear hB ho0
  have hcase : (a1 < 0 ∧ numOf a1 = 0) ∨ (0 ≤ a1 ∧ a1 ≤ 4611686018427387904 ∧ numOf a1 = a1.toNat) ∨ (4611686018427387904 < a1 ∧ numOf a1 = 4611686018427387904) := by
    unfold numOf mn mx
    split <;> split <;> omega
  have hn : numOf a1 ≤ 4611686018427387904 := by
    have h1 : mn (mx a1 0) 4611686018427387904 ≤ 4611686018427387904 := by unfold mn mx; split <;> split <;> omega
    unfold numOf
    omega
  have HX0 := Aside0.mk (show l0 ++ putN 9 (numOf a1) = r ∧ numOf a1 < 128 ^ 9 ∧ l0.length + 8 < 140737488355320 from ⟨HR.out, by omega, by have := HL.out; omega⟩)
  clear HR HL hn
  go_enter Tryz.func69, Tryz.ntmps69
  go_wp2
  refine wp_scope_jumps_pass 0 (fun a' W => ∃ (v : Value) (xs : List Int) (u f : Nat) (x1 x2 x3 x4 x6 x7 x8 x9 x10 x11 x12 x13 x14 x15 x16 x17 x18 x19 x20 x21 x22 x23 x24 : Value),
    a' = { tmps := #[v, x1, x2, x3, x4, .int .u64 (u : Int), x6, x7, x8, x9, x10, x11, x12, x13, x14, x15, x16, x17, x18, x19, x20, x21, x22, x23, x24], defers := [] } ∧
    Aside0 (xs ++ putN (f + 1) u = r ∧ u < 128 ^ (f + 1) ∧ xs.length + f < 140737488355320) ∧ Aside0 (Kd.R (Kd.int .u8) 5 W w0.heap.size (fun k_ => (P0_ k_ ∨ w.heap.size ≤ k_)) v xs) ∧ Aside0 (Below w0.heap.size w0 W) ∧ Aside0 (Kept w W (fun k_ => P0_ k_)))
    (fun a' _ => match a'.tmps.getD 5 undef with | .int _ n => n.toNat | _ => 0) rfl ?_ ?_
  · intro first
    rcases hcase with ⟨hlt, he⟩ | ⟨hge, hle, he⟩ | ⟨hgt, he⟩
    rotate_left
    · obtain ⟨n, rfl⟩ := Int.eq_ofNat_of_zero_le hge
      rw [Int.toNat_natCast] at he
      rw [he] at HX0
      clear he
      go_wp2
      go_step3
      rename_i hk
      exact hk _ _ (first _ _ ⟨_, l0, n, 8, _, _, _, _, _, _, _, _, _, _, _, _, _, _, _, _, _, _, _, _, _, _, _, rfl, HX0, HO0, HB0, HK0⟩)
    all_goals rw [he] at HX0
    all_goals clear he
    all_goals go_wp2
    all_goals go_step3
    all_goals rename_i hk
    · exact hk _ _ (first _ _ ⟨_, l0, (4611686018427387904 : Nat), 8, _, _, _, _, _, _, _, _, _, _, _, _, _, _, _, _, _, _, _, _, _, _, _, rfl, HX0, HO0, HB0, HK0⟩)
    · exact hk _ _ (first _ _ ⟨_, l0, (0 : Nat), 8, _, _, _, _, _, _, _, _, _, _, _, _, _, _, _, _, _, _, _, _, _, _, _, rfl, HX0, HO0, HB0, HK0⟩)
  · rintro a' W ⟨v, xs, u, f, x1, x2, x3, x4, x6, x7, x8, x9, x10, x11, x12, x13, x14, x15, x16, x17, x18, x19, x20, x21, x22, x23, x24, rfl, HX, HO, HB, HK⟩
    clear HX0 HO0 HB0 HK0 hcase
    cases f with
    | zero =>
      have hgt : ¬ 127 < u := by have := HX.out.2.1; omega
      have hdec : decide (((u : Nat) : Int) > 127) = false := by simp; omega
      have HY := Aside0.mk (show xs ++ [(u : Int)] = r from by
        obtain ⟨h1, h2, h3⟩ := HX.out
        rw [← h1, putN, if_neg hgt])
      have hm : ((u : Int) % 256) = (u : Int) := by omega
      clear hgt
      go_wp2_with (first | ((with_reducible refine gate_builtin (b := .append) (xs := #[.tmp 20, .tmp 23]) rfl ?_); at_builtin; refine Kd.R_append (Kd.int .u8) (w0 := w0) w0.heap.size rfl (.tmp 20) (.tmp 23) 22 5 (.int .u8 0) 1 rfl Tryz.underlying22 put_info5 rfl (by decide) (by omega) v xs ((u : Int)) [.int .u8 ((u : Int))] (fun k_ => (P0_ k_ ∨ w.heap.size ≤ k_)) (fun _ => False) rfl rfl ?aP (fun _ hk => hk.elim) ?aF ?aO ?aB ?aS ?aL ?_; (case aP => exact rfl); (case aB => exact HB.out); (case aF => exact (fun k_ hk => .inr (Nat.le_trans HK.out.1 hk))); (case aO => exact HO.out); (case aS => exact HB.out.size); (case aL => have := HX.out.2.2; omega); intro v1 w1 ho1 hb1 hg1 hat1; have HK1 := Aside0.mk (kept_grown2 HK.out hg1 (fun k_ e_ => HO.out.1 k_ e_)); have HO1 := Aside0.mk ho1; have HB1 := Aside0.mk hb1; clear ho1 hb1 hg1 hat1))
      simp only [Exit.jump]
      go_ret
      refine ⟨_, rfl, ?_, HB1.out, HK1.out⟩
      rw [← HY.out]
      exact HO1.out
    | succ f =>
    by_cases hgt : 127 < u
    · have ho := or128 u
      have hdec : decide (((u : Nat) : Int) > 127) = true := by simp; omega
      have HY := Aside0.mk (show (xs ++ [((u % 128 + 128 : Nat) : Int)]) ++ putN (f + 1) (u / 128) = r ∧ u / 128 < 128 ^ (f + 1) ∧ (xs ++ [((u % 128 + 128 : Nat) : Int)]).length + f < 140737488355320 from by
        obtain ⟨h1, h2, h3⟩ := HX.out
        refine ⟨?_, ?_, by simp; omega⟩
        · rw [← h1, show putN (f + 1 + 1) u = ((u % 128 + 128 : Nat) : Int) :: putN (f + 1) (u / 128) from by conv => lhs; unfold putN; rw [if_pos hgt]]; simp
        · rw [Nat.pow_succ] at h2; omega)
      clear hgt
      go_wp2_with (first | ((with_reducible refine gate_builtin (b := .append) (xs := #[.tmp 12, .tmp 16]) rfl ?_); at_builtin; refine Kd.R_append (Kd.int .u8) (w0 := w0) w0.heap.size rfl (.tmp 12) (.tmp 16) 22 5 (.int .u8 0) 1 rfl Tryz.underlying22 put_info5 rfl (by decide) (by omega) v xs (((u % 128 + 128 : Nat) : Int)) [.int .u8 (((u % 128 + 128 : Nat) : Int))] (fun k_ => (P0_ k_ ∨ w.heap.size ≤ k_)) (fun _ => False) rfl rfl ?aP (fun _ hk => hk.elim) ?aF ?aO ?aB ?aS ?aL ?_; (case aP => exact rfl); (case aB => exact HB.out); (case aF => exact (fun k_ hk => .inr (Nat.le_trans HK.out.1 hk))); (case aO => exact HO.out); (case aS => exact HB.out.size); (case aL => have := HX.out.2.2; omega); intro v1 w1 ho1 hb1 hg1 hat1; have HK1 := Aside0.mk (kept_grown2 HK.out hg1 (fun k_ e_ => HO.out.1 k_ e_)); have HO1 := Aside0.mk ho1; have HB1 := Aside0.mk hb1; clear ho1 hb1 hg1 hat1))
      go_step3
      refine ⟨rfl, ?_, ?_⟩
      · rw [show ((u : Int) / 128) = ((u / 128 : Nat) : Int) from by omega]
        exact ⟨v1, xs ++ [((u % 128 + 128 : Nat) : Int)], u / 128, f, _, _, _, _, _, _, _, _, _, _, _, _, _, _, _, _, _, _, _, _, _, _, _, rfl, HY, HO1, HB1, HK1⟩
      · show ((u : Int) / 128).toNat < ((u : Int)).toNat
        have := of_decide_eq_true hdec
        omega
    · have hdec : decide (((u : Nat) : Int) > 127) = false := by simp; omega
      have HY := Aside0.mk (show xs ++ [(u : Int)] = r from by
        obtain ⟨h1, h2, h3⟩ := HX.out
        rw [← h1, putN, if_neg hgt])
      have hm : ((u : Int) % 256) = (u : Int) := by omega
      go_wp2_with (first | ((with_reducible refine gate_builtin (b := .append) (xs := #[.tmp 20, .tmp 23]) rfl ?_); at_builtin; refine Kd.R_append (Kd.int .u8) (w0 := w0) w0.heap.size rfl (.tmp 20) (.tmp 23) 22 5 (.int .u8 0) 1 rfl Tryz.underlying22 put_info5 rfl (by decide) (by omega) v xs ((u : Int)) [.int .u8 ((u : Int))] (fun k_ => (P0_ k_ ∨ w.heap.size ≤ k_)) (fun _ => False) rfl rfl ?aP (fun _ hk => hk.elim) ?aF ?aO ?aB ?aS ?aL ?_; (case aP => exact rfl); (case aB => exact HB.out); (case aF => exact (fun k_ hk => .inr (Nat.le_trans HK.out.1 hk))); (case aO => exact HO.out); (case aS => exact HB.out.size); (case aL => have := HX.out.2.2; omega); intro v1 w1 ho1 hb1 hg1 hat1; have HK1 := Aside0.mk (kept_grown2 HK.out hg1 (fun k_ e_ => HO.out.1 k_ e_)); have HO1 := Aside0.mk ho1; have HB1 := Aside0.mk hb1; clear ho1 hb1 hg1 hat1))
      simp only [Exit.jump]
      go_ret
      refine ⟨_, rfl, ?_, HB1.out, HK1.out⟩
      rw [← HY.out]
      exact HO1.out
end
section
attribute [local go_sem] max2_int min2_int max_two min_two max_three min_three max_four min_four   -- for this text's walks alone
def pack_Num.f (l0 : List Int) (a1 : Int) : Option (List Int) := (slices_Clone_byte_byte.f l0).bind fun t256 => ((pack_put.f t256 a1).bind fun t259 => (some t259))
theorem pack_Num.calls (A0 : Option Addr) (c0 : Nat) (l0 : List Int) (a1 : Int) (r : List Int) (w : World) (hr0 : Kd.C (Kd.int .u8) w A0 l0.length l0) (hc0 : l0.length ≤ c0) (h : pack_Num.f l0 a1 = some r) :
    Calls Tryz.prog 47 #[.slice A0 l0.length c0, .int .i64 a1] w fun e w' => ∃ v0_ : Value, e = .returned (v0_) ∧ Kd.R (Kd.int .u8) 5 w' w.heap.size (fun _ => True) v0_ r ∧ Below w.heap.size w w' := by
  have HR0 := Aside0.mk hr0
  have HC0 := Aside0.mk hc0
  clear hr0 hc0
  have HB := Aside0.mk (Below.refl w.heap.size w)
  have H : ((slices_Clone_byte_byte.f l0).bind fun t256 => ((pack_put.f t256 a1).bind fun t259 => (some t259))) = some r := h
  clear h
  replace H := Option.bind_eq_some_iff.mp H
  obtain ⟨t256, A30, H⟩ := H
  replace H : ((pack_put.f t256 a1).bind fun t259 => (some t259)) = some r := H
  have A3 := Aside0.mk A30
  clear A30
  replace H := Option.bind_eq_some_iff.mp H
  obtain ⟨t259, A40, H⟩ := H
  replace H : (some t259) = some r := H
  have A4 := Aside0.mk A40
  clear A40
  obtain rfl := Option.some.inj H
  go_enter Tryz.func47, Tryz.ntmps47
  go_wp2_with (first | ((with_reducible refine gate_callee (f := 34) rfl ?_); refine goesL_ (some 6) rfl rfl Tryz.func34 (by kernel_rfl) rfl #[.slice A0 l0.length c0] rfl (by (try simp only [List.map_toArray, List.map_cons, List.map_nil]); first | done | rfl | (simp only [List.length_drop, List.length_take]; rfl)) ?_; (with_reducible refine (slices_Clone_byte_byte.calls _ _ l0 t256 _ ?side1 ?side2 A3.out).mono ?_); (case side1 => repeat (first | exact HR0.out | (with_reducible refine Kd.C_alloc ?_ _) | (with_reducible refine Kd.C_drewN ?_ _) | (with_reducible refine Kd.C_drew ?_))); (case side2 => exact HC0.out); rintro e w5 ⟨v257, rfl, ho0, hb⟩; refine ⟨_, rfl, ?_⟩; have n0_ := Aside0.mk (Kd.R_lower ho0 (below_size (by repeat (first | (with_reducible first | exact HB.out | apply below_alloc | apply pw_below_drewN | apply below_drew1) | exact HB.out)))); have n1_ := Aside0.mk (below_step (by repeat (first | (with_reducible first | exact HB.out | apply below_alloc | apply pw_below_drewN | apply below_drew1) | exact HB.out)) hb); clear HB; have HO258 := n0_; have HB := n1_; clear n0_ n1_; (try clear hb); (try clear hb2); (try clear hk); (try clear hi); (try clear ho0); obtain ⟨Ao6, co6, eo6⟩ := Kd.R_slice HO258.out; subst eo6) | ((with_reducible refine gate_callee (f := 69) rfl ?_); refine goesL_ (some 8) rfl rfl Tryz.func69 (by kernel_rfl) rfl #[.slice Ao6 t256.length co6, .int .i64 a1] rfl (by (try simp only [List.map_toArray, List.map_cons, List.map_nil]); first | done | rfl | (simp only [List.length_drop, List.length_take]; rfl)) ?_; (with_reducible refine (pack_put.calls (fun k_ => some k_ = (.slice Ao6 t256.length co6 : Value).ownBlock) (.slice Ao6 t256.length co6) t256 a1 t259 w _ ?side1 ?side2 A4.out).mono ?_); (case side1 => repeat (first | (with_reducible first | exact HB.out | apply below_alloc | apply pw_below_drewN | apply below_drew1) | exact HB.out)); (case side2 => exact Kd.R_tight rfl HO258.out); rintro e w7 ⟨v260, rfl, ho0, hb, hkp⟩; refine ⟨_, rfl, ?_⟩; have n0_ := Aside0.mk (Kd.R_mono (ok' := fun k_ => True) ho0 (fun k_ hk_ => trivial)); have n1_ := Aside0.mk (hb); clear HB; clear HO258; have HO261 := n0_; have HB := n1_; clear n0_ n1_; (try clear hb); (try clear hkp); (try clear ho0)))
  go_ret
  exact ⟨_, by first | rfl | (simp [errW_none, errW_some] <;> rfl) | (simp [*, errW_none, errW_some] <;> rfl), by (with_reducible repeat (first | apply Kd.R_alloc | apply Kd.R_drewN | apply Kd.R_drew)); exact HO261.out, by repeat (first | (with_reducible first | exact HB.out | apply below_alloc | apply pw_below_drewN | apply below_drew1) | exact HB.out)⟩
end
section
structure Chunk where
  S : Nat → Prop
  P : World → Prop
  move : ∀ {w w' : World}, P w → (∀ k, S k → w'.heap[k]? = w.heap[k]?) → P w'
structure Own (w0 w : World) (L : List Chunk) : Prop where
  below : Below w0.heap.size w0 w
  holds : ∀ c ∈ L, c.P w
  inside : ∀ c ∈ L, ∀ k, c.S k → w0.heap.size ≤ k ∧ k < w.heap.size
  apart : L.Pairwise (fun c d => ∀ k, c.S k → ¬ d.S k)
structure Out (w w' : World) (S : Nat → Prop) (L : List Chunk) : Prop where
  os : w'.os = w.os
  tape : w'.tape = w.tape
  output : w'.output = w.output
  size : w.heap.size ≤ w'.heap.size
  block : ∀ k, k < w.heap.size → ¬ S k → w'.heap[k]? = w.heap[k]?
  holds : ∀ c ∈ L, c.P w'
  inside : ∀ c ∈ L, ∀ k, c.S k → (S k ∨ w.heap.size ≤ k) ∧ k < w'.heap.size
  apart : L.Pairwise (fun c d => ∀ k, c.S k → ¬ d.S k)
section
variable {w0 w w' : World} {L cs : List Chunk} {c c' : Chunk}
theorem Own.start (w : World) : Own w w [] := ⟨Below.refl _ _, fun _ h => by simp at h, fun _ h => by simp at h, List.Pairwise.nil⟩
theorem Own.get (h : Own w0 w L) (i : Nat) (hi : L[i]? = some c) : c.P w := h.holds c (List.mem_of_getElem? hi)
theorem Own.lt (h : Own w0 w L) (i : Nat) (hi : L[i]? = some c) {k : Nat} (hk : c.S k) : w0.heap.size ≤ k ∧ k < w.heap.size := h.inside c (List.mem_of_getElem? hi) k hk
theorem pw_mid {R : Chunk → Chunk → Prop} (hs : ∀ a b, R a b → R b a) : ∀ {L : List Chunk}, L.Pairwise R → ∀ (i j : Nat) (a b : Chunk), i ≠ j → L[i]? = some a → L[j]? = some b → R a b := by
  intro L h i j a b hij ha hb
  obtain ⟨hi, rfl⟩ := List.getElem?_eq_some_iff.1 ha
  obtain ⟨hj, rfl⟩ := List.getElem?_eq_some_iff.1 hb
  rcases Nat.lt_or_gt_of_ne hij with hlt | hlt
  · exact List.pairwise_iff_getElem.1 h i j hi hj hlt
  · exact hs _ _ (List.pairwise_iff_getElem.1 h j i hj hi hlt)
theorem ap_symm (a b : Chunk) (h : ∀ k, a.S k → ¬ b.S k) : ∀ k, b.S k → ¬ a.S k := fun k hb ha => h k ha hb
theorem Own.apart_at (h : Own w0 w L) (i j : Nat) (hij : i ≠ j) (hi : L[i]? = some c) (hj : L[j]? = some c') : ∀ k, c.S k → ¬ c'.S k :=
  pw_mid ap_symm h.apart i j c c' hij hi hj
theorem Own.calls (h : Own w0 w L) (i : Nat) (hi : L[i]? = some c) (ho : Out w w' c.S (c' :: cs)) : Own w0 w' (cs ++ L.set i c') := by
  have hlt : i < L.length := (List.getElem?_eq_some_iff.1 hi).1
  have old : ∀ (j : Nat) (d : Chunk), j ≠ i → L[j]? = some d → ∀ k, d.S k → w'.heap[k]? = w.heap[k]? := fun j d hj hd k hk =>
    ho.block k (h.lt j hd hk).2 (fun hc => h.apart_at j i hj hd hi k hk hc)
  have mem_set : ∀ d, d ∈ L.set i c' → d = c' ∨ ∃ j, j ≠ i ∧ L[j]? = some d := by
    intro d hd
    obtain ⟨j, hj⟩ := List.mem_iff_getElem?.1 hd
    by_cases e : j = i
    · subst e
      rw [List.getElem?_set_self hlt] at hj
      exact .inl (Option.some.inj hj).symm
    · rw [List.getElem?_set_ne (fun h => e h.symm)] at hj
      exact .inr ⟨j, e, hj⟩
  have ahead : ∀ a, a ∈ c' :: cs → ∀ (j : Nat) (d : Chunk), j ≠ i → L[j]? = some d → ∀ k, a.S k → ¬ d.S k := by
    intro a ha j d hj hd k hk hdk
    have h1 := (h.lt j hd hdk).2
    rcases (ho.inside a ha k hk).1 with h2 | h2
    · exact h.apart_at j i hj hd hi k hdk h2
    · omega
  have hcs := List.pairwise_cons.1 ho.apart
  refine ⟨⟨ho.os.trans h.below.os, ho.tape.trans h.below.tape, ho.output.trans h.below.output, Nat.le_trans h.below.size ho.size, fun k hk => ?_⟩, ?_, ?_, ?_⟩
  · exact (ho.block k (Nat.lt_of_lt_of_le hk h.below.size) (fun hc => by have := (h.lt i hi hc).1; omega)).trans (h.below.block k hk)
  · intro d hd
    rcases List.mem_append.1 hd with hd | hd
    · exact ho.holds d (List.mem_cons_of_mem _ hd)
    · rcases mem_set d hd with rfl | ⟨j, hj, hd⟩
      · exact ho.holds _ (List.mem_cons_self ..)
      · exact d.move (h.get j hd) (old j d hj hd)
  · intro d hd k hk
    have new : ∀ a, a ∈ c' :: cs → a.S k → w0.heap.size ≤ k ∧ k < w'.heap.size := by
      intro a ha hk
      have h1 := ho.inside a ha k hk
      refine ⟨?_, h1.2⟩
      rcases h1.1 with h2 | h2
      · exact (h.lt i hi h2).1
      · exact Nat.le_trans h.below.size h2
    rcases List.mem_append.1 hd with hd | hd
    · exact new d (List.mem_cons_of_mem _ hd) hk
    · rcases mem_set d hd with rfl | ⟨j, hj, hd⟩
      · exact new _ (List.mem_cons_self ..) hk
      · have := h.lt j hd hk
        exact ⟨this.1, Nat.lt_of_lt_of_le this.2 ho.size⟩
  · refine List.pairwise_append.2 ⟨hcs.2, ?_, ?_⟩
    · refine List.pairwise_iff_getElem.2 fun p q hp hq hpq => ?_
      have e1 : (L.set i c')[p]? = some (L.set i c')[p] := List.getElem?_eq_getElem hp
      have e2 : (L.set i c')[q]? = some (L.set i c')[q] := List.getElem?_eq_getElem hq
      by_cases hpi : p = i
      · subst hpi
        rw [List.getElem?_set_self hlt] at e1
        rw [List.getElem?_set_ne (by omega)] at e2
        rw [← Option.some.inj e1]
        exact ahead _ (List.mem_cons_self ..) q _ (by omega) e2
      · rw [List.getElem?_set_ne (fun h => hpi h.symm)] at e1
        by_cases hqi : q = i
        · subst hqi
          rw [List.getElem?_set_self hlt] at e2
          rw [← Option.some.inj e2]
          exact ap_symm _ _ (ahead _ (List.mem_cons_self ..) p _ hpi e1)
        · rw [List.getElem?_set_ne (fun h => hqi h.symm)] at e2
          exact h.apart_at p q (by omega) e1 e2
    · intro a ha b hb
      rcases mem_set b hb with rfl | ⟨j, hj, hb⟩
      · exact ap_symm _ _ (hcs.1 a ha)
      · exact ahead a (List.mem_cons_of_mem _ ha) j b hj hb
theorem Own.fresh (h : Own w0 w L) (ho : Out w w' (fun _ => False) cs) : Own w0 w' (cs ++ L) := by
  refine ⟨⟨ho.os.trans h.below.os, ho.tape.trans h.below.tape, ho.output.trans h.below.output, Nat.le_trans h.below.size ho.size, fun k hk => ?_⟩, ?_, ?_, ?_⟩
  · exact (ho.block k (Nat.lt_of_lt_of_le hk h.below.size) (fun hc => hc)).trans (h.below.block k hk)
  · intro d hd
    rcases List.mem_append.1 hd with hd | hd
    · exact ho.holds d hd
    · exact d.move (h.holds d hd) fun k hk => ho.block k (h.inside d hd k hk).2 (fun hc => hc)
  · intro d hd k hk
    rcases List.mem_append.1 hd with hd | hd
    · have h1 := ho.inside d hd k hk
      exact ⟨Nat.le_trans h.below.size (h1.1.resolve_left (fun hc => hc)), h1.2⟩
    · have h1 := h.inside d hd k hk
      exact ⟨h1.1, Nat.lt_of_lt_of_le h1.2 ho.size⟩
  · refine List.pairwise_append.2 ⟨ho.apart, h.apart, fun a ha b hb k hk hk' => ?_⟩
    have h1 := (ho.inside a ha k hk).1.resolve_left (fun hc => hc)
    have h2 := (h.inside b hb k hk').2
    omega
theorem Out.of_below (h : Below w.heap.size w w') (S : Nat → Prop) : Out w w' S [] :=
  ⟨h.os, h.tape, h.output, h.size, fun k hk _ => h.block k hk, fun _ h => by simp at h, fun _ h => by simp at h, List.Pairwise.nil⟩
theorem Own.after (h : Own w0 w L) (hb : Below w.heap.size w w') : Own w0 w' L := h.fresh (cs := []) (Out.of_below hb _)
theorem Own.alloc (h : Own w0 w L) (o : Obj) : Own w0 (w.alloc o) L := h.after (below_alloc (Below.refl _ _) o)
theorem Own.drew (h : Own w0 w L) : Own w0 w.drew L := h.after (below_drew (Below.refl _ _))
def Chunk.blk (g : Nat) (o : Obj) : Chunk := ⟨fun k => k = g, fun w => w.heap[g]? = some o, fun h hm => (hm g rfl).trans h⟩
theorem Own.new (h : Own w0 w L) (o : Obj) : Own w0 (w.alloc o) (Chunk.blk w.heap.size o :: L) := by
  refine h.fresh (cs := [Chunk.blk w.heap.size o]) ?_
  have hb := below_alloc (Below.refl w.heap.size w) o
  refine ⟨hb.os, hb.tape, hb.output, hb.size, fun k hk _ => hb.block k hk, ?_, ?_, List.pairwise_singleton _ _⟩
  · intro c hc
    rw [List.mem_singleton.1 hc]
    exact heap_alloc_new w o
  · intro c hc k hk
    rw [List.mem_singleton.1 hc] at hk
    have hk' : k = w.heap.size := hk
    subst hk'
    exact ⟨.inr (Nat.le_refl _), by simp⟩
theorem Own.setBlk {g : Nat} {a : Array Value} {t : TypeId} (h : Own w0 w L) (i : Nat) (hi : L[i]? = some (Chunk.blk g (.cells a t (0, 0)))) (j : Nat) (u : Value) :
    Own w0 (w.setCell ⟨g, j, none⟩ u) (L.set i (Chunk.blk g (.cells (a.setIfInBounds j u) t (0, 0)))) := by
  refine h.calls (cs := []) i hi ?_
  have hg : w.heap[g]? = some (.cells a t (0, 0)) := h.get i hi
  have hl := (h.lt i hi (k := g) rfl).2
  refine ⟨rfl, rfl, rfl, by simp [World.setCell], fun k _ hk => Below.heap_setCell w ⟨g, j, none⟩ u k hk, ?_, ?_, List.pairwise_singleton _ _⟩
  · intro c hc
    rw [List.mem_singleton.1 hc]
    exact blk_set hg j u
  · intro c hc k hk
    rw [List.mem_singleton.1 hc] at hk
    have hk' : k = g := hk
    subst hk'
    exact ⟨.inl rfl, by simpa [World.setCell] using hl⟩
end
section
variable {α : Type}
def Chunk.row (d : Kd α) (e : Nat) (base : Nat) (S : Nat → Prop) (v : Value) (xs : List α) : Chunk := ⟨S, fun w => d.R e w base S v xs, fun h hm => Kd.R_move h hm⟩
variable {d : Kd α} {e base : Nat} {w0 w w' : World} {ok : Nat → Prop} {v : Value} {xs : List α} {L : List Chunk}
theorem Out.row (h : d.R e w' w.heap.size ok v xs) (hb : Below w.heap.size w w') : Out w w' (fun _ => False) [Chunk.row d e w.heap.size (fun k => w.heap.size ≤ k ∧ k < w'.heap.size) v xs] := by
  refine ⟨hb.os, hb.tape, hb.output, hb.size, fun k hk _ => hb.block k hk, ?_, ?_, List.pairwise_singleton _ _⟩
  · intro c hc
    rw [List.mem_singleton.1 hc]
    exact Kd.R_mono (Kd.R_bound h) fun k hk => ⟨hk.2.1, hk.2.2.1⟩
  · intro c hc k hk
    rw [List.mem_singleton.1 hc] at hk
    exact ⟨.inr hk.1, hk.2⟩
end
section
variable {w W W2 : World} {S S2 : Nat → Prop} {L : List Chunk}
theorem Out.refl (w : World) (S : Nat → Prop) : Out w w S [] := Out.of_below (Below.refl _ _) S
theorem Out.then_ (h : Out w W S []) (k : Out W W2 S2 L) (hs : ∀ q, S2 q → S q ∨ w.heap.size ≤ q) : Out w W2 S [] :=
  ⟨k.os.trans h.os, k.tape.trans h.tape, k.output.trans h.output, Nat.le_trans h.size k.size, fun q hq hn => (k.block q (Nat.lt_of_lt_of_le hq h.size) (fun h2 => (hs q h2).elim hn (fun h3 => by omega))).trans (h.block q hq hn),
    fun _ h => by simp at h, fun _ h => by simp at h, List.Pairwise.nil⟩
theorem Out.setCell (h : Out w W S []) {p : Addr} (hp : S p.block ∨ w.heap.size ≤ p.block) (u : Value) : Out w (W.setCell p u) S [] :=
  h.then_ (S2 := fun k => k = p.block) (L := []) ⟨rfl, rfl, rfl, by simp [World.setCell], fun q _ hn => Below.heap_setCell W p u q hn, fun _ h => by simp at h, fun _ h => by simp at h, List.Pairwise.nil⟩ (fun q hq => by rw [hq]; exact hp)
theorem Out.grown (h : Out w W S []) {row : Option Nat} (hg : W.grownBy W2 row) (hr : ∀ k, row = some k → S k ∨ w.heap.size ≤ k) : Out w W2 S [] :=
  h.then_ (S2 := fun k => row = some k) (L := []) ⟨hg.os, hg.tape, hg.output, hg.size, fun q hq hn => hg.block q hq (fun e => hn e.symm), fun _ h => by simp at h, fun _ h => by simp at h, List.Pairwise.nil⟩ hr
theorem Out.one {c : Chunk} (h : Out w W S []) (hP : c.P W) (hin : ∀ k, c.S k → (S k ∨ w.heap.size ≤ k) ∧ k < W.heap.size) : Out w W S [c] :=
  ⟨h.os, h.tape, h.output, h.size, h.block, fun d hd => by rw [List.mem_singleton.1 hd]; exact hP, fun d hd => by rw [List.mem_singleton.1 hd]; exact hin, List.pairwise_singleton _ _⟩
end
end
section
def look : List (Nat × Value) → Nat → Option Value
  | [], _ => none
  | (d, v) :: F, t => bif Nat.beq d t then some v else look F t
structure FrD (D : List Deferred) (N : Nat) (a : Act) (F : List (Nat × Value)) : Prop where
  defers : a.defers = D
  size : a.tmps.size = N
  at_ : ∀ t v, look F t = some v → a.tmps[t]? = some v
abbrev Fr := FrD []
section
variable {D : List Deferred} {N : Nat} {a : Act} {F : List (Nat × Value)}
theorem FrD.ev (h : FrD D N a F) {t : Nat} {v : Value} (hl : look F t = some v) : a.eval (.tmp t) = v := by
  show a.tmps.getD t undef = v
  rw [Array.getD_eq_getD_getElem?, h.at_ t v hl]
  rfl
theorem ev_c (a : Act) (v : Value) : a.eval (.const v) = v := rfl
theorem FrD.put (h : FrD D N a F) {d : Nat} (hd : d < N) (v : Value) : FrD D N (a.put (some d) v) ((d, v) :: F) := by
  refine ⟨h.defers, by simp [Act.put, h.size], fun t u hl => ?_⟩
  unfold look at hl
  by_cases e : d = t
  · subst e
    have : Nat.beq d d = true := Nat.beq_refl d
    rw [this] at hl
    simp only [cond_true] at hl
    obtain rfl := Option.some.inj hl
    show (a.tmps.setIfInBounds d v)[d]? = some v
    rw [Array.getElem?_setIfInBounds_self_of_lt (by rw [h.size]; exact hd)]
  · have : Nat.beq d t = false := by
      rw [Bool.eq_false_iff]
      intro h2
      exact e (Nat.eq_of_beq_eq_true h2)
    rw [this] at hl
    simp only [cond_false] at hl
    show (a.tmps.setIfInBounds d v)[t]? = some u
    rw [Array.getElem?_setIfInBounds_ne e]
    exact h.at_ t u hl
theorem FrD.nil (h : FrD D N a F) : FrD D N a [] := ⟨h.defers, h.size, fun t v hl => by simp [look] at hl⟩
theorem FrD.pick {F' : List (Nat × Value)} (h : FrD D N a F) {t : Nat} {v : Value} (hl : look F t = some v) (h' : FrD D N a F') : FrD D N a ((t, v) :: F') := by
  refine ⟨h.defers, h.size, fun u x hx => ?_⟩
  unfold look at hx
  by_cases e : t = u
  · subst e
    rw [Nat.beq_refl t] at hx
    simp only [cond_true] at hx
    obtain rfl := Option.some.inj hx
    exact h.at_ t v hl
  · have : Nat.beq t u = false := by
      rw [Bool.eq_false_iff]
      intro h2
      exact e (Nat.eq_of_beq_eq_true h2)
    rw [this] at hx
    exact h'.at_ u x hx
end
def Runs (P : Program) (o : Oper) (a : Act) (w : World) (v : Value) (w1 : World) : Prop := (execOp a.eval o).run P w = .ok (.value v) w1
def Skips (P : Program) (o : Oper) (a : Act) (w : World) (w1 : World) : Prop := (execOp a.eval o).run P w = .ok .skip w1
def Enters (P : Program) (o : Oper) (a : Act) (w : World) (f : FuncId) (args : Array Value) : Prop := (execOp a.eval o).run P w = .ok (.enter f args) w
section
variable {P : Program} {o : Oper} {a : Act} {w : World} {x y : Operand} {t yt : TypeId}
theorem op_move {v : Value} (ho : o.op = .move x) (hx : a.eval x = v) : Runs P o a w v w := by
  unfold Runs execOp
  simp only [ho, hx]
  rfl
theorem op_assign {v : Value} (ho : o.op = .assign x) (hx : a.eval x = v) : Runs P o a w v w := by
  unfold Runs execOp
  simp only [ho, hx]
  rfl
theorem op_pick_t {v : Value} {z : Operand} (ho : o.op = .pick x y z) (hx : a.eval x = .bool true) (hy : a.eval y = v) : Runs P o a w v w := by
  unfold Runs execOp
  simp only [ho, hx, hy]
  simp [go_sem]
theorem op_pick_f {v : Value} {z : Operand} (ho : o.op = .pick x y z) (hx : a.eval x = .bool false) (hy : a.eval z = v) : Runs P o a w v w := by
  unfold Runs execOp
  simp only [ho, hx, hy]
  simp [go_sem]
theorem op_nil {ad : Addr} (ho : o.op = .nilCheck x) (hx : a.eval x = .pointer (some ad)) : Runs P o a w (.pointer (some ad)) w := by
  unfold Runs execOp
  simp only [ho, hx]
  rfl
section
variable {m n : Int} {k : IntKind}
theorem i64_ok {m : Int} (h1 : -9223372036854775808 ≤ m) (h2 : m ≤ 9223372036854775807) : IntKind.i64.wrap m = m := IntWalk.i64_in _ (by omega)
theorem op_addw (ho : o.op = .binOp .add t x y yt) (hx : a.eval x = .int k m) (hy : a.eval y = .int k n) : Runs P o a w (.int k (k.wrap (m + n))) w := by
  unfold Runs execOp
  simp only [ho, hx, hy]
  simp [go_sem]
theorem op_subw (ho : o.op = .binOp .sub t x y yt) (hx : a.eval x = .int k m) (hy : a.eval y = .int k n) : Runs P o a w (.int k (k.wrap (m - n))) w := by
  unfold Runs execOp
  simp only [ho, hx, hy]
  simp [go_sem]
theorem op_mulw (ho : o.op = .binOp .mul t x y yt) (hx : a.eval x = .int k m) (hy : a.eval y = .int k n) : Runs P o a w (.int k (k.wrap (m * n))) w := by
  unfold Runs execOp
  simp only [ho, hx, hy]
  simp [go_sem]
theorem op_add (ho : o.op = .binOp .add t x y yt) (hx : a.eval x = .int .i64 m) (hy : a.eval y = .int .i64 n) (h : -9223372036854775808 ≤ m + n ∧ m + n ≤ 9223372036854775807) : Runs P o a w (.int .i64 (m + n)) w := by
  have := op_addw (P := P) (w := w) ho hx hy
  rwa [i64_ok h.1 h.2] at this
theorem op_sub (ho : o.op = .binOp .sub t x y yt) (hx : a.eval x = .int .i64 m) (hy : a.eval y = .int .i64 n) (h : -9223372036854775808 ≤ m - n ∧ m - n ≤ 9223372036854775807) : Runs P o a w (.int .i64 (m - n)) w := by
  have := op_subw (P := P) (w := w) ho hx hy
  rwa [i64_ok h.1 h.2] at this
theorem op_mul (ho : o.op = .binOp .mul t x y yt) (hx : a.eval x = .int .i64 m) (hy : a.eval y = .int .i64 n) (h : -9223372036854775808 ≤ m * n ∧ m * n ≤ 9223372036854775807) : Runs P o a w (.int .i64 (m * n)) w := by
  have := op_mulw (P := P) (w := w) ho hx hy
  rwa [i64_ok h.1 h.2] at this
theorem op_lss (ho : o.op = .binOp .lss t x y yt) (hx : a.eval x = .int k m) (hy : a.eval y = .int k n) : Runs P o a w (.bool (decide (m < n))) w := by
  unfold Runs execOp
  simp only [ho, hx, hy]
  simp [go_sem]
theorem op_leq (ho : o.op = .binOp .leq t x y yt) (hx : a.eval x = .int k m) (hy : a.eval y = .int k n) : Runs P o a w (.bool (decide (m ≤ n))) w := by
  unfold Runs execOp
  simp only [ho, hx, hy]
  simp [go_sem]
theorem op_gtr (ho : o.op = .binOp .gtr t x y yt) (hx : a.eval x = .int k m) (hy : a.eval y = .int k n) : Runs P o a w (.bool (decide (n < m))) w := by
  unfold Runs execOp
  simp only [ho, hx, hy]
  simp [go_sem]
theorem op_geq (ho : o.op = .binOp .geq t x y yt) (hx : a.eval x = .int k m) (hy : a.eval y = .int k n) : Runs P o a w (.bool (decide (n ≤ m))) w := by
  unfold Runs execOp
  simp only [ho, hx, hy]
  simp [go_sem]
theorem op_eqi (ho : o.op = .binOp .eql t x y yt) (hx : a.eval x = .int k m) (hy : a.eval y = .int k n) : Runs P o a w (.bool (decide (m = n))) w := by
  unfold Runs execOp
  simp only [ho, hx, hy]
  simp [go_sem]
  rfl
theorem op_nei (ho : o.op = .binOp .neq t x y yt) (hx : a.eval x = .int k m) (hy : a.eval y = .int k n) : Runs P o a w (.bool (decide (m ≠ n))) w := by
  unfold Runs execOp
  simp only [ho, hx, hy]
  simp [go_sem]
  rfl
end
section
variable {p q : Bool}
theorem op_eqb (ht : P.underlying t = some .bool) (ho : o.op = .binOp .eql t x y yt) (hx : a.eval x = .bool p) (hy : a.eval y = .bool q) : Runs P o a w (.bool (p == q)) w := by
  unfold Runs execOp
  simp only [ho, hx, hy]
  simp [go_sem, ht]
theorem op_neb (ht : P.underlying t = some .bool) (ho : o.op = .binOp .neq t x y yt) (hx : a.eval x = .bool p) (hy : a.eval y = .bool q) : Runs P o a w (.bool (p != q)) w := by
  unfold Runs execOp
  simp only [ho, hx, hy]
  cases p <;> cases q <;> simp [go_sem, ht]
theorem op_not (ho : o.op = .unOp .not t x) (hx : a.eval x = .bool p) : Runs P o a w (.bool (!p)) w := by
  unfold Runs execOp
  simp only [ho, hx]
  simp [go_sem]
end
section
variable {s u : ByteArray}
theorem op_eqs (ho : o.op = .binOp .eql t x y yt) (hx : a.eval x = .string s) (hy : a.eval y = .string u) : Runs P o a w (.bool (s.toList == u.toList)) w := by
  unfold Runs execOp
  simp only [ho, hx, hy]
  simp [go_sem]
theorem op_nes (ho : o.op = .binOp .neq t x y yt) (hx : a.eval x = .string s) (hy : a.eval y = .string u) : Runs P o a w (.bool (!(s.toList == u.toList))) w := by
  unfold Runs execOp
  simp only [ho, hx, hy]
  simp [go_sem]
end
theorem op_eqp_nil {ad : Addr} {e : TypeId} (ht : P.underlying t = some (.pointer e)) (ho : o.op = .binOp .eql t x (.const (.pointer none)) yt) (hx : a.eval x = .pointer (some ad)) : Runs P o a w (.bool false) w := by
  unfold Runs execOp
  simp only [ho, hx]
  simp [go_sem, Act.eval, ht]
theorem op_len {A : Option Addr} {n c : Nat} {e : TypeId} (ht : P.underlying t = some (.slice e)) (ho : o.op = .call { callee := .builtin .len, args := #[x], argTypes := #[t] }) (hx : a.eval x = .slice A n c) : Runs P o a w (.int .i64 n) w := by
  unfold Runs execOp
  simp only [ho, resolve, invoke, builtin, Sem.run_bind, Sem.run_pure, Result.andThen_ok, List.map_toArray, List.map_cons, List.map_nil, hx]
  simp [go_sem, ht]
theorem op_lens {s : ByteArray} (ht : P.underlying t = some .string) (ho : o.op = .call { callee := .builtin .len, args := #[x], argTypes := #[t] }) (hx : a.eval x = .string s) : Runs P o a w (.int .i64 s.size) w := by
  unfold Runs execOp
  simp only [ho, resolve, invoke, builtin, Sem.run_bind, Sem.run_pure, Result.andThen_ok, List.map_toArray, List.map_cons, List.map_nil, hx]
  simp [go_sem, ht]
theorem op_extract {vs : Array Value} {i : Nat} {v : Value} (ho : o.op = .extract x i) (hx : a.eval x = .tuple vs) (hv : vs[i]? = some v) : Runs P o a w v w := by
  unfold Runs execOp
  simp only [ho, hx]
  simp [go_sem, hv]
theorem op_call {f : FuncId} {fn : Func} {args : Array Operand} {tys : Array TypeId} {vs : Array Value} (hf : P.funcs[f]? = some fn) (hname : (fn.name == "runtime.NumGoroutine") = false) (hb : fn.body.isSome = true) (ho : o.op = .call { callee := .value (.func f), args := args, argTypes := tys }) (hv : args.map a.eval = vs) : Enters P o a w f vs := by
  have he := enters_ hf hname hb vs w
  unfold Enters execOp
  simp [ho, resolve, Deferred.ofValue, invoke, Act.eval, hv, he]
theorem op_max {m n : Int} {k : IntKind} (ho : o.op = .call { callee := .builtin .max, args := #[x, y], argTypes := #[t, yt] }) (hx : a.eval x = .int k m) (hy : a.eval y = .int k n) : Runs P o a w (.int k (mx m n)) w := by
  unfold Runs execOp
  simp only [ho, resolve, invoke, builtin, Sem.run_bind, Sem.run_pure, Result.andThen_ok, List.map_toArray, List.map_cons, List.map_nil, hx, hy]
  simp [go_sem, max_two, max2_int, mx]
theorem op_min {m n : Int} {k : IntKind} (ho : o.op = .call { callee := .builtin .min, args := #[x, y], argTypes := #[t, yt] }) (hx : a.eval x = .int k m) (hy : a.eval y = .int k n) : Runs P o a w (.int k (mn m n)) w := by
  unfold Runs execOp
  simp only [ho, resolve, invoke, builtin, Sem.run_bind, Sem.run_pure, Result.andThen_ok, List.map_toArray, List.map_cons, List.map_nil, hx, hy]
  simp [go_sem, min_two, min2_int, mn]
section
variable {ad : Addr} {v u : Value}
theorem op_load1 (hA : ∀ w, (isAgg t).run P w = .ok false w) (ho : o.op = .load t x) (hx : a.eval x = .pointer (some ad)) (hc : w.cell? ad = some v) : Runs P o a w v w := by
  unfold Runs execOp
  simp only [ho, hx]
  simp [go_sem, Instr.loadAt, Instr.sureAddr, loadVar, hA, hc]
theorem op_store1 (hS : ∀ w, (sizeOf t).run P w = .ok 1 w) (ho : o.op = .store t x y) (hx : a.eval x = .pointer (some ad)) (hy : a.eval y = v) (hv : v.oneCell' = true) (hc : w.cell? ad = some u) (hfz : w.frozen? ad = false) : Skips P o a w (w.setCell ad v) := by
  have hcs : v.cells = #[v] := by cases v <;> first | rfl | cases hv
  have hst := run_store P w ad v .plain hv
  have h0 : ad.add 0 = ad := by unfold Addr.add; rfl
  have key : (Instr.storeAt t (.pointer (some ad)) v).run P w = .ok () (w.setCell ad v) := by
    unfold Instr.storeAt Instr.sureAddr storeVar
    simp only [Sem.run_bind, Sem.run_pure, Result.andThen_ok, hS, hcs]
    simp [storeCells, h0, hst, stored, hc, hfz]
  unfold Skips execOp
  simp only [ho, hx, hy, Sem.run_bind, key, Result.andThen_ok, Sem.run_pure]
theorem op_alloc {z : Value} (hz : ∀ w, (zeroValue t).run P w = .ok z w) (ho : o.op = .alloc t) : Runs P o a w (.pointer (some ⟨w.heap.size, 0, none⟩)) (w.alloc (.cells z.cells t (0, 0))) := by
  unfold Runs execOp
  simp only [ho]
  simp [go_sem, Instr.alloc, hz, newVar, newRow]
theorem op_box (ho : o.op = .box t x) (hx : a.eval x = v) : Runs P o a w (.pointer (some ⟨w.heap.size, 0, none⟩)) (w.alloc (.cells v.cells t (0, 0))) := by
  unfold Runs execOp
  simp only [ho, hx]
  simp [go_sem, Instr.box, newVar, newRow]
theorem op_field {f : Nat} {ad' : Addr} (hf : ∀ w, (Instr.fieldAt t (.pointer (some ad)) f).run P w = .ok (.pointer (some ad')) w) (ho : o.op = .fieldAddr t x f) (hx : a.eval x = .pointer (some ad)) : Runs P o a w (.pointer (some ad')) w := by
  unfold Runs execOp
  simp only [ho, hx, Sem.run_bind, hf, Result.andThen_ok, Sem.run_pure]
theorem op_index {A : Option Addr} {n c sz : Nat} {e : TypeId} {k : IntKind} {i : Int} (ht : P.underlying t = some (.slice e)) (hS : ∀ w, (sizeOf e).run P w = .ok sz w) (ho : o.op = .indexAddr t x y) (hx : a.eval x = .slice A n c) (hy : a.eval y = .int k i) (hA : A = some ad) (h : 0 ≤ i ∧ i < n) :
    Runs P o a w (.pointer (some (ad.add (i.toNat * sz)))) w := by
  subst hA
  unfold Runs execOp
  simp only [ho, hx, hy]
  simp [go_sem, Instr.indexAt, asIntOf, run_underlying ht, hS, h.1, h.2]
end
end
section
variable {D : List Deferred} {P : Program} {ops : Array Oper} {Q : Exit → Act → World → Prop} {rest : List Oper} {o : Oper} {N d : Nat} {a : Act} {F : List (Nat × Value)} {w w1 : World} {v : Value} {C : World → Prop} {Q' : Act → Prop}
theorem want_none (hg : o.guard = none) : Region.wanted o (yielded ops a.tmps) = true := by simp [Region.wanted, hg]
theorem yields_of (HF : FrD D N a F) {j dj : Nat} {oj : Oper} {b : Bool} (hj : ops[j]? = some oj) (hdj : oj.dst = some dj) (hl : look F dj = some (.bool b)) : yielded ops a.tmps j = some b := by
  simp [yielded, hj, hdj, HF.at_ _ _ hl]
theorem want_yes (HF : FrD D N a F) {j dj : Nat} {oj : Oper} {b : Bool} (hg : o.guard = some (j, b)) (hj : ops[j]? = some oj) (hdj : oj.dst = some dj) (hl : look F dj = some (.bool b)) : Region.wanted o (yielded ops a.tmps) = true := by
  simp [Region.wanted, hg, yields_of HF hj hdj hl]
theorem want_no (HF : FrD D N a F) {j dj : Nat} {oj : Oper} {b b' : Bool} (hg : o.guard = some (j, b)) (hj : ops[j]? = some oj) (hdj : oj.dst = some dj) (hl : look F dj = some (.bool b')) (hne : b' ≠ b) : Region.wanted o (yielded ops a.tmps) = false := by
  simp [Region.wanted, hg, yields_of HF hj hdj hl, hne]
theorem gw_ev (HF : FrD D N a F) (hw : Region.wanted o (yielded ops a.tmps) = true) (hd : o.dst = some d) (hN : d < N) (hrun : Runs P o a w v w1) (k : ∀ a', FrD D N a' ((d, v) :: F) → wpList P ops Q rest a' w1) : wpList P ops Q (o :: rest) a w := by
  refine wpList_step fun K hK => ?_
  rw [if_pos hw]
  unfold Oper.wp
  rw [hrun, Oper.upon_value, hd]
  exact hK _ _ (k _ (HF.put hN v))
theorem gw_skip (HF : FrD D N a F) (hw : Region.wanted o (yielded ops a.tmps) = true) (hd : o.dst = none) (hrun : Skips P o a w w1) (k : ∀ a', FrD D N a' F → wpList P ops Q rest a' w1) : wpList P ops Q (o :: rest) a w := by
  refine wpList_step fun K hK => ?_
  rw [if_pos hw]
  unfold Oper.wp
  rw [hrun, Oper.upon_skip, hd]
  exact hK _ _ (k _ HF)
theorem gw_off (HF : FrD D N a F) (hw : Region.wanted o (yielded ops a.tmps) = false) (hd : o.dst = some d) (hN : d < N) (k : ∀ a', FrD D N a' ((d, undef) :: F) → wpList P ops Q rest a' w) : wpList P ops Q (o :: rest) a w := by
  refine wpList_skip hw ?_
  rw [hd]
  exact k _ (HF.put hN undef)
theorem gw_call {f : FuncId} {args : Array Value} {R : Ending → World → Prop} (HF : FrD D N a F) (hw : Region.wanted o (yielded ops a.tmps) = true) (hd : o.dst = some d) (hN : d < N) (hen : Enters P o a w f args) (hc : Calls P f args w R)
    (k : ∀ e w', R e w' → ∃ v, e = .returned v ∧ ∀ a', FrD D N a' ((d, v) :: F) → wpList P ops Q rest a' w') : wpList P ops Q (o :: rest) a w := by
  refine wpList_step fun K hK => ?_
  rw [if_pos hw]
  unfold Oper.wp
  rw [hen, Oper.upon_enter]
  refine hc.mono fun e w'' hh => ?_
  obtain ⟨v, rfl, hk⟩ := k e w'' hh
  show K (a.put o.dst v) w''
  rw [hd]
  exact hK _ _ (hk _ (HF.put hN v))
theorem gw_new {w0 : World} {L : List Chunk} {O : Obj} (HF : FrD D N a F) (HO : Own w0 w L) (hw : Region.wanted o (yielded ops a.tmps) = true) (hd : o.dst = some d) (hN : d < N) (hrun : Runs P o a w (.pointer (some ⟨w.heap.size, 0, none⟩)) (w.alloc O))
    (k : ∀ g a' w1, FrD D N a' ((d, .pointer (some ⟨g, 0, none⟩)) :: F) → Own w0 w1 (Chunk.blk g O :: L) → wpList P ops Q rest a' w1) : wpList P ops Q (o :: rest) a w :=
  gw_ev HF hw hd hN hrun fun a' HF' => k _ a' _ HF' (HO.new O)
theorem gw_set {w0 : World} {L : List Chunk} {g j : Nat} {cs : Array Value} {T : TypeId} (i : Nat) (HF : FrD D N a F) (HO : Own w0 w L) (hi : L[i]? = some (Chunk.blk g (.cells cs T (0, 0)))) (hw : Region.wanted o (yielded ops a.tmps) = true) (hd : o.dst = none) (hrun : Skips P o a w (w.setCell ⟨g, j, none⟩ v))
    (k : ∀ a' w1, FrD D N a' F → Own w0 w1 (L.set i (Chunk.blk g (.cells (cs.setIfInBounds j v) T (0, 0)))) → wpList P ops Q rest a' w1) : wpList P ops Q (o :: rest) a w :=
  gw_skip HF hw hd hrun fun a' HF' => k a' _ HF' (HO.setBlk i hi j v)
theorem gq_ev (HF : FrD D N a F) (hw : Region.wanted o (yielded ops a.tmps) = true) (hd : o.dst = some d) (hN : d < N) (hrun : ∀ w, C w → Runs P o a w v w) (k : ∀ a', FrD D N a' ((d, v) :: F) → wpQuiet P ops C Q' rest a') : wpQuiet P ops C Q' (o :: rest) a := by
  refine wpQuiet_step fun K hK => ?_
  rw [if_pos hw]
  refine ⟨v, fun w hC => ?_, ?_⟩
  · unfold Oper.quietAt
    rw [hrun w hC]
    exact ⟨rfl, rfl⟩
  · rw [hd]
    exact hK _ (k _ (HF.put hN v))
theorem gq_call {f : FuncId} {args : Array Value} (HF : FrD D N a F) (hw : Region.wanted o (yielded ops a.tmps) = true) (hd : o.dst = some d) (hN : d < N) (hen : ∀ w, C w → Enters P o a w f args) (hc : ∀ w, C w → Calls P f args w (fun e w' => e = .returned v ∧ C w')) (k : ∀ a', FrD D N a' ((d, v) :: F) → wpQuiet P ops C Q' rest a') : wpQuiet P ops C Q' (o :: rest) a := by
  refine wpQuiet_step fun K hK => ?_
  rw [if_pos hw]
  refine ⟨v, fun w hC => ?_, ?_⟩
  · unfold Oper.quietAt
    rw [hen w hC]
    exact ⟨rfl, hc w hC⟩
  · rw [hd]
    exact hK _ (k _ (HF.put hN v))
theorem gq_off (HF : FrD D N a F) (hw : Region.wanted o (yielded ops a.tmps) = false) (hd : o.dst = some d) (hN : d < N) (k : ∀ a', FrD D N a' ((d, undef) :: F) → wpQuiet P ops C Q' rest a') : wpQuiet P ops C Q' (o :: rest) a := by
  refine wpQuiet_step fun K hK => ?_
  rw [if_neg (by rw [hw]; simp), hd]
  exact hK _ (k _ (HF.put hN undef))
theorem gw_drawB {w0 : World} {L : List Chunk} {id : Nat} {l : List Oper} (HO : Own w0 w L) (hm : P.follows .mixedOrders = true) (hB : Region.lexB .any l.toArray = true)
    (h : ∀ w1, Own w0 w1 L → wpQuiet P l.toArray (fun wq => Below w1.heap.size w1 wq) (fun a' => ∀ w', Below w1.heap.size w1 w' → Q .normal a' w') l a) : (Code.region id l.toArray true).wp P Q a w :=
  wp_region_quiet (C := fun wq => Below w.drew.heap.size w.drew wq) hm hB (Below.refl _ _) (by simpa using h _ HO.drew)
theorem below_then {w w1 w2 : World} (h : Below w.heap.size w w1) (h2 : Below w1.heap.size w1 w2) : Below w.heap.size w w2 := (((Own.start w).after h).after h2).below
theorem cellb {w wq : World} {p : Addr} {v : Value} (h : Below w.heap.size w wq) (hc : w.cell? p = some v) : wq.cell? p = some v :=
  (h.cell (World.block_lt_of_cell? w p hc)).trans hc
theorem gw_cond {x y : Code} {t : Nat} {b : Bool} (HF : FrD D N a F) (hl : look F t = some (.bool b)) (ht : b = true → x.wp P Q a w) (hf : b = false → y.wp P Q a w) : (Code.cond (.tmp t) x y).wp P Q a w :=
  wp_cond_split (HF.ev hl) ht hf
theorem gw_seq {x y : Code} (h : ∀ K : Act → World → Prop, (∀ a w, y.wp P Q a w → K a w) → x.wp P (Exit.then K Q) a w) : (Code.seq x y).wp P Q a w := wp_seq_k h
theorem gw_in {id : Nat} {a : Act} {w : World} (h : Q .normal a w) : Exit.inBlock id Q (.exit id) a w := by
  show (if id = id then Q .normal a w else Q (.exit id) a w)
  rw [if_pos rfl]
  exact h
theorem gw_out {id id' : Nat} {a : Act} {w : World} (hne : id' ≠ id) (h : Q (.exit id') a w) : Exit.inBlock id Q (.exit id') a w := by
  show (if id' = id then Q .normal a w else Q (.exit id') a w)
  rw [if_neg hne]
  exact h
theorem gw_loop {c : Code} (J : Nat → Act → World → Prop) (n : Nat) (h0 : J n a w) (round : ∀ n a w, J n a w → c.wp P (Exit.then (fun a' w' => ∃ m, m < n ∧ J m a' w') Q) a w) : (Code.loop c).wp P Q a w := by
  have least : ∀ a w, (∃ n, J n a w) → ∃ n, J n a w ∧ ∀ m, J m a w → n ≤ m := by
    intro a w ⟨n, hn⟩
    induction n using Nat.strongRecOn with
    | _ n ih =>
      by_cases h : ∃ m, m < n ∧ J m a w
      · obtain ⟨m, hm, hj⟩ := h
        exact ih m hm hj
      · exact ⟨n, hn, fun m hm => Nat.le_of_not_lt fun hlt => h ⟨m, hlt, hm⟩⟩
  classical
  refine wp_loop (fun a w => ∃ n, J n a w) (fun a w => if h : ∃ n, J n a w then (least a w h).choose else 0) ⟨n, h0⟩ fun a w hI => ?_
  have hc := (least a w hI).choose_spec
  refine Code.wp_mono ?_ (round _ a w hc.1)
  intro e a' w' hq
  cases e with
  | normal =>
    obtain ⟨m, hm, hj⟩ := hq
    have hI' : ∃ n, J n a' w' := ⟨m, hj⟩
    refine ⟨hI', ?_⟩
    have hc' := (least a' w' hI').choose_spec
    rw [dif_pos hI', dif_pos hI]
    exact Nat.lt_of_le_of_lt (hc'.2 m hj) hm
  | _ => exact hq
end
section
variable {D : List Deferred} {P : Program} {fn : Func} {R : Ending → World → Prop} {N : Nat} {a : Act} {F : List (Nat × Value)} {w : World}
def ixs : Nat → List Value → List (Nat × Value)
  | _, [] => []
  | k, v :: vs => (k, v) :: ixs (k + 1) vs
theorem look_ixs : ∀ (vs : List Value) (k t : Nat) (v : Value), look (ixs k vs) t = some v → ∃ j, t = k + j ∧ vs[j]? = some v
  | [], k, t, v, h => by simp [ixs, look] at h
  | u :: vs, k, t, v, h => by
    unfold ixs look at h
    by_cases e : k = t
    · subst e
      rw [Nat.beq_refl] at h
      exact ⟨0, rfl, h⟩
    · have : Nat.beq k t = false := by
        rw [Bool.eq_false_iff]
        exact fun h2 => e (Nat.eq_of_beq_eq_true h2)
      rw [this] at h
      obtain ⟨j, h1, h2⟩ := look_ixs vs (k + 1) t v h
      exact ⟨j + 1, by omega, h2⟩
theorem Fr.start (vs : List Value) (n : Nat) (h : vs.length ≤ n) : Fr n { tmps := vs.toArray ++ Array.replicate (n - vs.toArray.size) undef, defers := [] } (ixs 0 vs) := by
  refine ⟨rfl, by simp; omega, fun t v hl => ?_⟩
  obtain ⟨j, rfl, hj⟩ := look_ixs vs 0 t v hl
  rw [Nat.zero_add, Array.getElem?_append_left (by simpa using (List.getElem?_eq_some_iff.1 hj).1)]
  simpa using hj
theorem gw_start {f : FuncId} {c : Code} {vs : List Value} (hf : P.funcs[f]? = some fn) (hb : fn.body = some c) (hn : fn.ntmps = N) (hl : vs.length ≤ N)
    (h : ∀ a, Fr N a (ixs 0 vs) → Own w w [] → c.wp P (bodyPost P fn R) a w) : Calls P f vs.toArray w R := by
  refine calls_of_wp hf hb ?_
  rw [hn]
  exact h _ (Fr.start vs N hl) (Own.start w)
theorem gw_ret1 {t : Nat} {v : Value} (HF : Fr N a F) (hr : fn.results = #[.tmp t]) (hl : look F t = some v) (h : R (.returned v) w) : bodyPost P fn R .ret a w := by
  have := results_tmp (P := P) hr a.tmps w
  refine bodyPost_ret (v := v) ?_ HF.defers h
  have he := HF.ev hl
  rw [this]
  exact congrArg (fun v => Result.ok v w) he
theorem gw_ret2 {t u : Nat} {v v' : Value} (HF : Fr N a F) (hr : fn.results = #[.tmp t, .tmp u]) (hl : look F t = some v) (hl' : look F u = some v') (h : R (.returned (.tuple #[v, v'])) w) : bodyPost P fn R .ret a w := by
  have := results_tmp2 hr a.tmps P w
  refine bodyPost_ret (v := .tuple #[v, v']) ?_ HF.defers h
  have he : a.tmps.getD t undef = v := HF.ev hl
  have he' : a.tmps.getD u undef = v' := HF.ev hl'
  rw [this, he, he']
theorem gw_end0 (HF : Fr N a F) (hr : fn.results = #[]) (h : R (.returned (.tuple #[])) w) : bodyPost P fn R .normal a w :=
  bodyPost_end (results_none hr a.tmps P w) HF.defers h
end
section
variable {D : List Deferred} {N d : Nat} {a : Act} {F : List (Nat × Value)} {v v' : Value} {t b : Bool}
theorem FrD.lit (h : FrD D N a ((d, .bool t) :: F)) (e : t = b) : FrD D N a ((d, .bool b) :: F) := e ▸ h
theorem FrD.conv (h : FrD D N a ((d, v) :: F)) (e : v = v') : FrD D N a ((d, v') :: F) := e ▸ h
theorem FrD.subst_ (h : FrD D N a F) (hl : look F d = some (.bool t)) (e : t = b) : FrD D N a ((d, .bool b) :: F) := h.pick (e ▸ hl) h
end
section
variable {P : Program} {K : Act → World → Prop} {Q : Exit → Act → World → Prop} {a : Act} {w : World} {id : Nat}
theorem gw_nx (h : K a w) : Exit.then K Q .normal a w := h
theorem gw_blk (h : Q .normal a w) : Exit.inBlock id Q .normal a w := h
theorem gw_thx {id' : Nat} (h : Q (.exit id') a w) : Exit.then K Q (.exit id') a w := h
theorem gw_thr (h : Q .ret a w) : Exit.then K Q .ret a w := h
theorem gw_blr (h : Q .ret a w) : Exit.inBlock id Q .ret a w := h
end
theorem pw_sel {R : Chunk → Chunk → Prop} (hs : ∀ a b, R a b → R b a) {L : List Chunk} (h : L.Pairwise R) : ∀ (is : List Nat), is.Nodup → (is.filterMap (L[·]?)).Pairwise R
  | [], _ => List.Pairwise.nil
  | i :: is, hn => by
    have hn' := List.nodup_cons.1 hn
    have ih := pw_sel hs h is hn'.2
    cases hi : L[i]? with
    | none => rw [List.filterMap_cons_none hi]; exact ih
    | some c =>
      rw [List.filterMap_cons_some hi]
      refine List.pairwise_cons.2 ⟨fun d hd => ?_, ih⟩
      obtain ⟨j, hj, hjd⟩ := List.mem_filterMap.1 hd
      exact pw_mid hs h i j c d (fun e => hn'.1 (e ▸ hj)) hi hjd
theorem Own.sel {w0 w : World} {L : List Chunk} (h : Own w0 w L) (is : List Nat) (hn : is.Nodup) : Own w0 w (is.filterMap (L[·]?)) := by
  have mem : ∀ c, c ∈ is.filterMap (L[·]?) → c ∈ L := fun c hc => by
    obtain ⟨j, _, hj⟩ := List.mem_filterMap.1 hc
    exact List.mem_of_getElem? hj
  exact ⟨h.below, fun c hc => h.holds c (mem c hc), fun c hc => h.inside c (mem c hc), pw_sel ap_symm h.apart is hn⟩
theorem Own.cell0 {w0 w : World} {L : List Chunk} (h : Own w0 w L) {p : Addr} {v : Value} (hc : w0.cell? p = some v) : w.cell? p = some v :=
  (h.below.cell (World.block_lt_of_cell? w0 p hc)).trans hc
theorem at0 {w : World} {ad : Addr} {m : Nat} {cs : List Value} {v : Value} (h : ∀ j u, cs[j]? = some u → w.cell? (ad.add (m + j)) = some u) (hv : cs[0]? = some v := by rfl) : w.cell? (ad.add m) = some v := h 0 v hv
theorem cells0 {w0 w : World} {L : List Chunk} (ho : Own w0 w L) {ad : Addr} {m : Nat} {cs : List Value} (h : ∀ j u, cs[j]? = some u → w0.cell? (ad.add (m + j)) = some u) : ∀ j u, cs[j]? = some u → w.cell? ((ad.add m).add j) = some u :=
  fun j u hj => by rw [add_add]; exact ho.cell0 (h j u hj)
theorem blk_at {w : World} {g j : Nat} {T : TypeId} {cs : Array Value} {v : Value} (h : w.heap[g]? = some (.cells cs T (0, 0))) (hv : cs[j]? = some v) : w.cell? ⟨g, j, none⟩ = some v := (blk_cell h j).trans hv
theorem blkf {w : World} {g j : Nat} {T : TypeId} {cs : Array Value} (h : w.heap[g]? = some (.cells cs T (0, 0))) : w.frozen? ⟨g, j, none⟩ = false := blk_frozen h j
section
variable {k : IntKind} {e base c : Nat} {S : Nat → Prop} {A : Option Addr} {n : Nat} {xs : List Int} {w : World}
theorem row_cap {α : Type} {d : Kd α} {xs : List α} (h : d.R e w base S (.slice A n c) xs) : xs.length ≤ c := by
  have := Kd.R_reads' h
  omega
theorem row_head {α : Type} {d : Kd α} {xs : List α} (h : d.R e w base S (.slice A n c) xs) (i : Int) (h0 : 0 ≤ i) (h1 : i < xs.length) : ∃ ad, A = some ad := by
  obtain ⟨g, cap, hv, _⟩ := Kd.R_form h (by omega)
  injection hv with hA _ _
  exact ⟨_, hA⟩
theorem row_cell {ad : Addr} (h : (Kd.int k).R e w base S (.slice (some ad) n c) xs) (i : Int) (h0 : 0 ≤ i) (h1 : i < xs.length) : w.cell? (ad.add (i.toNat * 1)) = some (.int k (rd xs i)) ∧ w.frozen? (ad.add (i.toNat * 1)) = false := by
  obtain ⟨g, cap, hv, _⟩ := Kd.R_form h (by omega)
  injection hv with hA hn hc
  injection hA with hA
  subst hA hn hc
  have := Kd.R_cell (0 : Int) h i h0 h1
  rw [Nat.mul_one, add_plain]
  exact this
theorem row_put {ad : Addr} (h : (Kd.int k).R e w base S (.slice (some ad) n c) xs) (i x : Int) (h0 : 0 ≤ i) (h1 : i < xs.length) : (Kd.int k).R e (w.setCell (ad.add (i.toNat * 1)) (.int k x)) base S (.slice (some ad) n c) (xs.set i.toNat x) ∧ S (ad.add (i.toNat * 1)).block := by
  obtain ⟨g, cap, hv, _⟩ := Kd.R_form h (by omega)
  injection hv with hA hn hc
  injection hA with hA
  subst hA hn hc
  have := Kd.R_put h i x
  rw [Nat.mul_one, add_plain]
  exact ⟨this.1, h.1 g rfl⟩
end
section
variable {P : Program} {o : Oper} {a : Act} {w : World} {x y : Operand} {t yt : TypeId}
theorem op_loadn {g off n : Nat} {cs : Array Value} {T : TypeId} {vs : List Value} (hA : ∀ w, (isAgg t).run P w = .ok true w) (hS : ∀ w, (sizeOf t).run P w = .ok n w) (ho : o.op = .load t x) (hx : a.eval x = .pointer (some ⟨g, off, none⟩)) (hb : w.heap[g]? = some (.cells cs T (0, 0))) (hl : (cs.toList.drop off).take n = vs) (hn : vs.length = n) :
    Runs P o a w (.agg vs.toArray) w := by
  have hr := run_loadCells_list (P := P) (w := w) ⟨g, off, none⟩ vs (fun j v hv => by
    rw [add_at, blk_cell hb, ← Array.getElem?_toList]
    rw [← hl, List.getElem?_take] at hv
    split at hv
    · rwa [List.getElem?_drop] at hv
    · cases hv)
  rw [hn] at hr
  unfold Runs execOp
  simp only [ho, hx]
  simp [Instr.loadAt, Instr.sureAddr, loadVar, hA, hS, hr]
theorem op_loadc {n : Nat} {ad : Addr} {cs : List Value} (hA : ∀ w, (isAgg t).run P w = .ok true w) (hS : ∀ w, (sizeOf t).run P w = .ok n w) (ho : o.op = .load t x) (hx : a.eval x = .pointer (some ad)) (hn : cs.length = n) (hc : ∀ j u, cs[j]? = some u → w.cell? (ad.add j) = some u) :
    Runs P o a w (.agg cs.toArray) w := by
  have hr := run_loadCells_list (P := P) (w := w) ad cs hc
  rw [hn] at hr
  unfold Runs execOp
  simp only [ho, hx]
  simp [Instr.loadAt, Instr.sureAddr, loadVar, hA, hS, hr]
theorem op_storen {g off n : Nat} {cs vs : Array Value} {T : TypeId} (hS : ∀ w, (sizeOf t).run P w = .ok n w) (ho : o.op = .store t x y) (hx : a.eval x = .pointer (some ⟨g, off, none⟩)) (hy : a.eval y = .agg vs) (hb : w.heap[g]? = some (.cells cs T (0, 0))) (hn : vs.size = n) (hle : off + n ≤ cs.size) (h1 : ∀ v ∈ vs.toList, v.oneCell' = true) :
    Skips P o a w (w.setRow g (cs.toList.take off ++ vs.toList ++ cs.toList.drop (off + n)).toArray) := by
  have hr := run_storeCells_at (P := P) g off T vs.toList 0 cs w hb (by simpa [hn] using hle) h1
  simp only [Nat.add_zero, Array.length_toList, hn] at hr
  unfold Skips execOp
  simp only [ho, hx, hy]
  simp [Instr.storeAt, Instr.sureAddr, storeVar, hS, Value.cells, hn, hr]
theorem pt_nil {f : Operand → Value} : ([] : List (Nat × Operand)).map (fun p => (p.1, f p.2)) = [] := rfl
theorem pt_cons {f : Operand → Value} {i : Nat} {x : Operand} {v : Value} {l : List (Nat × Operand)} {r : List (Nat × Value)} (h : f x = v) (k : l.map (fun p => (p.1, f p.2)) = r) : ((i, x) :: l).map (fun p => (p.1, f p.2)) = (i, v) :: r := by rw [List.map_cons, k, h]
theorem op_build {parts : List (Nat × Operand)} {vs : List (Nat × Value)} {cells : Array Value} (ho : o.op = .build t parts.toArray) (hp : parts.map (fun p => (p.1, a.eval p.2)) = vs) (hb : P.built t vs = some cells) : Runs P o a w (.agg cells) w := by
  have hq : parts.toArray.map (fun p => (p.1, a.eval p.2)) = vs.toArray := by rw [List.map_toArray, hp]
  have hr := run_build (P := P) w t vs.toArray cells hb
  unfold Runs execOp
  simp only [ho, hq, Sem.run_bind, hr, Result.andThen_ok, Sem.run_pure]
theorem ar_nil {f : Operand → Value} : ([] : List Operand).map f = [] := rfl
theorem ar_cons {f : Operand → Value} {x : Operand} {v : Value} {l : List Operand} {r : List Value} (h : f x = v) (k : l.map f = r) : (x :: l).map f = v :: r := by rw [List.map_cons, k, h]
theorem op_callL {f : FuncId} {fn : Func} {args : List Operand} {tys : Array TypeId} {vs : List Value} (hf : P.funcs[f]? = some fn) (hname : (fn.name == "runtime.NumGoroutine") = false) (hb : fn.body.isSome = true) (ho : o.op = .call { callee := .value (.func f), args := args.toArray, argTypes := tys }) (hv : args.map a.eval = vs) : Enters P o a w f vs.toArray :=
  op_call hf hname hb ho (by rw [List.map_toArray, hv])
end
section
variable {D : List Deferred} {P : Program} {ops : Array Oper} {Q : Exit → Act → World → Prop} {rest : List Oper} {o : Oper} {N : Nat} {a : Act} {F : List (Nat × Value)} {w w0 : World} {L : List Chunk}
theorem gw_setn {g : Nat} {cs cs' : Array Value} {T : TypeId} (i : Nat) (HF : FrD D N a F) (HO : Own w0 w L) (hi : L[i]? = some (Chunk.blk g (.cells cs T (0, 0)))) (hw : Region.wanted o (yielded ops a.tmps) = true) (hd : o.dst = none) (hrun : Skips P o a w (w.setRow g cs'))
    (k : ∀ a' w1, FrD D N a' F → Own w0 w1 (L.set i (Chunk.blk g (.cells cs' T (0, 0)))) → wpList P ops Q rest a' w1) : wpList P ops Q (o :: rest) a w := by
  have hg : w.heap[g]? = some (.cells cs T (0, 0)) := HO.get i hi
  have hl := (HO.lt i hi (k := g) rfl).2
  refine gw_skip HF hw hd hrun fun a' HF' => k a' _ HF' (HO.calls (cs := []) i hi ?_)
  have hsz : (w.setRow g cs').heap.size = w.heap.size := by simp [World.setRow]
  refine (Out.one (S := fun k => k = g) (c := Chunk.blk g (.cells cs' T (0, 0))) ⟨rfl, rfl, rfl, by rw [hsz]; exact Nat.le_refl _, fun q _ hq => ?_, fun _ h => by simp at h, fun _ h => by simp at h, List.Pairwise.nil⟩ ?_ ?_)
  · have hne : q ≠ g := hq
    simp [World.setRow, Array.getElem?_modify, Ne.symm hne]
  · show (w.setRow g cs').heap[g]? = _
    simp [World.setRow, Array.getElem?_modify, hg]
  · intro q hq
    have : q = g := hq
    subst this
    exact ⟨.inl rfl, by rw [hsz]; exact hl⟩
theorem gw_row {k : IntKind} {e base c n : Nat} {S : Nat → Prop} {ad : Addr} {xs : List Int} {t : TypeId} {x y : Operand} {it u : Int} (i : Nat) (HF : FrD D N a F) (HO : Own w0 w L) (hi : L[i]? = some (Chunk.row (Kd.int k) e base S (.slice (some ad) n c) xs)) (hw : Region.wanted o (yielded ops a.tmps) = true) (hd : o.dst = none)
    (hS : ∀ w, (sizeOf t).run P w = .ok 1 w) (h0 : 0 ≤ it) (h1 : it < xs.length) (ho : o.op = .store t x y) (hx : a.eval x = .pointer (some (ad.add (it.toNat * 1)))) (hy : a.eval y = .int k u)
    (kk : ∀ a' w1, FrD D N a' F → Own w0 w1 (L.set i (Chunk.row (Kd.int k) e base S (.slice (some ad) n c) (xs.set it.toNat u))) → wpList P ops Q rest a' w1) : wpList P ops Q (o :: rest) a w := by
  have hR : (Kd.int k).R e w base S (.slice (some ad) n c) xs := HO.get i hi
  have hc := row_cell hR it h0 h1
  have hp := row_put hR it u h0 h1
  refine gw_skip HF hw hd (op_store1 hS ho hx hy rfl hc.1 hc.2) fun a' HF' => kk a' _ HF' (HO.calls (cs := []) i hi ?_)
  refine Out.one (c := Chunk.row (Kd.int k) e base S (.slice (some ad) n c) (xs.set it.toNat u)) ((Out.refl w S).setCell (.inl hp.2) _) hp.1 ?_
  intro q hq
  exact ⟨.inl hq, by have := (HO.lt i hi hq).2; simpa [World.setCell] using this⟩
end
section
variable {P : Program} {o : Oper} {a : Act} {w : World} {x y : Operand} {t e : TypeId}
theorem op_conv_str {A : Option Addr} {n c : Nat} {u : TypeId} {xs : List Int} (hs : P.underlying t = some (.slice e)) (he : P.underlying e = some (.int .u8)) (hd : P.underlying u = some .string) (hC : (Kd.int .u8).C w A n xs) (ho : o.op = .convert t u x) (hx : a.eval x = .slice A n c) : Runs P o a w (.string (strOfNums xs)) w := by
  unfold Runs execOp
  simp only [ho, hx, Sem.run_bind, Kd.C_string hs he hd hC, Result.andThen_ok, Sem.run_pure]
theorem op_cut {v u : Value} {lo hi : Option Operand} {lo' hi' : Option Value} (ht : P.underlying t = some (.slice e)) (hr : ∀ W, (Instr.slice t v lo' hi' none).run P W = .ok u W) (ho : o.op = .slice t x lo hi none) (hx : a.eval x = v) (hlo : lo.map a.eval = lo') (hhi : hi.map a.eval = hi') : Runs P o a w u w := by
  have hel : P.elem t = e := by simp [Program.elem, ht]
  have hu : P.underlying t = some (.slice (P.elem t)) := by rw [hel]; exact ht
  unfold Runs execOp
  simp only [ho, hx, hlo, hhi, Option.map_none, Sem.run_bind, run_sliceAt_slice w t v lo' hi' none hu, hr, Result.andThen_ok, Sem.run_pure]
theorem some_ev {z : Operand} {v : Value} (h : a.eval z = v) : (some z).map a.eval = some v := by rw [Option.map_some, h]
variable {α : Type} {d : Kd α}
theorem cut_lo (ht : P.underlying t = some (.slice e)) (hS : ∀ w, (sizeOf e).run P w = .ok d.sz w) (A : Option Addr) (c : Nat) (xs : List α) (hc : xs.length ≤ c) (j : Int) (h0 : 0 ≤ j) (hj : j ≤ xs.length) :
    ∃ A' c', (∀ W : World, (Instr.slice t (.slice A xs.length c) (some (.int .i64 j)) none none).run P W = .ok (.slice A' (xs.drop j.toNat).length c') W) ∧ (xs.drop j.toNat).length ≤ c' ∧ (∀ W, d.C W A xs.length xs → d.C W A' (xs.drop j.toNat).length (xs.drop j.toNat)) ∧ ∀ ad, A' = some ad → ∃ ad0, A = some ad0 ∧ ad.block = ad0.block := by
  have hl : (xs.drop j.toNat).length = xs.length - j.toNat := List.length_drop
  obtain ⟨i, hi, hz⟩ : ∃ i : TypeInfo, P.info? e = some i ∧ i.size = d.sz := by
    have := hS default
    cases h : P.info? e with
    | none => simp [sizeOf, typeInfo, h] at this
    | some i => exact ⟨i, rfl, by simpa [sizeOf, typeInfo, h] using this⟩
  refine ⟨_, c - j.toNat, fun W => ?_, by omega, fun W h => Kd.C_drop h (m := j.toNat) (by omega) hc, fun ad e => ?_⟩
  · rw [hl]
    exact cut_from t e .i64 ht hi d.sz hz A xs.length c j h0 hj W
  · by_cases hcj : c = j.toNat
    · rw [if_pos hcj] at e
      exact ⟨ad, e, rfl⟩
    · rw [if_neg hcj] at e
      cases A with
      | none => cases e
      | some ad0 =>
        refine ⟨ad0, rfl, ?_⟩
        rw [← Option.some.inj e]
        exact add_block _ _
theorem cut_hi (ht : P.underlying t = some (.slice e)) (hS : ∀ w, (sizeOf e).run P w = .ok d.sz w) (A : Option Addr) (c : Nat) (xs : List α) (hc : xs.length ≤ c) (j : Int) (h0 : 0 ≤ j) (hj : j ≤ xs.length) :
    (∀ W : World, (Instr.slice t (.slice A xs.length c) none (some (.int .i64 j)) none).run P W = .ok (.slice A (xs.take j.toNat).length c) W) ∧ (xs.take j.toNat).length ≤ c ∧ ∀ W, d.C W A xs.length xs → d.C W A (xs.take j.toNat).length (xs.take j.toNat) := by
  have hl : (xs.take j.toNat).length = j.toNat := by rw [List.length_take]; omega
  obtain ⟨i, hi, hz⟩ : ∃ i : TypeInfo, P.info? e = some i ∧ i.size = d.sz := by
    have := hS default
    cases h : P.info? e with
    | none => simp [sizeOf, typeInfo, h] at this
    | some i => exact ⟨i, rfl, by simpa [sizeOf, typeInfo, h] using this⟩
  refine ⟨fun W => ?_, by omega, fun W h => Kd.C_take h (by omega)⟩
  rw [hl]
  exact cut_to t e .i64 ht hi A xs.length c j h0 hj hc W
end
section
variable {D : List Deferred} {P : Program} {ops : Array Oper} {Q : Exit → Act → World → Prop} {rest : List Oper} {o : Oper} {N dd : Nat} {a : Act} {F : List (Nat × Value)} {w w0 : World} {L : List Chunk} {α : Type}
theorem gw_unguard (hw : Region.wanted o (yielded ops a.tmps) = true) (h : wpList P ops Q ({ o with guard := none } :: rest) a w) : wpList P ops Q (o :: rest) a w := by
  have hw2 : Region.wanted { o with guard := none } (yielded ops a.tmps) = true := want_none rfl
  unfold wpList at h ⊢
  rw [if_pos hw2] at h
  rw [if_pos hw]
  exact h
theorem gw_append (d : Kd α) {e base : Nat} {S : Nat → Prop} {A B : Option Addr} {c m cc : Nat} {xs ys : List α} {s x : Operand} {t : TypeId} {z : Value} {bytes : Nat} (i : Nat) (HF : FrD D N a F) (HO : Own w0 w L) (hw : Region.wanted o (yielded ops a.tmps) = true) (hd : o.dst = some dd) (hN : dd < N)
    (ho : o.op = .call { callee := .builtin .append, args := #[s, x], argTypes := #[t, t] })
    (ht : P.underlying t = some (.slice e)) (hinfo : (P.info? e).map (fun i => (i.zero, i.size, i.bytes)) = some (some z, d.sz, bytes)) (hz : z.cells.size = d.sz) (hs0 : 0 < d.sz) (hb0 : 0 < bytes)
    (hi : L[i]? = some (Chunk.row d e base S (.slice A xs.length c) xs)) (hs : a.eval s = .slice A xs.length c) (hx : a.eval x = .slice B m cc) (hC : d.C w B m ys)
    (hKM : ∀ x cs, d.K w x cs → d.M w base (fun _ => False) x cs) (hbase : base ≤ w.heap.size) (hl : (xs.length + m) * bytes ≤ 140737488355328)
    (k : ∀ A' c' S' a' w1, FrD D N a' ((dd, .slice A' (xs ++ ys).length c') :: F) → Own w0 w1 (L.set i (Chunk.row d e base S' (.slice A' (xs ++ ys).length c') (xs ++ ys))) → wpList P ops Q rest a' w1) : wpList P ops Q (o :: rest) a w := by
  have hR : d.R e w base S (.slice A xs.length c) xs := HO.get i hi
  refine gw_unguard hw ?_
  refine Kd.R_append_rows d (Rr := d.K w) (w0 := w) base rfl s x t e z bytes ho ht hinfo hz hs0 hb0 _ xs ys B m cc (fun k => S k ∨ w.heap.size ≤ k) (fun _ => False) hs hx (Kd.R_mono hR (fun k hk => .inl hk)) hC hKM (fun _ hk => hk.elim) (fun k hk => .inr hk) (Below.refl _ _) hbase hl ?_
  intro v1 w1 h1 _ hgr _
  obtain ⟨A', c', rfl⟩ := Kd.R_slice h1
  show wpList P ops Q rest (a.put o.dst _) w1
  rw [hd]
  refine k A' c' (fun k => S k ∨ w.heap.size ≤ k ∧ k < w1.heap.size) _ w1 (HF.put hN _) (HO.calls (cs := []) i hi ?_)
  refine Out.one ((Out.refl w S).grown hgr (fun k e => .inl (hR.1 k e))) ?_ ?_
  · exact Kd.R_mono (Kd.R_bound h1) (fun k hk => hk.1.elim .inl (fun h => .inr ⟨h, hk.2.2.1⟩))
  · intro k hk
    rcases hk with hk | hk
    · exact ⟨.inl hk, Nat.lt_of_lt_of_le (HO.lt i hi hk).2 hgr.size⟩
    · exact ⟨.inr hk.1, hk.2⟩
theorem gw_lit {enc : α → Value} (h1 : ∀ x, (enc x).oneCell' = true) {e : Nat} {xs : List α} (HF : FrD D N a F) (HO : Own w0 w L) (hw : Region.wanted o (yielded ops a.tmps) = true) (hd : o.dst = some dd) (hN : dd < N)
    (hrun : Runs P o a w (.slice (some ⟨w.heap.size, 0, none⟩) xs.length xs.length) (w.alloc (.cells (encs enc xs).toArray e (0, 0)))) (hm : xs.length ≤ 9223372036854775807)
    (k : ∀ A S a' w1, FrD D N a' ((dd, .slice A xs.length xs.length) :: F) → Own w0 w1 (Chunk.row (Kd.scalar enc h1) e w0.heap.size S (.slice A xs.length xs.length) xs :: L) → wpList P ops Q rest a' w1) : wpList P ops Q (o :: rest) a w := by
  refine gw_ev HF hw hd hN hrun fun a' HF' => k _ (fun q => w.heap.size ≤ q ∧ q < (w.alloc (.cells (encs enc xs).toArray e (0, 0))).heap.size) a' _ HF' ?_
  have hb := below_alloc (Below.refl w.heap.size w) (.cells (encs enc xs).toArray e (0, 0))
  have ho := own_lit_of (enc := enc) w w0.heap.size e xs HO.below.size hm
  have hR : (Kd.scalar enc h1).R e (w.alloc (.cells (encs enc xs).toArray e (0, 0))) w0.heap.size (fun q => w.heap.size ≤ q ∧ q < (w.alloc (.cells (encs enc xs).toArray e (0, 0))).heap.size) (.slice (some ⟨w.heap.size, 0, none⟩) xs.length xs.length) xs :=
    Kd.R_of_own ho (fun q hq => by
      have : w.heap.size = q := by simpa [Value.ownBlock] using hq
      subst this
      exact ⟨Nat.le_refl _, by simp⟩)
  refine HO.fresh (cs := [_]) ⟨hb.os, hb.tape, hb.output, hb.size, fun k hk _ => hb.block k hk, fun c hc => ?_, fun c hc q hq => ?_, List.pairwise_singleton _ _⟩
  · rw [List.mem_singleton.1 hc]
    exact hR
  · rw [List.mem_singleton.1 hc] at hq
    exact ⟨.inr hq.1, hq.2⟩
end
section
variable {D : List Deferred} {P : Program} {ops : Array Oper} {Q : Exit → Act → World → Prop} {rest : List Oper} {o o2 : Oper} {N d d2 : Nat} {a : Act} {F : List (Nat × Value)} {w w0 : World} {L : List Chunk} {t e : TypeId}
theorem op_bslice {n : Nat} {parts : List (Nat × Operand)} {vs : List (Nat × Value)} {v : Value} {w1 : World} (hr : (Instr.buildSlice t n vs.toArray).run P w = .ok v w1) (ho : o.op = .buildSlice t n parts.toArray) (hp : parts.map (fun p => (p.1, a.eval p.2)) = vs) : Runs P o a w v w1 := by
  have hq : parts.toArray.map (fun p => (p.1, a.eval p.2)) = vs.toArray := by rw [List.map_toArray, hp]
  unfold Runs execOp
  simp only [ho, hq, Sem.run_bind, hr, Result.andThen_ok, Sem.run_pure]
theorem blkC {g : Nat} {xs : List Int} {fr : Nat × Nat} (h : w.heap[g]? = some (.cells (nums .u8 xs).toArray e fr)) (hm : xs.length ≤ 9223372036854775807) : (Kd.int .u8).C w (some ⟨g, 0, none⟩) xs.length xs := by
  refine Kd.C_of_reads (d := (0 : Int)) (h1 := fun _ => rfl) ⟨rfl, hm, fun _ => ⟨_, rfl, fun j hj => ?_⟩⟩
  rw [add_plain, cell_of_row w g j _ e fr h]
  simp [nums, List.getElem?_eq_getElem hj, List.getD_eq_getElem?_getD]
theorem gw_bytes {xs : List Int} (ht : P.underlying t = some (.slice e)) (he : P.underlying e = some (.int .u8)) (HF : FrD D N a F) (HO : Own w0 w L) (hw : Region.wanted o (yielded ops a.tmps) = true) (hd : o.dst = some d) (hN : d < N)
    (hrun : Runs P o a w (.slice (some ⟨w.heap.size, 0, none⟩) xs.length xs.length) (w.alloc (.cells (nums .u8 xs).toArray e (0, 0))))
    (hw2 : ∀ a', FrD D N a' ((d, .slice (some ⟨w.heap.size, 0, none⟩) xs.length xs.length) :: F) → Region.wanted o2 (yielded ops a'.tmps) = true) (hd2 : o2.dst = some d2) (hN2 : d2 < N) (ho2 : o2.op = .convert t t (.tmp d))
    (k : ∀ g a' w1, FrD D N a' ((d2, .slice (some ⟨g, 0, none⟩) xs.length xs.length) :: (d, .slice (some ⟨g, 0, none⟩) xs.length xs.length) :: F) → Own w0 w1 (Chunk.blk g (.cells (nums .u8 xs).toArray e (xs.length, xs.length + 1)) :: L) → wpList P ops Q rest a' w1) : wpList P ops Q (o :: o2 :: rest) a w := by
  refine gw_ev HF hw hd hN hrun fun a1 HF1 => ?_
  have hl : look ((d, Value.slice (some ⟨w.heap.size, 0, none⟩) xs.length xs.length) :: F) d = some (.slice (some ⟨w.heap.size, 0, none⟩) xs.length xs.length) := by
    show (bif Nat.beq d d then _ else _) = _
    rw [Nat.beq_refl]
    rfl
  have hx := HF1.ev hl
  have hcv := Lib.run_convert_bytes_const (P := P) w t e (nums .u8 xs).toArray xs.length xs.length ht he
  have hsz : (nums .u8 xs).toArray.size = xs.length := by simp [nums]
  rw [hsz] at hcv
  have hrun2 : Runs P o2 a1 (w.alloc (.cells (nums .u8 xs).toArray e (0, 0))) (.slice (some ⟨w.heap.size, 0, none⟩) xs.length xs.length) (w.alloc (.cells (nums .u8 xs).toArray e (xs.length, xs.length + 1))) := by
    unfold Runs execOp
    simp only [ho2, hx, Sem.run_bind, hcv, Result.andThen_ok, Sem.run_pure]
  exact gw_ev HF1 (hw2 a1 HF1) hd2 hN2 hrun2 fun a2 HF2 => k _ a2 _ HF2 (HO.new _)
end
theorem Own.mapc {w0 w : World} {L : List Chunk} {c c' : Chunk} (h : Own w0 w L) (i : Nat) (hi : L[i]? = some c) (hS : ∀ k, c'.S k → c.S k) (hP : ∀ w, c.P w → c'.P w) : Own w0 w (L.set i c') := by
  refine h.calls (cs := []) i hi (Out.one (Out.refl w _) (hP w (h.get i hi)) fun k hk => ⟨.inl (hS k hk), (h.lt i hi (hS k hk)).2⟩)
theorem Own.lowrow {α : Type} {d : Kd α} {e base base' : Nat} {S : Nat → Prop} {v : Value} {xs : List α} {w0 w : World} {L : List Chunk} (h : Own w0 w L) (i : Nat) (hi : L[i]? = some (Chunk.row d e base S v xs)) (hb : base' ≤ base) : Own w0 w (L.set i (Chunk.row d e base' S v xs)) :=
  h.mapc i hi (fun _ hk => hk) (fun _ hr => Kd.R_lower hr hb)
theorem row_in {α : Type} {d : Kd α} {e base n c : Nat} {S : Nat → Prop} {A : Option Addr} {xs : List α} {w : World} (h : d.R e w base S (.slice A n c) xs) {ad : Addr} (e1 : A = some ad) : S ad.block := by
  subst e1
  exact h.1 ad.block (by simp [Value.ownBlock])
end
section
variable {P : Program} {o : Oper} {a : Act} {w : World} {x y : Operand} {t yt : TypeId} {m n : Int} {k k' : IntKind}
theorem op_and (ho : o.op = .binOp .and t x y yt) (hx : a.eval x = .int k m) (hy : a.eval y = .int k n) : Runs P o a w (.int k (bits .and k m n)) w := by
  unfold Runs execOp
  simp only [ho, hx, hy]
  simp [go_sem]
theorem op_or (ho : o.op = .binOp .or t x y yt) (hx : a.eval x = .int k m) (hy : a.eval y = .int k n) : Runs P o a w (.int k (bits .or k m n)) w := by
  unfold Runs execOp
  simp only [ho, hx, hy]
  simp [go_sem]
theorem op_rem (ho : o.op = .binOp .rem t x y yt) (hx : a.eval x = .int k m) (hy : a.eval y = .int k n) (h0 : n ≠ 0) : Runs P o a w (.int k (m.tmod n)) w := by
  unfold Runs execOp
  simp only [ho, hx, hy]
  simp [go_sem, h0]
theorem op_shl (ho : o.op = .binOp .shl t x y yt) (hx : a.eval x = .int k m) (hy : a.eval y = .int k' n) (h0 : ¬ n < 0) : Runs P o a w (.int k (k.wrap (m * 2 ^ (min n.toNat k.bits)))) w := by
  unfold Runs execOp
  simp only [ho, hx, hy]
  simp [go_sem, Op.shift, h0]
theorem op_conv_int {s d : TypeId} (hs : P.underlying s = some (.int k)) (hd : P.underlying d = some (.int k')) (ho : o.op = .convert s d x) (hx : a.eval x = .int k m) : Runs P o a w (.int k' (k'.wrap m)) w := by
  unfold Runs execOp
  simp only [ho, hx]
  simp [go_sem, hs, hd]
section
variable {e : TypeId} {α : Type} {d : Kd α}
theorem cut_lh (ht : P.underlying t = some (.slice e)) (hS : ∀ w, (sizeOf e).run P w = .ok d.sz w) (A : Option Addr) (c : Nat) (xs : List α) (hc : xs.length ≤ c) (i j : Int) (h0 : 0 ≤ i) (hij : i ≤ j) (hj : j ≤ xs.length) :
    ∃ A' c', (∀ W : World, (Instr.slice t (.slice A xs.length c) (some (.int .i64 i)) (some (.int .i64 j)) none).run P W = .ok (.slice A' ((xs.drop i.toNat).take (j - i).toNat).length c') W) ∧ ((xs.drop i.toNat).take (j - i).toNat).length ≤ c' ∧ (∀ W, d.C W A xs.length xs → d.C W A' ((xs.drop i.toNat).take (j - i).toNat).length ((xs.drop i.toNat).take (j - i).toNat)) ∧ ∀ ad, A' = some ad → ∃ ad0, A = some ad0 ∧ ad.block = ad0.block := by
  have hl : ((xs.drop i.toNat).take (j - i).toNat).length = (j - i).toNat := by rw [List.length_take, List.length_drop]; omega
  obtain ⟨q, hi, hz⟩ : ∃ i : TypeInfo, P.info? e = some i ∧ i.size = d.sz := by
    have := hS default
    cases h : P.info? e with
    | none => simp [sizeOf, typeInfo, h] at this
    | some i => exact ⟨i, rfl, by simpa [sizeOf, typeInfo, h] using this⟩
  refine ⟨_, c - i.toNat, fun W => ?_, by omega, fun W h => Kd.C_take (Kd.C_drop h (m := i.toNat) (by omega) hc) (by rw [List.length_drop]; omega), fun ad e => ?_⟩
  · rw [hl, show (j - i).toNat = j.toNat - i.toNat by omega]
    exact cut_mid t e .i64 .i64 ht hi d.sz hz A xs.length c i j h0 hij hj hc W
  · by_cases hcj : c = i.toNat
    · rw [if_pos hcj] at e
      exact ⟨ad, e, rfl⟩
    · rw [if_neg hcj] at e
      cases A with
      | none => cases e
      | some ad0 =>
        refine ⟨ad0, rfl, ?_⟩
        rw [← Option.some.inj e]
        exact add_block _ _
end
section
variable {D : List Deferred} {fn : Func} {R : Ending → World → Prop} {N : Nat} {F : List (Nat × Value)} {v v1 v2 v3 v4 : Value} {r1 r2 r3 r4 : ResultVar}
def RVm (tmps : Array Value) : ResultVar → Sem Value
  | .tmp t => pure (tmps.getD t undef)
  | .cell x t => do loadVar t (← asAddr (tmps.getD x undef))
def RV (P : Program) (a : Act) (w : World) (r : ResultVar) (v : Value) : Prop := (RVm a.tmps r).run P w = .ok v w
theorem results_eq (fn : Func) (tmps : Array Value) : results fn tmps = (do
    let vs ← fn.results.mapM (RVm tmps)
    pure (if h : vs.size = 1 then vs[0] else .tuple vs)) := by
  unfold results
  congr 1
theorem rv_tmp {d : Nat} (HF : FrD D N a F) (hl : look F d = some v) : RV P a w (.tmp d) v := by
  unfold RV RVm
  exact congrArg (fun v => Result.ok v w) (HF.ev hl)
theorem rv_cell1 {d : Nat} {ad : Addr} (HF : FrD D N a F) (hl : look F d = some (.pointer (some ad))) (hA : ∀ w, (isAgg t).run P w = .ok false w) (hc : w.cell? ad = some v) : RV P a w (.cell d t) v := by
  have he : a.tmps.getD d undef = .pointer (some ad) := HF.ev hl
  unfold RV RVm
  simp only [he]
  simp [asAddr, loadVar, hA, hc, go_sem]
theorem rv_celln {d g n : Nat} {cs : Array Value} {T : TypeId} (HF : FrD D N a F) (hl : look F d = some (.pointer (some ⟨g, 0, none⟩))) (hA : ∀ w, (isAgg t).run P w = .ok true w) (hS : ∀ w, (sizeOf t).run P w = .ok n w)
    (hb : w.heap[g]? = some (.cells cs T (0, 0))) (hn : cs.size = n) : RV P a w (.cell d t) (.agg cs) := by
  have he : a.tmps.getD d undef = .pointer (some ⟨g, 0, none⟩) := HF.ev hl
  have hr := run_loadCells_list (P := P) (w := w) ⟨g, 0, none⟩ cs.toList (fun j v hv => by
    rw [add_at, blk_cell hb, ← Array.getElem?_toList]
    simpa using hv)
  rw [Array.length_toList, hn] at hr
  unfold RV RVm
  simp only [he]
  simp [asAddr, loadVar, hA, hS, hr]
theorem gw_rets1 (HF : Fr N a F) (hr : fn.results = #[r1]) (h1 : RV P a w r1 v1) (h : R (.returned v1) w) : bodyPost P fn R .ret a w := by
  refine bodyPost_ret (v := v1) ?_ HF.defers h
  unfold RV at h1
  rw [results_eq, hr]
  simp [h1]
theorem gw_rets2 (HF : Fr N a F) (hr : fn.results = #[r1, r2]) (h1 : RV P a w r1 v1) (h2 : RV P a w r2 v2) (h : R (.returned (.tuple #[v1, v2])) w) : bodyPost P fn R .ret a w := by
  refine bodyPost_ret (v := .tuple #[v1, v2]) ?_ HF.defers h
  unfold RV at h1 h2
  rw [results_eq, hr]
  simp [h1, h2]
theorem gw_rets3 (HF : Fr N a F) (hr : fn.results = #[r1, r2, r3]) (h1 : RV P a w r1 v1) (h2 : RV P a w r2 v2) (h3 : RV P a w r3 v3) (h : R (.returned (.tuple #[v1, v2, v3])) w) : bodyPost P fn R .ret a w := by
  refine bodyPost_ret (v := .tuple #[v1, v2, v3]) ?_ HF.defers h
  unfold RV at h1 h2 h3
  rw [results_eq, hr]
  simp [h1, h2, h3]
theorem op_conv_inb {s d : TypeId} (hs : P.underlying s = some (.int k)) (hd : P.underlying d = some (.int .i64)) (ho : o.op = .convert s d x) (hx : a.eval x = .int k m) (hb : -9223372036854775808 ≤ m ∧ m ≤ 9223372036854775807) : Runs P o a w (.int .i64 m) w := by
  have := op_conv_int (w := w) hs hd ho hx
  rwa [i64_ok hb.1 hb.2] at this
end
section
variable {α : Type} {d : Kd α} {S : Nat → Prop} {A A' : Option Addr} {n n' c c' e base : Nat} {xs ys : List α} {w0 : World} {L : List Chunk}
def Chunk.view (d : Kd α) (S : Nat → Prop) (A : Option Addr) (n c : Nat) (xs : List α) : Chunk := ⟨S, fun w => d.F w S A n xs ∧ n ≤ c ∧ ∀ ad, A = some ad → S ad.block, fun h hm => ⟨Kd.F_step h.1 (fun k hk _ => hm k hk), h.2⟩⟩
theorem Own.row_view (h : Own w0 w L) (i : Nat) (hi : L[i]? = some (Chunk.row d e base S (.slice A n c) xs)) : Own w0 w (L.set i (Chunk.view d S A n c xs)) :=
  h.mapc i hi (fun _ hk => hk) (fun _ hr => ⟨Kd.Q_F (Kd.Q_of_R hr), by have := Kd.R_reads' hr; omega, fun ad e => row_in hr e⟩)
theorem view_C (h : (Chunk.view d S A n c xs).P w) : d.C w A n xs := Kd.F_now h.1
theorem view_le (h : (Chunk.view d S A n c xs).P w) : n ≤ c := h.2.1
theorem Own.out (h : Own w0 w L) : Out w0 w (fun _ => False) L := ⟨h.below.os, h.below.tape, h.below.output, h.below.size, fun k hk _ => h.below.block k hk, h.holds, fun c hc k hk => ⟨.inr (h.inside c hc k hk).1, (h.inside c hc k hk).2⟩, h.apart⟩
theorem drop_one_more (xs : List α) (k : Int) (h0 : 0 ≤ k) : (xs.drop k.toNat).drop (1 : Int).toNat = xs.drop (k + 1).toNat := by
  have e : (k + 1).toNat = k.toNat + 1 := by omega
  rw [List.drop_drop, e]
  rfl
theorem getD_mem (xs : List α) (i : Nat) {z : α} (h : i < xs.length) : xs.getD i z ∈ xs := by
  rw [List.getD_eq_getElem?_getD, List.getElem?_eq_getElem h]
  exact List.getElem_mem h
end
end
section
section
variable {P : Program} {ops : Array Oper} {Q : Exit → Act → World → Prop} {md : Region.Mode} {S : World → Prop} {B : Nat → Bool}
def wpX (P : Program) (md : Region.Mode) (ops : Array Oper) (Q : Exit → Act → World → Prop) (S : World → Prop) (B : Nat → Bool) : Nat → Array Bool → Act → World → Prop
  | 0, listed, a, w => Region.ready md ops listed = [] ∧ Q .normal a w
  | fuel + 1, listed, a, w =>
    (Region.ready md ops listed = [] → Q .normal a w) ∧
    ∀ i ∈ Region.ready md ops listed, wpOp P ops Q i (fun a' w' => (B i = false → S w') ∧ wpX P md ops Q S B fuel (listed.setIfInBounds i true) a' w') a w
theorem wpAny_of_X : ∀ (fuel : Nat) (listed : Array Bool) (a : Act) (w : World), wpX P md ops Q S B fuel listed a w → wpAny P md ops Q fuel listed a w
  | 0, _, _, _, h => h
  | fuel + 1, _, _, _, h => ⟨h.1, fun i hi => wpOp_mono (fun a' w' h' => wpAny_of_X fuel _ a' w' h'.2) (h.2 i hi)⟩
theorem wpX_first {i : Nat} {oi : Oper} {v : Value} (hi : ops[i]? = some oi) (hsel : ∀ (j : Nat) (o : Oper) cs b, ops[j]? = some o → o.op ≠ .select cs b)
    (hQ : ∀ c a w, Q (.panic c) (a.put oi.dst v) w → Q (.panic c) a w)
    (hB : ∀ j oj, ops[j]? = some oj → B j = true → j ≠ i → ∃ e ∈ oj.after, Region.binds md e = true ∧ e.on = i) :
    ∀ (fuel : Nat) (listed : Array Bool) (a : Act) (w : World),
      (∀ j oj, ops[j]? = some oj → j ≠ i → listed.getD j true = false → (∀ e ∈ oj.after, Region.binds md e = true → e.on ≠ i) → oi.apart ops oj = true) →
      i ∈ Region.ready md ops listed → YieldsIf P ops S oi v a → S w →
      wpX P md ops Q S B fuel (listed.setIfInBounds i true) (a.put oi.dst v) w → wpX P md ops Q S B (fuel + 1) listed a w := by
  intro fuel
  induction fuel with
  | zero =>
    intro listed a w _ hr hy hS H
    refine ⟨fun h => (by rw [h] at hr; cases hr), fun j hj => ?_⟩
    by_cases hji : j = i
    · subst hji; exact hy.wpOp hi hS ⟨fun _ => hS, H⟩
    · have := ready_mono hj hji
      rw [H.1] at this
      cases this
  | succ fuel ih =>
    intro listed a w hfree hr hy hS H
    refine ⟨fun h => (by rw [h] at hr; cases hr), fun j hj => ?_⟩
    by_cases hji : j = i
    · subst hji; exact hy.wpOp hi hS ⟨fun _ => hS, H⟩
    · have h1 := H.2 j (ready_mono hj hji)
      obtain ⟨hjun, oj, hoj, hall⟩ := mem_ready.1 hj
      have hnot : ∀ e ∈ oj.after, Region.binds md e = true → e.on ≠ i := fun e he hb heq => by
        have h1 := hall e he hb
        have h0 := (mem_ready.1 hr).1
        rw [heq] at h1
        rcases Nat.lt_or_ge i listed.size with h' | h'
        · simp [h'] at h0 h1; rw [h0] at h1; cases h1
        · simp [Array.getElem?_eq_none h'] at h1
      have hBj : B j = false := by
        cases hb : B j with
        | false => rfl
        | true =>
          obtain ⟨e, he, hb1, hb2⟩ := hB j oj hoj hb hji
          exact absurd hb2 (hnot e he hb1)
      have h2 := wpOp_putIf hoj (hfree j oj hoj hji hjun hnot) (fun cs b => hsel i oi cs b hi) (fun cs b => hsel j oj cs b hoj) hQ hy h1
      have hfree' : ∀ k ok, ops[k]? = some ok → k ≠ i → (listed.setIfInBounds j true).getD k true = false →
          (∀ e ∈ ok.after, Region.binds md e = true → e.on ≠ i) → oi.apart ops ok = true := fun k ok hk hki hun hno => by
        refine hfree k ok hk hki ?_ hno
        by_cases hjk : j = k
        · subst hjk; exact hjun
        · rw [getD_set_ne true hjk] at hun; exact hun
      refine wpOp_mono (fun a' w' h3 => ⟨h3.2.1, ih (listed.setIfInBounds j true) a' w' hfree' (ready_mono hr (Ne.symm hji)) h3.1 (h3.2.1 hBj) ?_⟩) h2
      rw [Array.setIfInBounds_comm _ _ hji]
      exact h3.2.2
def waitedB (md : Region.Mode) (ops : Array Oper) (B : Nat → Bool) (i : Nat) : Bool :=
  (List.range ops.size).all fun j => !B j || j == i || match ops[j]? with
    | some oj => oj.after.any (fun e => Region.binds md e && e.on == i)
    | none => true
theorem waitedB_spec {i : Nat} (h : waitedB md ops B i = true) : ∀ j oj, ops[j]? = some oj → B j = true → j ≠ i → ∃ e ∈ oj.after, Region.binds md e = true ∧ e.on = i := by
  intro j oj hj hb hji
  have hlt : j < ops.size := (Array.getElem?_eq_some_iff.1 hj).1
  have := List.all_eq_true.1 h j (List.mem_range.2 hlt)
  rw [hj, hb] at this
  have hne : (j == i) = false := by simpa using hji
  rw [hne] at this
  simp only [Bool.not_true, Bool.false_or] at this
  obtain ⟨e, he, h2⟩ := Array.any_eq_true'.1 this
  simp only [Bool.and_eq_true, beq_iff_eq] at h2
  exact ⟨e, he, h2.1, h2.2⟩
end
section
variable {D : List Deferred} {P : Program} {ops : Array Oper} {Q : Exit → Act → World → Prop} {B : Nat → Bool} {N d : Nat} {a : Act} {F : List (Nat × Value)} {w0 w : World} {L M : List Chunk} {v : Value} {o : Oper}
def Held (w0 : World) (M : List Chunk) : World → Prop := fun w => Own w0 w M
theorem gx_draw {id : Nat} {l : List Oper} {M : List Chunk} (B : Nat → Bool) (HO : Own w0 w L) (hm : P.follows .mixedOrders = true)
    (h : ∀ w', Own w0 w' L → wpX P .any l.toArray (NoPanic Q) (Held w0 M) B l.length (Array.replicate l.length false) a w') : (Code.region id l.toArray true).wp P Q a w :=
  wp_region_noPanic (wp_region_any hm (wpAny_of_X _ _ _ _ (by simpa using h _ HO.drew)))
theorem hQ_no {oi : Oper} : ∀ c a w, NoPanic Q (.panic c) (a.put oi.dst v) w → NoPanic Q (.panic c) a w := fun _ _ _ h => h.elim
theorem gx_take {fuel : Nat} {listed : Array Bool} (i : Nat) (hi : ops[i]? = some o) (hs : (Region.noSelect ops && ((Region.ready .any ops listed).contains i && (Region.free .any ops listed i && waitedB .any ops B i))) = true) (HF : FrD D N a F) (HO : Own w0 w M)
    (hw : Region.wanted o (yielded ops a.tmps) = true) (hd : o.dst = some d) (hN : d < N) (hrun : ∀ w, Own w0 w M → Runs P o a w v w)
    (k : ∀ a', FrD D N a' ((d, v) :: F) → wpX P .any ops (NoPanic Q) (Held w0 M) B fuel (listed.setIfInBounds i true) a' w) : wpX P .any ops (NoPanic Q) (Held w0 M) B (fuel + 1) listed a w := by
  simp only [Bool.and_eq_true] at hs
  refine wpX_first (v := v) hi (Region.noSelect_spec hs.1) hQ_no (waitedB_spec hs.2.2.2) fuel listed a w (Region.free_spec hi hs.2.2.1) (by simpa using hs.2.1) (.inl ⟨hw, fun w h => hrun w h⟩) HO ?_
  rw [hd]
  exact k _ (HF.put hN v)
def Patch (K : Act → World → Prop) (Q : Exit → Act → World → Prop) : Exit → Act → World → Prop
  | .normal, a, w => K a w
  | e, a, w => Q e a w
theorem wpOp_of_list {i : Nat} {K : Act → World → Prop} (hi : ops[i]? = some o) (h : wpList P ops (Patch K Q) [o] a w) : wpOp P ops Q i K a w := by
  unfold wpOp
  simp only [hi]
  unfold wpList at h
  have hK : ∀ a w, wpList P ops (Patch K Q) [] a w → K a w := fun a w h => h
  split
  · rename_i hw
    rw [if_pos hw] at h
    rcases h with h | h
    · refine .inl ?_
      unfold Oper.wp at *
      generalize (execOp a.eval o).run P w = r at *
      cases r with
      | ok n w' =>
        cases n <;> simp only [Oper.upon] at h ⊢ <;>
          first
            | exact h
            | exact Calls.mono h (fun e w'' he => by cases e <;> exact he)
            | exact Rows.mono h (fun _ _ he => he)
      | halt x w' => cases x <;> simp only [Oper.upon] at h ⊢ <;> exact h
    · exact .inr h
  · rename_i hw
    rw [if_neg hw] at h
    exact h
theorem gx_step {fuel : Nat} {listed : Array Bool} (i : Nat) (hi : ops[i]? = some o) (hr : Region.ready .any ops listed = [i])
    (h : wpList P ops (Patch (fun a' w' => (B i = false → Held w0 M w') ∧ wpX P .any ops (NoPanic Q) (Held w0 M) B fuel (listed.setIfInBounds i true) a' w') (NoPanic Q)) [o] a w) : wpX P .any ops (NoPanic Q) (Held w0 M) B (fuel + 1) listed a w :=
  ⟨fun h0 => (by rw [hr] at h0; cases h0), fun j hj => by
    rw [hr] at hj
    obtain rfl : j = i := by simpa using hj
    exact wpOp_of_list hi h⟩
theorem gx_on {fuel i : Nat} {listed : Array Bool} (h1 : B i = false → Own w0 w M) (h2 : wpX P .any ops (NoPanic Q) (Held w0 M) B fuel (listed.setIfInBounds i true) a w) :
    wpList P ops (Patch (fun a' w' => (B i = false → Held w0 M w') ∧ wpX P .any ops (NoPanic Q) (Held w0 M) B fuel (listed.setIfInBounds i true) a' w') (NoPanic Q)) [] a w := wpList_nil ⟨h1, h2⟩
theorem gx_done {fuel : Nat} {listed : Array Bool} (hr : Region.ready .any ops listed = []) (h : Q .normal a w) : wpX P .any ops (NoPanic Q) (Held w0 M) B fuel listed a w := by
  cases fuel with
  | zero => exact ⟨hr, h⟩
  | succ _ => exact ⟨fun _ => h, by rw [hr]; simp⟩
end
end
section
def Chunk.all (A : List Chunk) : Chunk := ⟨fun k => ∃ c ∈ A, c.S k, fun w => (∀ c ∈ A, c.P w) ∧ A.Pairwise (fun (c d : Chunk) => ∀ k : Nat, c.S k → ¬ d.S k), fun h hm => ⟨fun c hc => c.move (h.1 c hc) fun k hk => hm k ⟨c, hc, hk⟩, h.2⟩⟩
section
variable {w0 w : World} {A L : List Chunk} {c d : Chunk}
theorem Own.bundle (h : Own w0 w (A ++ L)) : Own w0 w (Chunk.all A :: L) := by
  obtain ⟨ha, hl, hal⟩ := List.pairwise_append.1 h.apart
  refine ⟨h.below, fun c hc => ?_, fun c hc k hk => ?_, List.pairwise_cons.2 ⟨fun b hb k hk => ?_, hl⟩⟩
  · rcases List.mem_cons.1 hc with rfl | hc
    · exact ⟨fun b hb => h.holds b (List.mem_append_left _ hb), ha⟩
    · exact h.holds c (List.mem_append_right _ hc)
  · rcases List.mem_cons.1 hc with rfl | hc
    · obtain ⟨b, hb, hk⟩ := hk
      exact h.inside b (List.mem_append_left _ hb) k hk
    · exact h.inside c (List.mem_append_right _ hc) k hk
  · obtain ⟨a, ha, hk⟩ := hk
    exact hal a ha b hb k hk
theorem Own.unbundle (h : Own w0 w (Chunk.all A :: L)) : Own w0 w (A ++ L) := by
  obtain ⟨hal, hl⟩ := List.pairwise_cons.1 h.apart
  have hA : (Chunk.all A).P w := h.holds _ (List.mem_cons_self ..)
  refine ⟨h.below, fun c hc => ?_, fun c hc k hk => ?_, List.pairwise_append.2 ⟨hA.2, hl, fun a ha b hb k hk => hal b hb k ⟨a, ha, hk⟩⟩⟩
  · rcases List.mem_append.1 hc with hc | hc
    · exact hA.1 c hc
    · exact h.holds c (List.mem_cons_of_mem _ hc)
  · rcases List.mem_append.1 hc with hc | hc
    · exact h.inside _ (List.mem_cons_self ..) k ⟨c, hc, hk⟩
    · exact h.inside c (List.mem_cons_of_mem _ hc) k hk
def Chunk.void : Chunk := ⟨fun _ => False, fun _ => True, fun _ _ => trivial⟩
theorem Own.void (h : Own w0 w L) : Own w0 w (Chunk.void :: L) := h.fresh (cs := [_]) (Out.one (Out.refl w _) (c := Chunk.void) trivial (fun _ hk => hk.elim))
theorem argblk {g : Nat} {o : Obj} (h : Own w0 w L) (hb : w0.heap[g]? = some o) : w.heap[g]? = some o := (h.below.block g (blk_lt hb)).trans hb
end
section
variable {D : List Deferred} {P : Program} {fn : Func} {R : Ending → World → Prop} {w : World} {N : Nat}
theorem gw_startO {f : FuncId} {c : Code} {vs : List Value} (hf : P.funcs[f]? = some fn) (hb : fn.body = some c) (hn : fn.ntmps = N) (hl : vs.length ≤ N)
    (h : ∀ a, Fr N a (ixs 0 vs) → c.wp P (bodyPost P fn R) a w) : Calls P f vs.toArray w R := by
  refine calls_of_wp hf hb ?_
  rw [hn]
  exact h _ (Fr.start vs N hl)
end
section
variable {α β : Type} {d : Kd α} {d' : Kd β} {S : Nat → Prop} {A A' : Option Addr} {n n' c : Nat} {xs : List α} {ys : List β} {w0 w w1 : World} {L : List Chunk}
def Chunk.viewAt (w1 : World) (d : Kd α) (S : Nat → Prop) (A : Option Addr) (n c : Nat) (xs : List α) : Chunk := ⟨S, fun w => d.F w1 S A n xs ∧ (n ≤ c ∧ ∀ ad, A = some ad → S ad.block) ∧ ∀ k, S k → w.heap[k]? = w1.heap[k]?, fun h hm => ⟨h.1, h.2.1, fun k hk => (hm k hk).trans (h.2.2 k hk)⟩⟩
theorem Own.pin (h : Own w0 w L) (i : Nat) (hi : L[i]? = some (Chunk.view d S A n c xs)) : Own w0 w (L.set i (Chunk.viewAt w d S A n c xs)) :=
  h.calls (cs := []) i hi (Out.one (Out.refl w _) (c := Chunk.viewAt w d S A n c xs) ⟨(h.get i hi).1, (h.get i hi).2, fun _ _ => rfl⟩ fun k hk => ⟨.inl hk, (h.lt i hi hk).2⟩)
theorem Own.unpin (h : Own w0 w L) (i : Nat) (hi : L[i]? = some (Chunk.viewAt w1 d S A n c xs)) : Own w0 w (L.set i (Chunk.view d S A n c xs)) :=
  h.mapc i hi (fun _ hk => hk) (fun _ hp => ⟨Kd.F_step hp.1 (fun k hk _ => hp.2.2 k hk), hp.2.1⟩)
theorem viewAt_F (h : (Chunk.viewAt w1 d S A n c xs).P w) : d.F w1 S A n xs := h.1
theorem cell_same {p : Addr} (h : w.heap[p.block]? = w1.heap[p.block]?) : w.cell? p = w1.cell? p := by
  unfold World.cell?
  rw [h]
theorem pin_cells {ad : Addr} {m : Nat} {cs : List Value} (h : (Chunk.viewAt w1 d S A n c xs).P w) (hA : A = some ad) (hc : ∀ j u, cs[j]? = some u → w1.cell? (ad.add (m + j)) = some u) : ∀ j u, cs[j]? = some u → w.cell? ((ad.add m).add j) = some u := fun j u hj => by
  rw [add_add, cell_same, hc j u hj]
  rw [add_block]
  exact h.2.2 _ (h.2.1.2 ad hA)
theorem int_openF {k : IntKind} {ok : Nat → Prop} {m : Int} {cs : List Value} (h : Kd.FK (Kd.int k) w ok m cs) : cs = [.int k m] := Kd.FK_now h
end
section
variable {D : List Deferred} {P : Program} {ops : Array Oper} {Q : Exit → Act → World → Prop} {rest : List Oper} {o : Oper} {N dd : Nat} {a : Act} {F : List (Nat × Value)} {w w0 : World} {L : List Chunk} {α : Type}
theorem gw_news {O : Obj} {n : Nat} (HF : FrD D N a F) (HO : Own w0 w L) (hw : Region.wanted o (yielded ops a.tmps) = true) (hd : o.dst = some dd) (hN : dd < N)
    (hrun : Runs P o a w (.slice (some ⟨w.heap.size, 0, none⟩) n n) (w.alloc O)) (k : ∀ g a' w1, FrD D N a' ((dd, .slice (some ⟨g, 0, none⟩) n n) :: F) → Own w0 w1 (Chunk.blk g O :: L) → wpList P ops Q rest a' w1) : wpList P ops Q (o :: rest) a w :=
  gw_ev HF hw hd hN hrun fun a' HF' => k _ a' _ HF' (HO.new O)
end
section
variable {α : Type} {d : Kd α} {w w0 : World} {L : List Chunk}
theorem Own.row_nil (h : Own w0 w L) (d : Kd α) (e base : Nat) : Own w0 w (Chunk.row d e base (fun _ => False) (.slice none 0 0) [] :: L) :=
  h.fresh (cs := [_]) (Out.one (Out.refl w _) (c := Chunk.row d e base (fun _ => False) (.slice none 0 0) []) (Kd.R_nil _ _ _ _ _) (fun _ hk => hk.elim))
theorem reps_none {R : α → List Value → Prop} {sz : Nat} : Reps R sz [] [] := ⟨by simp, fun j p h => by simp at h⟩
theorem reps_more {R : α → List Value → Prop} {sz : Nat} {x : α} {xs : List α} {c cs : List Value} (h : R x c) (hl : c.length = sz) (hs : Reps R sz xs cs) : Reps R sz (x :: xs) (c ++ cs) := by
  refine ⟨?_, fun j p hj => ?_⟩
  · rw [List.length_append, hl, hs.1, List.length_cons, Nat.add_mul, Nat.one_mul, Nat.add_comm]
  · cases j with
    | zero =>
      obtain rfl : x = p := by simpa using hj
      rw [Nat.zero_mul, List.drop_zero, List.take_append_of_le_length (by omega), List.take_of_length_le (by omega)]
      exact h
    | succ j =>
      have := hs.2 j p (by simpa using hj)
      have e : (j + 1) * sz = sz + j * sz := by rw [Nat.add_mul, Nat.one_mul, Nat.add_comm]
      rw [e, List.drop_append, List.drop_of_length_le (by omega), List.nil_append, show sz + j * sz - c.length = j * sz by omega]
      exact this
theorem Cg_lit {g e : Nat} {xs : List α} {cs : List Value} (hb : w.heap[g]? = some (.cells cs.toArray e (0, 0))) (hr : Reps (d.K w) d.sz xs cs) (hm : xs.length ≤ maxLen) : d.C w (some ⟨g, 0, none⟩) xs.length xs := by
  refine ⟨rfl, hm, fun _ => ⟨_, rfl, fun j p hj => ⟨_, ?_, hr.2 j p hj, fun i u hi => ?_⟩⟩⟩
  · exact d.K_len (hr.2 j p hj)
  · rw [add_plain]
    refine blk_at hb ?_
    rw [List.getElem?_take] at hi
    split at hi
    · rw [List.getElem?_drop] at hi
      simpa using hi
    · cases hi
end
section
variable {P : Program} {o : Oper} {a : Act} {w : World} {x y : Operand} {t yt e : TypeId}
theorem op_bin_run {b : BinOp} {u v r : Value} (ho : o.op = .binOp b t x y yt) (hx : a.eval x = u) (hy : a.eval y = v) (hr : (do eqGuard b t x y u v; binOp b t u v : Sem Value).run P w = .ok r w) : Runs P o a w r w := by
  unfold Runs execOp
  simp only [ho, hx, hy]
  rw [Sem.run_bind, hr]
  rfl
end
end
section
variable {P : Program} {ops : Array Oper} {Q : Exit → Act → World → Prop} {a : Act} {w : World}
theorem gw_joinS {x y : Code} (V : Act → World → Prop) (h1 : x.wp P (Exit.then V Q) a w) (h2 : ∀ a w, V a w → y.wp P Q a w) : (Code.seq x y).wp P Q a w :=
  gw_seq fun K hK => Code.wp_mono (fun e a w h => by cases e <;> first | exact hK _ _ (h2 _ _ h) | exact h) h1
end
section
def gv (g : Bool) (v : Value) : Value := bif g then v else undef
def onb (b : Bool) : Value → Bool
  | .bool x => x == b
  | _ => false
theorem on_t (x : Bool) : onb true (.bool x) = x := by cases x <;> rfl
theorem on_f (x : Bool) : onb false (.bool x) = !x := by cases x <;> rfl
theorem on_gt (g x : Bool) : onb true (gv g (.bool x)) = (g && x) := by cases g <;> cases x <;> rfl
theorem on_gf (g x : Bool) : onb false (gv g (.bool x)) = (g && !x) := by cases g <;> cases x <;> rfl
theorem ev_gv {u v : Value} {g : Bool} (h : u = gv g v) (hg : g = true) : u = v := by
  rw [h, hg]
  rfl
theorem and1 {a b : Bool} (h : (a && b) = true) : a = true := by revert h; cases a <;> simp
theorem and2 {a b : Bool} (h : (a && b) = true) : b = true := by revert h; cases a <;> cases b <;> simp
theorem andi {a b : Bool} (h : a = true) (k : b = true) : (a && b) = true := by rw [h, k]; rfl
theorem not_t {a : Bool} (h : a = false) : (!a) = true := by rw [h]; rfl
section
variable {D : List Deferred} {P : Program} {ops : Array Oper} {Q : Exit → Act → World → Prop} {rest : List Oper} {o oj : Oper} {N d j dj : Nat} {a : Act} {F : List (Nat × Value)} {w w1 : World} {v u : Value} {C : World → Prop} {Q' : Act → Prop} {b g : Bool}
theorem wanted_on (HF : FrD D N a F) (hg : o.guard = some (j, b)) (hj : ops[j]? = some oj) (hdj : oj.dst = some dj) (hl : look F dj = some u) : Region.wanted o (yielded ops a.tmps) = onb b u := by
  have hy : yielded ops a.tmps j = (match u with | .bool x => some x | _ => none) := by
    cases u <;> simp [yielded, hj, hdj, HF.at_ _ _ hl]
  cases u <;> simp [Region.wanted, hg, hy, onb]
theorem FrD.litG {t : Bool} (h : FrD D N a ((d, gv g (.bool t)) :: F)) (e : g = true → t = b) : FrD D N a ((d, gv g (.bool b)) :: F) := by
  cases g
  · exact h
  · exact e rfl ▸ h
theorem gw_evG (HF : FrD D N a F) (hg : o.guard = some (j, b)) (hj : ops[j]? = some oj) (hdj : oj.dst = some dj) (hl : look F dj = some u) (hon : onb b u = g) (hd : o.dst = some d) (hN : d < N) (hrun : g = true → Runs P o a w v w)
    (k : ∀ a', FrD D N a' ((d, gv g v) :: F) → wpList P ops Q rest a' w) : wpList P ops Q (o :: rest) a w := by
  have hw := wanted_on HF hg hj hdj hl
  rw [hon] at hw
  cases g
  · exact gw_off HF hw hd hN k
  · exact gw_ev HF hw hd hN (hrun rfl) k
theorem gq_evG (HF : FrD D N a F) (hg : o.guard = some (j, b)) (hj : ops[j]? = some oj) (hdj : oj.dst = some dj) (hl : look F dj = some u) (hon : onb b u = g) (hd : o.dst = some d) (hN : d < N) (hrun : g = true → ∀ w, C w → Runs P o a w v w)
    (k : ∀ a', FrD D N a' ((d, gv g v) :: F) → wpQuiet P ops C Q' rest a') : wpQuiet P ops C Q' (o :: rest) a := by
  have hw := wanted_on HF hg hj hdj hl
  rw [hon] at hw
  cases g
  · exact gq_off HF hw hd hN k
  · exact gq_ev HF hw hd hN (hrun rfl) k
theorem gw_callG {f : FuncId} {args : Array Value} (HF : FrD D N a F) (hg : o.guard = some (j, b)) (hj : ops[j]? = some oj) (hdj : oj.dst = some dj) (hl : look F dj = some u) (hon : onb b u = g) (hd : o.dst = some d) (hN : d < N) (hen : g = true → Enters P o a w f args)
    (hc : g = true → Calls P f args w (fun e w' => e = .returned v ∧ Below w.heap.size w w')) (k : ∀ a' w', Below w.heap.size w w' → FrD D N a' ((d, gv g v) :: F) → wpList P ops Q rest a' w') : wpList P ops Q (o :: rest) a w := by
  have hw := wanted_on HF hg hj hdj hl
  rw [hon] at hw
  cases g
  · exact gw_off HF hw hd hN fun a' h => k a' w (Below.refl _ _) h
  · refine gw_call HF hw hd hN (hen rfl) (hc rfl) ?_
    rintro e w' ⟨rfl, hb⟩
    exact ⟨_, rfl, fun a' h => k a' w' hb h⟩
theorem gq_callG {f : FuncId} {args : Array Value} (HF : FrD D N a F) (hg : o.guard = some (j, b)) (hj : ops[j]? = some oj) (hdj : oj.dst = some dj) (hl : look F dj = some u) (hon : onb b u = g) (hd : o.dst = some d) (hN : d < N) (hen : g = true → ∀ w, C w → Enters P o a w f args)
    (hc : g = true → ∀ w, C w → Calls P f args w (fun e w' => e = .returned v ∧ C w')) (k : ∀ a', FrD D N a' ((d, gv g v) :: F) → wpQuiet P ops C Q' rest a') : wpQuiet P ops C Q' (o :: rest) a := by
  have hw := wanted_on HF hg hj hdj hl
  rw [hon] at hw
  cases g
  · exact gq_off HF hw hd hN k
  · exact gq_call HF hw hd hN (hen rfl) (hc rfl) k
end
section
variable {P : Program} {o : Oper} {a : Act} {w : World} {x y z : Operand} {p q : Bool}
theorem op_pick_or (ho : o.op = .pick x y z) (hx : a.eval x = .bool p) (hy : a.eval y = .bool true) (hz : p = false → a.eval z = .bool q) : Runs P o a w (.bool (p || q)) w := by
  cases p
  · exact op_pick_f ho hx (hz rfl)
  · exact op_pick_t ho hx hy
theorem op_pick_and (ho : o.op = .pick x y z) (hx : a.eval x = .bool p) (hy : p = true → a.eval y = .bool q) (hz : a.eval z = .bool false) : Runs P o a w (.bool (p && q)) w := by
  cases p
  · exact op_pick_f ho hx hz
  · exact op_pick_t ho hx (hy rfl)
end
section
variable {α : Type} {d : Kd α} {w : World} {A : Option Addr} {n : Nat} {xs : List α} {S : Nat → Prop}
theorem C_getT (h : d.C w A n xs) (z : α) (i : Int) (hz : ∃ cs, d.K w z cs) : ∃ ad cs, ((0 ≤ i ∧ i < n) → A = some ad) ∧ cs.length = d.sz ∧ d.K w (xs.getD i.toNat z) cs ∧ ((0 ≤ i ∧ i < n) → ∀ j u, cs[j]? = some u → w.cell? (ad.add (i.toNat * d.sz + j)) = some u) := by
  have hn : xs.length = n := h.1
  by_cases hi : 0 ≤ i ∧ i < n
  · obtain ⟨ad, cs, h1, h2, h3, h4⟩ := Kd.C_get h z i hi.1 hi.2
    exact ⟨ad, cs, fun _ => h1, h2, h3, fun _ => h4⟩
  · by_cases h0 : i.toNat < xs.length
    · obtain ⟨ad, cs, h1, h2, h3, h4⟩ := Kd.C_get h z (i.toNat : Int) (by omega) (by omega)
      rw [Int.toNat_natCast] at h3
      exact ⟨ad, cs, fun k => absurd k hi, h2, h3, fun k => absurd k hi⟩
    · obtain ⟨cs, hk⟩ := hz
      have e : xs.getD i.toNat z = z := by rw [List.getD_eq_getElem?_getD, List.getElem?_eq_none (by omega)]; rfl
      rw [e]
      exact ⟨⟨0, 0, none⟩, cs, fun k => absurd k hi, d.K_len hk, hk, fun k => absurd k hi⟩
theorem F_getT (h : d.F w S A n xs) (z : α) (i : Int) (hz : ∃ cs, Kd.FK d w S z cs) : ∃ ad cs, ((0 ≤ i ∧ i < n) → A = some ad) ∧ cs.length = d.sz ∧ Kd.FK d w S (xs.getD i.toNat z) cs ∧ ((0 ≤ i ∧ i < n) → ∀ j u, cs[j]? = some u → w.cell? (ad.add (i.toNat * d.sz + j)) = some u) := by
  have hn : xs.length = n := (Kd.F_now h).1
  by_cases hi : 0 ≤ i ∧ i < n
  · obtain ⟨ad, cs, h1, h2, h3, h4, _⟩ := Kd.F_get h z i hi.1 hi.2
    exact ⟨ad, cs, fun _ => h1, h2, h3, fun _ => h4⟩
  · by_cases h0 : i.toNat < xs.length
    · obtain ⟨ad, cs, h1, h2, h3, h4, _⟩ := Kd.F_get h z (i.toNat : Int) (by omega) (by omega)
      rw [Int.toNat_natCast] at h3
      exact ⟨ad, cs, fun k => absurd k hi, h2, h3, fun k => absurd k hi⟩
    · obtain ⟨cs, hk⟩ := hz
      have e : xs.getD i.toNat z = z := by rw [List.getD_eq_getElem?_getD, List.getElem?_eq_none (by omega)]; rfl
      rw [e]
      exact ⟨⟨0, 0, none⟩, cs, fun k => absurd k hi, d.K_len (Kd.FK_now hk), hk, fun k => absurd k hi⟩
end
section
variable {k : IntKind} {e base c : Nat} {S : Nat → Prop} {A : Option Addr} {n : Nat} {xs : List Int} {w : World}
theorem row_headT {α : Type} {d : Kd α} {xs : List α} (h : d.R e w base S (.slice A n c) xs) (i : Int) : ∃ ad, (0 ≤ i ∧ i < xs.length) → A = some ad := by
  by_cases hi : 0 ≤ i ∧ i < xs.length
  · obtain ⟨ad, e⟩ := row_head h i hi.1 hi.2
    exact ⟨ad, fun _ => e⟩
  · exact ⟨⟨0, 0, none⟩, fun k => absurd k hi⟩
theorem row_cellT {ad : Addr} (h : (Kd.int k).R e w base S (.slice A n c) xs) (hA : A = some ad) (i : Int) (h0 : 0 ≤ i) (h1 : i < xs.length) : w.cell? (ad.add (i.toNat * 1)) = some (.int k (rd xs i)) := by
  subst hA
  exact (row_cell h i h0 h1).1
end
end
section
section
variable {P : Program} {o : Oper} {a : Act} {w : World} {x y z : Operand} {t yt : TypeId} {v : Value}
theorem op_func {f : FuncId} {caps : List Operand} {vs : List Value} (ho : o.op = .makeFunc (.func f) #[] caps.toArray) (hc : caps.map a.eval = vs) : Runs P o a w (.func (.func f) #[] vs.toArray) w := by
  unfold Runs execOp
  simp only [ho]
  simp [go_sem, Instr.makeFunc, hc]
theorem op_iface (hu : ∀ w, (Instr.makeInterface t v).run P w = .ok (.iface t v) w) (ho : o.op = .makeInterface t x) (hx : a.eval x = v) : Runs P o a w (.iface t v) w := by
  unfold Runs execOp
  simp only [ho, hx, Sem.run_bind, hu, Result.andThen_ok, Sem.run_pure]
theorem panics_ {t : TypeId} {v : Value} (ho : o.op = .panic x) (hx : a.eval x = .iface t v) : (execOp a.eval o).run P w = .halt (.panic (.iface t v)) w := by
  unfold execOp
  simp only [ho, hx]
  rfl
theorem op_callV {f : FuncId} {fn : Func} {c : Operand} {args : List Operand} {tys : Array TypeId} {vs caps : List Value} (hf : P.funcs[f]? = some fn) (hname : (fn.name == "runtime.NumGoroutine") = false) (hb : fn.body.isSome = true) (ho : o.op = .call { callee := .value c, args := args.toArray, argTypes := tys }) (hc : a.eval c = .func (.func f) #[] caps.toArray) (hv : args.map a.eval = vs) : Enters P o a w f (vs ++ caps).toArray := by
  have he := enters_ hf hname hb (vs ++ caps).toArray w
  unfold Enters execOp
  simp [ho, resolve, Deferred.ofValue, invoke, hc, hv, he]
end
section
variable {D : List Deferred} {P : Program} {ops : Array Oper} {Q : Exit → Act → World → Prop} {K : Act → World → Prop} {rest : List Oper} {o : Oper} {N d id : Nat} {a : Act} {F : List (Nat × Value)} {w w1 : World} {v : Value} {c : List PanicEntry}
theorem gw_panic (hw : Region.wanted o (yielded ops a.tmps) = true) (hr : (execOp a.eval o).run P w = .halt (.panic v) w) (h : Q (.panic [{ v, recovered := false }]) a w) : wpList P ops Q (o :: rest) a w := by
  refine wpList_step fun K hK => ?_
  rw [if_pos hw]
  unfold Oper.wp
  rw [hr, Oper.upon_panic]
  exact h
theorem gw_thp (h : Q (.panic c) a w) : Exit.then K Q (.panic c) a w := h
theorem gw_blp (h : Q (.panic c) a w) : Exit.inBlock id Q (.panic c) a w := h
theorem gw_pan {fn : Func} {R : Ending → World → Prop} (HF : Fr N a F) (h : R (.panicked c) w) : bodyPost P fn R (.panic c) a w := ⟨HF.defers, h⟩
theorem gw_callP {f : FuncId} {args : Array Value} {R : Ending → World → Prop} (HF : FrD D N a F) (hw : Region.wanted o (yielded ops a.tmps) = true) (hd : o.dst = some d) (hN : d < N) (hen : Enters P o a w f args) (hc : Calls P f args w R)
    (k : ∀ e w', R e w' → (∃ v, e = .returned v ∧ ∀ a', FrD D N a' ((d, v) :: F) → wpList P ops Q rest a' w') ∨ (∃ c, e = .panicked c ∧ Q (.panic c) a w')) : wpList P ops Q (o :: rest) a w := by
  refine wpList_step fun K hK => ?_
  rw [if_pos hw]
  unfold Oper.wp
  rw [hen, Oper.upon_enter]
  refine hc.mono fun e w'' hh => ?_
  rcases k e w'' hh with ⟨v, rfl, hk⟩ | ⟨c, rfl, hk⟩
  · show K (a.put o.dst v) w''
    rw [hd]
    exact hK _ _ (hk _ (HF.put hN v))
  · exact hk
end
section
variable {D : List Deferred} {P : Program} {ops : Array Oper} {Q : Exit → Act → World → Prop} {rest : List Oper} {o : Oper} {N : Nat} {a : Act} {F : List (Nat × Value)} {w : World}
theorem FrD.defer (h : FrD D N a F) (d : Deferred) : FrD (d :: D) N { a with defers := d :: a.defers } F := ⟨by rw [h.defers], h.size, h.at_⟩
theorem gw_defer {x : Operand} {tys : Array TypeId} {fn : Fn} {cap : Array Value} (HF : FrD D N a F) (hw : Region.wanted o (yielded ops a.tmps) = true) (hd : o.dst = none) (ho : o.op = .defer { callee := .value x, args := #[], argTypes := tys }) (hx : a.eval x = .func fn #[] cap)
    (k : ∀ a', FrD ({ target := .fn fn cap, args := #[] } :: D) N a' F → wpList P ops Q rest a' w) : wpList P ops Q (o :: rest) a w := by
  have hr : (execOp a.eval o).run P w = .ok (.defer { target := .fn fn cap, args := #[] }) w := by
    unfold execOp
    simp only [ho]
    simp [resolve, Deferred.ofValue, hx]
  refine wpList_step fun K hK => ?_
  rw [if_pos hw]
  unfold Oper.wp
  rw [hr, Oper.upon_defer, hd]
  exact hK _ _ (k _ (HF.defer _))
theorem gw_startD {fn : Func} {R : Ending → World → Prop} {f : FuncId} {c : Code} {vs : List Value} (hf : P.funcs[f]? = some fn) (hb : fn.body = some c) (hn : fn.ntmps = N) (hl : vs.length ≤ N)
    (h : ∀ a, Fr N a (ixs 0 vs) → c.wp P (bodyPostD P fn R) a w) : Calls P f vs.toArray w R := by
  refine calls_of_wp_defers hf hb ?_
  rw [hn]
  exact h _ (Fr.start vs N hl)
theorem gw_dret {fn : Func} {R : Ending → World → Prop} (HF : FrD D N a F) (h : Leaves P fn a.tmps R D .returning w) : bodyPostD P fn R .ret a w := by
  show Leaves P fn a.tmps R a.defers .returning w
  rw [HF.defers]
  exact h
theorem gw_dpan {fn : Func} {R : Ending → World → Prop} {c : List PanicEntry} (HF : FrD D N a F) (h : Leaves P fn a.tmps R D (.panicking c) w) : bodyPostD P fn R (.panic c) a w := by
  show Leaves P fn a.tmps R a.defers (.panicking c) w
  rw [HF.defers]
  exact h
theorem gl_ret1 {fn : Func} {R : Ending → World → Prop} {r1 : ResultVar} {v1 : Value} (hr : fn.results = #[r1]) (h1 : RV P a w r1 v1) (h : R (.returned v1) w) : Leaves P fn a.tmps R [] .returning w := by
  refine ⟨v1, ?_, h⟩
  unfold RV at h1
  rw [results_eq, hr]
  simp [h1]
theorem invoke_fn {f : FuncId} {fn : Func} {cap : Array Value} (hf : P.funcs[f]? = some fn) (hname : (fn.name == "runtime.NumGoroutine") = false) (hb : fn.body.isSome = true) (w : World) : (invoke (.fn (.func f) cap) #[]).run P w = .ok (.enter f cap) w := by
  have he := enters_ hf hname hb (#[] ++ cap) w
  simpa [invoke] using he
end
section
variable {P : Program} {fn : Func} {N d : Nat} {a : Act} {F : List (Nat × Value)} {w : World} {c₀ : Frame} {cs : List Frame} {R : Ending → FrameMode → World → Prop} {u u' : FrameMode}
theorem gs_end0 (HF : Fr N a F) (hr : fn.results = #[]) (h : R (.returned (.tuple #[])) u' w) : bodyPostS P fn c₀ cs R .normal a ({ c₀ with mode := u' } :: cs) w :=
  ⟨HF.defers, u', rfl, _, results_none hr a.tmps P w, h⟩
theorem gs_pan {c : List PanicEntry} (HF : Fr N a F) (h : R (.panicked c) u' w) : bodyPostS P fn c₀ cs R (.panic c) a ({ c₀ with mode := u' } :: cs) w := ⟨HF.defers, u', rfl, h⟩
theorem gs_start {f : FuncId} {c : Code} {vs : List Value} (hf : P.funcs[f]? = some fn) (hb : fn.body = some c) (hn : fn.ntmps = N) (hl : vs.length ≤ N)
    (h : ∀ (c₀ : Frame) (cs : List Frame), c₀.mode = u → ∀ a, Fr N a (ixs 0 vs) → c.wpS P (bodyPostS P fn c₀ cs R) a (c₀ :: cs) w) : CallsD P f vs.toArray u w R := by
  refine callsD_of_wpS hf hb fun c₀ cs hu => ?_
  rw [hn]
  exact h c₀ cs hu _ (Fr.start vs N hl)
def recd : FrameMode → Value × FrameMode
  | .panicking ({ v, recovered := false, goexit := false } :: older) => (v, .panicking ({ v, recovered := true } :: older))
  | u => (.nilIface, u)
theorem recoverD_is (hu : c₀.mode = u) : (match recoverD (c₀ :: cs) with | some p => p | none => (.nilIface, c₀ :: cs)) = ((recd u).1, { c₀ with mode := (recd u).2 } :: cs) := by
  subst hu
  have hc : { c₀ with mode := c₀.mode } = c₀ := rfl
  cases h : c₀.mode with
  | run => simp only [recoverD, recd, h]; rw [← h]
  | returning => simp only [recoverD, recd, h]; rw [← h]
  | panicking chain =>
    cases chain with
    | nil => simp only [recoverD, recd, h]; rw [← h]
    | cons e older =>
      obtain ⟨v, r, g⟩ := e
      cases r <;> cases g <;> simp only [recoverD, recd, h] <;> rw [← h]
theorem gs_recover {id : Nat} {o : Oper} {y : Code} {tys : Array TypeId} {got : Value} {Q : Exit → Act → List Frame → World → Prop} (HF : Fr N a F) (ho : o.op = .call { callee := .builtin .recover, args := #[], argTypes := tys }) (hg : o.guard = none) (hd : o.dst = some d) (hN : d < N) (hu : c₀.mode = u) (hr : recd u = (got, u'))
    (h : ∀ a', Fr N a' ((d, got) :: F) → y.wp P (fun e a' w' => Q e a' ({ c₀ with mode := u' } :: cs) w') a' w) : (Code.seq (.region id #[o] false) y).wpS P Q a (c₀ :: cs) w := by
  have hx : (execOp a.eval o).run P w = .ok .recover w := by
    unfold execOp
    simp only [ho]
    rfl
  refine wpS_seq (wpS_region ?_)
  have hw : Region.wanted o (yielded #[o] a.tmps) = true := by simp [Region.wanted, hg]
  have hl : List.range (#[o] : Array Oper).size = [0] := rfl
  rw [hl]
  simp only [wpOpsS, List.getElem?_toArray, List.getElem?_cons_zero, hw, if_true, hx, hd]
  have key := recoverD_is (c₀ := c₀) (cs := cs) hu
  rw [hr] at key
  cases hrec : recoverD (c₀ :: cs) with
  | none =>
    rw [hrec] at key
    simp only [Prod.mk.injEq] at key
    obtain ⟨rfl, k2⟩ := key
    show Exit.thenS _ _ .normal _ _ _
    refine wpS_of_wp ?_
    rw [k2]
    exact h _ (HF.put hN _)
  | some p =>
    obtain ⟨v, cs'⟩ := p
    rw [hrec] at key
    simp only [Prod.mk.injEq] at key
    obtain ⟨rfl, rfl⟩ := key
    show Exit.thenS _ _ .normal _ _ _
    refine wpS_of_wp ?_
    exact h _ (HF.put hN _)
theorem op_tassert {o : Oper} {x : Operand} {t t' : TypeId} {ok : Bool} {v r : Value} (hr : (Instr.typeAssert v t t' ok).run P w = .ok r w) (ho : o.op = .typeAssert x t t' ok) (hx : a.eval x = v) : Runs P o a w r w := by
  unfold Runs execOp
  simp only [ho, hx, Sem.run_bind, hr, Result.andThen_ok, Sem.run_pure]
end
end
section
def ByteL (xs : List Int) : Prop := ∀ x ∈ xs, 0 ≤ x ∧ x < 256
def valN (xs : List Int) : Nat → Int
  | 0 => 0
  | k + 1 => valN xs k + xs.getD k 0 % 128 * 128 ^ k
def gnumFrom (xs : List Int) : Nat → Nat → Option (Int × Nat)
  | 0, _ => none
  | f + 1, j => if j < xs.length ∧ j < 9 then (if xs.getD j 0 < 128 then (if valN xs (j + 1) ≤ 4611686018427387904 ∧ (0 < xs.getD j 0 ∨ j = 0) then some (valN xs (j + 1), j + 1) else none) else gnumFrom xs f (j + 1)) else none
def gnum (xs : List Int) : Option (Int × Nat) := gnumFrom xs 10 0
theorem valN_bound (xs : List Int) : ∀ k, 0 ≤ valN xs k ∧ valN xs k < 128 ^ k
  | 0 => by simp [valN]
  | k + 1 => by
    have ih := valN_bound xs k
    unfold valN
    have h1 : 0 ≤ xs.getD k 0 % 128 := Int.emod_nonneg _ (by decide)
    have h2 : xs.getD k 0 % 128 < 128 := Int.emod_lt_of_pos _ (by decide)
    have hp : (0 : Int) < 128 ^ k := Int.pow_pos (by decide)
    have h3 : 0 ≤ xs.getD k 0 % 128 * 128 ^ k := Int.mul_nonneg h1 (Int.le_of_lt hp)
    have h4 : xs.getD k 0 % 128 * 128 ^ k ≤ 127 * 128 ^ k := Int.mul_le_mul_of_nonneg_right (by omega) (Int.le_of_lt hp)
    rw [Int.pow_succ]
    omega
theorem gnumFrom_some {xs : List Int} {n : Int} {k : Nat} : ∀ (f j : Nat), gnumFrom xs f j = some (n, k) → 1 ≤ k ∧ k ≤ xs.length ∧ 0 ≤ n ∧ n ≤ 4611686018427387904
  | 0, j, h => by simp [gnumFrom] at h
  | f + 1, j, h => by
    unfold gnumFrom at h
    split at h
    · rename_i hj
      split at h
      · split at h
        · rename_i h2
          simp only [Option.some.injEq, Prod.mk.injEq] at h
          obtain ⟨rfl, rfl⟩ := h
          exact ⟨by omega, by omega, (valN_bound xs (j + 1)).1, h2.1⟩
        · cases h
      · exact gnumFrom_some f (j + 1) h
    · cases h
theorem gnum_some {xs : List Int} {n : Int} {k : Nat} (h : gnum xs = some (n, k)) : 1 ≤ k ∧ k ≤ xs.length ∧ 0 ≤ n ∧ n ≤ 4611686018427387904 := gnumFrom_some _ _ h
theorem gn_in {xs : List Int} {j : Int} (h0 : 0 ≤ j) (hg : gnum xs = gnumFrom xs (10 - j.toNat) j.toNat) (h1 : j < xs.length) (h2 : j < 9) : gnum xs = if xs.getD j.toNat 0 < 128 then (if valN xs (j.toNat + 1) ≤ 4611686018427387904 ∧ (0 < xs.getD j.toNat 0 ∨ j.toNat = 0) then some (valN xs (j.toNat + 1), j.toNat + 1) else none) else gnumFrom xs (10 - (j + 1).toNat) (j + 1).toNat := by
  rw [hg, show 10 - j.toNat = (9 - j.toNat) + 1 by omega]
  conv => lhs; unfold gnumFrom
  rw [if_pos (by omega), show (j + 1).toNat = j.toNat + 1 by omega, show 10 - (j.toNat + 1) = 9 - j.toNat by omega]
theorem gn_out {xs : List Int} {j : Int} (h0 : 0 ≤ j) (hj : j ≤ 9) (hg : gnum xs = gnumFrom xs (10 - j.toNat) j.toNat) (h1 : ¬ (j < xs.length ∧ j < 9)) : gnum xs = none := by
  rw [hg, show 10 - j.toNat = (9 - j.toNat) + 1 by omega]
  unfold gnumFrom
  rw [if_neg (by omega)]
theorem and127_all : ∀ x : Fin 256, Go.bits .and .u8 ((x.val : Nat) : Int) 127 = ((x.val % 128 : Nat) : Int) := by decide +kernel
theorem and127 {c : Int} (h : 0 ≤ c ∧ c < 256) : Go.bits .and .u8 c 127 = c % 128 := by
  have := and127_all ⟨c.toNat, by omega⟩
  simp only at this
  rw [show ((c.toNat : Nat) : Int) = c by omega] at this
  rw [this]
  omega
theorem u64_in (n : Int) (h₀ : 0 ≤ n) (h₁ : n < 2 ^ 64) : IntKind.u64.wrap n = n := by rw [IntKind.wrap_u64]; omega
theorem shl7 {x j : Int} (hx : 0 ≤ x ∧ x < 128) (hj : 0 ≤ j ∧ j ≤ 8) : IntKind.u64.wrap (x * 2 ^ (min (7 * j : Int).toNat (IntKind.bits .u64))) = x * 128 ^ j.toNat := by
  have e : (2 : Int) ^ (min (7 * j : Int).toNat (IntKind.bits .u64)) = 128 ^ j.toNat := by
    have : min (7 * j : Int).toNat (IntKind.bits .u64) = 7 * j.toNat := by
      show min (7 * j : Int).toNat 64 = _
      omega
    rw [this, Int.pow_mul]
    rfl
  rw [e]
  have hp : (0 : Int) < 128 ^ j.toNat := Int.pow_pos (by decide)
  have h8 : (128 : Int) ^ j.toNat ≤ 128 ^ 8 := by
    have : ∀ m : Nat, m ≤ 8 → (128 : Int) ^ m ≤ 128 ^ 8 := by decide
    exact this _ (by omega)
  refine u64_in _ (Int.mul_nonneg hx.1 (Int.le_of_lt hp)) ?_
  have h4 : x * 128 ^ j.toNat ≤ 127 * 128 ^ 8 := Int.le_trans (Int.mul_le_mul_of_nonneg_right (by omega) (Int.le_of_lt hp)) (Int.mul_le_mul_of_nonneg_left h8 (by decide))
  have : (127 : Int) * 128 ^ 8 < 2 ^ 64 := by decide
  omega
theorem or7 {xs : List Int} {j : Int} (hj : 0 ≤ j ∧ j ≤ 8) : Go.bits .or .u64 (valN xs j.toNat) (xs.getD j.toNat 0 % 128 * 128 ^ j.toNat) = valN xs (j.toNat + 1) := by
  have hb := valN_bound xs j.toNat
  have hb2 := valN_bound xs (j.toNat + 1)
  have h1 : 0 ≤ xs.getD j.toNat 0 % 128 := Int.emod_nonneg _ (by decide)
  have h2 : xs.getD j.toNat 0 % 128 < 128 := Int.emod_lt_of_pos _ (by decide)
  have hp : (0 : Int) < 128 ^ j.toNat := Int.pow_pos (by decide)
  have e7 : (128 : Int) ^ j.toNat = 2 ^ (7 * j.toNat) := by rw [Int.pow_mul]; rfl
  have h9 : ∀ m : Nat, m ≤ 9 → (128 : Int) ^ m ≤ 128 ^ 9 := by decide
  have h91 := h9 (j.toNat + 1) (by omega)
  have hlt : (128 : Int) ^ 9 < 2 ^ 64 := by decide
  have hy0 : 0 ≤ xs.getD j.toNat 0 % 128 * 128 ^ j.toNat := Int.mul_nonneg h1 (Int.le_of_lt hp)
  have hsum : valN xs (j.toNat + 1) = valN xs j.toNat + xs.getD j.toNat 0 % 128 * 128 ^ j.toNat := rfl
  have hc : Go.bits .or .u64 (valN xs j.toNat) (xs.getD j.toNat 0 % 128 * 128 ^ j.toNat) = Go.bits .or .u64 (xs.getD j.toNat 0 % 128 * 128 ^ j.toNat) (valN xs j.toNat) := by
    unfold Go.bits
    simp only [BitVec.or_comm]
  rw [hc, bits_join .u64 64 (by decide) u64_in (7 * j.toNat) _ _ hy0 (by rw [← e7]; exact Int.mul_emod_left _ _) (by omega) hb.1 (by rw [← e7]; exact hb.2) (by omega), hsum]
  omega
theorem getD_drop (xs : List Int) (j : Int) (h0 : 0 ≤ j) : (xs.drop j.toNat).getD (0 : Int).toNat 0 = xs.getD j.toNat 0 := by
  simp [List.getD_eq_getElem?_getD, List.getElem?_drop]
theorem byte_getD {xs : List Int} (h : ByteL xs) (j : Nat) (hj : j < xs.length) : 0 ≤ xs.getD j 0 ∧ xs.getD j 0 < 256 := h _ (getD_mem xs j hj)
theorem ByteL.drop {xs : List Int} (h : ByteL xs) (k : Nat) : ByteL (xs.drop k) := fun x hx => h x (List.mem_of_mem_drop hx)
def gtext (xs : List Int) (most : Int) : Option (List Int × Nat) :=
  match gnum xs with
  | some (n, k) => if n ≤ most ∧ n ≤ (xs.length : Int) - k then some ((xs.drop k).take n.toNat, k + n.toNat) else none
  | none => none
def gnumV (xs : List Int) : Int × Int := match gnum xs with | some (n, k) => (n, (k : Int)) | none => (0, 0)
theorem gnumV_none {xs : List Int} (h : gnum xs = none) : gnumV xs = (0, 0) := by unfold gnumV; rw [h]
theorem gnumV_some {xs : List Int} {n : Int} {k : Nat} (h : gnum xs = some (n, k)) : gnumV xs = (n, (k : Int)) := by unfold gnumV; rw [h]
theorem gnumV_is (xs : List Int) : (gnum xs = none ∧ (gnumV xs).2 = 0 ∧ (gnumV xs).1 = 0) ∨ (∃ k : Nat, gnum xs = some ((gnumV xs).1, k) ∧ (gnumV xs).2 = (k : Int) ∧ 1 ≤ k ∧ k ≤ xs.length ∧ 0 ≤ (gnumV xs).1 ∧ (gnumV xs).1 ≤ 4611686018427387904) := by
  cases h : gnum xs with
  | none => rw [gnumV_none h]; exact .inl ⟨rfl, rfl, rfl⟩
  | some p =>
    obtain ⟨n, k⟩ := p
    rw [gnumV_some h]
    exact .inr ⟨k, rfl, rfl, gnum_some h⟩
theorem gnumV_b (xs : List Int) : ((gnumV xs).2 = 0 ∧ (gnumV xs).1 = 0) ∨ (1 ≤ (gnumV xs).2 ∧ (gnumV xs).2 ≤ xs.length ∧ 0 ≤ (gnumV xs).1 ∧ (gnumV xs).1 ≤ 4611686018427387904) := by
  rcases gnumV_is xs with ⟨_, h⟩ | ⟨k, _, h⟩
  · exact .inl h
  · exact .inr (by omega)
section
variable {xs : List Int} {i : Int}
theorem p128 : ∀ m : Nat, m ≤ 9 → (0 : Int) < 128 ^ m ∧ (128 : Int) ^ m ≤ 128 ^ 9 := by decide
theorem min8 (h : 0 ≤ i ∧ i ≤ 8) : min i.toNat 8 = i.toNat := by omega
theorem rn_mul (h : 0 ≤ i ∧ i ≤ 8) (hn : i ≠ 8 ∨ xs.getD i.toNat 0 % 128 ≤ 64) : 0 ≤ xs.getD i.toNat 0 % 128 * 128 ^ (min i.toNat 8) ∧ xs.getD i.toNat 0 % 128 * 128 ^ (min i.toNat 8) ≤ 4611686018427387904 := by
  rw [min8 h]
  have h1 : 0 ≤ xs.getD i.toNat 0 % 128 := Int.emod_nonneg _ (by decide)
  have h2 : xs.getD i.toNat 0 % 128 < 128 := Int.emod_lt_of_pos _ (by decide)
  have hp := (p128 i.toNat (by omega)).1
  refine ⟨Int.mul_nonneg h1 (Int.le_of_lt hp), ?_⟩
  by_cases h8 : i = 8
  · subst h8
    have : xs.getD (8 : Int).toNat 0 % 128 ≤ 64 := hn.resolve_left (fun h => h rfl)
    exact Int.le_trans (Int.mul_le_mul_of_nonneg_right this (Int.le_of_lt hp)) (by decide)
  · have h7 : ∀ m : Nat, m ≤ 7 → (128 : Int) ^ m ≤ 128 ^ 7 := by decide
    exact Int.le_trans (Int.mul_le_mul_of_nonneg_right (show _ ≤ (127 : Int) by omega) (Int.le_of_lt hp)) (Int.le_trans (Int.mul_le_mul_of_nonneg_left (h7 i.toNat (by omega)) (by decide)) (by decide))
theorem rn_add (h : 0 ≤ i ∧ i ≤ 8) : valN xs i.toNat + xs.getD i.toNat 0 % 128 * 128 ^ (min i.toNat 8) = valN xs (i.toNat + 1) := by
  rw [min8 h]
  rfl
theorem rn_lt (h : 0 ≤ i ∧ i ≤ 8) : 0 ≤ valN xs i.toNat ∧ valN xs i.toNat < 72057594037927937 := by
  have hb := valN_bound xs i.toNat
  have h8 : ∀ m : Nat, m ≤ 8 → (128 : Int) ^ m ≤ 72057594037927936 := by decide
  have := h8 i.toNat (by omega)
  omega
theorem rn_unit (h : 0 ≤ i ∧ i < 8) : (128 : Int) ^ (min i.toNat 8) * 128 = 128 ^ (min (i + 1).toNat 8) := by
  rw [show min (i + 1).toNat 8 = min i.toNat 8 + 1 by omega, Int.pow_succ]
theorem rn_unit8 (h : 0 ≤ i ∧ i ≤ 8) (h8 : 8 ≤ i) : (128 : Int) ^ (min i.toNat 8) = 128 ^ (min (i + 1).toNat 8) := by
  rw [show min (i + 1).toNat 8 = min i.toNat 8 by omega]
theorem rn_u (h : 0 ≤ i ∧ i ≤ 7) : (0 : Int) < 128 ^ (min i.toNat 8) ∧ (128 : Int) ^ (min i.toNat 8) ≤ 562949953421312 := by
  have h8 : ∀ m : Nat, m ≤ 7 → (0 : Int) < 128 ^ m ∧ (128 : Int) ^ m ≤ 562949953421312 := by decide
  exact h8 _ (by omega)
theorem rn_big (hg : gnum xs = gnumFrom xs (10 - i.toNat) i.toNat) (h1 : i < xs.length) (h8 : i = 8) (hl : 64 < xs.getD i.toNat 0 % 128) (hb : 0 ≤ xs.getD i.toNat 0) : gnum xs = none := by
  subst h8
  rw [gn_in (by decide) hg h1 (by decide)]
  have h9 : gnumFrom xs (10 - ((8 : Int) + 1).toNat) ((8 : Int) + 1).toNat = none := by
    show gnumFrom xs 1 9 = none
    unfold gnumFrom
    rw [if_neg (by omega)]
  split
  · have hv := (rn_lt (xs := xs) (i := 8) (by decide)).1
    have : valN xs ((8 : Int).toNat + 1) = valN xs (8 : Int).toNat + xs.getD (8 : Int).toNat 0 % 128 * 128 ^ 8 := rfl
    have e8 : (128 : Int) ^ 8 = 72057594037927936 := by decide
    rw [e8] at this
    rw [if_neg (by omega)]
  · exact h9
end
end
section
abbrev J (n : Int) : Value := .int .i64 n
abbrev Bk (g : Nat) (cs : List Value) (t : Nat) : Chunk := Chunk.blk g (.cells cs.toArray t (0, 0))
section
variable {D : List Deferred} {P : Program} {ops : Array Oper} {Q : Exit → Act → World → Prop} {Q' : Act → World → Prop} {rest : List Oper} {o : Oper} {N d : Nat} {a : Act} {F : List (Nat × Value)} {w w0 w1 wz : World} {L M : List Chunk} {v : Value} {B : Nat → Bool}
theorem V (HF : FrD D N a F) (hrun : Runs P o a w v w1) (k : ∀ a', FrD D N a' ((d, v) :: F) → wpList P ops Q rest a' w1) (hg : o.guard = none := by rfl) (hd : o.dst = some d := by rfl) (hN : d < N := by decide) : wpList P ops Q (o :: rest) a w := gw_ev HF (want_none hg) hd hN hrun k
theorem V2 (HF : FrD D N a F) (hw : Region.wanted o (yielded ops a.tmps) = true) (hrun : Runs P o a w v w1) (k : ∀ a', FrD D N a' ((d, v) :: F) → wpList P ops Q rest a' w1) (hd : o.dst = some d := by rfl) (hN : d < N := by decide) : wpList P ops Q (o :: rest) a w := gw_ev HF hw hd hN hrun k
theorem Vo (HF : FrD D N a F) (hw : Region.wanted o (yielded ops a.tmps) = false) (k : ∀ a', FrD D N a' ((d, undef) :: F) → wpList P ops Q rest a' w) (hd : o.dst = some d := by rfl) (hN : d < N := by decide) : wpList P ops Q (o :: rest) a w := gw_off HF hw hd hN k
theorem wn {j dj : Nat} {oj : Oper} {b b' : Bool} (HF : FrD D N a F) (hg : o.guard = some (j, b)) (hj : ops[j]? = some oj) (hdj : oj.dst = some dj) (hl : look F dj = some (.bool b')) (hne : b' ≠ b := by decide) : Region.wanted o (yielded ops a.tmps) = false := want_no HF hg hj hdj hl hne
theorem gR {id : Nat} {l : List Oper} {y : Code} (h : ∀ K : Act → World → Prop, (∀ a w, y.wp P Q a w → K a w) → wpList P l.toArray (Exit.then K Q) l a w) : (Code.seq (.region id l.toArray false) y).wp P Q a w := gw_seq fun K hK => wp_region_lit (h K hK)
theorem gE {y : Code} {K : Act → World → Prop} {Q2 : Exit → Act → World → Prop} (hK : ∀ a w, y.wp P Q2 a w → K a w) (h : y.wp P Q2 a w) : wpList P ops (Exit.then K Q) [] a w := wpList_nil (gw_nx (hK _ _ h))
end
section
variable {D : List Deferred} {P : Program} {ops : Array Oper} {Q : Exit → Act → World → Prop} {C : World → Prop} {Q' : Act → Prop} {rest : List Oper} {o : Oper} {N d : Nat} {a : Act} {F : List (Nat × Value)} {w : World} {v : Value}
theorem Vq (HF : FrD D N a F) (hrun : ∀ w, C w → Runs P o a w v w) (k : ∀ a', FrD D N a' ((d, v) :: F) → wpQuiet P ops C Q' rest a') (hg : o.guard = none := by rfl) (hd : o.dst = some d := by rfl) (hN : d < N := by decide) : wpQuiet P ops C Q' (o :: rest) a := gq_ev HF (want_none hg) hd hN hrun k
theorem Vn (HF : FrD D N a F) (hrun : ∀ {w}, Runs P o a w v w) (k : ∀ a', FrD D N a' ((d, v) :: F) → wpQuiet P ops C Q' rest a') (hg : o.guard = none := by rfl) (hd : o.dst = some d := by rfl) (hN : d < N := by decide) : wpQuiet P ops C Q' (o :: rest) a := gq_ev HF (want_none hg) hd hN (fun _ _ => hrun) k
theorem Vm {t : Nat} (HF : FrD D N a F) (k : ∀ a', FrD D N a' ((d, v) :: F) → wpList P ops Q rest a' w) (ho : o.op = .move (.tmp t) := by exact rfl) (hl : look F t = some v := by exact rfl) (hg : o.guard = none := by rfl) (hd : o.dst = some d := by rfl) (hN : d < N := by decide) : wpList P ops Q (o :: rest) a w := gw_ev HF (want_none hg) hd hN (op_move ho (HF.ev hl)) k
theorem Va {t : Nat} (HF : FrD D N a F) (k : ∀ a', FrD D N a' ((d, v) :: F) → wpList P ops Q rest a' w) (ho : o.op = .assign (.tmp t) := by exact rfl) (hl : look F t = some v := by exact rfl) (hg : o.guard = none := by rfl) (hd : o.dst = some d := by rfl) (hN : d < N := by decide) : wpList P ops Q (o :: rest) a w := gw_ev HF (want_none hg) hd hN (op_assign ho (HF.ev hl)) k
theorem Vc (HF : FrD D N a F) (k : ∀ a', FrD D N a' ((d, v) :: F) → wpList P ops Q rest a' w) (ho : o.op = .assign (.const v) := by exact rfl) (hg : o.guard = none := by rfl) (hd : o.dst = some d := by rfl) (hN : d < N := by decide) : wpList P ops Q (o :: rest) a w := gw_ev HF (want_none hg) hd hN (op_assign ho (ev_c _ _)) k
theorem Vx {t i : Nat} {vs : Array Value} (HF : FrD D N a F) (k : ∀ a', FrD D N a' ((d, v) :: F) → wpList P ops Q rest a' w) (ho : o.op = .extract (.tmp t) i := by exact rfl) (hl : look F t = some (.tuple vs) := by exact rfl) (hv : vs[i]? = some v := by exact rfl) (hg : o.guard = none := by rfl) (hd : o.dst = some d := by rfl) (hN : d < N := by decide) : wpList P ops Q (o :: rest) a w := gw_ev HF (want_none hg) hd hN (op_extract ho (HF.ev hl) hv) k
theorem Vz {t : Nat} {ad : Addr} (HF : FrD D N a F) (k : ∀ a', FrD D N a' ((d, .pointer (some ad)) :: F) → wpList P ops Q rest a' w) (ho : o.op = .nilCheck (.tmp t) := by exact rfl) (hl : look F t = some (.pointer (some ad)) := by exact rfl) (hg : o.guard = none := by rfl) (hd : o.dst = some d := by rfl) (hN : d < N := by decide) : wpList P ops Q (o :: rest) a w := gw_ev HF (want_none hg) hd hN (op_nil ho (HF.ev hl)) k
theorem Vf {t f : Nat} {ty : TypeId} {ad ad' : Addr} (HF : FrD D N a F) (hf : ∀ w, (Instr.fieldAt ty (.pointer (some ad)) f).run P w = .ok (.pointer (some ad')) w) (k : ∀ a', FrD D N a' ((d, .pointer (some ad')) :: F) → wpList P ops Q rest a' w) (ho : o.op = .fieldAddr ty (.tmp t) f := by exact rfl) (hl : look F t = some (.pointer (some ad)) := by exact rfl) (hg : o.guard = none := by rfl) (hd : o.dst = some d := by rfl) (hN : d < N := by decide) : wpList P ops Q (o :: rest) a w := gw_ev HF (want_none hg) hd hN (op_field hf ho (HF.ev hl)) k
theorem Vl {t g j : Nat} {ty T : TypeId} {cs : Array Value} (HF : FrD D N a F) (hA : ∀ w, (isAgg ty).run P w = .ok false w) (hb : w.heap[g]? = some (.cells cs T (0, 0))) (k : ∀ a', FrD D N a' ((d, v) :: F) → wpList P ops Q rest a' w) (ho : o.op = .load ty (.tmp t) := by exact rfl) (hl : look F t = some (.pointer (some ⟨g, j, none⟩)) := by exact rfl) (hv : cs[j]? = some v := by exact rfl) (hg : o.guard = none := by rfl) (hd : o.dst = some d := by rfl) (hN : d < N := by decide) : wpList P ops Q (o :: rest) a w := gw_ev HF (want_none hg) hd hN (op_load1 hA ho (HF.ev hl) (blk_at hb hv)) k
theorem Wk {f : FuncId} {fn : Func} {args : List Operand} {tys : Array TypeId} {vs : List Value} {R : Ending → World → Prop} (HF : FrD D N a F) (hf : P.funcs[f]? = some fn) (ho : o.op = .call { callee := .value (.func f), args := args.toArray, argTypes := tys }) (hv : args.map a.eval = vs) (hc : Calls P f vs.toArray w R) (k : ∀ e w', R e w' → ∃ v, e = .returned v ∧ ∀ a', FrD D N a' ((d, v) :: F) → wpList P ops Q rest a' w') (hname : (fn.name == "runtime.NumGoroutine") = false := by kernel_rfl) (hb : fn.body.isSome = true := by exact rfl) (hg : o.guard = none := by rfl) (hd : o.dst = some d := by rfl) (hN : d < N := by decide) : wpList P ops Q (o :: rest) a w := gw_call HF (want_none hg) hd hN (op_callL hf hname hb ho hv) hc k
theorem gS {y : Code} {K : Act → World → Prop} {Q2 : Exit → Act → World → Prop} (hK : ∀ a w, y.wp P Q2 a w → K a w) (h : y.wp P Q2 a w) : Code.skip.wp P (Exit.then K Q) a w := wp_skip (gw_nx (hK _ _ h))
theorem Wc {f : FuncId} {args : Array Value} {R : Ending → World → Prop} (HF : FrD D N a F) (hen : Enters P o a w f args) (hc : Calls P f args w R) (k : ∀ e w', R e w' → ∃ v, e = .returned v ∧ ∀ a', FrD D N a' ((d, v) :: F) → wpList P ops Q rest a' w') (hg : o.guard = none := by rfl) (hd : o.dst = some d := by rfl) (hN : d < N := by decide) : wpList P ops Q (o :: rest) a w := gw_call HF (want_none hg) hd hN hen hc k
end
theorem gwagg22 : ∀ w, (isAgg 22).run Tryz.prog w = .ok false w := fun _ => by kernel_rfl
theorem gwagg26 : ∀ w, (isAgg 26).run Tryz.prog w = .ok false w := fun _ => by kernel_rfl
theorem gwagg5 : ∀ w, (isAgg 5).run Tryz.prog w = .ok false w := fun _ => by kernel_rfl
theorem gwfld131_0 (g off : Nat) : ∀ w, (Instr.fieldAt 131 (.pointer (some ⟨g, off, none⟩)) 0).run Tryz.prog w = .ok (.pointer (some ⟨g, off + 0, none⟩)) w := fun _ => by kernel_rfl
theorem gwsiz129 : ∀ w, (sizeOf 129).run Tryz.prog w = .ok 0 w := fun _ => by kernel_rfl
theorem gwsiz22 : ∀ w, (sizeOf 22).run Tryz.prog w = .ok 1 w := fun _ => by kernel_rfl
theorem gwsiz26 : ∀ w, (sizeOf 26).run Tryz.prog w = .ok 1 w := fun _ => by kernel_rfl
theorem gwsiz5 : ∀ w, (sizeOf 5).run Tryz.prog w = .ok 1 w := fun _ => by kernel_rfl
theorem gwzer129 : ∀ w, (zeroValue 129).run Tryz.prog w = .ok (.agg #[]) w := fun _ => by kernel_rfl
theorem gwzer26 : ∀ w, (zeroValue 26).run Tryz.prog w = .ok (.int .i64 0) w := fun _ => by kernel_rfl
theorem gwagg32 : ∀ w, (isAgg 32).run Tryz.prog w = .ok false w := fun _ => by kernel_rfl
theorem gwagg34 : ∀ w, (isAgg 34).run Tryz.prog w = .ok true w := fun _ => by kernel_rfl
theorem gwagg38 : ∀ w, (isAgg 38).run Tryz.prog w = .ok true w := fun _ => by kernel_rfl
theorem gwagg9 : ∀ w, (isAgg 9).run Tryz.prog w = .ok false w := fun _ => by kernel_rfl
theorem gwfld34_0 (g off : Nat) : ∀ w, (Instr.fieldAt 34 (.pointer (some ⟨g, off, none⟩)) 0).run Tryz.prog w = .ok (.pointer (some ⟨g, off + 0, none⟩)) w := fun _ => by kernel_rfl
theorem gwfld38_0 (g off : Nat) : ∀ w, (Instr.fieldAt 38 (.pointer (some ⟨g, off, none⟩)) 0).run Tryz.prog w = .ok (.pointer (some ⟨g, off + 0, none⟩)) w := fun _ => by kernel_rfl
theorem gwflda38_0 (ad : Addr) : ∀ w, (Instr.fieldAt 38 (.pointer (some ad)) 0).run Tryz.prog w = .ok (.pointer (some (ad.add 0))) w := fun _ => by kernel_rfl
theorem gwinfo38 : (Tryz.prog.info? 38).map (fun i => (i.zero, i.size, i.bytes)) = some (some (.agg #[.string (⟨#[]⟩ : ByteArray), .slice none 0 0, .int .i64 0]), 3, 48) := by kernel_rfl
theorem gwsiz32 : ∀ w, (sizeOf 32).run Tryz.prog w = .ok 1 w := fun _ => by kernel_rfl
theorem gwsiz34 : ∀ w, (sizeOf 34).run Tryz.prog w = .ok 4 w := fun _ => by kernel_rfl
theorem gwsiz38 : ∀ w, (sizeOf 38).run Tryz.prog w = .ok 3 w := fun _ => by kernel_rfl
theorem gwzer34 : ∀ w, (zeroValue 34).run Tryz.prog w = .ok (.agg #[.slice none 0 0, .int .i64 0, .int .i64 0, .bool false]) w := fun _ => by kernel_rfl
theorem gwflda38_1 (ad : Addr) : ∀ w, (Instr.fieldAt 38 (.pointer (some ad)) 1).run Tryz.prog w = .ok (.pointer (some (ad.add 1))) w := fun _ => by kernel_rfl
theorem gwagg3 : ∀ w, (isAgg 3).run Tryz.prog w = .ok false w := fun _ => by kernel_rfl
theorem gwagg4 : ∀ w, (isAgg 4).run Tryz.prog w = .ok false w := fun _ => by kernel_rfl
theorem gwfld34_1 (g off : Nat) : ∀ w, (Instr.fieldAt 34 (.pointer (some ⟨g, off, none⟩)) 1).run Tryz.prog w = .ok (.pointer (some ⟨g, off + 1, none⟩)) w := fun _ => by kernel_rfl
theorem gwfld34_2 (g off : Nat) : ∀ w, (Instr.fieldAt 34 (.pointer (some ⟨g, off, none⟩)) 2).run Tryz.prog w = .ok (.pointer (some ⟨g, off + 2, none⟩)) w := fun _ => by kernel_rfl
theorem gwfld34_3 (g off : Nat) : ∀ w, (Instr.fieldAt 34 (.pointer (some ⟨g, off, none⟩)) 3).run Tryz.prog w = .ok (.pointer (some ⟨g, off + 3, none⟩)) w := fun _ => by kernel_rfl
theorem gwfld38_1 (g off : Nat) : ∀ w, (Instr.fieldAt 38 (.pointer (some ⟨g, off, none⟩)) 1).run Tryz.prog w = .ok (.pointer (some ⟨g, off + 1, none⟩)) w := fun _ => by kernel_rfl
theorem gwfld38_2 (g off : Nat) : ∀ w, (Instr.fieldAt 38 (.pointer (some ⟨g, off, none⟩)) 2).run Tryz.prog w = .ok (.pointer (some ⟨g, off + 2, none⟩)) w := fun _ => by kernel_rfl
theorem gwfld93_0 (g off : Nat) : ∀ w, (Instr.fieldAt 93 (.pointer (some ⟨g, off, none⟩)) 0).run Tryz.prog w = .ok (.pointer (some ⟨g, off + 0, none⟩)) w := fun _ => by kernel_rfl
theorem gwfld93_1 (g off : Nat) : ∀ w, (Instr.fieldAt 93 (.pointer (some ⟨g, off, none⟩)) 1).run Tryz.prog w = .ok (.pointer (some ⟨g, off + 1, none⟩)) w := fun _ => by kernel_rfl
theorem gwfld93_2 (g off : Nat) : ∀ w, (Instr.fieldAt 93 (.pointer (some ⟨g, off, none⟩)) 2).run Tryz.prog w = .ok (.pointer (some ⟨g, off + 2, none⟩)) w := fun _ => by kernel_rfl
theorem gwfld93_3 (g off : Nat) : ∀ w, (Instr.fieldAt 93 (.pointer (some ⟨g, off, none⟩)) 3).run Tryz.prog w = .ok (.pointer (some ⟨g, off + 3, none⟩)) w := fun _ => by kernel_rfl
theorem gwfld93_4 (g off : Nat) : ∀ w, (Instr.fieldAt 93 (.pointer (some ⟨g, off, none⟩)) 4).run Tryz.prog w = .ok (.pointer (some ⟨g, off + 4, none⟩)) w := fun _ => by kernel_rfl
theorem gwinfo5 : (Tryz.prog.info? 5).map (fun i => (i.zero, i.size, i.bytes)) = some (some (.int .u8 0), 1, 1) := by kernel_rfl
theorem gwsiz3 : ∀ w, (sizeOf 3).run Tryz.prog w = .ok 1 w := fun _ => by kernel_rfl
theorem gwsiz4 : ∀ w, (sizeOf 4).run Tryz.prog w = .ok 1 w := fun _ => by kernel_rfl
theorem gwzer38 : ∀ w, (zeroValue 38).run Tryz.prog w = .ok (.agg #[.string (⟨#[]⟩ : ByteArray), .slice none 0 0, .int .i64 0]) w := fun _ => by kernel_rfl
theorem gwagg2 : ∀ w, (isAgg 2).run Tryz.prog w = .ok false w := fun _ => by kernel_rfl
theorem gwagg54 : ∀ w, (isAgg 54).run Tryz.prog w = .ok true w := fun _ => by kernel_rfl
theorem gwfld54_0 (g off : Nat) : ∀ w, (Instr.fieldAt 54 (.pointer (some ⟨g, off, none⟩)) 0).run Tryz.prog w = .ok (.pointer (some ⟨g, off + 0, none⟩)) w := fun _ => by kernel_rfl
theorem gwfld54_1 (g off : Nat) : ∀ w, (Instr.fieldAt 54 (.pointer (some ⟨g, off, none⟩)) 1).run Tryz.prog w = .ok (.pointer (some ⟨g, off + 1, none⟩)) w := fun _ => by kernel_rfl
theorem gwflda54_0 (ad : Addr) : ∀ w, (Instr.fieldAt 54 (.pointer (some ad)) 0).run Tryz.prog w = .ok (.pointer (some (ad.add 0))) w := fun _ => by kernel_rfl
theorem gwflda54_1 (ad : Addr) : ∀ w, (Instr.fieldAt 54 (.pointer (some ad)) 1).run Tryz.prog w = .ok (.pointer (some (ad.add 1))) w := fun _ => by kernel_rfl
theorem gwsiz54 : ∀ w, (sizeOf 54).run Tryz.prog w = .ok 2 w := fun _ => by kernel_rfl
theorem gwinfo54 : (Tryz.prog.info? 54).map (fun i => (i.zero, i.size, i.bytes)) = some (some (.agg #[.int .i64 0, .slice none 0 0]), 2, 32) := by kernel_rfl
theorem gwagg39 : ∀ w, (isAgg 39).run Tryz.prog w = .ok false w := fun _ => by kernel_rfl
theorem gwagg41 : ∀ w, (isAgg 41).run Tryz.prog w = .ok true w := fun _ => by kernel_rfl
theorem gwfld41_0 (g off : Nat) : ∀ w, (Instr.fieldAt 41 (.pointer (some ⟨g, off, none⟩)) 0).run Tryz.prog w = .ok (.pointer (some ⟨g, off + 0, none⟩)) w := fun _ => by kernel_rfl
theorem gwfld41_1 (g off : Nat) : ∀ w, (Instr.fieldAt 41 (.pointer (some ⟨g, off, none⟩)) 1).run Tryz.prog w = .ok (.pointer (some ⟨g, off + 4, none⟩)) w := fun _ => by kernel_rfl
theorem gwfld41_2 (g off : Nat) : ∀ w, (Instr.fieldAt 41 (.pointer (some ⟨g, off, none⟩)) 2).run Tryz.prog w = .ok (.pointer (some ⟨g, off + 5, none⟩)) w := fun _ => by kernel_rfl
theorem gwsiz39 : ∀ w, (sizeOf 39).run Tryz.prog w = .ok 1 w := fun _ => by kernel_rfl
theorem gwsiz41 : ∀ w, (sizeOf 41).run Tryz.prog w = .ok 6 w := fun _ => by kernel_rfl
theorem gwzer41 : ∀ w, (zeroValue 41).run Tryz.prog w = .ok (.agg #[.slice none 0 0, .int .i64 0, .int .i64 0, .bool false, .string (⟨#[]⟩ : ByteArray), .slice none 0 0]) w := fun _ => by kernel_rfl
theorem gwsiz2 : ∀ w, (sizeOf 2).run Tryz.prog w = .ok 1 w := fun _ => by kernel_rfl
theorem gwzer2 : ∀ w, (zeroValue 2).run Tryz.prog w = .ok (.int .i64 0) w := fun _ => by kernel_rfl
theorem gwzer3 : ∀ w, (zeroValue 3).run Tryz.prog w = .ok (.int .i64 0) w := fun _ => by kernel_rfl
theorem gwagg77 : ∀ w, (isAgg 77).run Tryz.prog w = .ok false w := fun _ => by kernel_rfl
theorem gwfld79_2 (g off : Nat) : ∀ w, (Instr.fieldAt 79 (.pointer (some ⟨g, off, none⟩)) 2).run Tryz.prog w = .ok (.pointer (some ⟨g, off + 2, none⟩)) w := fun _ => by kernel_rfl
theorem gwfld79_3 (g off : Nat) : ∀ w, (Instr.fieldAt 79 (.pointer (some ⟨g, off, none⟩)) 3).run Tryz.prog w = .ok (.pointer (some ⟨g, off + 3, none⟩)) w := fun _ => by kernel_rfl
theorem gwzer22 : ∀ w, (zeroValue 22).run Tryz.prog w = .ok (.slice none 0 0) w := fun _ => by kernel_rfl
theorem gwagg62 : ∀ w, (isAgg 62).run Tryz.prog w = .ok false w := fun _ => by kernel_rfl
theorem gwfld64_0 (g off : Nat) : ∀ w, (Instr.fieldAt 64 (.pointer (some ⟨g, off, none⟩)) 0).run Tryz.prog w = .ok (.pointer (some ⟨g, off + 0, none⟩)) w := fun _ => by kernel_rfl
theorem gwfld64_3 (g off : Nat) : ∀ w, (Instr.fieldAt 64 (.pointer (some ⟨g, off, none⟩)) 3).run Tryz.prog w = .ok (.pointer (some ⟨g, off + 3, none⟩)) w := fun _ => by kernel_rfl
theorem gwfld64_4 (g off : Nat) : ∀ w, (Instr.fieldAt 64 (.pointer (some ⟨g, off, none⟩)) 4).run Tryz.prog w = .ok (.pointer (some ⟨g, off + 4, none⟩)) w := fun _ => by kernel_rfl
theorem gwzer71 : ∀ w, (zeroValue 71).run Tryz.prog w = .ok (.pointer none) w := fun _ => by kernel_rfl
theorem gwagg23 : ∀ w, (isAgg 23).run Tryz.prog w = .ok false w := fun _ => by kernel_rfl
theorem gwagg71 : ∀ w, (isAgg 71).run Tryz.prog w = .ok false w := fun _ => by kernel_rfl
theorem gwfld64_1 (g off : Nat) : ∀ w, (Instr.fieldAt 64 (.pointer (some ⟨g, off, none⟩)) 1).run Tryz.prog w = .ok (.pointer (some ⟨g, off + 1, none⟩)) w := fun _ => by kernel_rfl
theorem gwfld64_2 (g off : Nat) : ∀ w, (Instr.fieldAt 64 (.pointer (some ⟨g, off, none⟩)) 2).run Tryz.prog w = .ok (.pointer (some ⟨g, off + 2, none⟩)) w := fun _ => by kernel_rfl
theorem gwfld74_0 (g off : Nat) : ∀ w, (Instr.fieldAt 74 (.pointer (some ⟨g, off, none⟩)) 0).run Tryz.prog w = .ok (.pointer (some ⟨g, off + 0, none⟩)) w := fun _ => by kernel_rfl
theorem gwfld74_1 (g off : Nat) : ∀ w, (Instr.fieldAt 74 (.pointer (some ⟨g, off, none⟩)) 1).run Tryz.prog w = .ok (.pointer (some ⟨g, off + 1, none⟩)) w := fun _ => by kernel_rfl
theorem gwsiz71 : ∀ w, (sizeOf 71).run Tryz.prog w = .ok 1 w := fun _ => by kernel_rfl
theorem gwsiz9 : ∀ w, (sizeOf 9).run Tryz.prog w = .ok 1 w := fun _ => by kernel_rfl
theorem gwfld79_0 (g off : Nat) : ∀ w, (Instr.fieldAt 79 (.pointer (some ⟨g, off, none⟩)) 0).run Tryz.prog w = .ok (.pointer (some ⟨g, off + 0, none⟩)) w := fun _ => by kernel_rfl
theorem gwfld79_1 (g off : Nat) : ∀ w, (Instr.fieldAt 79 (.pointer (some ⟨g, off, none⟩)) 1).run Tryz.prog w = .ok (.pointer (some ⟨g, off + 1, none⟩)) w := fun _ => by kernel_rfl
theorem gwinfo2 : (Tryz.prog.info? 2).map (fun i => (i.zero, i.size, i.bytes)) = some (some (.int .i64 0), 1, 8) := by kernel_rfl
theorem gwagg48 : ∀ w, (isAgg 48).run Tryz.prog w = .ok false w := fun _ => by kernel_rfl
theorem gwagg50 : ∀ w, (isAgg 50).run Tryz.prog w = .ok true w := fun _ => by kernel_rfl
theorem gwfld50_0 (g off : Nat) : ∀ w, (Instr.fieldAt 50 (.pointer (some ⟨g, off, none⟩)) 0).run Tryz.prog w = .ok (.pointer (some ⟨g, off + 0, none⟩)) w := fun _ => by kernel_rfl
theorem gwfld50_1 (g off : Nat) : ∀ w, (Instr.fieldAt 50 (.pointer (some ⟨g, off, none⟩)) 1).run Tryz.prog w = .ok (.pointer (some ⟨g, off + 1, none⟩)) w := fun _ => by kernel_rfl
theorem gwfld50_2 (g off : Nat) : ∀ w, (Instr.fieldAt 50 (.pointer (some ⟨g, off, none⟩)) 2).run Tryz.prog w = .ok (.pointer (some ⟨g, off + 2, none⟩)) w := fun _ => by kernel_rfl
theorem gwfld50_3 (g off : Nat) : ∀ w, (Instr.fieldAt 50 (.pointer (some ⟨g, off, none⟩)) 3).run Tryz.prog w = .ok (.pointer (some ⟨g, off + 3, none⟩)) w := fun _ => by kernel_rfl
theorem gwfld50_4 (g off : Nat) : ∀ w, (Instr.fieldAt 50 (.pointer (some ⟨g, off, none⟩)) 4).run Tryz.prog w = .ok (.pointer (some ⟨g, off + 4, none⟩)) w := fun _ => by kernel_rfl
theorem gwsiz50 : ∀ w, (sizeOf 50).run Tryz.prog w = .ok 5 w := fun _ => by kernel_rfl
theorem gwzer50 : ∀ w, (zeroValue 50).run Tryz.prog w = .ok (.agg #[.int .i64 0, .int .i64 0, .slice none 0 0, .int .i64 0, .slice none 0 0]) w := fun _ => by kernel_rfl
end
end Go.Proofs.YtkdahjnmldeklaaGreat.PA
section
namespace Go.Proofs.YtkdahjnmldeklaaGreat.Pure
open Go.RowKit Go.Proofs.YtkdahjnmldeklaaGreat.PA Go.Proofs.YtkdahjnmldeklaaGreatW.PrintWords Go.Proofs.YtkdahjnmldeklaaGreatW.PrintLast Go.Proofs.YtkdahjnmldeklaaGreatW.PrintMore
set_option linter.unusedVariables false
set_option linter.unusedSimpArgs false
theorem xor32 (a b : Nat) (ha : a < 4294967296) (hb : b < 4294967296) : Go.bits .xor .u32 a b = ((a ^^^ b : Nat) : Int) := by
  have ha' : a % 2 ^ 32 = a := Nat.mod_eq_of_lt ha
  have hb' : b % 2 ^ 32 = b := Nat.mod_eq_of_lt hb
  have hx : a ^^^ b < 2 ^ 32 := Nat.xor_lt_two_pow ha hb
  show IntKind.u32.wrap (((BitVec.ofInt 32 (a : Int)) ^^^ (BitVec.ofInt 32 (b : Int))).toNat : Int) = _
  rw [BitVec.ofInt_natCast, BitVec.ofInt_natCast, BitVec.toNat_xor, BitVec.toNat_ofNat, BitVec.toNat_ofNat, ha', hb', IntKind.wrap_u32]
  omega
theorem and32 (a b : Nat) (ha : a < 4294967296) (hb : b < 4294967296) : Go.bits .and .u32 a b = ((a &&& b : Nat) : Int) := by
  have ha' : a % 2 ^ 32 = a := Nat.mod_eq_of_lt ha
  have hb' : b % 2 ^ 32 = b := Nat.mod_eq_of_lt hb
  have hx : a &&& b < 2 ^ 32 := Nat.and_lt_two_pow _ hb
  show IntKind.u32.wrap (((BitVec.ofInt 32 (a : Int)) &&& (BitVec.ofInt 32 (b : Int))).toNat : Int) = _
  rw [BitVec.ofInt_natCast, BitVec.ofInt_natCast, BitVec.toNat_and, BitVec.toNat_ofNat, BitVec.toNat_ofNat, ha', hb', IntKind.wrap_u32]
  omega
theorem and8 (a b : Nat) (ha : a < 256) (hb : b < 256) : Go.bits .and .u8 a b = ((a &&& b : Nat) : Int) := by
  have ha' : a % 2 ^ 8 = a := Nat.mod_eq_of_lt ha
  have hb' : b % 2 ^ 8 = b := Nat.mod_eq_of_lt hb
  have hx : a &&& b < 2 ^ 8 := Nat.and_lt_two_pow _ hb
  show IntKind.u8.wrap (((BitVec.ofInt 8 (a : Int)) &&& (BitVec.ofInt 8 (b : Int))).toNat : Int) = _
  rw [BitVec.ofInt_natCast, BitVec.ofInt_natCast, BitVec.toNat_and, BitVec.toNat_ofNat, BitVec.toNat_ofNat, ha', hb', IntKind.wrap_u8]
  omega
def step (s : Nat) : Nat := (s / 2) ^^^ (if s % 2 = 1 then 3988292384 else 0)
theorem step_lt (s : Nat) (h : s < 4294967296) : step s < 4294967296 := by
  unfold step
  refine Nat.xor_lt_two_pow (n := 32) (by omega) ?_
  split <;> omega
def steps : Nat → Nat → Nat
  | 0, s => s
  | n + 1, s => steps n (step s)
theorem steps_lt (n s : Nat) (h : s < 4294967296) : steps n s < 4294967296 := by
  induction n generalizing s with
  | zero => exact h
  | succ n ih => exact ih _ (step_lt s h)
def sumN (xs : List Int) (s : Nat) : Nat := xs.foldl (fun s x => steps 8 (s ^^^ x.toNat)) s
def Byte (x : Int) : Prop := 0 ≤ x ∧ x ≤ 255
theorem sumN_lt (xs : List Int) (hx : ∀ x ∈ xs, Byte x) : ∀ s, s < 4294967296 → sumN xs s < 4294967296 := by
  induction xs with
  | nil => intro s h; exact h
  | cons x xs ih =>
    intro s h
    have := hx x (by simp)
    unfold Byte at this
    exact ih (fun y hy => hx y (by simp [hy])) _ (steps_lt _ _ (Nat.xor_lt_two_pow (n := 32) h (by omega)))
theorem neg_bit (s : Nat) : ((-((s % 2 : Nat) : Int)) % 4294967296) = ((if s % 2 = 1 then 4294967295 else 0 : Nat) : Int) := by
  split <;> omega
theorem poly_and (c : Prop) [Decidable c] : (3988292384 &&& (if c then 4294967295 else 0) : Nat) = if c then 3988292384 else 0 := by
  split <;> decide
theorem turn_eq (s : Nat) (h : s < 4294967296) :
    Go.bits .xor .u32 ((s : Int) / 2) (Go.bits .and .u32 3988292384 ((-(Go.bits .and .u32 (s : Int) 1)) % 4294967296)) = (step s : Int) := by
  rw [show (1 : Int) = ((1 : Nat) : Int) from rfl, and32 s 1 h (by decide), Nat.and_one_is_mod, neg_bit,
    show (3988292384 : Int) = ((3988292384 : Nat) : Int) from rfl, and32 _ _ (by decide) (by split <;> decide), poly_and,
    show ((s : Int) / 2) = ((s / 2 : Nat) : Int) from by omega, xor32 _ _ (by omega) (by split <;> decide)]
  rfl
theorem wrap_in {i : Int} (h0 : -9223372036854775808 ≤ i) (h : i ≤ 9223372036854775807) : wrap64 i = i := by
  unfold wrap64
  omega
theorem rd_mem (xs : List Int) (n : Nat) (h : n < xs.length) : rd xs n ∈ xs := by
  unfold rd
  rw [Int.toNat_natCast, List.getD_eq_getElem?_getD, List.getElem?_eq_getElem h]
  exact List.getElem_mem h
theorem drop_rd (xs : List Int) (n : Nat) (h : n < xs.length) : xs.drop n = rd xs n :: xs.drop (n + 1) := by
  rw [List.drop_eq_getElem_cons h]
  unfold rd
  rw [Int.toNat_natCast, List.getD_eq_getElem?_getD, List.getElem?_eq_getElem h]
  rfl
theorem sum_l (xs : List Int) (hx : ∀ x ∈ xs, Byte x) (hl : xs.length ≤ 140737488351232) :
    ∀ (d : Nat), ∀ (n : Nat), n ≤ xs.length → d = xs.length - n → ∀ (s k : Nat), s < 4294967296 → 20 * d + 20 ≤ k →
      pack_Sum.l0 k s xs xs.length n = some (((sumN (xs.drop n) s) ^^^ 4294967295 : Nat) : Int) := by
  intro d
  induction d with
  | zero =>
    intro n hn hd s k hs hk
    obtain ⟨k, rfl⟩ : ∃ m, k = m + 1 := ⟨k - 1, by omega⟩
    have : n = xs.length := by omega
    subst this
    simp only [pack_Sum.l0]
    rw [if_neg (by omega), List.drop_length]
    show some (Go.bits .xor .u32 ((4294967295 : Nat) : Int) (s : Int)) = _
    rw [xor32 _ _ (by decide) hs, Nat.xor_comm]
    rfl
  | succ d ih =>
    intro n hn hd s k hs hk
    obtain ⟨k, rfl⟩ : ∃ m, k = m + 1 := ⟨k - 1, by omega⟩
    have hlt : n < xs.length := by omega
    have hb := hx _ (rd_mem xs n hlt)
    have hinner : ∀ (m : Nat), m ≤ 8 → ∀ (s k : Nat), s < 4294967296 → 20 * d + 20 + m + 1 ≤ k →
        pack_Sum.l1 k s xs xs.length n ((8 - m : Nat) : Int) = some (((sumN (xs.drop (n + 1)) (steps m s)) ^^^ 4294967295 : Nat) : Int) := by
      intro m
      induction m with
      | zero =>
        intro _ s k hs hk
        obtain ⟨k, rfl⟩ : ∃ m, k = m + 1 := ⟨k - 1, by omega⟩
        simp only [pack_Sum.l1]
        rw [if_neg (by omega), wrap_in (by omega) (by omega)]
        exact ih (n + 1) (by omega) (by omega) s k hs (by omega)
      | succ m ihm =>
        intro hm s k hs hk
        obtain ⟨k, rfl⟩ : ∃ m, k = m + 1 := ⟨k - 1, by omega⟩
        simp only [pack_Sum.l1]
        rw [if_pos (by omega), turn_eq s hs, wrap_in (by omega) (by omega), show (((8 - (m + 1) : Nat) : Int) + 1) = ((8 - m : Nat) : Int) from by omega]
        exact ihm (by omega) _ k (step_lt s hs) (by omega)
    simp only [pack_Sum.l0]
    rw [if_pos (by omega), if_pos (by omega), if_pos (by omega)]
    obtain ⟨c, hc⟩ : ∃ c : Nat, rd xs n = c := ⟨(rd xs n).toNat, by unfold Byte at hb; omega⟩
    have hc8 : c ≤ 255 := by unfold Byte at hb; omega
    rw [hc, show ((c : Int) % 4294967296) = (c : Int) from by omega, xor32 _ _ hs (by omega)]
    have := hinner 8 (by omega) (s ^^^ c) k (Nat.xor_lt_two_pow (n := 32) hs (by omega)) (by omega)
    rw [show ((8 - 8 : Nat) : Int) = 0 from rfl] at this
    rw [this, drop_rd xs n hlt, hc]
    rfl
theorem sum_f (xs : List Int) (hx : ∀ x ∈ xs, Byte x) (hl : xs.length ≤ 140737488351232) (k : Nat) (hk : 20 * xs.length + 20 ≤ k) :
    pack_Sum.f k xs = some (((sumN xs 4294967295) ^^^ 4294967295 : Nat) : Int) := by
  unfold pack_Sum.f
  have := sum_l xs hx hl xs.length 0 (by omega) (by omega) 4294967295 k (by decide) hk
  simpa using this
theorem wf_byte {x : Int} (h : (Lit.int .u8 x).wf = true) : Byte x := by
  simp [Lit.wf, IntKind.signed, IntKind.min, IntKind.max, IntKind.bits] at h
  unfold Byte
  omega
theorem clone_eq (xs : List Int) (h : xs.length < 140737488355328) : slices_Clone_byte_byte.f xs = some xs := if_pos h
def crc (xs : List Int) : Nat := sumN xs 4294967295 ^^^ 4294967295
theorem crc_lt (xs : List Int) (hx : ∀ x ∈ xs, Byte x) : crc xs < 4294967296 := Nat.xor_lt_two_pow (n := 32) (sumN_lt xs hx _ (by decide)) (by decide)
theorem sum_ev (xs : List Int) (hx : ∀ x ∈ xs, Byte x) (hl : xs.length ≤ 140737488351232) : Ev (fun k => pack_Sum.f k xs) (crc xs : Int) := ⟨20 * xs.length + 20, fun k hk => sum_f xs hx hl k hk⟩
def le4 (n : Nat) : List Int := [((n % 256 : Nat) : Int), ((n / 256 % 256 : Nat) : Int), ((n / 65536 % 256 : Nat) : Int), ((n / 16777216 % 256 : Nat) : Int)]
theorem four_eq (xs : List Int) (n : Nat) (h : xs.length < 140737488355324) : pack_four.f xs (n : Int) = some (xs ++ le4 n) := by
  unfold pack_four.f
  rw [Option.bind_some, if_pos (by simp; omega)]
  unfold le4
  simp only [Int.natCast_emod, Int.natCast_ediv]
  rfl
def recOf (p : List Int) : List Int := le4 p.length ++ le4 (crc p) ++ p
theorem recOf_length (p : List Int) : (recOf p).length = p.length + 8 := by simp [recOf, le4]
theorem record_ev (p : List Int) (hp : ∀ x ∈ p, Byte x) (hl : p.length ≤ 1000000) : Ev (fun k => pack_Record.f k p) (recOf p) := by
  unfold pack_Record.f
  have e1 : ((p.length : Int) % 4294967296) = (p.length : Int) := by omega
  refine Ev.congr (f := fun k => (some (le4 p.length)).bind fun t => (pack_Sum.f k p).bind fun s => (pack_four.f t s).bind fun u => if u.length + p.length < 140737488355328 then some (u ++ p) else none) (fun k => by rw [e1, four_eq [] _ (by simp), List.nil_append]) ?_
  simp only [Option.bind_some]
  refine Ev.bind (sum_ev p hp (by omega)) ?_
  refine Ev.congr (f := fun _ => some (recOf p)) (fun k => ?_) (Ev.now _)
  rw [four_eq _ _ (by simp [le4]), Option.bind_some, if_pos (by simp [le4]; omega)]
  rfl
def num4 (b : List Int) : Nat := (rd b 0).toNat + 256 * (rd b 1).toNat + 65536 * (rd b 2).toNat + 16777216 * (rd b 3).toNat
theorem wraps_u32 (n : Int) (h₀ : 0 ≤ n) (h₁ : n < 2 ^ 32) : IntKind.u32.wrap n = n := by rw [IntKind.wrap_u32]; omega
theorem byte_at (b : List Int) (hb : ∀ x ∈ b, Byte x) (n : Nat) (h : n < b.length) : ∃ c : Nat, c ≤ 255 ∧ rd b (n : Int) = (c : Int) := by
  have := hb _ (rd_mem b n h)
  unfold Byte at this
  exact ⟨(rd b n).toNat, by omega, by omega⟩
theorem get_eq (b : List Int) (hb : ∀ x ∈ b, Byte x) (h : 4 ≤ b.length) : pack_get.f b = some (num4 b : Int) := by
  unfold pack_get.f
  rw [if_pos (by omega), if_pos (by omega), if_pos (by omega), if_pos (by omega)]
  obtain ⟨c0, h0, e0⟩ := byte_at b hb 0 (by omega)
  obtain ⟨c1, h1, e1⟩ := byte_at b hb 1 (by omega)
  obtain ⟨c2, h2, e2⟩ := byte_at b hb 2 (by omega)
  obtain ⟨c3, h3, e3⟩ := byte_at b hb 3 (by omega)
  simp only [Int.cast_ofNat_Int] at e0 e1 e2 e3
  unfold num4
  rw [e0, e1, e2, e3]
  have g : ∀ x y : Int, ∀ i : Nat, 0 ≤ x → x < 2 ^ i → 0 ≤ y → y % 2 ^ i = 0 → x < 2 ^ 32 → y < 2 ^ 32 → Go.bits .or .u32 x y = x + y := by
    intro x y i hx hx1 hy hy1 hx2 hy2
    have hc : Go.bits .or .u32 x y = Go.bits .or .u32 y x := by
      unfold Go.bits
      simp only [BitVec.or_comm]
    rw [hc, bits_join .u32 32 (by decide) wraps_u32 i y x hy hy1 hy2 hx hx1 hx2]
    omega
  rw [show (((c0 : Nat) : Int) % 4294967296) = c0 from by omega, show ((((c1 : Nat) : Int) % 4294967296) * 256) % 4294967296 = 256 * c1 from by omega, show ((((c2 : Nat) : Int) % 4294967296) * 65536) % 4294967296 = 65536 * c2 from by omega, show ((((c3 : Nat) : Int) % 4294967296) * 16777216) % 4294967296 = 16777216 * c3 from by omega]
  rw [g c0 (256 * c1) 8 (by omega) (by omega) (by omega) (by omega) (by omega) (by omega), g (c0 + 256 * c1) (65536 * c2) 16 (by omega) (by omega) (by omega) (by omega) (by omega) (by omega), g (c0 + 256 * c1 + 65536 * c2) (16777216 * c3) 24 (by omega) (by omega) (by omega) (by omega) (by omega) (by omega)]
  congr 1
theorem num4_lt (b : List Int) (hb : ∀ x ∈ b, Byte x) (h : 4 ≤ b.length) : num4 b < 4294967296 := by
  obtain ⟨c0, h0, e0⟩ := byte_at b hb 0 (by omega)
  obtain ⟨c1, h1, e1⟩ := byte_at b hb 1 (by omega)
  obtain ⟨c2, h2, e2⟩ := byte_at b hb 2 (by omega)
  obtain ⟨c3, h3, e3⟩ := byte_at b hb 3 (by omega)
  simp only [Int.cast_ofNat_Int] at e0 e1 e2 e3
  unfold num4
  rw [e0, e1, e2, e3]
  omega
theorem bytes_drop {b : List Int} (hb : ∀ x ∈ b, Byte x) (n : Nat) : ∀ x ∈ b.drop n, Byte x := fun x hx => hb x (List.mem_of_mem_drop hx)
theorem bytes_take {b : List Int} (hb : ∀ x ∈ b, Byte x) (n : Nat) : ∀ x ∈ b.take n, Byte x := fun x hx => hb x (List.mem_of_mem_take hx)
def splitOf (b : List Int) : List Int × Int × Bool :=
  if b.length < 8 ∨ 1073741824 < num4 b ∨ b.length < num4 b + 8 then ([], 0, false)
  else if crc ((b.drop 8).take (num4 b)) = num4 (b.drop 4) then ((b.drop 8).take (num4 b), ((num4 b + 8 : Nat) : Int), true) else ([], 0, false)
theorem splitOf_room (b : List Int) (h1 : ¬ b.length < 8) (h2 : ¬ 1073741824 < num4 b) (h3 : ¬ b.length < num4 b + 8) :
    splitOf b = if crc ((b.drop 8).take (num4 b)) = num4 (b.drop 4) then ((b.drop 8).take (num4 b), ((num4 b + 8 : Nat) : Int), true) else ([], 0, false) := by
  unfold splitOf
  rw [if_neg (by omega)]
theorem take_drop8 (b : List Int) (n : Nat) : (b.take (n + 8)).drop 8 = (b.drop 8).take n := by
  rw [List.drop_take]
  simp
theorem split_ev (b : List Int) (hb : ∀ x ∈ b, Byte x) (hl : b.length ≤ 10000000) : Ev (fun k => pack_Split.f k b) (splitOf b) := by
  unfold pack_Split.f
  by_cases h8 : b.length < 8
  · refine Ev.congr (f := fun _ => some ([], 0, false)) (fun k => if_pos (by omega)) ?_
    unfold splitOf
    rw [if_pos (Or.inl h8)]
    exact Ev.now _
  have hn := num4_lt b hb (by omega)
  refine Ev.congr (fun k => if_neg (by omega)) ?_
  refine Ev.bind (a := (num4 b : Int)) (Ev.congr (f := fun _ => some (num4 b : Int)) (fun k => get_eq b hb (by omega)) (Ev.now _)) ?_
  rw [wrap_in (by omega) (by omega)]
  have hfalse : ∀ f : Nat → Option (List Int × Int × Bool), (∀ k, f (k + 1) = some ([], 0, false)) → splitOf b = ([], 0, false) → Ev f (splitOf b) := by
    intro f hf he
    rw [he]
    exact Ev.step (f := fun _ => some ([], 0, false)) hf (Ev.now _)
  by_cases hbig : 1073741824 < num4 b
  · refine Ev.congr (fun k => if_pos (by omega)) ?_
    refine hfalse _ (fun k => by simp [pack_Split.j0]) ?_
    unfold splitOf
    rw [if_pos (Or.inr (Or.inl hbig))]
  refine Ev.congr (fun k => if_neg (by omega)) ?_
  rw [wrap_in (i := (b.length : Int) - 8) (by omega) (by omega)]
  by_cases hroom : b.length < num4 b + 8
  · have e : decide ((num4 b : Int) > (b.length : Int) - 8) = true := decide_eq_true (by omega)
    rw [e]
    refine hfalse _ (fun k => by simp [pack_Split.j0]) ?_
    unfold splitOf
    rw [if_pos (Or.inr (Or.inr hroom))]
  have e : decide ((num4 b : Int) > (b.length : Int) - 8) = false := decide_eq_false (by omega)
  rw [e]
  have ew : wrap64 (8 + (num4 b : Int)) = ((num4 b + 8 : Nat) : Int) := by rw [wrap_in (by omega) (by omega)]; omega
  refine Ev.step (f := fun k => (pack_Sum.f k ((b.drop 8).take (num4 b))).bind fun t => (pack_get.f (b.drop 4)).bind fun u => if t = u then (slices_Clone_byte_byte.f ((b.drop 8).take (num4 b))).bind fun c => some (c, ((num4 b + 8 : Nat) : Int), true) else some ([], 0, false)) (fun k => ?_) ?_
  · simp only [pack_Split.j0]
    rw [if_neg (by simp), ew, if_pos (by omega), if_pos (by omega), Int.toNat_natCast, take_drop8, Option.bind_some]
    refine congrArg _ ?_
    funext t
    rw [if_pos (by omega)]
  · refine Ev.bind (sum_ev _ (bytes_take (bytes_drop hb 8) _) (by rw [List.length_take, List.length_drop]; omega)) ?_
    refine Ev.bind (a := (num4 (b.drop 4) : Int)) (Ev.congr (f := fun _ => some (num4 (b.drop 4) : Int)) (fun k => get_eq _ (bytes_drop hb 4) (by rw [List.length_drop]; omega)) (Ev.now _)) ?_
    rw [splitOf_room b h8 hbig hroom]
    by_cases hc : crc ((b.drop 8).take (num4 b)) = num4 (b.drop 4)
    · rw [if_pos hc]
      refine Ev.congr (f := fun _ => some ((b.drop 8).take (num4 b), ((num4 b + 8 : Nat) : Int), true)) (fun k => ?_) (Ev.now _)
      rw [if_pos (by rw [hc]), clone_eq _ (by rw [List.length_take, List.length_drop]; omega)]
      rfl
    · rw [if_neg hc]
      exact Ev.congr (fun k => if_neg (by omega)) (Ev.now _)
theorem le4_num4 (b : List Int) (hb : ∀ x ∈ b, Byte x) (h : 4 ≤ b.length) (n : Nat) (hn : n < 4294967296) : (n = num4 b) ↔ (∀ i : Nat, i < 4 → rd (le4 n) i = rd b i) := by
  obtain ⟨c0, h0, e0⟩ := byte_at b hb 0 (by omega)
  obtain ⟨c1, h1, e1⟩ := byte_at b hb 1 (by omega)
  obtain ⟨c2, h2, e2⟩ := byte_at b hb 2 (by omega)
  obtain ⟨c3, h3, e3⟩ := byte_at b hb 3 (by omega)
  have hnum : num4 b = c0 + 256 * c1 + 65536 * c2 + 16777216 * c3 := by
    simp only [Int.cast_ofNat_Int] at e0 e1 e2 e3
    unfold num4
    rw [e0, e1, e2, e3]
    omega
  rw [hnum]
  have f0 : rd (le4 n) ((0 : Nat) : Int) = ((n % 256 : Nat) : Int) := rfl
  have f1 : rd (le4 n) ((1 : Nat) : Int) = ((n / 256 % 256 : Nat) : Int) := rfl
  have f2 : rd (le4 n) ((2 : Nat) : Int) = ((n / 65536 % 256 : Nat) : Int) := rfl
  have f3 : rd (le4 n) ((3 : Nat) : Int) = ((n / 16777216 % 256 : Nat) : Int) := rfl
  constructor
  · intro hh i hi
    have : i = 0 ∨ i = 1 ∨ i = 2 ∨ i = 3 := by omega
    rcases this with rfl | rfl | rfl | rfl
    · rw [f0, e0]; omega
    · rw [f1, e1]; omega
    · rw [f2, e2]; omega
    · rw [f3, e3]; omega
  · intro hh
    have g0 := hh 0 (by omega)
    have g1 := hh 1 (by omega)
    have g2 := hh 2 (by omega)
    have g3 := hh 3 (by omega)
    rw [f0, e0] at g0
    rw [f1, e1] at g1
    rw [f2, e2] at g2
    rw [f3, e3] at g3
    omega
theorem rd_drop (b : List Int) (n i : Nat) : rd (b.drop n) i = rd b ((n + i : Nat) : Int) := by
  unfold rd
  rw [Int.toNat_natCast, Int.toNat_natCast, List.getD_eq_getElem?_getD, List.getD_eq_getElem?_getD, List.getElem?_drop]
theorem num4_le4 (n : Nat) (h : n < 4294967296) (t : List Int) : num4 (le4 n ++ t) = n := by
  unfold num4
  have f0 : rd (le4 n ++ t) 0 = ((n % 256 : Nat) : Int) := rfl
  have f1 : rd (le4 n ++ t) 1 = ((n / 256 % 256 : Nat) : Int) := rfl
  have f2 : rd (le4 n ++ t) 2 = ((n / 65536 % 256 : Nat) : Int) := rfl
  have f3 : rd (le4 n ++ t) 3 = ((n / 16777216 % 256 : Nat) : Int) := rfl
  rw [f0, f1, f2, f3]
  omega
theorem le4_bytes (n : Nat) : ∀ x ∈ le4 n, Byte x := by
  intro x hx
  unfold le4 at hx
  unfold Byte
  simp only [List.mem_cons, List.not_mem_nil, or_false] at hx
  omega
theorem recOf_bytes (p : List Int) (hp : ∀ x ∈ p, Byte x) : ∀ x ∈ recOf p, Byte x := by
  intro x hx
  unfold recOf at hx
  rcases List.mem_append.1 hx with h | h
  · rcases List.mem_append.1 h with h | h
    · exact le4_bytes _ x h
    · exact le4_bytes _ x h
  · exact hp x h
theorem split_rec (p b : List Int) (hp : ∀ x ∈ p, Byte x) (hl : p.length ≤ 1000000) : splitOf (recOf p ++ b) = (p, ((p.length + 8 : Nat) : Int), true) := by
  have e1 : num4 (recOf p ++ b) = p.length := by
    unfold recOf
    rw [List.append_assoc, List.append_assoc]
    exact num4_le4 _ (by omega) _
  have e2 : (recOf p ++ b).drop 4 = le4 (crc p) ++ (p ++ b) := by
    unfold recOf
    rw [List.append_assoc, List.append_assoc]
    rfl
  have e3 : (recOf p ++ b).drop 8 = p ++ b := by
    unfold recOf
    rw [List.append_assoc, List.append_assoc]
    rfl
  have e4 : num4 ((recOf p ++ b).drop 4) = crc p := by
    rw [e2]
    exact num4_le4 _ (crc_lt p hp) _
  have e5 : ((recOf p ++ b).drop 8).take p.length = p := by rw [e3]; simp
  unfold splitOf
  rw [e1, if_neg (by rw [List.length_append, recOf_length]; omega), e5, e4, if_pos rfl]
theorem split_bool (b : List Int) : (splitOf b).2.2 = true → 8 ≤ b.length ∧ num4 b + 8 ≤ b.length ∧ crc ((b.drop 8).take (num4 b)) = num4 (b.drop 4) ∧ splitOf b = ((b.drop 8).take (num4 b), ((num4 b + 8 : Nat) : Int), true) := by
  intro h
  unfold splitOf at h ⊢
  split at h
  · cases h
  · rename_i h1
    split at h
    · rename_i h2
      rw [if_neg h1, if_pos h2]
      exact ⟨by omega, by omega, h2, rfl⟩
    · cases h
theorem num4_take (b : List Int) (n : Nat) (h : 4 ≤ n) : num4 (b.take n) = num4 b := by
  have e : ∀ i : Nat, i < 4 → rd (b.take n) i = rd b i := by
    intro i hi
    unfold rd
    rw [Int.toNat_natCast, List.getD_eq_getElem?_getD, List.getD_eq_getElem?_getD, List.getElem?_take, if_pos (by omega)]
  unfold num4
  have e0 := e 0 (by omega)
  have e1 := e 1 (by omega)
  have e2 := e 2 (by omega)
  have e3 := e 3 (by omega)
  simp only [Int.cast_ofNat_Int] at e0 e1 e2 e3
  rw [e0, e1, e2, e3]
theorem num4_rec (p t : List Int) (hl : p.length ≤ 1000000) : num4 (recOf p ++ t) = p.length := by
  unfold recOf
  rw [List.append_assoc, List.append_assoc]
  exact num4_le4 _ (by omega) _
theorem begin_none (p : List Int) (hl : p.length ≤ 1000000) (i : Nat) (hi : i < p.length + 8) : (splitOf ((recOf p).take i)).2.2 = false := by
  cases h : (splitOf ((recOf p).take i)).2.2 with
  | false => rfl
  | true =>
    obtain ⟨h1, h2, _, _⟩ := split_bool _ h
    have hlen : ((recOf p).take i).length = i := by rw [List.length_take, recOf_length]; omega
    rw [hlen] at h1 h2
    have hn := num4_rec p [] hl
    rw [List.append_nil] at hn
    rw [num4_take _ _ (by omega), hn] at h2
    omega
end Go.Proofs.YtkdahjnmldeklaaGreat.Pure
namespace Go.Proofs.YtkdahjnmldeklaaGreat.PA
open Go.RowKit Go.Proofs.YtkdahjnmldeklaaGreatW.PrintWords Go.Proofs.YtkdahjnmldeklaaGreatW.PrintLast Go.Proofs.YtkdahjnmldeklaaGreatW.PrintMore
set_option linter.unusedVariables false
set_option linter.unusedSimpArgs false
theorem enc_len (f : Nat) : ∀ u, (putN f u).length ≤ f := by
  induction f with
  | zero => intro u; simp [putN]
  | succ f ih =>
    intro u
    unfold putN
    split
    · have := ih (u / 128)
      simp; omega
    · simp
def encN (n : Int) : List Int := putN 9 (numOf n)
theorem num_f (xs : List Int) (n : Int) (h : xs.length < 140737488355300) : pack_Num.f xs n = some (xs ++ encN n) := by
  unfold pack_Num.f slices_Clone_byte_byte.f
  rw [if_pos (by omega), Option.bind_some]
  unfold pack_put.f
  rw [if_pos h]
  rfl
theorem num_own (A : Option Addr) (c : Nat) (xs : List Int) (n : Int) (w : World) (hr : Kd.C (Kd.int .u8) w A xs.length xs) (hc : xs.length ≤ c) (h : xs.length < 140737488355300) :
    Calls Tryz.prog 47 #[.slice A xs.length c, .int .i64 n] w fun e w' => ∃ A' c' S, e = .returned (.slice A' (xs ++ encN n).length c') ∧ Out w w' (fun _ => False) [Chunk.row (Kd.int .u8) 5 w.heap.size S (.slice A' (xs ++ encN n).length c') (xs ++ encN n)] := by
  refine (pack_Num.calls A c xs n _ w hr hc (num_f xs n h)).mono ?_
  rintro e w' ⟨v, rfl, hR, hb⟩
  obtain ⟨A', c', rfl⟩ := Kd.R_slice hR
  exact ⟨A', c', _, rfl, Out.row hR hb⟩
theorem byteL_byte {xs : List Int} (h : ByteL xs) : ∀ x ∈ xs, Pure.Byte x := fun x hx => by
  have := h x hx
  unfold Pure.Byte
  omega
theorem record_own (A : Option Addr) (c : Nat) (xs : List Int) (w : World) (hr : Kd.C (Kd.int .u8) w A xs.length xs) (hc : xs.length ≤ c) (hb : ByteL xs) (h : xs.length ≤ 1000000) :
    Calls Tryz.prog 46 #[.slice A xs.length c] w fun e w' => ∃ A' c' S, e = .returned (.slice A' (Pure.recOf xs).length c') ∧ Out w w' (fun _ => False) [Chunk.row (Kd.int .u8) 5 w.heap.size S (.slice A' (Pure.recOf xs).length c') (Pure.recOf xs)] := by
  obtain ⟨k, hk⟩ := Pure.record_ev xs (byteL_byte hb) h
  refine (pack_Record.calls k A c xs _ w hr hc (by exact hk k (Nat.le_refl _))).mono ?_
  rintro e w' ⟨v, rfl, hR, hb⟩
  obtain ⟨A', c', rfl⟩ := Kd.R_slice hR
  exact ⟨A', c', _, rfl, Out.row hR hb⟩
theorem split_own (A : Option Addr) (c : Nat) (xs : List Int) (w : World) (hr : Kd.C (Kd.int .u8) w A xs.length xs) (hc : xs.length ≤ c) (hb : ByteL xs) (h : xs.length ≤ 10000000) :
    Calls Tryz.prog 32 #[.slice A xs.length c] w fun e w' => ∃ A' c' S, e = .returned (.tuple #[.slice A' (Pure.splitOf xs).1.length c', .int .i64 (Pure.splitOf xs).2.1, .bool (Pure.splitOf xs).2.2]) ∧ Out w w' (fun _ => False) [Chunk.row (Kd.int .u8) 5 w.heap.size S (.slice A' (Pure.splitOf xs).1.length c') (Pure.splitOf xs).1] := by
  obtain ⟨k, hk⟩ := Pure.split_ev xs (byteL_byte hb) h
  refine (pack_Split.calls k A c xs _ _ _ w hr hc (by exact hk k (Nat.le_refl _))).mono ?_
  rintro e w' ⟨v, rfl, hR, hb⟩
  obtain ⟨A', c', rfl⟩ := Kd.R_slice hR
  exact ⟨A', c', _, rfl, Out.row hR hb⟩
end Go.Proofs.YtkdahjnmldeklaaGreat.PA
end
namespace Go.Proofs.YtkdahjnmldeklaaGreat.PA
open Go.RowKit Go.Proofs.YtkdahjnmldeklaaGreatW.PrintWords Go.Proofs.YtkdahjnmldeklaaGreatW.PrintLast Go.Proofs.YtkdahjnmldeklaaGreatW.PrintMore
set_option linter.unusedVariables false
set_option linter.unusedSimpArgs false
set_option maxRecDepth 100000
set_option maxHeartbeats 8000000
section
attribute [local go_sem] max2_int min2_int max_two min_two max_three min_three max_four min_four   -- for this text's walks alone
def colloquyref08_four.f (a0 : Int) : Option (List Int) := some (([(Int.tmod a0 256) % 256, (Int.tmod (wrap64 (Int.tdiv a0 256)) 256) % 256, (Int.tmod (wrap64 (Int.tdiv a0 65536)) 256) % 256, (Int.tmod (wrap64 (Int.tdiv a0 16777216)) 256) % 256] : List Int))
theorem colloquyref08_four.calls (a0 : Int) (r : List Int) (w : World) (h : colloquyref08_four.f a0 = some r) :
    Calls Tryz.prog 78 #[.int .i64 a0] w fun e w' => ∃ v0_ : Value, e = .returned (v0_) ∧ Kd.R (Kd.int .u8) 5 w' w.heap.size (fun _ => True) v0_ r ∧ Below w.heap.size w w' := by
  have HB := Aside0.mk (Below.refl w.heap.size w)
  have H : (some (([(Int.tmod a0 256) % 256, (Int.tmod (wrap64 (Int.tdiv a0 256)) 256) % 256, (Int.tmod (wrap64 (Int.tdiv a0 65536)) 256) % 256, (Int.tmod (wrap64 (Int.tdiv a0 16777216)) 256) % 256] : List Int))) = some r := h
  clear h
  obtain ⟨y433, hy433⟩ : ∃ y_ : List Int, y_ = (([(Int.tmod a0 256) % 256, (Int.tmod (wrap64 (Int.tdiv a0 256)) 256) % 256, (Int.tmod (wrap64 (Int.tdiv a0 65536)) 256) % 256, (Int.tmod (wrap64 (Int.tdiv a0 16777216)) 256) % 256] : List Int)) := ⟨_, rfl⟩
  replace H : (some y433) = some r := by first | (rw [hy433]; with_reducible exact H) | (have H2_ := (Option.bind_some _ _).symm.trans H; rw [hy433]; with_reducible exact H2_) | (have H2_ := (Option.bind_some _ _).symm.trans H; with_reducible exact H2_) | with_reducible exact H | (rw [hy433]; exact H) | exact H
  have Ny433 := Aside0.mk hy433
  clear hy433
  obtain rfl := Option.some.inj H
  go_enter Tryz.func78, Tryz.ntmps78
  go_wp2_with (first | ((with_reducible refine gate_dst (N := 18) rfl ?_); refine Kd.R_lit (Kd.int .u8) _ 5 ?hg (N := 18) ?hd (xs := ([(Int.tmod a0 256) % 256, (Int.tmod (wrap64 (Int.tdiv a0 256)) 256) % 256, (Int.tmod (wrap64 (Int.tdiv a0 65536)) 256) % 256, (Int.tmod (wrap64 (Int.tdiv a0 16777216)) 256) % 256] : List Int)) (inner := [.int .u8 ((Int.tmod a0 256) % 256), .int .u8 ((Int.tmod (wrap64 (Int.tdiv a0 256)) 256) % 256), .int .u8 ((Int.tmod (wrap64 (Int.tdiv a0 65536)) 256) % 256), .int .u8 ((Int.tmod (wrap64 (Int.tdiv a0 16777216)) 256) % 256)]) (ok := fun _ => True) (okp := fun _ => True) ?hr ?hp (fun _ hk => hk) trivial (Below.refl _ _) (Nat.le_refl _) (by simp) ?_; (case hd => rfl); (case hg => rfl); (case hr => first | (go_simp; done) | (go_simp; rfl)); (case hp => exact (Reps.one (show Kd.M (Kd.int .u8) _ _ _ ((Int.tmod a0 256) % 256) [.int .u8 ((Int.tmod a0 256) % 256)] from rfl) (Reps.one (show Kd.M (Kd.int .u8) _ _ _ ((Int.tmod (wrap64 (Int.tdiv a0 256)) 256) % 256) [.int .u8 ((Int.tmod (wrap64 (Int.tdiv a0 256)) 256) % 256)] from rfl) (Reps.one (show Kd.M (Kd.int .u8) _ _ _ ((Int.tmod (wrap64 (Int.tdiv a0 65536)) 256) % 256) [.int .u8 ((Int.tmod (wrap64 (Int.tdiv a0 65536)) 256) % 256)] from rfl) (Reps.one (show Kd.M (Kd.int .u8) _ _ _ ((Int.tmod (wrap64 (Int.tdiv a0 16777216)) 256) % 256) [.int .u8 ((Int.tmod (wrap64 (Int.tdiv a0 16777216)) 256) % 256)] from rfl) (Reps.none _ _)))))); intro v434 w2 ho3 hb hg_ hnew_; clear hg_ hnew_; (first | rw [← Ny433.out] at ho3 | (simp only [Int.reduceToNat] at ho3; rw [← Ny433.out] at ho3)); have n0_ := Aside0.mk (Kd.R_lower ho3 (below_size (by repeat (first | (with_reducible first | exact HB.out | apply below_alloc | apply pw_below_drewN | apply below_drew1) | exact HB.out)))); have n1_ := Aside0.mk (below_step (by repeat (first | (with_reducible first | exact HB.out | apply below_alloc | apply pw_below_drewN | apply below_drew1) | exact HB.out)) hb); clear HB; have HO435 := n0_; have HB := n1_; clear n0_ n1_; clear hb ho3))
  go_ret
  exact ⟨_, by first | rfl | (simp [errW_none, errW_some] <;> rfl) | (simp [*, errW_none, errW_some] <;> rfl), by (with_reducible repeat (first | apply Kd.R_alloc | apply Kd.R_drewN | apply Kd.R_drew)); exact HO435.out, by repeat (first | (with_reducible first | exact HB.out | apply below_alloc | apply pw_below_drewN | apply below_drew1) | exact HB.out)⟩
end
section
attribute [local go_sem] max2_int min2_int max_two min_two max_three min_three max_four min_four   -- for this text's walks alone
mutual
def colloquyref08_Sum.l0 : Nat → List Int → Int → Int → Option (Int)
  | 0, _, _, _ => none
  | k + 1, x0, x3, x4 => if x4 < (x0.length : Int) then (colloquyref08_Sum.l1 k x0 x3 x4 0) else (some (Go.bits .xor .u32 x3 4294967295))
def colloquyref08_Sum.l1 : Nat → List Int → Int → Int → Int → Option (Int)
  | 0, _, _, _, _ => none
  | k + 1, x0, x3, x4, x5 => if x5 < 8 then (if 0 ≤ x4 then (if x4 < (x0.length : Int) then (if 0 ≤ (IntKind.u64.wrap (x5)) then (if (((Go.bits .and .u32 x3 1) == 1) != ((Go.bits .and .u8 (shr .u8 (rd x0 x4) (IntKind.u64.wrap (x5))) 1) == 1)) = true then (colloquyref08_Sum.l1 k x0 (Go.bits .xor .u32 (x3 / 2) 3988292384) x4 (wrap64 (x5 + 1))) else (colloquyref08_Sum.l1 k x0 (x3 / 2) x4 (wrap64 (x5 + 1)))) else (none)) else (none)) else (none)) else (colloquyref08_Sum.l0 k x0 x3 (wrap64 (x4 + 1)))
end
def colloquyref08_Sum.f (k : Nat) (l0 : List Int) : Option (Int) := colloquyref08_Sum.l0 k l0 4294967295 0
theorem colloquyref08_Sum.mono_l : ∀ k, (∀ y0 y1 y2, LeO (colloquyref08_Sum.l0 k y0 y1 y2) (colloquyref08_Sum.l0 (k + 1) y0 y1 y2)) ∧ (∀ y0 y1 y2 y3, LeO (colloquyref08_Sum.l1 k y0 y1 y2 y3) (colloquyref08_Sum.l1 (k + 1) y0 y1 y2 y3))
  | 0 => ⟨fun _ _ _ r h => by simp [colloquyref08_Sum.l0] at h, fun _ _ _ _ r h => by simp [colloquyref08_Sum.l1] at h⟩
  | k + 1 => by
    obtain ⟨ih0, ih1⟩ := colloquyref08_Sum.mono_l k
    refine ⟨?_, ?_⟩
    · intro y0 y1 y2
      unfold colloquyref08_Sum.l0
      repeat' first
      | (with_reducible exact ih0 _ _ _)
      | (with_reducible exact ih1 _ _ _ _)
      | (with_reducible exact LeO.refl _)
      | (with_reducible exact LeO.none _)
      | (with_reducible refine LeO.ite ?_ ?_)
      | (with_reducible refine LeO.bind ?_ (fun _ => ?_))
      | exact ih0 _ _ _
      | exact ih1 _ _ _ _
      | exact LeO.none _
      | refine LeO.ite ?_ ?_
      | refine LeO.bind ?_ (fun _ => ?_)
    · intro y0 y1 y2 y3
      unfold colloquyref08_Sum.l1
      repeat' first
      | (with_reducible exact ih0 _ _ _)
      | (with_reducible exact ih1 _ _ _ _)
      | (with_reducible exact LeO.refl _)
      | (with_reducible exact LeO.none _)
      | (with_reducible refine LeO.ite ?_ ?_)
      | (with_reducible refine LeO.bind ?_ (fun _ => ?_))
      | exact ih0 _ _ _
      | exact ih1 _ _ _ _
      | exact LeO.none _
      | refine LeO.ite ?_ ?_
      | refine LeO.bind ?_ (fun _ => ?_)
theorem colloquyref08_Sum.mono : ∀ a0 k, LeO (colloquyref08_Sum.f k a0) (colloquyref08_Sum.f (k + 1) a0) := by
  intro a0 k
  obtain ⟨ih0, ih1⟩ := colloquyref08_Sum.mono_l k
  unfold colloquyref08_Sum.f
  repeat' first
      | (with_reducible exact ih0 _ _ _)
      | (with_reducible exact ih1 _ _ _ _)
      | (with_reducible exact LeO.refl _)
      | (with_reducible exact LeO.none _)
      | (with_reducible refine LeO.ite ?_ ?_)
      | (with_reducible refine LeO.bind ?_ (fun _ => ?_))
      | exact ih0 _ _ _
      | exact ih1 _ _ _ _
      | exact LeO.none _
      | refine LeO.ite ?_ ?_
      | refine LeO.bind ?_ (fun _ => ?_)
theorem colloquyref08_Sum.calls (k : Nat) (A0 : Option Addr) (c0 : Nat) (l0 : List Int) (r : Int) (w : World) (hr0 : Kd.C (Kd.int .u8) w A0 l0.length l0) (hc0 : l0.length ≤ c0) (h : colloquyref08_Sum.f k l0 = some r) :
    Calls Tryz.prog 79 #[.slice A0 l0.length c0] w fun e w' => e = .returned (.int .u32 r) ∧ Drawn0 w w' := by
  have HR0 := Aside0.mk hr0
  have HC0 := Aside0.mk hc0
  clear hr0 hc0
  have H : (colloquyref08_Sum.l0 k l0 4294967295 0) = some r := h
  clear h
  have H' := Aside0.mk H
  clear H
  go_enter Tryz.func79, Tryz.ntmps79
  go_wp2
  go_loopg [3, 4] k (fun kq v3 v4 w' => ∃ (x3_1 : Int) (x4_1 : Int), v3 = .int .u32 x3_1 ∧ v4 = .int .i64 x4_1 ∧ Aside0 (colloquyref08_Sum.l0 kq l0 x3_1 x4_1 = some r) ∧ Aside0 (kq ≤ k) ∧ Drawn0 w w')
  case atStart => exact ⟨(4294967295), (0), (by first | rfl | (simp; done) | (simp [*]; done)), (by first | rfl | (simp; done) | (simp [*]; done)), H', ⟨Nat.le_refl _⟩, by repeat (first | exact Drawn0.refl _ | apply Drawn0.step)⟩
  case round =>
    clear H'
    obtain ⟨x3_1, x4_1, rfl, rfl, HA, HK1, ⟨m1, rfl⟩⟩ := hrel
    cases gk with
    | zero => exact absurd HA.out (by simp [colloquyref08_Sum.l0])
    | succ k1 =>
      have H := HA.out
      clear HA
      simp only [colloquyref08_Sum.l0] at H
      by_cases c2 : x4_1 < (l0.length : Int)
      · rw [if_pos c2] at H
        have c2b0 : decide (x4_1 < (l0.length : Int)) = true := decide_eq_true c2
        clear c2
        have H' := Aside0.mk H
        clear H
        go_wp2
        go_loopg [3, 5] k1 (fun kq v3 v5 w' => ∃ (x3_2 : Int) (x5_2 : Int), v3 = .int .u32 x3_2 ∧ v5 = .int .i64 x5_2 ∧ Aside0 (colloquyref08_Sum.l1 kq l0 x3_2 x4_1 x5_2 = some r) ∧ Aside0 (kq ≤ k1) ∧ Drawn0 w w')
        case atStart => exact ⟨(x3_1), (0), (by first | rfl | (simp; done) | (simp [*]; done)), (by first | rfl | (simp; done) | (simp [*]; done)), H', ⟨Nat.le_refl _⟩, by repeat (first | exact Drawn0.refl _ | apply Drawn0.step)⟩
        case round =>
          clear H'
          try clear c2
          try clear c2b0
          try clear p2
          obtain ⟨x3_2, x5_2, rfl, rfl, HA, HK2, ⟨m2, rfl⟩⟩ := hrel
          cases gk with
          | zero => exact absurd HA.out (by simp [colloquyref08_Sum.l1])
          | succ k2 =>
            have H := HA.out
            clear HA
            simp only [colloquyref08_Sum.l1] at H
            by_cases c3 : x5_2 < 8
            · rw [if_pos c3] at H
              have c3b0 : decide (x5_2 < 8) = true := decide_eq_true c3
              clear c3
              by_cases c4 : 0 ≤ x4_1
              · rw [if_pos c4] at H
                have c4b0 : decide (0 ≤ x4_1) = true := decide_eq_true c4
                clear c4
                by_cases c5 : x4_1 < (l0.length : Int)
                · rw [if_pos c5] at H
                  have c5b0 : decide (x4_1 < (l0.length : Int)) = true := decide_eq_true c5
                  clear c5
                  obtain ⟨ji6, hji6⟩ : ∃ j_ : Int, (IntKind.u64.wrap (x5_2)) = j_ := ⟨_, rfl⟩
                  replace H : (if 0 ≤ (ji6) then (if (((Go.bits .and .u32 x3_2 1) == 1) != ((Go.bits .and .u8 (shr .u8 (rd l0 x4_1) (ji6)) 1) == 1)) = true then (colloquyref08_Sum.l1 k2 l0 (Go.bits .xor .u32 (x3_2 / 2) 3988292384) x4_1 (wrap64 (x5_2 + 1))) else (colloquyref08_Sum.l1 k2 l0 (x3_2 / 2) x4_1 (wrap64 (x5_2 + 1)))) else (none)) = some r := by first | (rw [hji6] at H; exact H) | (simp only [hji6] at H ⊢; exact H)
                  by_cases c7 : 0 ≤ (ji6)
                  · rw [if_pos c7] at H
                    have c7b0 := eq_true c7
                    have c7b1 : decide (0 ≤ (ji6)) = true := decide_eq_true c7
                    clear c7
                    obtain ⟨ji8, hji8⟩ : ∃ j_ : Int, (shr .u8 (rd l0 x4_1) (ji6)) = j_ := ⟨_, rfl⟩
                    replace H : (if (((Go.bits .and .u32 x3_2 1) == 1) != ((Go.bits .and .u8 (ji8) 1) == 1)) = true then (colloquyref08_Sum.l1 k2 l0 (Go.bits .xor .u32 (x3_2 / 2) 3988292384) x4_1 (wrap64 (x5_2 + 1))) else (colloquyref08_Sum.l1 k2 l0 (x3_2 / 2) x4_1 (wrap64 (x5_2 + 1)))) = some r := by first | (rw [hji8] at H; exact H) | (simp only [hji8] at H ⊢; exact H)
                    have hji8_ : ((rd l0 x4_1) / 2 ^ min (ji6).toNat 8) = ji8 := hji8
                    have hji8z : (ji6) ≤ 8 → ((rd l0 x4_1) / 2 ^ (ji6).toNat) = ji8 := shr_small hji8
                    by_cases c9 : (((Go.bits .and .u32 x3_2 1) == 1) != ((Go.bits .and .u8 (ji8) 1) == 1)) = true
                    · rw [if_pos c9] at H
                      have c9b0 : (((Go.bits .and .u32 x3_2 1) == 1) != ((Go.bits .and .u8 (ji8) 1) == 1)) = true := c9
                      (try (have c9b1 : decide (((Go.bits .and .u32 x3_2 1) == 1) = ((Go.bits .and .u8 (ji8) 1) == 1)) = false := by simpa using c9))
                      (try (have c9b2 : (((Go.bits .and .u32 x3_2 1) == 1) == ((Go.bits .and .u8 (ji8) 1) == 1)) = false := by simpa using c9))
                      (try (have c9b3 : ¬ (((Go.bits .and .u32 x3_2 1) == 1) = ((Go.bits .and .u8 (ji8) 1) == 1)) := by simpa using c9))
                      clear c9
                      have H' := Aside0.mk H
                      clear H
                      have p436 : 0 ≤ (x4_1 : Int) := of_decide_eq_true (by first | (with_reducible assumption) | assumption)
                      have q436 : x4_1 < (l0.length : Int) := of_decide_eq_true (by first | (with_reducible assumption) | assumption)
                      obtain ⟨ad436, e436, hx436_0⟩ := Kd.at_int HR0.out x4_1 p436 q436
                      cases e436
                      replace p436 := eq_true p436
                      replace q436 := eq_true q436
                      go_wp2
                      go_roundg k2
                      case measure => have := HK1.out; have := HK2.out; omega
                      case rel => exact ⟨(Go.bits .xor .u32 (x3_2 / 2) 3988292384), (wrap64 (x5_2 + 1)), (by first | rfl | (simp; done) | (simp [*]; done)), (by first | rfl | (simp; done) | (simp [*]; done)), H', ⟨by have := HK1.out; have := HK2.out; omega⟩, by repeat (first | exact Drawn0.refl _ | apply Drawn0.step)⟩
                    · rw [if_neg c9] at H
                      have c9b0 : (((Go.bits .and .u32 x3_2 1) == 1) != ((Go.bits .and .u8 (ji8) 1) == 1)) = false := by simpa using c9
                      (try (have c9b1 : decide (((Go.bits .and .u32 x3_2 1) == 1) = ((Go.bits .and .u8 (ji8) 1) == 1)) = true := by simpa using c9))
                      (try (have c9b2 : (((Go.bits .and .u32 x3_2 1) == 1) == ((Go.bits .and .u8 (ji8) 1) == 1)) = true := by simpa using c9))
                      clear c9
                      have H' := Aside0.mk H
                      clear H
                      have p436 : 0 ≤ (x4_1 : Int) := of_decide_eq_true (by first | (with_reducible assumption) | assumption)
                      have q436 : x4_1 < (l0.length : Int) := of_decide_eq_true (by first | (with_reducible assumption) | assumption)
                      obtain ⟨ad436, e436, hx436_0⟩ := Kd.at_int HR0.out x4_1 p436 q436
                      cases e436
                      replace p436 := eq_true p436
                      replace q436 := eq_true q436
                      go_wp2
                      go_roundg k2
                      case measure => have := HK1.out; have := HK2.out; omega
                      case rel => exact ⟨(x3_2 / 2), (wrap64 (x5_2 + 1)), (by first | rfl | (simp; done) | (simp [*]; done)), (by first | rfl | (simp; done) | (simp [*]; done)), H', ⟨by have := HK1.out; have := HK2.out; omega⟩, by repeat (first | exact Drawn0.refl _ | apply Drawn0.step)⟩
                  · rw [if_neg c7] at H
                    exact absurd H (by simp)
                · rw [if_neg c5] at H
                  exact absurd H (by simp)
              · rw [if_neg c4] at H
                exact absurd H (by simp)
            · rw [if_neg c3] at H
              have c3b0 : decide (x5_2 < 8) = false := decide_eq_false c3
              clear c3
              have H' := Aside0.mk H
              clear H
              go_wp2
              go_roundg k2
              case measure => have := HK1.out; have := HK2.out; omega
              case rel => exact ⟨(x3_2), (wrap64 (x4_1 + 1)), (by first | rfl | (simp; done) | (simp [*]; done)), (by first | rfl | (simp; done) | (simp [*]; done)), H', ⟨by have := HK1.out; have := HK2.out; omega⟩, by repeat (first | exact Drawn0.refl _ | apply Drawn0.step)⟩
      · rw [if_neg c2] at H
        have c2b0 : decide (x4_1 < (l0.length : Int)) = false := decide_eq_false c2
        clear c2
        obtain rfl := Option.some.inj H
        go_wp2
        go_ret
        exact ⟨by first | rfl | (simp; done) | (simp [*]; done), by repeat (first | exact Drawn0.refl _ | apply Drawn0.step)⟩
end
section
attribute [local go_sem] max2_int min2_int max_two min_two max_three min_three max_four min_four   -- for this text's walks alone
mutual
def colloquyref08_Join.l0 : Nat → List Int → List Int → List Int → Int → Option (List Int)
  | 0, _, _, _, _ => none
  | k + 1, x0, x1, x5, x6 => if x6 < (x0.length : Int) then (if 0 ≤ x6 then (if x5.length < 140737488355328 then (colloquyref08_Join.l0 k x0 x1 (x5 ++ [rd x0 x6]) (wrap64 (x6 + 1))) else (none)) else (none)) else (colloquyref08_Join.l1 k x1 x5 0)
def colloquyref08_Join.l1 : Nat → List Int → List Int → Int → Option (List Int)
  | 0, _, _, _ => none
  | k + 1, x1, x5, x7 => if x7 < (x1.length : Int) then (if 0 ≤ x7 then (if x5.length < 140737488355328 then (colloquyref08_Join.l1 k x1 (x5 ++ [rd x1 x7]) (wrap64 (x7 + 1))) else (none)) else (none)) else (some x5)
end
def colloquyref08_Join.f (k : Nat) (l0 : List Int) (l1 : List Int) : Option (List Int) := colloquyref08_Join.l0 k l0 l1 (([] : List Int)) 0
theorem colloquyref08_Join.mono_l : ∀ k, (∀ y0 y1 y2 y3, LeO (colloquyref08_Join.l0 k y0 y1 y2 y3) (colloquyref08_Join.l0 (k + 1) y0 y1 y2 y3)) ∧ (∀ y0 y1 y2, LeO (colloquyref08_Join.l1 k y0 y1 y2) (colloquyref08_Join.l1 (k + 1) y0 y1 y2))
  | 0 => ⟨fun _ _ _ _ r h => by simp [colloquyref08_Join.l0] at h, fun _ _ _ r h => by simp [colloquyref08_Join.l1] at h⟩
  | k + 1 => by
    obtain ⟨ih0, ih1⟩ := colloquyref08_Join.mono_l k
    refine ⟨?_, ?_⟩
    · intro y0 y1 y2 y3
      unfold colloquyref08_Join.l0
      repeat' first
      | (with_reducible exact ih0 _ _ _ _)
      | (with_reducible exact ih1 _ _ _)
      | (with_reducible exact LeO.refl _)
      | (with_reducible exact LeO.none _)
      | (with_reducible refine LeO.ite ?_ ?_)
      | (with_reducible refine LeO.bind ?_ (fun _ => ?_))
      | exact ih0 _ _ _ _
      | exact ih1 _ _ _
      | exact LeO.none _
      | refine LeO.ite ?_ ?_
      | refine LeO.bind ?_ (fun _ => ?_)
    · intro y0 y1 y2
      unfold colloquyref08_Join.l1
      repeat' first
      | (with_reducible exact ih0 _ _ _ _)
      | (with_reducible exact ih1 _ _ _)
      | (with_reducible exact LeO.refl _)
      | (with_reducible exact LeO.none _)
      | (with_reducible refine LeO.ite ?_ ?_)
      | (with_reducible refine LeO.bind ?_ (fun _ => ?_))
      | exact ih0 _ _ _ _
      | exact ih1 _ _ _
      | exact LeO.none _
      | refine LeO.ite ?_ ?_
      | refine LeO.bind ?_ (fun _ => ?_)
theorem colloquyref08_Join.mono : ∀ a0 a1 k, LeO (colloquyref08_Join.f k a0 a1) (colloquyref08_Join.f (k + 1) a0 a1) := by
  intro a0 a1 k
  obtain ⟨ih0, ih1⟩ := colloquyref08_Join.mono_l k
  unfold colloquyref08_Join.f
  repeat' first
      | (with_reducible exact ih0 _ _ _ _)
      | (with_reducible exact ih1 _ _ _)
      | (with_reducible exact LeO.refl _)
      | (with_reducible exact LeO.none _)
      | (with_reducible refine LeO.ite ?_ ?_)
      | (with_reducible refine LeO.bind ?_ (fun _ => ?_))
      | exact ih0 _ _ _ _
      | exact ih1 _ _ _
      | exact LeO.none _
      | refine LeO.ite ?_ ?_
      | refine LeO.bind ?_ (fun _ => ?_)
theorem colloquyref08_Join.calls (k : Nat) (A0 : Option Addr) (c0 : Nat) (l0 : List Int) (A1 : Option Addr) (c1 : Nat) (l1 : List Int) (r : List Int) (w : World) (hr0 : Kd.C (Kd.int .u8) w A0 l0.length l0) (hc0 : l0.length ≤ c0) (hr1 : Kd.C (Kd.int .u8) w A1 l1.length l1) (hc1 : l1.length ≤ c1) (h : colloquyref08_Join.f k l0 l1 = some r) :
    Calls Tryz.prog 71 #[.slice A0 l0.length c0, .slice A1 l1.length c1] w fun e w' => ∃ v0_ : Value, e = .returned (v0_) ∧ Kd.R (Kd.int .u8) 5 w' w.heap.size (fun _ => True) v0_ r ∧ Below w.heap.size w w' := by
  have HR0 := Aside0.mk hr0
  have HC0 := Aside0.mk hc0
  clear hr0 hc0
  have HR1 := Aside0.mk hr1
  have HC1 := Aside0.mk hc1
  clear hr1 hc1
  have HB := Aside0.mk (Below.refl w.heap.size w)
  have H : (colloquyref08_Join.l0 k l0 l1 (([] : List Int)) 0) = some r := h
  clear h
  obtain ⟨y479, hy479⟩ : ∃ y_ : List Int, y_ = (([] : List Int)) := ⟨_, rfl⟩
  replace H : (colloquyref08_Join.l0 k l0 l1 y479 0) = some r := by first | (rw [hy479]; with_reducible exact H) | (have H2_ := (Option.bind_some _ _).symm.trans H; rw [hy479]; with_reducible exact H2_) | (have H2_ := (Option.bind_some _ _).symm.trans H; with_reducible exact H2_) | with_reducible exact H | (rw [hy479]; exact H) | exact H
  have Ny479 := Aside0.mk hy479
  clear hy479
  have H' := Aside0.mk H
  clear H
  go_enter Tryz.func71, Tryz.ntmps71
  go_wp2_with (first | ((with_reducible refine gate_dst (N := 8) rfl ?_); refine Kd.R_lit (Kd.int .u8) _ 5 ?hg (N := 8) ?hd (xs := ([] : List Int)) (inner := []) (ok := fun _ => True) (okp := fun _ => True) ?hr ?hp (fun _ hk => hk) trivial (Below.refl _ _) (Nat.le_refl _) (by simp) ?_; (case hd => rfl); (case hg => rfl); (case hr => first | (go_simp; done) | (go_simp; rfl)); (case hp => exact (Reps.none _ _)); intro v480 w3 ho4 hb hg_ hnew_; clear hg_ hnew_; (first | rw [← Ny479.out] at ho4 | (simp only [Int.reduceToNat] at ho4; rw [← Ny479.out] at ho4)); have n0_ := Aside0.mk (Kd.R_lower ho4 (below_size (by repeat (first | (with_reducible first | exact HB.out | apply below_alloc | apply pw_below_drewN | apply below_drew1) | exact HB.out)))); have n1_ := Aside0.mk (below_step (by repeat (first | (with_reducible first | exact HB.out | apply below_alloc | apply pw_below_drewN | apply below_drew1) | exact HB.out)) hb); clear HB; have HO481 := n0_; have HB := n1_; clear n0_ n1_; clear hb ho4))
  go_loopg [5, 6] k (fun kq v5 v6 w' => ∃ (x5_1 : List Int) (x6_1 : Int), v6 = .int .i64 x6_1 ∧ Aside0 (colloquyref08_Join.l0 kq l0 l1 x5_1 x6_1 = some r) ∧ Aside0 (kq ≤ k) ∧ Aside0 (Kd.R (Kd.int .u8) 5 w' w.heap.size (fun _ => True) v5 x5_1) ∧ Aside0 (Below w.heap.size w w'))
  case atStart => exact ⟨(y479), (0), (by first | rfl | (simp; done) | (simp [*]; done)), H', ⟨Nat.le_refl _⟩, ⟨by (with_reducible repeat (first | apply Kd.R_alloc | apply Kd.R_drewN | apply Kd.R_drew)); exact HO481.out⟩, ⟨by repeat (first | (with_reducible first | exact HB.out | apply below_alloc | apply pw_below_drewN | apply below_drew1) | exact HB.out)⟩⟩
  case round =>
    clear H'
    try clear c1
    try clear p2
    obtain ⟨x5_1, x6_1, rfl, HA, HK1, HO_5, HB⟩ := hrel
    cases gk with
    | zero => exact absurd HA.out (by simp [colloquyref08_Join.l0])
    | succ k1 =>
      have H := HA.out
      clear HA
      simp only [colloquyref08_Join.l0] at H
      by_cases c5 : x6_1 < (l0.length : Int)
      · rw [if_pos c5] at H
        have c5b0 : decide (x6_1 < (l0.length : Int)) = true := decide_eq_true c5
        clear c5
        by_cases c6 : 0 ≤ x6_1
        · rw [if_pos c6] at H
          have c6b0 : decide (0 ≤ x6_1) = true := decide_eq_true c6
          clear c6
          by_cases c7 : x5_1.length < 140737488355328
          · rw [if_pos c7] at H
            have LMc7 := Aside0.mk c7
            clear c7
            obtain ⟨y483, hy483⟩ : ∃ y_ : List Int, y_ = (x5_1 ++ [rd l0 x6_1]) := ⟨_, rfl⟩
            replace H : (colloquyref08_Join.l0 k1 l0 l1 y483 (wrap64 (x6_1 + 1))) = some r := by first | (rw [hy483]; with_reducible exact H) | (have H2_ := (Option.bind_some _ _).symm.trans H; rw [hy483]; with_reducible exact H2_) | (have H2_ := (Option.bind_some _ _).symm.trans H; with_reducible exact H2_) | with_reducible exact H | (rw [hy483]; exact H) | exact H
            have Ny483 := Aside0.mk hy483
            clear hy483
            have H' := Aside0.mk H
            clear H
            have p482 : 0 ≤ (x6_1 : Int) := of_decide_eq_true (by first | (with_reducible assumption) | assumption)
            have q482 : x6_1 < (l0.length : Int) := of_decide_eq_true (by first | (with_reducible assumption) | assumption)
            obtain ⟨ad482, e482, hx482_0⟩ := Kd.at_int HR0.out x6_1 p482 q482
            cases e482
            replace hx482_0 := (HB.out.cell (World.block_lt_of_cell? w _ hx482_0)).trans hx482_0
            replace p482 := eq_true p482
            replace q482 := eq_true q482
            go_wp2_with (first | ((with_reducible refine gate_builtin (b := .append) (xs := #[.tmp 15, .tmp 20]) rfl ?_); at_builtin; refine Kd.R_append (Kd.int .u8) (w0 := w) w.heap.size rfl (.tmp 15) (.tmp 20) 22 5 (.int .u8 0) 1 rfl Tryz.underlying22 info5 rfl (by decide) (by omega) u5 x5_1 (rd l0 x6_1) [.int .u8 (rd l0 x6_1)] (fun _ => True) (fun _ => False) rfl rfl ?aP (fun _ hk => hk.elim) ?aF ?aO ?aB ?aS ?aL ?_; (case aP => exact rfl); (case aB => exact (by repeat (first | (with_reducible first | exact HB.out | apply below_alloc | apply pw_below_drewN | apply below_drew1) | exact HB.out))); (case aF => exact (fun _ _ => trivial)); (case aO => exact (by (with_reducible repeat (first | apply Kd.R_alloc | apply Kd.R_drewN | apply Kd.R_drew)); exact HO_5.out)); (case aS => exact (below_size (by repeat (first | (with_reducible first | exact HB.out | apply below_alloc | apply pw_below_drewN | apply below_drew1) | exact HB.out)))); (case aL => have := LMc7.out; omega); intro v484 w8 ho hb hg hat; rw [← Ny483.out] at ho; have n0_ := Aside0.mk (hb); have n1_ := Aside0.mk (ho); clear HB; clear HO_5; have HB := n0_; have HO485 := n1_; clear n0_ n1_; clear ho hb hg hat))
            go_roundg k1
            case measure => have := HK1.out; omega
            case rel => exact ⟨(y483), (wrap64 (x6_1 + 1)), (by first | rfl | (simp; done) | (simp [*]; done)), H', ⟨by have := HK1.out; omega⟩, ⟨by (with_reducible repeat (first | apply Kd.R_alloc | apply Kd.R_drewN | apply Kd.R_drew)); exact HO485.out⟩, ⟨by repeat (first | (with_reducible first | exact HB.out | apply below_alloc | apply pw_below_drewN | apply below_drew1) | exact HB.out)⟩⟩
          · rw [if_neg c7] at H
            exact absurd H (by simp)
        · rw [if_neg c6] at H
          exact absurd H (by simp)
      · rw [if_neg c5] at H
        have c5b0 : decide (x6_1 < (l0.length : Int)) = false := decide_eq_false c5
        clear c5
        have H' := Aside0.mk H
        clear H
        go_wp2
        go_loopg [5, 7] k1 (fun kq v5 v7 w' => ∃ (x5_2 : List Int) (x7_2 : Int), v7 = .int .i64 x7_2 ∧ Aside0 (colloquyref08_Join.l1 kq l1 x5_2 x7_2 = some r) ∧ Aside0 (kq ≤ k1) ∧ Aside0 (Kd.R (Kd.int .u8) 5 w' w.heap.size (fun _ => True) v5 x5_2) ∧ Aside0 (Below w.heap.size w w'))
        case atStart => exact ⟨(x5_1), (0), (by first | rfl | (simp; done) | (simp [*]; done)), H', ⟨Nat.le_refl _⟩, ⟨by (with_reducible repeat (first | apply Kd.R_alloc | apply Kd.R_drewN | apply Kd.R_drew)); exact HO_5.out⟩, ⟨by repeat (first | (with_reducible first | exact HB.out | apply below_alloc | apply pw_below_drewN | apply below_drew1) | exact HB.out)⟩⟩
        case round =>
          clear H'
          try clear c1
          try clear p2
          try clear p4
          try clear q4
          try clear hx4
          try clear c5
          try clear c5b0
          try clear c6
          try clear c6b0
          try clear p6
          try clear c7
          try clear hx482_0
          try clear p2
          try clear p482
          try clear q482
          obtain ⟨x5_2, x7_2, rfl, HA, HK2, HO_5, HB⟩ := hrel
          cases gk with
          | zero => exact absurd HA.out (by simp [colloquyref08_Join.l1])
          | succ k2 =>
            have H := HA.out
            clear HA
            simp only [colloquyref08_Join.l1] at H
            by_cases c9 : x7_2 < (l1.length : Int)
            · rw [if_pos c9] at H
              have c9b0 : decide (x7_2 < (l1.length : Int)) = true := decide_eq_true c9
              clear c9
              by_cases c10 : 0 ≤ x7_2
              · rw [if_pos c10] at H
                have c10b0 : decide (0 ≤ x7_2) = true := decide_eq_true c10
                clear c10
                by_cases c11 : x5_2.length < 140737488355328
                · rw [if_pos c11] at H
                  have LMc11 := Aside0.mk c11
                  clear c11
                  obtain ⟨y487, hy487⟩ : ∃ y_ : List Int, y_ = (x5_2 ++ [rd l1 x7_2]) := ⟨_, rfl⟩
                  replace H : (colloquyref08_Join.l1 k2 l1 y487 (wrap64 (x7_2 + 1))) = some r := by first | (rw [hy487]; with_reducible exact H) | (have H2_ := (Option.bind_some _ _).symm.trans H; rw [hy487]; with_reducible exact H2_) | (have H2_ := (Option.bind_some _ _).symm.trans H; with_reducible exact H2_) | with_reducible exact H | (rw [hy487]; exact H) | exact H
                  have Ny487 := Aside0.mk hy487
                  clear hy487
                  have H' := Aside0.mk H
                  clear H
                  have p486 : 0 ≤ (x7_2 : Int) := of_decide_eq_true (by first | (with_reducible assumption) | assumption)
                  have q486 : x7_2 < (l1.length : Int) := of_decide_eq_true (by first | (with_reducible assumption) | assumption)
                  obtain ⟨ad486, e486, hx486_0⟩ := Kd.at_int HR1.out x7_2 p486 q486
                  cases e486
                  replace hx486_0 := (HB.out.cell (World.block_lt_of_cell? w _ hx486_0)).trans hx486_0
                  replace p486 := eq_true p486
                  replace q486 := eq_true q486
                  go_wp2_with (first | ((with_reducible refine gate_builtin (b := .append) (xs := #[.tmp 28, .tmp 33]) rfl ?_); at_builtin; refine Kd.R_append (Kd.int .u8) (w0 := w) w.heap.size rfl (.tmp 28) (.tmp 33) 22 5 (.int .u8 0) 1 rfl Tryz.underlying22 info5 rfl (by decide) (by omega) u5 x5_2 (rd l1 x7_2) [.int .u8 (rd l1 x7_2)] (fun _ => True) (fun _ => False) rfl rfl ?aP (fun _ hk => hk.elim) ?aF ?aO ?aB ?aS ?aL ?_; (case aP => exact rfl); (case aB => exact (by repeat (first | (with_reducible first | exact HB.out | apply below_alloc | apply pw_below_drewN | apply below_drew1) | exact HB.out))); (case aF => exact (fun _ _ => trivial)); (case aO => exact (by (with_reducible repeat (first | apply Kd.R_alloc | apply Kd.R_drewN | apply Kd.R_drew)); exact HO_5.out)); (case aS => exact (below_size (by repeat (first | (with_reducible first | exact HB.out | apply below_alloc | apply pw_below_drewN | apply below_drew1) | exact HB.out)))); (case aL => have := LMc11.out; omega); intro v488 w12 ho hb hg hat; rw [← Ny487.out] at ho; have n0_ := Aside0.mk (hb); have n1_ := Aside0.mk (ho); clear HB; clear HO_5; have HB := n0_; have HO489 := n1_; clear n0_ n1_; clear ho hb hg hat))
                  go_roundg k2
                  case measure => have := HK1.out; have := HK2.out; omega
                  case rel => exact ⟨(y487), (wrap64 (x7_2 + 1)), (by first | rfl | (simp; done) | (simp [*]; done)), H', ⟨by have := HK1.out; have := HK2.out; omega⟩, ⟨by (with_reducible repeat (first | apply Kd.R_alloc | apply Kd.R_drewN | apply Kd.R_drew)); exact HO489.out⟩, ⟨by repeat (first | (with_reducible first | exact HB.out | apply below_alloc | apply pw_below_drewN | apply below_drew1) | exact HB.out)⟩⟩
                · rw [if_neg c11] at H
                  exact absurd H (by simp)
              · rw [if_neg c10] at H
                exact absurd H (by simp)
            · rw [if_neg c9] at H
              have c9b0 : decide (x7_2 < (l1.length : Int)) = false := decide_eq_false c9
              clear c9
              obtain rfl := Option.some.inj H
              go_wp2
              go_ret
              exact ⟨_, by first | rfl | (simp [errW_none, errW_some] <;> rfl) | (simp [*, errW_none, errW_some] <;> rfl), by (with_reducible repeat (first | apply Kd.R_alloc | apply Kd.R_drewN | apply Kd.R_drew)); exact HO_5.out, by repeat (first | (with_reducible first | exact HB.out | apply below_alloc | apply pw_below_drewN | apply below_drew1) | exact HB.out)⟩
end
end Go.Proofs.YtkdahjnmldeklaaGreat.PA
