/- Operations that are carried out only if a test says so, without parting the walk: what such an operation leaves stands under its test. -/
import Derived.Test.YtkdahjnmldeklaaHJoin
namespace Go.Proofs.Ytkdahjnmldeklaa.PA
open Go.RowKit Go.Proofs.YtkdahjnmldeklaaW.PrintWords Go.Proofs.YtkdahjnmldeklaaW.PrintLast Go.Proofs.YtkdahjnmldeklaaW.PrintMore
set_option linter.unusedVariables false
set_option linter.unusedSimpArgs false
/-- A value that is there under a test. -/
def gv (g : Bool) (v : Value) : Value := bif g then v else undef
/-- What a guard comes to at a slot's value. -/
def onb (b : Bool) : Value → Bool
  | .bool x => x == b
  | _ => false
theorem on_t (x : Bool) : onb true (.bool x) = x := by cases x <;> rfl
theorem on_f (x : Bool) : onb false (.bool x) = !x := by cases x <;> rfl
theorem on_gt (g x : Bool) : onb true (gv g (.bool x)) = (g && x) := by cases g <;> cases x <;> rfl
theorem on_gf (g x : Bool) : onb false (gv g (.bool x)) = (g && !x) := by cases g <;> cases x <;> rfl
theorem ev_gv {u v : Value} {g : Bool} (h : u = gv g v) (hg : g = true) : u = v := by
  rw [h, hg]
  rfl
theorem and1 {a b : Bool} (h : (a && b) = true) : a = true := by revert h; cases a <;> simp
theorem and2 {a b : Bool} (h : (a && b) = true) : b = true := by revert h; cases a <;> cases b <;> simp
theorem andi {a b : Bool} (h : a = true) (k : b = true) : (a && b) = true := by rw [h, k]; rfl
theorem not_t {a : Bool} (h : a = false) : (!a) = true := by rw [h]; rfl
section
variable {D : List Deferred} {P : Program} {ops : Array Oper} {Q : Exit → Act → World → Prop} {rest : List Oper} {o oj : Oper} {N d j dj : Nat} {a : Act} {F : List (Nat × Value)} {w w1 : World} {v u : Value} {C : World → Prop} {Q' : Act → Prop} {b g : Bool}
theorem wanted_on (HF : FrD D N a F) (hg : o.guard = some (j, b)) (hj : ops[j]? = some oj) (hdj : oj.dst = some dj) (hl : look F dj = some u) : Region.wanted o (yielded ops a.tmps) = onb b u := by
  have hy : yielded ops a.tmps j = (match u with | .bool x => some x | _ => none) := by
    cases u <;> simp [yielded, hj, hdj, HF.at_ _ _ hl]
  cases u <;> simp [Region.wanted, hg, hy, onb]
theorem FrD.litG {t : Bool} (h : FrD D N a ((d, gv g (.bool t)) :: F)) (e : g = true → t = b) : FrD D N a ((d, gv g (.bool b)) :: F) := by
  cases g
  · exact h
  · exact e rfl ▸ h
theorem gw_evG (HF : FrD D N a F) (hg : o.guard = some (j, b)) (hj : ops[j]? = some oj) (hdj : oj.dst = some dj) (hl : look F dj = some u) (hon : onb b u = g) (hd : o.dst = some d) (hN : d < N) (hrun : g = true → Runs P o a w v w)
    (k : ∀ a', FrD D N a' ((d, gv g v) :: F) → wpList P ops Q rest a' w) : wpList P ops Q (o :: rest) a w := by
  have hw := wanted_on HF hg hj hdj hl
  rw [hon] at hw
  cases g
  · exact gw_off HF hw hd hN k
  · exact gw_ev HF hw hd hN (hrun rfl) k
theorem gq_evG (HF : FrD D N a F) (hg : o.guard = some (j, b)) (hj : ops[j]? = some oj) (hdj : oj.dst = some dj) (hl : look F dj = some u) (hon : onb b u = g) (hd : o.dst = some d) (hN : d < N) (hrun : g = true → ∀ w, C w → Runs P o a w v w)
    (k : ∀ a', FrD D N a' ((d, gv g v) :: F) → wpQuiet P ops C Q' rest a') : wpQuiet P ops C Q' (o :: rest) a := by
  have hw := wanted_on HF hg hj hdj hl
  rw [hon] at hw
  cases g
  · exact gq_off HF hw hd hN k
  · exact gq_ev HF hw hd hN (hrun rfl) k
theorem gw_callG {f : FuncId} {args : Array Value} (HF : FrD D N a F) (hg : o.guard = some (j, b)) (hj : ops[j]? = some oj) (hdj : oj.dst = some dj) (hl : look F dj = some u) (hon : onb b u = g) (hd : o.dst = some d) (hN : d < N) (hen : g = true → Enters P o a w f args)
    (hc : g = true → Calls P f args w (fun e w' => e = .returned v ∧ Below w.heap.size w w')) (k : ∀ a' w', Below w.heap.size w w' → FrD D N a' ((d, gv g v) :: F) → wpList P ops Q rest a' w') : wpList P ops Q (o :: rest) a w := by
  have hw := wanted_on HF hg hj hdj hl
  rw [hon] at hw
  cases g
  · exact gw_off HF hw hd hN fun a' h => k a' w (Below.refl _ _) h
  · refine gw_call HF hw hd hN (hen rfl) (hc rfl) ?_
    rintro e w' ⟨rfl, hb⟩
    exact ⟨_, rfl, fun a' h => k a' w' hb h⟩
theorem gq_callG {f : FuncId} {args : Array Value} (HF : FrD D N a F) (hg : o.guard = some (j, b)) (hj : ops[j]? = some oj) (hdj : oj.dst = some dj) (hl : look F dj = some u) (hon : onb b u = g) (hd : o.dst = some d) (hN : d < N) (hen : g = true → ∀ w, C w → Enters P o a w f args)
    (hc : g = true → ∀ w, C w → Calls P f args w (fun e w' => e = .returned v ∧ C w')) (k : ∀ a', FrD D N a' ((d, gv g v) :: F) → wpQuiet P ops C Q' rest a') : wpQuiet P ops C Q' (o :: rest) a := by
  have hw := wanted_on HF hg hj hdj hl
  rw [hon] at hw
  cases g
  · exact gq_off HF hw hd hN k
  · exact gq_call HF hw hd hN (hen rfl) (hc rfl) k
theorem gx_takeG {B : Nat → Bool} {w0 : World} {M : List Chunk} {fuel : Nat} {listed : Array Bool} (i : Nat) (hi : ops[i]? = some o) (hs : (Region.noSelect ops && ((Region.ready .any ops listed).contains i && (Region.free .any ops listed i && waitedB .any ops B i))) = true) (HF : FrD D N a F) (HO : Own w0 w M)
    (hg : o.guard = some (j, b)) (hj : ops[j]? = some oj) (hdj : oj.dst = some dj) (hl : look F dj = some u) (hon : onb b u = g) (hd : o.dst = some d) (hN : d < N) (hrun : g = true → ∀ w, Own w0 w M → Runs P o a w v w)
    (k : ∀ a', FrD D N a' ((d, gv g v) :: F) → wpX P .any ops (NoPanic Q) (Held w0 M) B fuel (listed.setIfInBounds i true) a' w) : wpX P .any ops (NoPanic Q) (Held w0 M) B (fuel + 1) listed a w := by
  have hw := wanted_on HF hg hj hdj hl
  rw [hon] at hw
  cases g
  · exact gx_take_off i hi hs HF HO hw hd hN k
  · exact gx_take i hi hs HF HO hw hd hN (hrun rfl) k
end
section
variable {P : Program} {o : Oper} {a : Act} {w : World} {x y z : Operand} {p q : Bool}
theorem op_pick_or (ho : o.op = .pick x y z) (hx : a.eval x = .bool p) (hy : a.eval y = .bool true) (hz : p = false → a.eval z = .bool q) : Runs P o a w (.bool (p || q)) w := by
  cases p
  · exact op_pick_f ho hx (hz rfl)
  · exact op_pick_t ho hx hy
theorem op_pick_and (ho : o.op = .pick x y z) (hx : a.eval x = .bool p) (hy : p = true → a.eval y = .bool q) (hz : a.eval z = .bool false) : Runs P o a w (.bool (p && q)) w := by
  cases p
  · exact op_pick_f ho hx hz
  · exact op_pick_t ho hx (hy rfl)
end
section
variable {α : Type} {d : Kd α} {w : World} {A : Option Addr} {n : Nat} {xs : List α} {S : Nat → Prop}
/-- An element, there or not. -/
theorem C_getT (h : d.C w A n xs) (z : α) (i : Int) (hz : ∃ cs, d.K w z cs) : ∃ ad cs, ((0 ≤ i ∧ i < n) → A = some ad) ∧ cs.length = d.sz ∧ d.K w (xs.getD i.toNat z) cs ∧ ((0 ≤ i ∧ i < n) → ∀ j u, cs[j]? = some u → w.cell? (ad.add (i.toNat * d.sz + j)) = some u) := by
  have hn : xs.length = n := h.1
  by_cases hi : 0 ≤ i ∧ i < n
  · obtain ⟨ad, cs, h1, h2, h3, h4⟩ := Kd.C_get h z i hi.1 hi.2
    exact ⟨ad, cs, fun _ => h1, h2, h3, fun _ => h4⟩
  · by_cases h0 : i.toNat < xs.length
    · obtain ⟨ad, cs, h1, h2, h3, h4⟩ := Kd.C_get h z (i.toNat : Int) (by omega) (by omega)
      rw [Int.toNat_natCast] at h3
      exact ⟨ad, cs, fun k => absurd k hi, h2, h3, fun k => absurd k hi⟩
    · obtain ⟨cs, hk⟩ := hz
      have e : xs.getD i.toNat z = z := by rw [List.getD_eq_getElem?_getD, List.getElem?_eq_none (by omega)]; rfl
      rw [e]
      exact ⟨⟨0, 0, none⟩, cs, fun k => absurd k hi, d.K_len hk, hk, fun k => absurd k hi⟩
theorem F_getT (h : d.F w S A n xs) (z : α) (i : Int) (hz : ∃ cs, Kd.FK d w S z cs) : ∃ ad cs, ((0 ≤ i ∧ i < n) → A = some ad) ∧ cs.length = d.sz ∧ Kd.FK d w S (xs.getD i.toNat z) cs ∧ ((0 ≤ i ∧ i < n) → ∀ j u, cs[j]? = some u → w.cell? (ad.add (i.toNat * d.sz + j)) = some u) := by
  have hn : xs.length = n := (Kd.F_now h).1
  by_cases hi : 0 ≤ i ∧ i < n
  · obtain ⟨ad, cs, h1, h2, h3, h4, _⟩ := Kd.F_get h z i hi.1 hi.2
    exact ⟨ad, cs, fun _ => h1, h2, h3, fun _ => h4⟩
  · by_cases h0 : i.toNat < xs.length
    · obtain ⟨ad, cs, h1, h2, h3, h4, _⟩ := Kd.F_get h z (i.toNat : Int) (by omega) (by omega)
      rw [Int.toNat_natCast] at h3
      exact ⟨ad, cs, fun k => absurd k hi, h2, h3, fun k => absurd k hi⟩
    · obtain ⟨cs, hk⟩ := hz
      have e : xs.getD i.toNat z = z := by rw [List.getD_eq_getElem?_getD, List.getElem?_eq_none (by omega)]; rfl
      rw [e]
      exact ⟨⟨0, 0, none⟩, cs, fun k => absurd k hi, d.K_len (Kd.FK_now hk), hk, fun k => absurd k hi⟩
end
section
variable {k : IntKind} {e base c : Nat} {S : Nat → Prop} {A : Option Addr} {n : Nat} {xs : List Int} {w : World}
theorem row_headT {α : Type} {d : Kd α} {xs : List α} (h : d.R e w base S (.slice A n c) xs) (i : Int) : ∃ ad, (0 ≤ i ∧ i < xs.length) → A = some ad := by
  by_cases hi : 0 ≤ i ∧ i < xs.length
  · obtain ⟨ad, e⟩ := row_head h i hi.1 hi.2
    exact ⟨ad, fun _ => e⟩
  · exact ⟨⟨0, 0, none⟩, fun k => absurd k hi⟩
theorem row_cellT {ad : Addr} (h : (Kd.int k).R e w base S (.slice A n c) xs) (hA : A = some ad) (i : Int) (h0 : 0 ≤ i) (h1 : i < xs.length) : w.cell? (ad.add (i.toNat * 1)) = some (.int k (rd xs i)) := by
  subst hA
  exact (row_cell h i h0 h1).1
end
end Go.Proofs.Ytkdahjnmldeklaa.PA
