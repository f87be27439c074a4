/- A walker's words: what is known of a frame, and what each operation does to it. -/
import Derived.Test.YtkdahjnmldeklaaHOwn
import Derived.WalkLawsBesides
import Derived.WalkSpells
import Derived.Deep.Quiet
import Derived.Lib.SlBytesConst
namespace Go.Proofs.Ytkdahjnmldeklaa.PA
open Go.RowKit Go.Proofs.YtkdahjnmldeklaaW.PrintWords Go.Proofs.YtkdahjnmldeklaaW.PrintLast Go.Proofs.YtkdahjnmldeklaaW.PrintMore
set_option linter.unusedVariables false
set_option linter.unusedSimpArgs false

def look : List (Nat × Value) → Nat → Option Value
  | [], _ => none
  | (d, v) :: F, t => bif Nat.beq d t then some v else look F t
/-- What is known of a frame. -/
structure FrD (D : List Deferred) (N : Nat) (a : Act) (F : List (Nat × Value)) : Prop where
  defers : a.defers = D
  size : a.tmps.size = N
  at_ : ∀ t v, look F t = some v → a.tmps[t]? = some v
/-- .. with no call laid aside. -/
abbrev Fr := FrD []
section
variable {D : List Deferred} {N : Nat} {a : Act} {F : List (Nat × Value)}
theorem FrD.ev (h : FrD D N a F) {t : Nat} {v : Value} (hl : look F t = some v) : a.eval (.tmp t) = v := by
  show a.tmps.getD t undef = v
  rw [Array.getD_eq_getD_getElem?, h.at_ t v hl]
  rfl
theorem ev_c (a : Act) (v : Value) : a.eval (.const v) = v := rfl
theorem FrD.put (h : FrD D N a F) {d : Nat} (hd : d < N) (v : Value) : FrD D N (a.put (some d) v) ((d, v) :: F) := by
  refine ⟨h.defers, by simp [Act.put, h.size], fun t u hl => ?_⟩
  unfold look at hl
  by_cases e : d = t
  · subst e
    have : Nat.beq d d = true := Nat.beq_refl d
    rw [this] at hl
    simp only [cond_true] at hl
    obtain rfl := Option.some.inj hl
    show (a.tmps.setIfInBounds d v)[d]? = some v
    rw [Array.getElem?_setIfInBounds_self_of_lt (by rw [h.size]; exact hd)]
  · have : Nat.beq d t = false := by
      rw [Bool.eq_false_iff]
      intro h2
      exact e (Nat.eq_of_beq_eq_true h2)
    rw [this] at hl
    simp only [cond_false] at hl
    show (a.tmps.setIfInBounds d v)[t]? = some u
    rw [Array.getElem?_setIfInBounds_ne e]
    exact h.at_ t u hl
theorem FrD.nil (h : FrD D N a F) : FrD D N a [] := ⟨h.defers, h.size, fun t v hl => by simp [look] at hl⟩
theorem FrD.pick {F' : List (Nat × Value)} (h : FrD D N a F) {t : Nat} {v : Value} (hl : look F t = some v) (h' : FrD D N a F') : FrD D N a ((t, v) :: F') := by
  refine ⟨h.defers, h.size, fun u x hx => ?_⟩
  unfold look at hx
  by_cases e : t = u
  · subst e
    rw [Nat.beq_refl t] at hx
    simp only [cond_true] at hx
    obtain rfl := Option.some.inj hx
    exact h.at_ t v hl
  · have : Nat.beq t u = false := by
      rw [Bool.eq_false_iff]
      intro h2
      exact e (Nat.eq_of_beq_eq_true h2)
    rw [this] at hx
    exact h'.at_ u x hx
end
def Runs (P : Program) (o : Oper) (a : Act) (w : World) (v : Value) (w1 : World) : Prop := (execOp a.eval o).run P w = .ok (.value v) w1
def Skips (P : Program) (o : Oper) (a : Act) (w : World) (w1 : World) : Prop := (execOp a.eval o).run P w = .ok .skip w1
def Enters (P : Program) (o : Oper) (a : Act) (w : World) (f : FuncId) (args : Array Value) : Prop := (execOp a.eval o).run P w = .ok (.enter f args) w
section
variable {P : Program} {o : Oper} {a : Act} {w : World} {x y : Operand} {t yt : TypeId}
theorem op_move {v : Value} (ho : o.op = .move x) (hx : a.eval x = v) : Runs P o a w v w := by
  unfold Runs execOp
  simp only [ho, hx]
  rfl
theorem op_assign {v : Value} (ho : o.op = .assign x) (hx : a.eval x = v) : Runs P o a w v w := by
  unfold Runs execOp
  simp only [ho, hx]
  rfl
theorem op_const {v : Value} (ho : o.op = .assign (.const v)) : Runs P o a w v w := op_assign ho rfl
theorem op_pick_t {v : Value} {z : Operand} (ho : o.op = .pick x y z) (hx : a.eval x = .bool true) (hy : a.eval y = v) : Runs P o a w v w := by
  unfold Runs execOp
  simp only [ho, hx, hy]
  simp [go_sem]
theorem op_pick_f {v : Value} {z : Operand} (ho : o.op = .pick x y z) (hx : a.eval x = .bool false) (hy : a.eval z = v) : Runs P o a w v w := by
  unfold Runs execOp
  simp only [ho, hx, hy]
  simp [go_sem]
theorem op_nil {ad : Addr} (ho : o.op = .nilCheck x) (hx : a.eval x = .pointer (some ad)) : Runs P o a w (.pointer (some ad)) w := by
  unfold Runs execOp
  simp only [ho, hx]
  rfl
section
variable {m n : Int} {k : IntKind}
theorem i64_ok {m : Int} (h1 : -9223372036854775808 ≤ m) (h2 : m ≤ 9223372036854775807) : IntKind.i64.wrap m = m := IntWalk.i64_in _ (by omega)
theorem op_addw (ho : o.op = .binOp .add t x y yt) (hx : a.eval x = .int k m) (hy : a.eval y = .int k n) : Runs P o a w (.int k (k.wrap (m + n))) w := by
  unfold Runs execOp
  simp only [ho, hx, hy]
  simp [go_sem]
theorem op_subw (ho : o.op = .binOp .sub t x y yt) (hx : a.eval x = .int k m) (hy : a.eval y = .int k n) : Runs P o a w (.int k (k.wrap (m - n))) w := by
  unfold Runs execOp
  simp only [ho, hx, hy]
  simp [go_sem]
theorem op_mulw (ho : o.op = .binOp .mul t x y yt) (hx : a.eval x = .int k m) (hy : a.eval y = .int k n) : Runs P o a w (.int k (k.wrap (m * n))) w := by
  unfold Runs execOp
  simp only [ho, hx, hy]
  simp [go_sem]
theorem op_add (ho : o.op = .binOp .add t x y yt) (hx : a.eval x = .int .i64 m) (hy : a.eval y = .int .i64 n) (h : -9223372036854775808 ≤ m + n ∧ m + n ≤ 9223372036854775807) : Runs P o a w (.int .i64 (m + n)) w := by
  have := op_addw (P := P) (w := w) ho hx hy
  rwa [i64_ok h.1 h.2] at this
theorem op_sub (ho : o.op = .binOp .sub t x y yt) (hx : a.eval x = .int .i64 m) (hy : a.eval y = .int .i64 n) (h : -9223372036854775808 ≤ m - n ∧ m - n ≤ 9223372036854775807) : Runs P o a w (.int .i64 (m - n)) w := by
  have := op_subw (P := P) (w := w) ho hx hy
  rwa [i64_ok h.1 h.2] at this
theorem op_mul (ho : o.op = .binOp .mul t x y yt) (hx : a.eval x = .int .i64 m) (hy : a.eval y = .int .i64 n) (h : -9223372036854775808 ≤ m * n ∧ m * n ≤ 9223372036854775807) : Runs P o a w (.int .i64 (m * n)) w := by
  have := op_mulw (P := P) (w := w) ho hx hy
  rwa [i64_ok h.1 h.2] at this
theorem op_lss (ho : o.op = .binOp .lss t x y yt) (hx : a.eval x = .int k m) (hy : a.eval y = .int k n) : Runs P o a w (.bool (decide (m < n))) w := by
  unfold Runs execOp
  simp only [ho, hx, hy]
  simp [go_sem]
theorem op_leq (ho : o.op = .binOp .leq t x y yt) (hx : a.eval x = .int k m) (hy : a.eval y = .int k n) : Runs P o a w (.bool (decide (m ≤ n))) w := by
  unfold Runs execOp
  simp only [ho, hx, hy]
  simp [go_sem]
theorem op_gtr (ho : o.op = .binOp .gtr t x y yt) (hx : a.eval x = .int k m) (hy : a.eval y = .int k n) : Runs P o a w (.bool (decide (n < m))) w := by
  unfold Runs execOp
  simp only [ho, hx, hy]
  simp [go_sem]
theorem op_geq (ho : o.op = .binOp .geq t x y yt) (hx : a.eval x = .int k m) (hy : a.eval y = .int k n) : Runs P o a w (.bool (decide (n ≤ m))) w := by
  unfold Runs execOp
  simp only [ho, hx, hy]
  simp [go_sem]
theorem op_eqi (ho : o.op = .binOp .eql t x y yt) (hx : a.eval x = .int k m) (hy : a.eval y = .int k n) : Runs P o a w (.bool (decide (m = n))) w := by
  unfold Runs execOp
  simp only [ho, hx, hy]
  simp [go_sem]
  rfl
theorem op_nei (ho : o.op = .binOp .neq t x y yt) (hx : a.eval x = .int k m) (hy : a.eval y = .int k n) : Runs P o a w (.bool (decide (m ≠ n))) w := by
  unfold Runs execOp
  simp only [ho, hx, hy]
  simp [go_sem]
  rfl
end
section
variable {p q : Bool}
theorem op_eqb (ht : P.underlying t = some .bool) (ho : o.op = .binOp .eql t x y yt) (hx : a.eval x = .bool p) (hy : a.eval y = .bool q) : Runs P o a w (.bool (p == q)) w := by
  unfold Runs execOp
  simp only [ho, hx, hy]
  simp [go_sem, ht]
theorem op_neb (ht : P.underlying t = some .bool) (ho : o.op = .binOp .neq t x y yt) (hx : a.eval x = .bool p) (hy : a.eval y = .bool q) : Runs P o a w (.bool (p != q)) w := by
  unfold Runs execOp
  simp only [ho, hx, hy]
  cases p <;> cases q <;> simp [go_sem, ht]
theorem op_not (ho : o.op = .unOp .not t x) (hx : a.eval x = .bool p) : Runs P o a w (.bool (!p)) w := by
  unfold Runs execOp
  simp only [ho, hx]
  simp [go_sem]
end
theorem op_neg {m : Int} {k : IntKind} (ho : o.op = .unOp .neg t x) (hx : a.eval x = .int k m) : Runs P o a w (.int k (k.wrap (-m))) w := by
  unfold Runs execOp
  simp only [ho, hx]
  simp [go_sem]
section
variable {s u : ByteArray}
theorem op_eqs (ho : o.op = .binOp .eql t x y yt) (hx : a.eval x = .string s) (hy : a.eval y = .string u) : Runs P o a w (.bool (s.toList == u.toList)) w := by
  unfold Runs execOp
  simp only [ho, hx, hy]
  simp [go_sem]
theorem op_nes (ho : o.op = .binOp .neq t x y yt) (hx : a.eval x = .string s) (hy : a.eval y = .string u) : Runs P o a w (.bool (!(s.toList == u.toList))) w := by
  unfold Runs execOp
  simp only [ho, hx, hy]
  simp [go_sem]
end
theorem op_eqp_nil {ad : Addr} {e : TypeId} (ht : P.underlying t = some (.pointer e)) (ho : o.op = .binOp .eql t x (.const (.pointer none)) yt) (hx : a.eval x = .pointer (some ad)) : Runs P o a w (.bool false) w := by
  unfold Runs execOp
  simp only [ho, hx]
  simp [go_sem, Act.eval, ht]
theorem op_len {A : Option Addr} {n c : Nat} {e : TypeId} (ht : P.underlying t = some (.slice e)) (ho : o.op = .call { callee := .builtin .len, args := #[x], argTypes := #[t] }) (hx : a.eval x = .slice A n c) : Runs P o a w (.int .i64 n) w := by
  unfold Runs execOp
  simp only [ho, resolve, invoke, builtin, Sem.run_bind, Sem.run_pure, Result.andThen_ok, List.map_toArray, List.map_cons, List.map_nil, hx]
  simp [go_sem, ht]
theorem op_lens {s : ByteArray} (ht : P.underlying t = some .string) (ho : o.op = .call { callee := .builtin .len, args := #[x], argTypes := #[t] }) (hx : a.eval x = .string s) : Runs P o a w (.int .i64 s.size) w := by
  unfold Runs execOp
  simp only [ho, resolve, invoke, builtin, Sem.run_bind, Sem.run_pure, Result.andThen_ok, List.map_toArray, List.map_cons, List.map_nil, hx]
  simp [go_sem, ht]
theorem op_extract {vs : Array Value} {i : Nat} {v : Value} (ho : o.op = .extract x i) (hx : a.eval x = .tuple vs) (hv : vs[i]? = some v) : Runs P o a w v w := by
  unfold Runs execOp
  simp only [ho, hx]
  simp [go_sem, hv]
theorem op_call {f : FuncId} {fn : Func} {args : Array Operand} {tys : Array TypeId} {vs : Array Value} (hf : P.funcs[f]? = some fn) (hname : (fn.name == "runtime.NumGoroutine") = false) (hb : fn.body.isSome = true) (ho : o.op = .call { callee := .value (.func f), args := args, argTypes := tys }) (hv : args.map a.eval = vs) : Enters P o a w f vs := by
  have he := enters_ hf hname hb vs w
  unfold Enters execOp
  simp [ho, resolve, Deferred.ofValue, invoke, Act.eval, hv, he]
theorem op_max {m n : Int} {k : IntKind} (ho : o.op = .call { callee := .builtin .max, args := #[x, y], argTypes := #[t, yt] }) (hx : a.eval x = .int k m) (hy : a.eval y = .int k n) : Runs P o a w (.int k (mx m n)) w := by
  unfold Runs execOp
  simp only [ho, resolve, invoke, builtin, Sem.run_bind, Sem.run_pure, Result.andThen_ok, List.map_toArray, List.map_cons, List.map_nil, hx, hy]
  simp [go_sem, max_two, max2_int, mx]
theorem op_min {m n : Int} {k : IntKind} (ho : o.op = .call { callee := .builtin .min, args := #[x, y], argTypes := #[t, yt] }) (hx : a.eval x = .int k m) (hy : a.eval y = .int k n) : Runs P o a w (.int k (mn m n)) w := by
  unfold Runs execOp
  simp only [ho, resolve, invoke, builtin, Sem.run_bind, Sem.run_pure, Result.andThen_ok, List.map_toArray, List.map_cons, List.map_nil, hx, hy]
  simp [go_sem, min_two, min2_int, mn]
section
variable {ad : Addr} {v u : Value}
theorem op_load1 (hA : ∀ w, (isAgg t).run P w = .ok false w) (ho : o.op = .load t x) (hx : a.eval x = .pointer (some ad)) (hc : w.cell? ad = some v) : Runs P o a w v w := by
  unfold Runs execOp
  simp only [ho, hx]
  simp [go_sem, Instr.loadAt, Instr.sureAddr, loadVar, hA, hc]
theorem op_store1 (hS : ∀ w, (sizeOf t).run P w = .ok 1 w) (ho : o.op = .store t x y) (hx : a.eval x = .pointer (some ad)) (hy : a.eval y = v) (hv : v.oneCell' = true) (hc : w.cell? ad = some u) (hfz : w.frozen? ad = false) : Skips P o a w (w.setCell ad v) := by
  have hcs : v.cells = #[v] := by cases v <;> first | rfl | cases hv
  have hst := run_store P w ad v .plain hv
  have h0 : ad.add 0 = ad := by unfold Addr.add; rfl
  have key : (Instr.storeAt t (.pointer (some ad)) v).run P w = .ok () (w.setCell ad v) := by
    unfold Instr.storeAt Instr.sureAddr storeVar
    simp only [Sem.run_bind, Sem.run_pure, Result.andThen_ok, hS, hcs]
    simp [storeCells, h0, hst, stored, hc, hfz]
  unfold Skips execOp
  simp only [ho, hx, hy, Sem.run_bind, key, Result.andThen_ok, Sem.run_pure]
theorem op_alloc {z : Value} (hz : ∀ w, (zeroValue t).run P w = .ok z w) (ho : o.op = .alloc t) : Runs P o a w (.pointer (some ⟨w.heap.size, 0, none⟩)) (w.alloc (.cells z.cells t (0, 0))) := by
  unfold Runs execOp
  simp only [ho]
  simp [go_sem, Instr.alloc, hz, newVar, newRow]
theorem op_box (ho : o.op = .box t x) (hx : a.eval x = v) : Runs P o a w (.pointer (some ⟨w.heap.size, 0, none⟩)) (w.alloc (.cells v.cells t (0, 0))) := by
  unfold Runs execOp
  simp only [ho, hx]
  simp [go_sem, Instr.box, newVar, newRow]
theorem op_field {f : Nat} {ad' : Addr} (hf : ∀ w, (Instr.fieldAt t (.pointer (some ad)) f).run P w = .ok (.pointer (some ad')) w) (ho : o.op = .fieldAddr t x f) (hx : a.eval x = .pointer (some ad)) : Runs P o a w (.pointer (some ad')) w := by
  unfold Runs execOp
  simp only [ho, hx, Sem.run_bind, hf, Result.andThen_ok, Sem.run_pure]
theorem op_index {A : Option Addr} {n c sz : Nat} {e : TypeId} {k : IntKind} {i : Int} (ht : P.underlying t = some (.slice e)) (hS : ∀ w, (sizeOf e).run P w = .ok sz w) (ho : o.op = .indexAddr t x y) (hx : a.eval x = .slice A n c) (hy : a.eval y = .int k i) (hA : A = some ad) (h : 0 ≤ i ∧ i < n) :
    Runs P o a w (.pointer (some (ad.add (i.toNat * sz)))) w := by
  subst hA
  unfold Runs execOp
  simp only [ho, hx, hy]
  simp [go_sem, Instr.indexAt, asIntOf, run_underlying ht, hS, h.1, h.2]
end
end
/-! ### the rules -/
section
variable {D : List Deferred} {P : Program} {ops : Array Oper} {Q : Exit → Act → World → Prop} {rest : List Oper} {o : Oper} {N d : Nat} {a : Act} {F : List (Nat × Value)} {w w1 : World} {v : Value} {C : World → Prop} {Q' : Act → Prop}
theorem want_none (hg : o.guard = none) : Region.wanted o (yielded ops a.tmps) = true := by simp [Region.wanted, hg]
theorem yields_of (HF : FrD D N a F) {j dj : Nat} {oj : Oper} {b : Bool} (hj : ops[j]? = some oj) (hdj : oj.dst = some dj) (hl : look F dj = some (.bool b)) : yielded ops a.tmps j = some b := by
  simp [yielded, hj, hdj, HF.at_ _ _ hl]
theorem want_yes (HF : FrD D N a F) {j dj : Nat} {oj : Oper} {b : Bool} (hg : o.guard = some (j, b)) (hj : ops[j]? = some oj) (hdj : oj.dst = some dj) (hl : look F dj = some (.bool b)) : Region.wanted o (yielded ops a.tmps) = true := by
  simp [Region.wanted, hg, yields_of HF hj hdj hl]
theorem want_no (HF : FrD D N a F) {j dj : Nat} {oj : Oper} {b b' : Bool} (hg : o.guard = some (j, b)) (hj : ops[j]? = some oj) (hdj : oj.dst = some dj) (hl : look F dj = some (.bool b')) (hne : b' ≠ b) : Region.wanted o (yielded ops a.tmps) = false := by
  simp [Region.wanted, hg, yields_of HF hj hdj hl, hne]
theorem gw_ev (HF : FrD D N a F) (hw : Region.wanted o (yielded ops a.tmps) = true) (hd : o.dst = some d) (hN : d < N) (hrun : Runs P o a w v w1) (k : ∀ a', FrD D N a' ((d, v) :: F) → wpList P ops Q rest a' w1) : wpList P ops Q (o :: rest) a w := by
  refine wpList_step fun K hK => ?_
  rw [if_pos hw]
  unfold Oper.wp
  rw [hrun, Oper.upon_value, hd]
  exact hK _ _ (k _ (HF.put hN v))
theorem gw_skip (HF : FrD D N a F) (hw : Region.wanted o (yielded ops a.tmps) = true) (hd : o.dst = none) (hrun : Skips P o a w w1) (k : ∀ a', FrD D N a' F → wpList P ops Q rest a' w1) : wpList P ops Q (o :: rest) a w := by
  refine wpList_step fun K hK => ?_
  rw [if_pos hw]
  unfold Oper.wp
  rw [hrun, Oper.upon_skip, hd]
  exact hK _ _ (k _ HF)
theorem gw_off (HF : FrD D N a F) (hw : Region.wanted o (yielded ops a.tmps) = false) (hd : o.dst = some d) (hN : d < N) (k : ∀ a', FrD D N a' ((d, undef) :: F) → wpList P ops Q rest a' w) : wpList P ops Q (o :: rest) a w := by
  refine wpList_skip hw ?_
  rw [hd]
  exact k _ (HF.put hN undef)
theorem gw_call {f : FuncId} {args : Array Value} {R : Ending → World → Prop} (HF : FrD D N a F) (hw : Region.wanted o (yielded ops a.tmps) = true) (hd : o.dst = some d) (hN : d < N) (hen : Enters P o a w f args) (hc : Calls P f args w R)
    (k : ∀ e w', R e w' → ∃ v, e = .returned v ∧ ∀ a', FrD D N a' ((d, v) :: F) → wpList P ops Q rest a' w') : wpList P ops Q (o :: rest) a w := by
  refine wpList_step fun K hK => ?_
  rw [if_pos hw]
  unfold Oper.wp
  rw [hen, Oper.upon_enter]
  refine hc.mono fun e w'' hh => ?_
  obtain ⟨v, rfl, hk⟩ := k e w'' hh
  show K (a.put o.dst v) w''
  rw [hd]
  exact hK _ _ (hk _ (HF.put hN v))
theorem gw_call0 {f : FuncId} {args : Array Value} {R : Ending → World → Prop} (HF : FrD D N a F) (hw : Region.wanted o (yielded ops a.tmps) = true) (hd : o.dst = none) (hen : Enters P o a w f args) (hc : Calls P f args w R)
    (k : ∀ e w', R e w' → ∃ v, e = .returned v ∧ ∀ a', FrD D N a' F → wpList P ops Q rest a' w') : wpList P ops Q (o :: rest) a w := by
  refine wpList_step fun K hK => ?_
  rw [if_pos hw]
  unfold Oper.wp
  rw [hen, Oper.upon_enter]
  refine hc.mono fun e w'' hh => ?_
  obtain ⟨v, rfl, hk⟩ := k e w'' hh
  show K (a.put o.dst v) w''
  rw [hd]
  exact hK _ _ (hk _ HF)
/-- A new block. -/
theorem gw_new {w0 : World} {L : List Chunk} {O : Obj} (HF : FrD D N a F) (HO : Own w0 w L) (hw : Region.wanted o (yielded ops a.tmps) = true) (hd : o.dst = some d) (hN : d < N) (hrun : Runs P o a w (.pointer (some ⟨w.heap.size, 0, none⟩)) (w.alloc O))
    (k : ∀ g a' w1, FrD D N a' ((d, .pointer (some ⟨g, 0, none⟩)) :: F) → Own w0 w1 (Chunk.blk g O :: L) → wpList P ops Q rest a' w1) : wpList P ops Q (o :: rest) a w :=
  gw_ev HF hw hd hN hrun fun a' HF' => k _ a' _ HF' (HO.new O)
/-- A store into a block that is known. -/
theorem gw_set {w0 : World} {L : List Chunk} {g j : Nat} {cs : Array Value} {T : TypeId} (i : Nat) (HF : FrD D N a F) (HO : Own w0 w L) (hi : L[i]? = some (Chunk.blk g (.cells cs T (0, 0)))) (hw : Region.wanted o (yielded ops a.tmps) = true) (hd : o.dst = none) (hrun : Skips P o a w (w.setCell ⟨g, j, none⟩ v))
    (k : ∀ a' w1, FrD D N a' F → Own w0 w1 (L.set i (Chunk.blk g (.cells (cs.setIfInBounds j v) T (0, 0)))) → wpList P ops Q rest a' w1) : wpList P ops Q (o :: rest) a w :=
  gw_skip HF hw hd hrun fun a' HF' => k a' _ HF' (HO.setBlk i hi j v)
/-! a region that draws its order -/
theorem gq_ev (HF : FrD D N a F) (hw : Region.wanted o (yielded ops a.tmps) = true) (hd : o.dst = some d) (hN : d < N) (hrun : ∀ w, C w → Runs P o a w v w) (k : ∀ a', FrD D N a' ((d, v) :: F) → wpQuiet P ops C Q' rest a') : wpQuiet P ops C Q' (o :: rest) a := by
  refine wpQuiet_step fun K hK => ?_
  rw [if_pos hw]
  refine ⟨v, fun w hC => ?_, ?_⟩
  · unfold Oper.quietAt
    rw [hrun w hC]
    exact ⟨rfl, rfl⟩
  · rw [hd]
    exact hK _ (k _ (HF.put hN v))
theorem gq_call {f : FuncId} {args : Array Value} (HF : FrD D N a F) (hw : Region.wanted o (yielded ops a.tmps) = true) (hd : o.dst = some d) (hN : d < N) (hen : ∀ w, C w → Enters P o a w f args) (hc : ∀ w, C w → Calls P f args w (fun e w' => e = .returned v ∧ C w')) (k : ∀ a', FrD D N a' ((d, v) :: F) → wpQuiet P ops C Q' rest a') : wpQuiet P ops C Q' (o :: rest) a := by
  refine wpQuiet_step fun K hK => ?_
  rw [if_pos hw]
  refine ⟨v, fun w hC => ?_, ?_⟩
  · unfold Oper.quietAt
    rw [hen w hC]
    exact ⟨rfl, hc w hC⟩
  · rw [hd]
    exact hK _ (k _ (HF.put hN v))
theorem gq_off (HF : FrD D N a F) (hw : Region.wanted o (yielded ops a.tmps) = false) (hd : o.dst = some d) (hN : d < N) (k : ∀ a', FrD D N a' ((d, undef) :: F) → wpQuiet P ops C Q' rest a') : wpQuiet P ops C Q' (o :: rest) a := by
  refine wpQuiet_step fun K hK => ?_
  rw [if_neg (by rw [hw]; simp), hd]
  exact hK _ (k _ (HF.put hN undef))
theorem gw_draw {w0 : World} {L : List Chunk} {id : Nat} {l : List Oper} (HO : Own w0 w L) (hm : P.follows .mixedOrders = true) (hB : Region.lexB .any l.toArray = true)
    (h : wpQuiet P l.toArray (fun w => Own w0 w L) (fun a' => ∀ w', Own w0 w' L → Q .normal a' w') l a) : (Code.region id l.toArray true).wp P Q a w :=
  wp_region_quiet (C := fun w => Own w0 w L) hm hB HO.drew (by simpa using h)
/-- The worlds of a region that writes nothing: those above the one at its beginning. -/
theorem gw_drawB {w0 : World} {L : List Chunk} {id : Nat} {l : List Oper} (HO : Own w0 w L) (hm : P.follows .mixedOrders = true) (hB : Region.lexB .any l.toArray = true)
    (h : ∀ w1, Own w0 w1 L → wpQuiet P l.toArray (fun wq => Below w1.heap.size w1 wq) (fun a' => ∀ w', Below w1.heap.size w1 w' → Q .normal a' w') l a) : (Code.region id l.toArray true).wp P Q a w :=
  wp_region_quiet (C := fun wq => Below w.drew.heap.size w.drew wq) hm hB (Below.refl _ _) (by simpa using h _ HO.drew)
theorem below_then {w w1 w2 : World} (h : Below w.heap.size w w1) (h2 : Below w1.heap.size w1 w2) : Below w.heap.size w w2 := (((Own.start w).after h).after h2).below
theorem cellb {w wq : World} {p : Addr} {v : Value} (h : Below w.heap.size w wq) (hc : w.cell? p = some v) : wq.cell? p = some v :=
  (h.cell (World.block_lt_of_cell? w p hc)).trans hc
/-! code -/
theorem gw_cond {x y : Code} {t : Nat} {b : Bool} (HF : FrD D N a F) (hl : look F t = some (.bool b)) (ht : b = true → x.wp P Q a w) (hf : b = false → y.wp P Q a w) : (Code.cond (.tmp t) x y).wp P Q a w :=
  wp_cond_split (HF.ev hl) ht hf
theorem gw_seq {x y : Code} (h : ∀ K : Act → World → Prop, (∀ a w, y.wp P Q a w → K a w) → x.wp P (Exit.then K Q) a w) : (Code.seq x y).wp P Q a w := wp_seq_k h
theorem gw_in {id : Nat} {a : Act} {w : World} (h : Q .normal a w) : Exit.inBlock id Q (.exit id) a w := by
  show (if id = id then Q .normal a w else Q (.exit id) a w)
  rw [if_pos rfl]
  exact h
theorem gw_out {id id' : Nat} {a : Act} {w : World} (hne : id' ≠ id) (h : Q (.exit id') a w) : Exit.inBlock id Q (.exit id') a w := by
  show (if id' = id then Q .normal a w else Q (.exit id') a w)
  rw [if_neg hne]
  exact h
theorem gw_loop {c : Code} (J : Nat → Act → World → Prop) (n : Nat) (h0 : J n a w) (round : ∀ n a w, J n a w → c.wp P (Exit.then (fun a' w' => ∃ m, m < n ∧ J m a' w') Q) a w) : (Code.loop c).wp P Q a w := by
  have least : ∀ a w, (∃ n, J n a w) → ∃ n, J n a w ∧ ∀ m, J m a w → n ≤ m := by
    intro a w ⟨n, hn⟩
    induction n using Nat.strongRecOn with
    | _ n ih =>
      by_cases h : ∃ m, m < n ∧ J m a w
      · obtain ⟨m, hm, hj⟩ := h
        exact ih m hm hj
      · exact ⟨n, hn, fun m hm => Nat.le_of_not_lt fun hlt => h ⟨m, hlt, hm⟩⟩
  classical
  refine wp_loop (fun a w => ∃ n, J n a w) (fun a w => if h : ∃ n, J n a w then (least a w h).choose else 0) ⟨n, h0⟩ fun a w hI => ?_
  have hc := (least a w hI).choose_spec
  refine Code.wp_mono ?_ (round _ a w hc.1)
  intro e a' w' hq
  cases e with
  | normal =>
    obtain ⟨m, hm, hj⟩ := hq
    have hI' : ∃ n, J n a' w' := ⟨m, hj⟩
    refine ⟨hI', ?_⟩
    have hc' := (least a' w' hI').choose_spec
    rw [dif_pos hI', dif_pos hI]
    exact Nat.lt_of_le_of_lt (hc'.2 m hj) hm
  | _ => exact hq
end
/-! entering and leaving -/
section
variable {D : List Deferred} {P : Program} {fn : Func} {R : Ending → World → Prop} {N : Nat} {a : Act} {F : List (Nat × Value)} {w : World}
def ixs : Nat → List Value → List (Nat × Value)
  | _, [] => []
  | k, v :: vs => (k, v) :: ixs (k + 1) vs
theorem look_ixs : ∀ (vs : List Value) (k t : Nat) (v : Value), look (ixs k vs) t = some v → ∃ j, t = k + j ∧ vs[j]? = some v
  | [], k, t, v, h => by simp [ixs, look] at h
  | u :: vs, k, t, v, h => by
    unfold ixs look at h
    by_cases e : k = t
    · subst e
      rw [Nat.beq_refl] at h
      exact ⟨0, rfl, h⟩
    · have : Nat.beq k t = false := by
        rw [Bool.eq_false_iff]
        exact fun h2 => e (Nat.eq_of_beq_eq_true h2)
      rw [this] at h
      obtain ⟨j, h1, h2⟩ := look_ixs vs (k + 1) t v h
      exact ⟨j + 1, by omega, h2⟩
theorem Fr.start (vs : List Value) (n : Nat) (h : vs.length ≤ n) : Fr n { tmps := vs.toArray ++ Array.replicate (n - vs.toArray.size) undef, defers := [] } (ixs 0 vs) := by
  refine ⟨rfl, by simp; omega, fun t v hl => ?_⟩
  obtain ⟨j, rfl, hj⟩ := look_ixs vs 0 t v hl
  rw [Nat.zero_add, Array.getElem?_append_left (by simpa using (List.getElem?_eq_some_iff.1 hj).1)]
  simpa using hj
theorem gw_start {f : FuncId} {c : Code} {vs : List Value} (hf : P.funcs[f]? = some fn) (hb : fn.body = some c) (hn : fn.ntmps = N) (hl : vs.length ≤ N)
    (h : ∀ a, Fr N a (ixs 0 vs) → Own w w [] → c.wp P (bodyPost P fn R) a w) : Calls P f vs.toArray w R := by
  refine calls_of_wp hf hb ?_
  rw [hn]
  exact h _ (Fr.start vs N hl) (Own.start w)
theorem gw_ret1 {t : Nat} {v : Value} (HF : Fr N a F) (hr : fn.results = #[.tmp t]) (hl : look F t = some v) (h : R (.returned v) w) : bodyPost P fn R .ret a w := by
  have := results_tmp (P := P) hr a.tmps w
  refine bodyPost_ret (v := v) ?_ HF.defers h
  have he := HF.ev hl
  rw [this]
  exact congrArg (fun v => Result.ok v w) he
theorem gw_ret2 {t u : Nat} {v v' : Value} (HF : Fr N a F) (hr : fn.results = #[.tmp t, .tmp u]) (hl : look F t = some v) (hl' : look F u = some v') (h : R (.returned (.tuple #[v, v'])) w) : bodyPost P fn R .ret a w := by
  have := results_tmp2 hr a.tmps P w
  refine bodyPost_ret (v := .tuple #[v, v']) ?_ HF.defers h
  have he : a.tmps.getD t undef = v := HF.ev hl
  have he' : a.tmps.getD u undef = v' := HF.ev hl'
  rw [this, he, he']
theorem gw_end0 (HF : Fr N a F) (hr : fn.results = #[]) (h : R (.returned (.tuple #[])) w) : bodyPost P fn R .normal a w :=
  bodyPost_end (results_none hr a.tmps P w) HF.defers h
theorem gw_ret0 (HF : Fr N a F) (hr : fn.results = #[]) (h : R (.returned (.tuple #[])) w) : bodyPost P fn R .ret a w :=
  bodyPost_ret (results_none hr a.tmps P w) HF.defers h
end
/-! more words -/
section
variable {D : List Deferred} {N d : Nat} {a : Act} {F : List (Nat × Value)} {v v' : Value} {t b : Bool}
theorem FrD.lit (h : FrD D N a ((d, .bool t) :: F)) (e : t = b) : FrD D N a ((d, .bool b) :: F) := e ▸ h
theorem FrD.conv (h : FrD D N a ((d, v) :: F)) (e : v = v') : FrD D N a ((d, v') :: F) := e ▸ h
theorem FrD.subst_ (h : FrD D N a F) (hl : look F d = some (.bool t)) (e : t = b) : FrD D N a ((d, .bool b) :: F) := h.pick (e ▸ hl) h
end
section
variable {P : Program} {K : Act → World → Prop} {Q : Exit → Act → World → Prop} {a : Act} {w : World} {id : Nat}
theorem gw_nx (h : K a w) : Exit.then K Q .normal a w := h
theorem gw_blk (h : Q .normal a w) : Exit.inBlock id Q .normal a w := h
theorem gw_thx {id' : Nat} (h : Q (.exit id') a w) : Exit.then K Q (.exit id') a w := h
theorem gw_thr (h : Q .ret a w) : Exit.then K Q .ret a w := h
theorem gw_blr (h : Q .ret a w) : Exit.inBlock id Q .ret a w := h
end
theorem pw_sel {R : Chunk → Chunk → Prop} (hs : ∀ a b, R a b → R b a) {L : List Chunk} (h : L.Pairwise R) : ∀ (is : List Nat), is.Nodup → (is.filterMap (L[·]?)).Pairwise R
  | [], _ => List.Pairwise.nil
  | i :: is, hn => by
    have hn' := List.nodup_cons.1 hn
    have ih := pw_sel hs h is hn'.2
    cases hi : L[i]? with
    | none => rw [List.filterMap_cons_none hi]; exact ih
    | some c =>
      rw [List.filterMap_cons_some hi]
      refine List.pairwise_cons.2 ⟨fun d hd => ?_, ih⟩
      obtain ⟨j, hj, hjd⟩ := List.mem_filterMap.1 hd
      exact pw_mid hs h i j c d (fun e => hn'.1 (e ▸ hj)) hi hjd
theorem Own.sel {w0 w : World} {L : List Chunk} (h : Own w0 w L) (is : List Nat) (hn : is.Nodup) : Own w0 w (is.filterMap (L[·]?)) := by
  have mem : ∀ c, c ∈ is.filterMap (L[·]?) → c ∈ L := fun c hc => by
    obtain ⟨j, _, hj⟩ := List.mem_filterMap.1 hc
    exact List.mem_of_getElem? hj
  exact ⟨h.below, fun c hc => h.holds c (mem c hc), fun c hc => h.inside c (mem c hc), pw_sel ap_symm h.apart is hn⟩
theorem Own.cell0 {w0 w : World} {L : List Chunk} (h : Own w0 w L) {p : Addr} {v : Value} (hc : w0.cell? p = some v) : w.cell? p = some v :=
  (h.below.cell (World.block_lt_of_cell? w0 p hc)).trans hc
theorem at0 {w : World} {ad : Addr} {m : Nat} {cs : List Value} {v : Value} (h : ∀ j u, cs[j]? = some u → w.cell? (ad.add (m + j)) = some u) (hv : cs[0]? = some v := by rfl) : w.cell? (ad.add m) = some v := h 0 v hv
theorem cells0 {w0 w : World} {L : List Chunk} (ho : Own w0 w L) {ad : Addr} {m : Nat} {cs : List Value} (h : ∀ j u, cs[j]? = some u → w0.cell? (ad.add (m + j)) = some u) : ∀ j u, cs[j]? = some u → w.cell? ((ad.add m).add j) = some u :=
  fun j u hj => by rw [add_add]; exact ho.cell0 (h j u hj)
theorem blk_at {w : World} {g j : Nat} {T : TypeId} {cs : Array Value} {v : Value} (h : w.heap[g]? = some (.cells cs T (0, 0))) (hv : cs[j]? = some v) : w.cell? ⟨g, j, none⟩ = some v := (blk_cell h j).trans hv
theorem blkf {w : World} {g j : Nat} {T : TypeId} {cs : Array Value} (h : w.heap[g]? = some (.cells cs T (0, 0))) : w.frozen? ⟨g, j, none⟩ = false := blk_frozen h j
section
variable {k : IntKind} {e base c : Nat} {S : Nat → Prop} {A : Option Addr} {n : Nat} {xs : List Int} {w : World}
theorem row_cap {α : Type} {d : Kd α} {xs : List α} (h : d.R e w base S (.slice A n c) xs) : xs.length ≤ c := by
  have := Kd.R_reads' h
  omega
theorem row_head {α : Type} {d : Kd α} {xs : List α} (h : d.R e w base S (.slice A n c) xs) (i : Int) (h0 : 0 ≤ i) (h1 : i < xs.length) : ∃ ad, A = some ad := by
  obtain ⟨g, cap, hv, _⟩ := Kd.R_form h (by omega)
  injection hv with hA _ _
  exact ⟨_, hA⟩
theorem row_cell {ad : Addr} (h : (Kd.int k).R e w base S (.slice (some ad) n c) xs) (i : Int) (h0 : 0 ≤ i) (h1 : i < xs.length) : w.cell? (ad.add (i.toNat * 1)) = some (.int k (rd xs i)) ∧ w.frozen? (ad.add (i.toNat * 1)) = false := by
  obtain ⟨g, cap, hv, _⟩ := Kd.R_form h (by omega)
  injection hv with hA hn hc
  injection hA with hA
  subst hA hn hc
  have := Kd.R_cell (0 : Int) h i h0 h1
  rw [Nat.mul_one, add_plain]
  exact this
theorem row_put {ad : Addr} (h : (Kd.int k).R e w base S (.slice (some ad) n c) xs) (i x : Int) (h0 : 0 ≤ i) (h1 : i < xs.length) : (Kd.int k).R e (w.setCell (ad.add (i.toNat * 1)) (.int k x)) base S (.slice (some ad) n c) (xs.set i.toNat x) ∧ S (ad.add (i.toNat * 1)).block := by
  obtain ⟨g, cap, hv, _⟩ := Kd.R_form h (by omega)
  injection hv with hA hn hc
  injection hA with hA
  subst hA hn hc
  have := Kd.R_put h i x
  rw [Nat.mul_one, add_plain]
  exact ⟨this.1, h.1 g rfl⟩
end
section
variable {P : Program} {o : Oper} {a : Act} {w : World} {x y : Operand} {t yt : TypeId}
theorem op_loadn {g off n : Nat} {cs : Array Value} {T : TypeId} {vs : List Value} (hA : ∀ w, (isAgg t).run P w = .ok true w) (hS : ∀ w, (sizeOf t).run P w = .ok n w) (ho : o.op = .load t x) (hx : a.eval x = .pointer (some ⟨g, off, none⟩)) (hb : w.heap[g]? = some (.cells cs T (0, 0))) (hl : (cs.toList.drop off).take n = vs) (hn : vs.length = n) :
    Runs P o a w (.agg vs.toArray) w := by
  have hr := run_loadCells_list (P := P) (w := w) ⟨g, off, none⟩ vs (fun j v hv => by
    rw [add_at, blk_cell hb, ← Array.getElem?_toList]
    rw [← hl, List.getElem?_take] at hv
    split at hv
    · rwa [List.getElem?_drop] at hv
    · cases hv)
  rw [hn] at hr
  unfold Runs execOp
  simp only [ho, hx]
  simp [Instr.loadAt, Instr.sureAddr, loadVar, hA, hS, hr]
theorem op_loadc {n : Nat} {ad : Addr} {cs : List Value} (hA : ∀ w, (isAgg t).run P w = .ok true w) (hS : ∀ w, (sizeOf t).run P w = .ok n w) (ho : o.op = .load t x) (hx : a.eval x = .pointer (some ad)) (hn : cs.length = n) (hc : ∀ j u, cs[j]? = some u → w.cell? (ad.add j) = some u) :
    Runs P o a w (.agg cs.toArray) w := by
  have hr := run_loadCells_list (P := P) (w := w) ad cs hc
  rw [hn] at hr
  unfold Runs execOp
  simp only [ho, hx]
  simp [Instr.loadAt, Instr.sureAddr, loadVar, hA, hS, hr]
theorem op_storen {g off n : Nat} {cs vs : Array Value} {T : TypeId} (hS : ∀ w, (sizeOf t).run P w = .ok n w) (ho : o.op = .store t x y) (hx : a.eval x = .pointer (some ⟨g, off, none⟩)) (hy : a.eval y = .agg vs) (hb : w.heap[g]? = some (.cells cs T (0, 0))) (hn : vs.size = n) (hle : off + n ≤ cs.size) (h1 : ∀ v ∈ vs.toList, v.oneCell' = true) :
    Skips P o a w (w.setRow g (cs.toList.take off ++ vs.toList ++ cs.toList.drop (off + n)).toArray) := by
  have hr := run_storeCells_at (P := P) g off T vs.toList 0 cs w hb (by simpa [hn] using hle) h1
  simp only [Nat.add_zero, Array.length_toList, hn] at hr
  unfold Skips execOp
  simp only [ho, hx, hy]
  simp [Instr.storeAt, Instr.sureAddr, storeVar, hS, Value.cells, hn, hr]
theorem pt_nil {f : Operand → Value} : ([] : List (Nat × Operand)).map (fun p => (p.1, f p.2)) = [] := rfl
theorem pt_cons {f : Operand → Value} {i : Nat} {x : Operand} {v : Value} {l : List (Nat × Operand)} {r : List (Nat × Value)} (h : f x = v) (k : l.map (fun p => (p.1, f p.2)) = r) : ((i, x) :: l).map (fun p => (p.1, f p.2)) = (i, v) :: r := by rw [List.map_cons, k, h]
theorem op_build {parts : List (Nat × Operand)} {vs : List (Nat × Value)} {cells : Array Value} (ho : o.op = .build t parts.toArray) (hp : parts.map (fun p => (p.1, a.eval p.2)) = vs) (hb : P.built t vs = some cells) : Runs P o a w (.agg cells) w := by
  have hq : parts.toArray.map (fun p => (p.1, a.eval p.2)) = vs.toArray := by rw [List.map_toArray, hp]
  have hr := run_build (P := P) w t vs.toArray cells hb
  unfold Runs execOp
  simp only [ho, hq, Sem.run_bind, hr, Result.andThen_ok, Sem.run_pure]
theorem ar_nil {f : Operand → Value} : ([] : List Operand).map f = [] := rfl
theorem ar_cons {f : Operand → Value} {x : Operand} {v : Value} {l : List Operand} {r : List Value} (h : f x = v) (k : l.map f = r) : (x :: l).map f = v :: r := by rw [List.map_cons, k, h]
theorem op_callL {f : FuncId} {fn : Func} {args : List Operand} {tys : Array TypeId} {vs : List Value} (hf : P.funcs[f]? = some fn) (hname : (fn.name == "runtime.NumGoroutine") = false) (hb : fn.body.isSome = true) (ho : o.op = .call { callee := .value (.func f), args := args.toArray, argTypes := tys }) (hv : args.map a.eval = vs) : Enters P o a w f vs.toArray :=
  op_call hf hname hb ho (by rw [List.map_toArray, hv])
end
section
variable {D : List Deferred} {P : Program} {ops : Array Oper} {Q : Exit → Act → World → Prop} {rest : List Oper} {o : Oper} {N : Nat} {a : Act} {F : List (Nat × Value)} {w w0 : World} {L : List Chunk}
theorem gw_setn {g : Nat} {cs cs' : Array Value} {T : TypeId} (i : Nat) (HF : FrD D N a F) (HO : Own w0 w L) (hi : L[i]? = some (Chunk.blk g (.cells cs T (0, 0)))) (hw : Region.wanted o (yielded ops a.tmps) = true) (hd : o.dst = none) (hrun : Skips P o a w (w.setRow g cs'))
    (k : ∀ a' w1, FrD D N a' F → Own w0 w1 (L.set i (Chunk.blk g (.cells cs' T (0, 0)))) → wpList P ops Q rest a' w1) : wpList P ops Q (o :: rest) a w := by
  have hg : w.heap[g]? = some (.cells cs T (0, 0)) := HO.get i hi
  have hl := (HO.lt i hi (k := g) rfl).2
  refine gw_skip HF hw hd hrun fun a' HF' => k a' _ HF' (HO.calls (cs := []) i hi ?_)
  have hsz : (w.setRow g cs').heap.size = w.heap.size := by simp [World.setRow]
  refine (Out.one (S := fun k => k = g) (c := Chunk.blk g (.cells cs' T (0, 0))) ⟨rfl, rfl, rfl, by rw [hsz]; exact Nat.le_refl _, fun q _ hq => ?_, fun _ h => by simp at h, fun _ h => by simp at h, List.Pairwise.nil⟩ ?_ ?_)
  · have hne : q ≠ g := hq
    simp [World.setRow, Array.getElem?_modify, Ne.symm hne]
  · show (w.setRow g cs').heap[g]? = _
    simp [World.setRow, Array.getElem?_modify, hg]
  · intro q hq
    have : q = g := hq
    subst this
    exact ⟨.inl rfl, by rw [hsz]; exact hl⟩
/-- A store into a row of whole numbers of the call's own. -/
theorem gw_row {k : IntKind} {e base c n : Nat} {S : Nat → Prop} {ad : Addr} {xs : List Int} {t : TypeId} {x y : Operand} {it u : Int} (i : Nat) (HF : FrD D N a F) (HO : Own w0 w L) (hi : L[i]? = some (Chunk.row (Kd.int k) e base S (.slice (some ad) n c) xs)) (hw : Region.wanted o (yielded ops a.tmps) = true) (hd : o.dst = none)
    (hS : ∀ w, (sizeOf t).run P w = .ok 1 w) (h0 : 0 ≤ it) (h1 : it < xs.length) (ho : o.op = .store t x y) (hx : a.eval x = .pointer (some (ad.add (it.toNat * 1)))) (hy : a.eval y = .int k u)
    (kk : ∀ a' w1, FrD D N a' F → Own w0 w1 (L.set i (Chunk.row (Kd.int k) e base S (.slice (some ad) n c) (xs.set it.toNat u))) → wpList P ops Q rest a' w1) : wpList P ops Q (o :: rest) a w := by
  have hR : (Kd.int k).R e w base S (.slice (some ad) n c) xs := HO.get i hi
  have hc := row_cell hR it h0 h1
  have hp := row_put hR it u h0 h1
  refine gw_skip HF hw hd (op_store1 hS ho hx hy rfl hc.1 hc.2) fun a' HF' => kk a' _ HF' (HO.calls (cs := []) i hi ?_)
  refine Out.one (c := Chunk.row (Kd.int k) e base S (.slice (some ad) n c) (xs.set it.toNat u)) ((Out.refl w S).setCell (.inl hp.2) _) hp.1 ?_
  intro q hq
  exact ⟨.inl hq, by have := (HO.lt i hi hq).2; simpa [World.setCell] using this⟩
end
/-! slices -/
section
variable {P : Program} {o : Oper} {a : Act} {w : World} {x y : Operand} {t e : TypeId}
theorem op_conv_str {A : Option Addr} {n c : Nat} {u : TypeId} {xs : List Int} (hs : P.underlying t = some (.slice e)) (he : P.underlying e = some (.int .u8)) (hd : P.underlying u = some .string) (hC : (Kd.int .u8).C w A n xs) (ho : o.op = .convert t u x) (hx : a.eval x = .slice A n c) : Runs P o a w (.string (strOfNums xs)) w := by
  unfold Runs execOp
  simp only [ho, hx, Sem.run_bind, Kd.C_string hs he hd hC, Result.andThen_ok, Sem.run_pure]
theorem op_cut {v u : Value} {lo hi : Option Operand} {lo' hi' : Option Value} (ht : P.underlying t = some (.slice e)) (hr : ∀ W, (Instr.slice t v lo' hi' none).run P W = .ok u W) (ho : o.op = .slice t x lo hi none) (hx : a.eval x = v) (hlo : lo.map a.eval = lo') (hhi : hi.map a.eval = hi') : Runs P o a w u w := by
  have hel : P.elem t = e := by simp [Program.elem, ht]
  have hu : P.underlying t = some (.slice (P.elem t)) := by rw [hel]; exact ht
  unfold Runs execOp
  simp only [ho, hx, hlo, hhi, Option.map_none, Sem.run_bind, run_sliceAt_slice w t v lo' hi' none hu, hr, Result.andThen_ok, Sem.run_pure]
theorem some_ev {z : Operand} {v : Value} (h : a.eval z = v) : (some z).map a.eval = some v := by rw [Option.map_some, h]
variable {α : Type} {d : Kd α}
theorem cut_lo (ht : P.underlying t = some (.slice e)) (hS : ∀ w, (sizeOf e).run P w = .ok d.sz w) (A : Option Addr) (c : Nat) (xs : List α) (hc : xs.length ≤ c) (j : Int) (h0 : 0 ≤ j) (hj : j ≤ xs.length) :
    ∃ A' c', (∀ W : World, (Instr.slice t (.slice A xs.length c) (some (.int .i64 j)) none none).run P W = .ok (.slice A' (xs.drop j.toNat).length c') W) ∧ (xs.drop j.toNat).length ≤ c' ∧ (∀ W, d.C W A xs.length xs → d.C W A' (xs.drop j.toNat).length (xs.drop j.toNat)) ∧ ∀ ad, A' = some ad → ∃ ad0, A = some ad0 ∧ ad.block = ad0.block := by
  have hl : (xs.drop j.toNat).length = xs.length - j.toNat := List.length_drop
  obtain ⟨i, hi, hz⟩ : ∃ i : TypeInfo, P.info? e = some i ∧ i.size = d.sz := by
    have := hS default
    cases h : P.info? e with
    | none => simp [sizeOf, typeInfo, h] at this
    | some i => exact ⟨i, rfl, by simpa [sizeOf, typeInfo, h] using this⟩
  refine ⟨_, c - j.toNat, fun W => ?_, by omega, fun W h => Kd.C_drop h (m := j.toNat) (by omega) hc, fun ad e => ?_⟩
  · rw [hl]
    exact cut_from t e .i64 ht hi d.sz hz A xs.length c j h0 hj W
  · by_cases hcj : c = j.toNat
    · rw [if_pos hcj] at e
      exact ⟨ad, e, rfl⟩
    · rw [if_neg hcj] at e
      cases A with
      | none => cases e
      | some ad0 =>
        refine ⟨ad0, rfl, ?_⟩
        rw [← Option.some.inj e]
        exact add_block _ _
theorem cut_hi (ht : P.underlying t = some (.slice e)) (hS : ∀ w, (sizeOf e).run P w = .ok d.sz w) (A : Option Addr) (c : Nat) (xs : List α) (hc : xs.length ≤ c) (j : Int) (h0 : 0 ≤ j) (hj : j ≤ xs.length) :
    (∀ W : World, (Instr.slice t (.slice A xs.length c) none (some (.int .i64 j)) none).run P W = .ok (.slice A (xs.take j.toNat).length c) W) ∧ (xs.take j.toNat).length ≤ c ∧ ∀ W, d.C W A xs.length xs → d.C W A (xs.take j.toNat).length (xs.take j.toNat) := by
  have hl : (xs.take j.toNat).length = j.toNat := by rw [List.length_take]; omega
  obtain ⟨i, hi, hz⟩ : ∃ i : TypeInfo, P.info? e = some i ∧ i.size = d.sz := by
    have := hS default
    cases h : P.info? e with
    | none => simp [sizeOf, typeInfo, h] at this
    | some i => exact ⟨i, rfl, by simpa [sizeOf, typeInfo, h] using this⟩
  refine ⟨fun W => ?_, by omega, fun W h => Kd.C_take h (by omega)⟩
  rw [hl]
  exact cut_to t e .i64 ht hi A xs.length c j h0 hj hc W
end
section
variable {D : List Deferred} {P : Program} {ops : Array Oper} {Q : Exit → Act → World → Prop} {rest : List Oper} {o : Oper} {N dd : Nat} {a : Act} {F : List (Nat × Value)} {w w0 : World} {L : List Chunk} {α : Type}
theorem gw_unguard (hw : Region.wanted o (yielded ops a.tmps) = true) (h : wpList P ops Q ({ o with guard := none } :: rest) a w) : wpList P ops Q (o :: rest) a w := by
  have hw2 : Region.wanted { o with guard := none } (yielded ops a.tmps) = true := want_none rfl
  unfold wpList at h ⊢
  rw [if_pos hw2] at h
  rw [if_pos hw]
  exact h
/-- append(v, ys...), v a row of the call's own. -/
theorem gw_append (d : Kd α) {e base : Nat} {S : Nat → Prop} {A B : Option Addr} {c m cc : Nat} {xs ys : List α} {s x : Operand} {t : TypeId} {z : Value} {bytes : Nat} (i : Nat) (HF : FrD D N a F) (HO : Own w0 w L) (hw : Region.wanted o (yielded ops a.tmps) = true) (hd : o.dst = some dd) (hN : dd < N)
    (ho : o.op = .call { callee := .builtin .append, args := #[s, x], argTypes := #[t, t] })
    (ht : P.underlying t = some (.slice e)) (hinfo : (P.info? e).map (fun i => (i.zero, i.size, i.bytes)) = some (some z, d.sz, bytes)) (hz : z.cells.size = d.sz) (hs0 : 0 < d.sz) (hb0 : 0 < bytes)
    (hi : L[i]? = some (Chunk.row d e base S (.slice A xs.length c) xs)) (hs : a.eval s = .slice A xs.length c) (hx : a.eval x = .slice B m cc) (hC : d.C w B m ys)
    (hKM : ∀ x cs, d.K w x cs → d.M w base (fun _ => False) x cs) (hbase : base ≤ w.heap.size) (hl : (xs.length + m) * bytes ≤ 140737488355328)
    (k : ∀ A' c' S' a' w1, FrD D N a' ((dd, .slice A' (xs ++ ys).length c') :: F) → Own w0 w1 (L.set i (Chunk.row d e base S' (.slice A' (xs ++ ys).length c') (xs ++ ys))) → wpList P ops Q rest a' w1) : wpList P ops Q (o :: rest) a w := by
  have hR : d.R e w base S (.slice A xs.length c) xs := HO.get i hi
  refine gw_unguard hw ?_
  refine Kd.R_append_rows d (Rr := d.K w) (w0 := w) base rfl s x t e z bytes ho ht hinfo hz hs0 hb0 _ xs ys B m cc (fun k => S k ∨ w.heap.size ≤ k) (fun _ => False) hs hx (Kd.R_mono hR (fun k hk => .inl hk)) hC hKM (fun _ hk => hk.elim) (fun k hk => .inr hk) (Below.refl _ _) hbase hl ?_
  intro v1 w1 h1 _ hgr _
  obtain ⟨A', c', rfl⟩ := Kd.R_slice h1
  show wpList P ops Q rest (a.put o.dst _) w1
  rw [hd]
  refine k A' c' (fun k => S k ∨ w.heap.size ≤ k ∧ k < w1.heap.size) _ w1 (HF.put hN _) (HO.calls (cs := []) i hi ?_)
  refine Out.one ((Out.refl w S).grown hgr (fun k e => .inl (hR.1 k e))) ?_ ?_
  · exact Kd.R_mono (Kd.R_bound h1) (fun k hk => hk.1.elim .inl (fun h => .inr ⟨h, hk.2.2.1⟩))
  · intro k hk
    rcases hk with hk | hk
    · exact ⟨.inl hk, Nat.lt_of_lt_of_le (HO.lt i hi hk).2 hgr.size⟩
    · exact ⟨.inr hk.1, hk.2⟩
/-- A literal row of scalars. -/
theorem gw_lit {enc : α → Value} (h1 : ∀ x, (enc x).oneCell' = true) {e : Nat} {xs : List α} (HF : FrD D N a F) (HO : Own w0 w L) (hw : Region.wanted o (yielded ops a.tmps) = true) (hd : o.dst = some dd) (hN : dd < N)
    (hrun : Runs P o a w (.slice (some ⟨w.heap.size, 0, none⟩) xs.length xs.length) (w.alloc (.cells (encs enc xs).toArray e (0, 0)))) (hm : xs.length ≤ 9223372036854775807)
    (k : ∀ A S a' w1, FrD D N a' ((dd, .slice A xs.length xs.length) :: F) → Own w0 w1 (Chunk.row (Kd.scalar enc h1) e w0.heap.size S (.slice A xs.length xs.length) xs :: L) → wpList P ops Q rest a' w1) : wpList P ops Q (o :: rest) a w := by
  refine gw_ev HF hw hd hN hrun fun a' HF' => k _ (fun q => w.heap.size ≤ q ∧ q < (w.alloc (.cells (encs enc xs).toArray e (0, 0))).heap.size) a' _ HF' ?_
  have hb := below_alloc (Below.refl w.heap.size w) (.cells (encs enc xs).toArray e (0, 0))
  have ho := own_lit_of (enc := enc) w w0.heap.size e xs HO.below.size hm
  have hR : (Kd.scalar enc h1).R e (w.alloc (.cells (encs enc xs).toArray e (0, 0))) w0.heap.size (fun q => w.heap.size ≤ q ∧ q < (w.alloc (.cells (encs enc xs).toArray e (0, 0))).heap.size) (.slice (some ⟨w.heap.size, 0, none⟩) xs.length xs.length) xs :=
    Kd.R_of_own ho (fun q hq => by
      have : w.heap.size = q := by simpa [Value.ownBlock] using hq
      subst this
      exact ⟨Nat.le_refl _, by simp⟩)
  refine HO.fresh (cs := [_]) ⟨hb.os, hb.tape, hb.output, hb.size, fun k hk _ => hb.block k hk, fun c hc => ?_, fun c hc q hq => ?_, List.pairwise_singleton _ _⟩
  · rw [List.mem_singleton.1 hc]
    exact hR
  · rw [List.mem_singleton.1 hc] at hq
    exact ⟨.inr hq.1, hq.2⟩
end
section
variable {D : List Deferred} {P : Program} {ops : Array Oper} {Q : Exit → Act → World → Prop} {rest : List Oper} {o o2 : Oper} {N d d2 : Nat} {a : Act} {F : List (Nat × Value)} {w w0 : World} {L : List Chunk} {t e : TypeId}
theorem op_bslice {n : Nat} {parts : List (Nat × Operand)} {vs : List (Nat × Value)} {v : Value} {w1 : World} (hr : (Instr.buildSlice t n vs.toArray).run P w = .ok v w1) (ho : o.op = .buildSlice t n parts.toArray) (hp : parts.map (fun p => (p.1, a.eval p.2)) = vs) : Runs P o a w v w1 := by
  have hq : parts.toArray.map (fun p => (p.1, a.eval p.2)) = vs.toArray := by rw [List.map_toArray, hp]
  unfold Runs execOp
  simp only [ho, hq, Sem.run_bind, hr, Result.andThen_ok, Sem.run_pure]
theorem blkC {g : Nat} {xs : List Int} {fr : Nat × Nat} (h : w.heap[g]? = some (.cells (nums .u8 xs).toArray e fr)) (hm : xs.length ≤ 9223372036854775807) : (Kd.int .u8).C w (some ⟨g, 0, none⟩) xs.length xs := by
  refine Kd.C_of_reads (d := (0 : Int)) (h1 := fun _ => rfl) ⟨rfl, hm, fun _ => ⟨_, rfl, fun j hj => ?_⟩⟩
  rw [add_plain, cell_of_row w g j _ e fr h]
  simp [nums, List.getElem?_eq_getElem hj, List.getD_eq_getElem?_getD]
/-- []byte("..") -/
theorem gw_bytes {xs : List Int} (ht : P.underlying t = some (.slice e)) (he : P.underlying e = some (.int .u8)) (HF : FrD D N a F) (HO : Own w0 w L) (hw : Region.wanted o (yielded ops a.tmps) = true) (hd : o.dst = some d) (hN : d < N)
    (hrun : Runs P o a w (.slice (some ⟨w.heap.size, 0, none⟩) xs.length xs.length) (w.alloc (.cells (nums .u8 xs).toArray e (0, 0))))
    (hw2 : ∀ a', FrD D N a' ((d, .slice (some ⟨w.heap.size, 0, none⟩) xs.length xs.length) :: F) → Region.wanted o2 (yielded ops a'.tmps) = true) (hd2 : o2.dst = some d2) (hN2 : d2 < N) (ho2 : o2.op = .convert t t (.tmp d))
    (k : ∀ g a' w1, FrD D N a' ((d2, .slice (some ⟨g, 0, none⟩) xs.length xs.length) :: (d, .slice (some ⟨g, 0, none⟩) xs.length xs.length) :: F) → Own w0 w1 (Chunk.blk g (.cells (nums .u8 xs).toArray e (xs.length, xs.length + 1)) :: L) → wpList P ops Q rest a' w1) : wpList P ops Q (o :: o2 :: rest) a w := by
  refine gw_ev HF hw hd hN hrun fun a1 HF1 => ?_
  have hl : look ((d, Value.slice (some ⟨w.heap.size, 0, none⟩) xs.length xs.length) :: F) d = some (.slice (some ⟨w.heap.size, 0, none⟩) xs.length xs.length) := by
    show (bif Nat.beq d d then _ else _) = _
    rw [Nat.beq_refl]
    rfl
  have hx := HF1.ev hl
  have hcv := Lib.run_convert_bytes_const (P := P) w t e (nums .u8 xs).toArray xs.length xs.length ht he
  have hsz : (nums .u8 xs).toArray.size = xs.length := by simp [nums]
  rw [hsz] at hcv
  have hrun2 : Runs P o2 a1 (w.alloc (.cells (nums .u8 xs).toArray e (0, 0))) (.slice (some ⟨w.heap.size, 0, none⟩) xs.length xs.length) (w.alloc (.cells (nums .u8 xs).toArray e (xs.length, xs.length + 1))) := by
    unfold Runs execOp
    simp only [ho2, hx, Sem.run_bind, hcv, Result.andThen_ok, Sem.run_pure]
  exact gw_ev HF1 (hw2 a1 HF1) hd2 hN2 hrun2 fun a2 HF2 => k _ a2 _ HF2 (HO.new _)
end
theorem Own.mapc {w0 w : World} {L : List Chunk} {c c' : Chunk} (h : Own w0 w L) (i : Nat) (hi : L[i]? = some c) (hS : ∀ k, c'.S k → c.S k) (hP : ∀ w, c.P w → c'.P w) : Own w0 w (L.set i c') := by
  refine h.calls (cs := []) i hi (Out.one (Out.refl w _) (hP w (h.get i hi)) fun k hk => ⟨.inl (hS k hk), (h.lt i hi (hS k hk)).2⟩)
theorem Own.lowrow {α : Type} {d : Kd α} {e base base' : Nat} {S : Nat → Prop} {v : Value} {xs : List α} {w0 w : World} {L : List Chunk} (h : Own w0 w L) (i : Nat) (hi : L[i]? = some (Chunk.row d e base S v xs)) (hb : base' ≤ base) : Own w0 w (L.set i (Chunk.row d e base' S v xs)) :=
  h.mapc i hi (fun _ hk => hk) (fun _ hr => Kd.R_lower hr hb)
section
end
theorem row_in {α : Type} {d : Kd α} {e base n c : Nat} {S : Nat → Prop} {A : Option Addr} {xs : List α} {w : World} (h : d.R e w base S (.slice A n c) xs) {ad : Addr} (e1 : A = some ad) : S ad.block := by
  subst e1
  exact h.1 ad.block (by simp [Value.ownBlock])
section
end
theorem arg_out {k : IntKind} {A : Option Addr} {n : Nat} {xs : List Int} {w0 w : World} {L : List Chunk} {c : Chunk} (HO : Own w0 w L) (hC : (Kd.int k).C w0 A n xs) (i : Nat) (hi : L[i]? = some c) : 0 < n → ∀ ad, A = some ad → ¬ c.S ad.block := by
  intro hn ad e hS
  have hr := (Kd.reads_of_C (d := (0 : Int)) (h1 := fun _ => rfl) hC : ReadsOf (Value.int k) (0 : Int) w0 A n xs)
  obtain ⟨ad', e', hc⟩ := hr.2.2 hn
  rw [e] at e'
  injection e' with e'
  subst e'
  have h1 := World.block_lt_of_cell? w0 _ (hc 0 hn)
  rw [add_block] at h1
  have := (HO.lt i hi hS).1
  omega
section
end
end Go.Proofs.Ytkdahjnmldeklaa.PA
