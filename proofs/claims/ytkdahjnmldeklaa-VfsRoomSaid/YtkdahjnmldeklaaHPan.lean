/- Panics that pass through, function values, interface values; drawn regions whose calls may panic. -/
import Derived.Test.YtkdahjnmldeklaaHLazy
import Derived.Recover
namespace Go.Proofs.Ytkdahjnmldeklaa.PA
open Go.RowKit Go.Proofs.YtkdahjnmldeklaaW.PrintWords Go.Proofs.YtkdahjnmldeklaaW.PrintLast Go.Proofs.YtkdahjnmldeklaaW.PrintMore
set_option linter.unusedVariables false
set_option linter.unusedSimpArgs false
section
variable {P : Program} {o : Oper} {a : Act} {w : World} {x y z : Operand} {t yt : TypeId} {v : Value}
theorem op_func {f : FuncId} {caps : List Operand} {vs : List Value} (ho : o.op = .makeFunc (.func f) #[] caps.toArray) (hc : caps.map a.eval = vs) : Runs P o a w (.func (.func f) #[] vs.toArray) w := by
  unfold Runs execOp
  simp only [ho]
  simp [go_sem, Instr.makeFunc, hc]
theorem op_iface (hu : ∀ w, (Instr.makeInterface t v).run P w = .ok (.iface t v) w) (ho : o.op = .makeInterface t x) (hx : a.eval x = v) : Runs P o a w (.iface t v) w := by
  unfold Runs execOp
  simp only [ho, hx, Sem.run_bind, hu, Result.andThen_ok, Sem.run_pure]
theorem panics_ {t : TypeId} {v : Value} (ho : o.op = .panic x) (hx : a.eval x = .iface t v) : (execOp a.eval o).run P w = .halt (.panic (.iface t v)) w := by
  unfold execOp
  simp only [ho, hx]
  rfl
theorem op_callV {f : FuncId} {fn : Func} {c : Operand} {args : List Operand} {tys : Array TypeId} {vs caps : List Value} (hf : P.funcs[f]? = some fn) (hname : (fn.name == "runtime.NumGoroutine") = false) (hb : fn.body.isSome = true) (ho : o.op = .call { callee := .value c, args := args.toArray, argTypes := tys }) (hc : a.eval c = .func (.func f) #[] caps.toArray) (hv : args.map a.eval = vs) : Enters P o a w f (vs ++ caps).toArray := by
  have he := enters_ hf hname hb (vs ++ caps).toArray w
  unfold Enters execOp
  simp [ho, resolve, Deferred.ofValue, invoke, hc, hv, he]
end
section
variable {D : List Deferred} {P : Program} {ops : Array Oper} {Q : Exit → Act → World → Prop} {K : Act → World → Prop} {rest : List Oper} {o : Oper} {N d id : Nat} {a : Act} {F : List (Nat × Value)} {w w1 : World} {v : Value} {c : List PanicEntry}
theorem gw_panic (hw : Region.wanted o (yielded ops a.tmps) = true) (hr : (execOp a.eval o).run P w = .halt (.panic v) w) (h : Q (.panic [{ v, recovered := false }]) a w) : wpList P ops Q (o :: rest) a w := by
  refine wpList_step fun K hK => ?_
  rw [if_pos hw]
  unfold Oper.wp
  rw [hr, Oper.upon_panic]
  exact h
theorem gw_thp (h : Q (.panic c) a w) : Exit.then K Q (.panic c) a w := h
theorem gw_blp (h : Q (.panic c) a w) : Exit.inBlock id Q (.panic c) a w := h
theorem gw_pap (h : Q (.panic c) a w) : Patch K Q (.panic c) a w := h
theorem gw_pan {fn : Func} {R : Ending → World → Prop} (HF : Fr N a F) (h : R (.panicked c) w) : bodyPost P fn R (.panic c) a w := ⟨HF.defers, h⟩
/-- A call that hands back or panics. -/
theorem gw_callP {f : FuncId} {args : Array Value} {R : Ending → World → Prop} (HF : FrD D N a F) (hw : Region.wanted o (yielded ops a.tmps) = true) (hd : o.dst = some d) (hN : d < N) (hen : Enters P o a w f args) (hc : Calls P f args w R)
    (k : ∀ e w', R e w' → (∃ v, e = .returned v ∧ ∀ a', FrD D N a' ((d, v) :: F) → wpList P ops Q rest a' w') ∨ (∃ c, e = .panicked c ∧ Q (.panic c) a w')) : wpList P ops Q (o :: rest) a w := by
  refine wpList_step fun K hK => ?_
  rw [if_pos hw]
  unfold Oper.wp
  rw [hen, Oper.upon_enter]
  refine hc.mono fun e w'' hh => ?_
  rcases k e w'' hh with ⟨v, rfl, hk⟩ | ⟨c, rfl, hk⟩
  · show K (a.put o.dst v) w''
    rw [hd]
    exact hK _ _ (hk _ (HF.put hN v))
  · exact hk
/-- A region's post does not look at the frame where a panic passes. -/
def Blind (Q : Exit → Act → World → Prop) : Prop := ∀ c (a : Act) (d : Option Nat) (v : Value) w, Q (.panic c) (a.put d v) w → Q (.panic c) a w
theorem bl_then (h : Blind Q) : Blind (Exit.then K Q) := fun c a d v w k => h c a d v w k
theorem bl_blk (h : Blind Q) : Blind (Exit.inBlock id Q) := fun c a d v w k => h c a d v w k
theorem bl_body {fn : Func} {R : Ending → World → Prop} : Blind (bodyPost P fn R) := fun c a d v w k => by
  refine ⟨?_, k.2⟩
  have := k.1
  cases d <;> exact this
end
section
variable {D : List Deferred} {P : Program} {ops : Array Oper} {Q : Exit → Act → World → Prop} {B : Nat → Bool} {N d j dj : Nat} {a : Act} {F : List (Nat × Value)} {w0 w : World} {L M : List Chunk} {v u : Value} {o oj : Oper} {b g : Bool}
theorem gp_draw {id : Nat} {l : List Oper} {M : List Chunk} (B : Nat → Bool) (HO : Own w0 w L) (hm : P.follows .mixedOrders = true)
    (h : ∀ w', Own w0 w' L → wpX P .any l.toArray Q (Held w0 M) B l.length (Array.replicate l.length false) a w') : (Code.region id l.toArray true).wp P Q a w :=
  wp_region_any hm (wpAny_of_X _ _ _ _ (by simpa using h _ HO.drew))
theorem gp_take {fuel : Nat} {listed : Array Bool} (hQ : Blind Q) (i : Nat) (hi : ops[i]? = some o) (hs : (Region.noSelect ops && ((Region.ready .any ops listed).contains i && (Region.free .any ops listed i && waitedB .any ops B i))) = true) (HF : FrD D N a F) (HO : Own w0 w M)
    (hw : Region.wanted o (yielded ops a.tmps) = true) (hd : o.dst = some d) (hN : d < N) (hrun : ∀ w, Own w0 w M → Runs P o a w v w)
    (k : ∀ a', FrD D N a' ((d, v) :: F) → wpX P .any ops Q (Held w0 M) B fuel (listed.setIfInBounds i true) a' w) : wpX P .any ops Q (Held w0 M) B (fuel + 1) listed a w := by
  simp only [Bool.and_eq_true] at hs
  refine wpX_first (v := v) hi (Region.noSelect_spec hs.1) (fun c a w h => hQ c a _ _ w h) (waitedB_spec hs.2.2.2) fuel listed a w (Region.free_spec hi hs.2.2.1) (by simpa using hs.2.1) (.inl ⟨hw, fun w h => hrun w h⟩) HO ?_
  rw [hd]
  exact k _ (HF.put hN v)
theorem gp_take_off {fuel : Nat} {listed : Array Bool} (hQ : Blind Q) (i : Nat) (hi : ops[i]? = some o) (hs : (Region.noSelect ops && ((Region.ready .any ops listed).contains i && (Region.free .any ops listed i && waitedB .any ops B i))) = true) (HF : FrD D N a F) (HO : Own w0 w M)
    (hw : Region.wanted o (yielded ops a.tmps) = false) (hd : o.dst = some d) (hN : d < N)
    (k : ∀ a', FrD D N a' ((d, undef) :: F) → wpX P .any ops Q (Held w0 M) B fuel (listed.setIfInBounds i true) a' w) : wpX P .any ops Q (Held w0 M) B (fuel + 1) listed a w := by
  simp only [Bool.and_eq_true] at hs
  refine wpX_first (v := undef) hi (Region.noSelect_spec hs.1) (fun c a w h => hQ c a _ _ w h) (waitedB_spec hs.2.2.2) fuel listed a w (Region.free_spec hi hs.2.2.1) (by simpa using hs.2.1) (.inr ⟨hw, rfl⟩) HO ?_
  rw [hd]
  exact k _ (HF.put hN undef)
theorem gp_takeG {fuel : Nat} {listed : Array Bool} (hQ : Blind Q) (i : Nat) (hi : ops[i]? = some o) (hs : (Region.noSelect ops && ((Region.ready .any ops listed).contains i && (Region.free .any ops listed i && waitedB .any ops B i))) = true) (HF : FrD D N a F) (HO : Own w0 w M)
    (hg : o.guard = some (j, b)) (hj : ops[j]? = some oj) (hdj : oj.dst = some dj) (hl : look F dj = some u) (hon : onb b u = g) (hd : o.dst = some d) (hN : d < N) (hrun : g = true → ∀ w, Own w0 w M → Runs P o a w v w)
    (k : ∀ a', FrD D N a' ((d, gv g v) :: F) → wpX P .any ops Q (Held w0 M) B fuel (listed.setIfInBounds i true) a' w) : wpX P .any ops Q (Held w0 M) B (fuel + 1) listed a w := by
  have hw := wanted_on HF hg hj hdj hl
  rw [hon] at hw
  cases g
  · exact gp_take_off hQ i hi hs HF HO hw hd hN k
  · exact gp_take hQ i hi hs HF HO hw hd hN (hrun rfl) k
theorem gp_step {fuel : Nat} {listed : Array Bool} (i : Nat) (hi : ops[i]? = some o) (hr : Region.ready .any ops listed = [i])
    (h : wpList P ops (Patch (fun a' w' => (B i = false → Held w0 M w') ∧ wpX P .any ops Q (Held w0 M) B fuel (listed.setIfInBounds i true) a' w') Q) [o] a w) : wpX P .any ops Q (Held w0 M) B (fuel + 1) listed a w :=
  ⟨fun h0 => (by rw [hr] at h0; cases h0), fun j hj => by
    rw [hr] at hj
    obtain rfl : j = i := by simpa using hj
    exact wpOp_of_list hi h⟩
theorem gp_on {fuel i : Nat} {listed : Array Bool} (h1 : B i = false → Own w0 w M) (h2 : wpX P .any ops Q (Held w0 M) B fuel (listed.setIfInBounds i true) a w) :
    wpList P ops (Patch (fun a' w' => (B i = false → Held w0 M w') ∧ wpX P .any ops Q (Held w0 M) B fuel (listed.setIfInBounds i true) a' w') Q) [] a w := wpList_nil ⟨h1, h2⟩
theorem gp_done {fuel : Nat} {listed : Array Bool} (hr : Region.ready .any ops listed = []) (h : Q .normal a w) : wpX P .any ops Q (Held w0 M) B fuel listed a w := by
  cases fuel with
  | zero => exact ⟨hr, h⟩
  | succ _ => exact ⟨fun _ => h, by rw [hr]; simp⟩
end
/-! defers -/
section
variable {D : List Deferred} {P : Program} {ops : Array Oper} {Q : Exit → Act → World → Prop} {rest : List Oper} {o : Oper} {N : Nat} {a : Act} {F : List (Nat × Value)} {w : World}
theorem FrD.defer (h : FrD D N a F) (d : Deferred) : FrD (d :: D) N { a with defers := d :: a.defers } F := ⟨by rw [h.defers], h.size, h.at_⟩
theorem gw_defer {x : Operand} {tys : Array TypeId} {fn : Fn} {cap : Array Value} (HF : FrD D N a F) (hw : Region.wanted o (yielded ops a.tmps) = true) (hd : o.dst = none) (ho : o.op = .defer { callee := .value x, args := #[], argTypes := tys }) (hx : a.eval x = .func fn #[] cap)
    (k : ∀ a', FrD ({ target := .fn fn cap, args := #[] } :: D) N a' F → wpList P ops Q rest a' w) : wpList P ops Q (o :: rest) a w := by
  have hr : (execOp a.eval o).run P w = .ok (.defer { target := .fn fn cap, args := #[] }) w := by
    unfold execOp
    simp only [ho]
    simp [resolve, Deferred.ofValue, hx]
  refine wpList_step fun K hK => ?_
  rw [if_pos hw]
  unfold Oper.wp
  rw [hr, Oper.upon_defer, hd]
  exact hK _ _ (k _ (HF.defer _))
theorem gw_startD {fn : Func} {R : Ending → World → Prop} {f : FuncId} {c : Code} {vs : List Value} (hf : P.funcs[f]? = some fn) (hb : fn.body = some c) (hn : fn.ntmps = N) (hl : vs.length ≤ N)
    (h : ∀ a, Fr N a (ixs 0 vs) → c.wp P (bodyPostD P fn R) a w) : Calls P f vs.toArray w R := by
  refine calls_of_wp_defers hf hb ?_
  rw [hn]
  exact h _ (Fr.start vs N hl)
theorem gw_dret {fn : Func} {R : Ending → World → Prop} (HF : FrD D N a F) (h : Leaves P fn a.tmps R D .returning w) : bodyPostD P fn R .ret a w := by
  show Leaves P fn a.tmps R a.defers .returning w
  rw [HF.defers]
  exact h
theorem gw_dpan {fn : Func} {R : Ending → World → Prop} {c : List PanicEntry} (HF : FrD D N a F) (h : Leaves P fn a.tmps R D (.panicking c) w) : bodyPostD P fn R (.panic c) a w := by
  show Leaves P fn a.tmps R a.defers (.panicking c) w
  rw [HF.defers]
  exact h
theorem gl_ret1 {fn : Func} {R : Ending → World → Prop} {r1 : ResultVar} {v1 : Value} (hr : fn.results = #[r1]) (h1 : RV P a w r1 v1) (h : R (.returned v1) w) : Leaves P fn a.tmps R [] .returning w := by
  refine ⟨v1, ?_, h⟩
  unfold RV at h1
  rw [results_eq, hr]
  simp [h1]
theorem invoke_fn {f : FuncId} {fn : Func} {cap : Array Value} (hf : P.funcs[f]? = some fn) (hname : (fn.name == "runtime.NumGoroutine") = false) (hb : fn.body.isSome = true) (w : World) : (invoke (.fn (.func f) cap) #[]).run P w = .ok (.enter f cap) w := by
  have he := enters_ hf hname hb (#[] ++ cap) w
  simpa [invoke] using he
end
section
variable {P : Program} {fn : Func} {N d : Nat} {a : Act} {F : List (Nat × Value)} {w : World} {c₀ : Frame} {cs : List Frame} {R : Ending → FrameMode → World → Prop} {u u' : FrameMode}
theorem gs_end0 (HF : Fr N a F) (hr : fn.results = #[]) (h : R (.returned (.tuple #[])) u' w) : bodyPostS P fn c₀ cs R .normal a ({ c₀ with mode := u' } :: cs) w :=
  ⟨HF.defers, u', rfl, _, results_none hr a.tmps P w, h⟩
theorem gs_pan {c : List PanicEntry} (HF : Fr N a F) (h : R (.panicked c) u' w) : bodyPostS P fn c₀ cs R (.panic c) a ({ c₀ with mode := u' } :: cs) w := ⟨HF.defers, u', rfl, h⟩
theorem gs_start {f : FuncId} {c : Code} {vs : List Value} (hf : P.funcs[f]? = some fn) (hb : fn.body = some c) (hn : fn.ntmps = N) (hl : vs.length ≤ N)
    (h : ∀ (c₀ : Frame) (cs : List Frame), c₀.mode = u → ∀ a, Fr N a (ixs 0 vs) → c.wpS P (bodyPostS P fn c₀ cs R) a (c₀ :: cs) w) : CallsD P f vs.toArray u w R := by
  refine callsD_of_wpS hf hb fun c₀ cs hu => ?_
  rw [hn]
  exact h c₀ cs hu _ (Fr.start vs N hl)
/-- What recover hands back in each mode of the frame below, and the mode behind it. -/
def recd : FrameMode → Value × FrameMode
  | .panicking ({ v, recovered := false, goexit := false } :: older) => (v, .panicking ({ v, recovered := true } :: older))
  | u => (.nilIface, u)
theorem recoverD_is (hu : c₀.mode = u) : (match recoverD (c₀ :: cs) with | some p => p | none => (.nilIface, c₀ :: cs)) = ((recd u).1, { c₀ with mode := (recd u).2 } :: cs) := by
  subst hu
  have hc : { c₀ with mode := c₀.mode } = c₀ := rfl
  cases h : c₀.mode with
  | run => simp only [recoverD, recd, h]; rw [← h]
  | returning => simp only [recoverD, recd, h]; rw [← h]
  | panicking chain =>
    cases chain with
    | nil => simp only [recoverD, recd, h]; rw [← h]
    | cons e older =>
      obtain ⟨v, r, g⟩ := e
      cases r <;> cases g <;> simp only [recoverD, recd, h] <;> rw [← h]
theorem gs_recover {id : Nat} {o : Oper} {y : Code} {tys : Array TypeId} {got : Value} {Q : Exit → Act → List Frame → World → Prop} (HF : Fr N a F) (ho : o.op = .call { callee := .builtin .recover, args := #[], argTypes := tys }) (hg : o.guard = none) (hd : o.dst = some d) (hN : d < N) (hu : c₀.mode = u) (hr : recd u = (got, u'))
    (h : ∀ a', Fr N a' ((d, got) :: F) → y.wp P (fun e a' w' => Q e a' ({ c₀ with mode := u' } :: cs) w') a' w) : (Code.seq (.region id #[o] false) y).wpS P Q a (c₀ :: cs) w := by
  have hx : (execOp a.eval o).run P w = .ok .recover w := by
    unfold execOp
    simp only [ho]
    rfl
  refine wpS_seq (wpS_region ?_)
  have hw : Region.wanted o (yielded #[o] a.tmps) = true := by simp [Region.wanted, hg]
  have hl : List.range (#[o] : Array Oper).size = [0] := rfl
  rw [hl]
  simp only [wpOpsS, List.getElem?_toArray, List.getElem?_cons_zero, hw, if_true, hx, hd]
  have key := recoverD_is (c₀ := c₀) (cs := cs) hu
  rw [hr] at key
  cases hrec : recoverD (c₀ :: cs) with
  | none =>
    rw [hrec] at key
    simp only [Prod.mk.injEq] at key
    obtain ⟨rfl, k2⟩ := key
    show Exit.thenS _ _ .normal _ _ _
    refine wpS_of_wp ?_
    rw [k2]
    exact h _ (HF.put hN _)
  | some p =>
    obtain ⟨v, cs'⟩ := p
    rw [hrec] at key
    simp only [Prod.mk.injEq] at key
    obtain ⟨rfl, rfl⟩ := key
    show Exit.thenS _ _ .normal _ _ _
    refine wpS_of_wp ?_
    exact h _ (HF.put hN _)
theorem gs_ops {ops : Array Oper} {cs : List Frame} {Q : Exit → Act → List Frame → World → Prop} (hno : ∀ a w, ¬ Q .outgrown a cs w) : ∀ (l : List Nat) (a : Act) (w : World), wpOps P ops (fun e a w => Q e a cs w) l a w → wpOpsS P ops Q l a cs w
  | [], _, _, h => h
  | i :: l, a, w, h => by
    have ih : ∀ a w, wpOps P ops (fun e a w => Q e a cs w) l a w → wpOpsS P ops Q l a cs w := gs_ops hno l
    unfold wpOps at h
    unfold wpOpsS
    cases ho : ops[i]? with
    | none => simp only [ho] at h ⊢; exact ih _ _ h
    | some o =>
      simp only [ho] at h ⊢
      split
      · rename_i hw
        rw [if_pos hw] at h
        rcases h with h | ⟨_, a2, w2, h⟩
        · unfold Oper.wp at h
          generalize (execOp a.eval o).run P w = r at h
          cases r with
          | ok n w' =>
            cases n <;> simp only [Oper.upon] at h ⊢ <;>
              first
                | exact ih _ _ h
                | exact Calls.mono h (fun e w'' he => by cases e <;> first | exact ih _ _ he | exact he | (obtain ⟨a3, w3, he⟩ := he; exact absurd he (hno _ _)))
                | exact Rows.mono h (fun _ _ he => ih _ _ he)
                | exact h.elim
          | halt x w' => cases x <;> simp only [Oper.upon] at h ⊢ <;> exact h
        · exact absurd h (hno _ _)
      · rename_i hw
        rw [if_neg hw] at h
        exact ih _ _ h
theorem gs_recoverL {id : Nat} {o : Oper} {rest : List Oper} {y : Code} {tys : Array TypeId} {got : Value} {Q : Exit → Act → List Frame → World → Prop} (HF : Fr N a F) (ho : o.op = .call { callee := .builtin .recover, args := #[], argTypes := tys }) (hg : o.guard = none) (hd : o.dst = some d) (hN : d < N) (hu : c₀.mode = u) (hr : recd u = (got, u')) (hno : ∀ a w cs, ¬ Q .outgrown a cs w)
    (h : ∀ K : Act → World → Prop, (∀ a w, y.wp P (fun e a' w' => Q e a' ({ c₀ with mode := u' } :: cs) w') a w → K a w) → ∀ a', Fr N a' ((d, got) :: F) → wpList P (o :: rest).toArray (Exit.then K (fun e a' w' => Q e a' ({ c₀ with mode := u' } :: cs) w')) rest a' w) : (Code.seq (.region id (o :: rest).toArray false) y).wpS P Q a (c₀ :: cs) w := by
  have hx : (execOp a.eval o).run P w = .ok .recover w := by
    unfold execOp
    simp only [ho]
    rfl
  refine wpS_seq (wpS_region ?_)
  have hw : Region.wanted o (yielded (o :: rest).toArray a.tmps) = true := by simp [Region.wanted, hg]
  have hl : List.range (o :: rest).toArray.size = 0 :: List.range' 1 rest.length := by
    simp [List.range_eq_range', List.range'_succ]
  rw [hl]
  have key := recoverD_is (c₀ := c₀) (cs := cs) hu
  rw [hr] at key
  have goon : ∀ a', Fr N a' ((d, got) :: F) → wpOpsS P (o :: rest).toArray (Exit.thenS (y.wpS P Q) Q) (List.range' 1 rest.length) a' ({ c₀ with mode := u' } :: cs) w := fun a' HF' => by
    refine gs_ops (Q := Exit.thenS (y.wpS P Q) Q) (fun a w hh => hno a w _ hh) _ _ _ ?_
    rw [wpOps_eq_wpList rest 1 (fun j => by simp [Nat.add_comm])]
    have h2 := h (fun a w => y.wpS P Q a ({ c₀ with mode := u' } :: cs) w) (fun a w hk => wpS_of_wp hk) a' HF'
    have e : (Exit.then (fun a w => y.wpS P Q a ({ c₀ with mode := u' } :: cs) w) fun e a' w' => Q e a' ({ c₀ with mode := u' } :: cs) w') = (fun e a w => Exit.thenS (y.wpS P Q) Q e a ({ c₀ with mode := u' } :: cs) w) := by
      funext e a w
      cases e <;> rfl
    rw [e] at h2
    exact h2
  unfold wpOpsS
  simp only [List.getElem?_toArray, List.getElem?_cons_zero, hw, if_true, hx, hd]
  cases hrec : recoverD (c₀ :: cs) with
  | none =>
    rw [hrec] at key
    simp only [Prod.mk.injEq] at key
    obtain ⟨rfl, k2⟩ := key
    show wpOpsS P _ _ _ _ (c₀ :: cs) w
    rw [k2]
    exact goon _ (HF.put hN _)
  | some p =>
    obtain ⟨v, cs'⟩ := p
    rw [hrec] at key
    simp only [Prod.mk.injEq] at key
    obtain ⟨rfl, rfl⟩ := key
    exact goon _ (HF.put hN _)
theorem op_tassert {o : Oper} {x : Operand} {t t' : TypeId} {ok : Bool} {v r : Value} (hr : (Instr.typeAssert v t t' ok).run P w = .ok r w) (ho : o.op = .typeAssert x t t' ok) (hx : a.eval x = v) : Runs P o a w r w := by
  unfold Runs execOp
  simp only [ho, hx, Sem.run_bind, hr, Result.andThen_ok, Sem.run_pure]
end
end Go.Proofs.Ytkdahjnmldeklaa.PA
