/- More operations' laws: bits, division, conversions of numbers, strings. -/
import Derived.Test.YtkdahjnmldeklaaHGw
namespace Go.Proofs.Ytkdahjnmldeklaa.PA
open Go.RowKit Go.Proofs.YtkdahjnmldeklaaW.PrintWords Go.Proofs.YtkdahjnmldeklaaW.PrintLast Go.Proofs.YtkdahjnmldeklaaW.PrintMore
set_option linter.unusedVariables false
set_option linter.unusedSimpArgs false
variable {P : Program} {o : Oper} {a : Act} {w : World} {x y : Operand} {t yt : TypeId} {m n : Int} {k k' : IntKind}
theorem op_and (ho : o.op = .binOp .and t x y yt) (hx : a.eval x = .int k m) (hy : a.eval y = .int k n) : Runs P o a w (.int k (bits .and k m n)) w := by
  unfold Runs execOp
  simp only [ho, hx, hy]
  simp [go_sem]
theorem op_or (ho : o.op = .binOp .or t x y yt) (hx : a.eval x = .int k m) (hy : a.eval y = .int k n) : Runs P o a w (.int k (bits .or k m n)) w := by
  unfold Runs execOp
  simp only [ho, hx, hy]
  simp [go_sem]
theorem op_xor (ho : o.op = .binOp .xor t x y yt) (hx : a.eval x = .int k m) (hy : a.eval y = .int k n) : Runs P o a w (.int k (bits .xor k m n)) w := by
  unfold Runs execOp
  simp only [ho, hx, hy]
  simp [go_sem]
theorem op_rem (ho : o.op = .binOp .rem t x y yt) (hx : a.eval x = .int k m) (hy : a.eval y = .int k n) (h0 : n ≠ 0) : Runs P o a w (.int k (m.tmod n)) w := by
  unfold Runs execOp
  simp only [ho, hx, hy]
  simp [go_sem, h0]
theorem op_quo (ho : o.op = .binOp .quo t x y yt) (hx : a.eval x = .int k m) (hy : a.eval y = .int k n) (h0 : n ≠ 0) : Runs P o a w (.int k (k.wrap (m.tdiv n))) w := by
  unfold Runs execOp
  simp only [ho, hx, hy]
  simp [go_sem, h0]
theorem op_shl (ho : o.op = .binOp .shl t x y yt) (hx : a.eval x = .int k m) (hy : a.eval y = .int k' n) (h0 : ¬ n < 0) : Runs P o a w (.int k (k.wrap (m * 2 ^ (min n.toNat k.bits)))) w := by
  unfold Runs execOp
  simp only [ho, hx, hy]
  simp [go_sem, Op.shift, h0]
theorem op_shr (ho : o.op = .binOp .shr t x y yt) (hx : a.eval x = .int k m) (hy : a.eval y = .int k' n) (h0 : ¬ n < 0) : Runs P o a w (.int k (m.fdiv (2 ^ (min n.toNat k.bits)))) w := by
  unfold Runs execOp
  simp only [ho, hx, hy]
  simp [go_sem, Op.shift, h0]
theorem op_conv_int {s d : TypeId} (hs : P.underlying s = some (.int k)) (hd : P.underlying d = some (.int k')) (ho : o.op = .convert s d x) (hx : a.eval x = .int k m) : Runs P o a w (.int k' (k'.wrap m)) w := by
  unfold Runs execOp
  simp only [ho, hx]
  simp [go_sem, hs, hd]
theorem op_adds {s u : ByteArray} (ho : o.op = .binOp .add t x y yt) (hx : a.eval x = .string s) (hy : a.eval y = .string u) (hl : ((s.size + u.size : Nat) : Int) ≤ 9223372036854775807) : Runs P o a w (.string (s ++ u)) w := by
  unfold Runs execOp
  simp only [ho, hx, hy]
  simp [go_sem]
  omega
section
variable {e : TypeId} {α : Type} {d : Kd α}
theorem cut_lh (ht : P.underlying t = some (.slice e)) (hS : ∀ w, (sizeOf e).run P w = .ok d.sz w) (A : Option Addr) (c : Nat) (xs : List α) (hc : xs.length ≤ c) (i j : Int) (h0 : 0 ≤ i) (hij : i ≤ j) (hj : j ≤ xs.length) :
    ∃ A' c', (∀ W : World, (Instr.slice t (.slice A xs.length c) (some (.int .i64 i)) (some (.int .i64 j)) none).run P W = .ok (.slice A' ((xs.drop i.toNat).take (j - i).toNat).length c') W) ∧ ((xs.drop i.toNat).take (j - i).toNat).length ≤ c' ∧ (∀ W, d.C W A xs.length xs → d.C W A' ((xs.drop i.toNat).take (j - i).toNat).length ((xs.drop i.toNat).take (j - i).toNat)) ∧ ∀ ad, A' = some ad → ∃ ad0, A = some ad0 ∧ ad.block = ad0.block := by
  have hl : ((xs.drop i.toNat).take (j - i).toNat).length = (j - i).toNat := by rw [List.length_take, List.length_drop]; omega
  obtain ⟨q, hi, hz⟩ : ∃ i : TypeInfo, P.info? e = some i ∧ i.size = d.sz := by
    have := hS default
    cases h : P.info? e with
    | none => simp [sizeOf, typeInfo, h] at this
    | some i => exact ⟨i, rfl, by simpa [sizeOf, typeInfo, h] using this⟩
  refine ⟨_, c - i.toNat, fun W => ?_, by omega, fun W h => Kd.C_take (Kd.C_drop h (m := i.toNat) (by omega) hc) (by rw [List.length_drop]; omega), fun ad e => ?_⟩
  · rw [hl, show (j - i).toNat = j.toNat - i.toNat by omega]
    exact cut_mid t e .i64 .i64 ht hi d.sz hz A xs.length c i j h0 hij hj hc W
  · by_cases hcj : c = i.toNat
    · rw [if_pos hcj] at e
      exact ⟨ad, e, rfl⟩
    · rw [if_neg hcj] at e
      cases A with
      | none => cases e
      | some ad0 =>
        refine ⟨ad0, rfl, ?_⟩
        rw [← Option.some.inj e]
        exact add_block _ _
end
section
variable {D : List Deferred} {fn : Func} {R : Ending → World → Prop} {N : Nat} {F : List (Nat × Value)} {v v1 v2 v3 v4 : Value} {r1 r2 r3 r4 : ResultVar}
def RVm (tmps : Array Value) : ResultVar → Sem Value
  | .tmp t => pure (tmps.getD t undef)
  | .cell x t => do loadVar t (← asAddr (tmps.getD x undef))
def RV (P : Program) (a : Act) (w : World) (r : ResultVar) (v : Value) : Prop := (RVm a.tmps r).run P w = .ok v w
theorem results_eq (fn : Func) (tmps : Array Value) : results fn tmps = (do
    let vs ← fn.results.mapM (RVm tmps)
    pure (if h : vs.size = 1 then vs[0] else .tuple vs)) := by
  unfold results
  congr 1
theorem rv_tmp {d : Nat} (HF : FrD D N a F) (hl : look F d = some v) : RV P a w (.tmp d) v := by
  unfold RV RVm
  exact congrArg (fun v => Result.ok v w) (HF.ev hl)
theorem rv_cell1 {d : Nat} {ad : Addr} (HF : FrD D N a F) (hl : look F d = some (.pointer (some ad))) (hA : ∀ w, (isAgg t).run P w = .ok false w) (hc : w.cell? ad = some v) : RV P a w (.cell d t) v := by
  have he : a.tmps.getD d undef = .pointer (some ad) := HF.ev hl
  unfold RV RVm
  simp only [he]
  simp [asAddr, loadVar, hA, hc, go_sem]
theorem rv_celln {d g n : Nat} {cs : Array Value} {T : TypeId} (HF : FrD D N a F) (hl : look F d = some (.pointer (some ⟨g, 0, none⟩))) (hA : ∀ w, (isAgg t).run P w = .ok true w) (hS : ∀ w, (sizeOf t).run P w = .ok n w)
    (hb : w.heap[g]? = some (.cells cs T (0, 0))) (hn : cs.size = n) : RV P a w (.cell d t) (.agg cs) := by
  have he : a.tmps.getD d undef = .pointer (some ⟨g, 0, none⟩) := HF.ev hl
  have hr := run_loadCells_list (P := P) (w := w) ⟨g, 0, none⟩ cs.toList (fun j v hv => by
    rw [add_at, blk_cell hb, ← Array.getElem?_toList]
    simpa using hv)
  rw [Array.length_toList, hn] at hr
  unfold RV RVm
  simp only [he]
  simp [asAddr, loadVar, hA, hS, hr]
theorem gw_rets1 (HF : Fr N a F) (hr : fn.results = #[r1]) (h1 : RV P a w r1 v1) (h : R (.returned v1) w) : bodyPost P fn R .ret a w := by
  refine bodyPost_ret (v := v1) ?_ HF.defers h
  unfold RV at h1
  rw [results_eq, hr]
  simp [h1]
theorem gw_rets2 (HF : Fr N a F) (hr : fn.results = #[r1, r2]) (h1 : RV P a w r1 v1) (h2 : RV P a w r2 v2) (h : R (.returned (.tuple #[v1, v2])) w) : bodyPost P fn R .ret a w := by
  refine bodyPost_ret (v := .tuple #[v1, v2]) ?_ HF.defers h
  unfold RV at h1 h2
  rw [results_eq, hr]
  simp [h1, h2]
theorem gw_rets3 (HF : Fr N a F) (hr : fn.results = #[r1, r2, r3]) (h1 : RV P a w r1 v1) (h2 : RV P a w r2 v2) (h3 : RV P a w r3 v3) (h : R (.returned (.tuple #[v1, v2, v3])) w) : bodyPost P fn R .ret a w := by
  refine bodyPost_ret (v := .tuple #[v1, v2, v3]) ?_ HF.defers h
  unfold RV at h1 h2 h3
  rw [results_eq, hr]
  simp [h1, h2, h3]
theorem gw_rets4 (HF : Fr N a F) (hr : fn.results = #[r1, r2, r3, r4]) (h1 : RV P a w r1 v1) (h2 : RV P a w r2 v2) (h3 : RV P a w r3 v3) (h4 : RV P a w r4 v4) (h : R (.returned (.tuple #[v1, v2, v3, v4])) w) : bodyPost P fn R .ret a w := by
  refine bodyPost_ret (v := .tuple #[v1, v2, v3, v4]) ?_ HF.defers h
  unfold RV at h1 h2 h3 h4
  rw [results_eq, hr]
  simp [h1, h2, h3, h4]
theorem op_conv_inb {s d : TypeId} (hs : P.underlying s = some (.int k)) (hd : P.underlying d = some (.int .i64)) (ho : o.op = .convert s d x) (hx : a.eval x = .int k m) (hb : -9223372036854775808 ≤ m ∧ m ≤ 9223372036854775807) : Runs P o a w (.int .i64 m) w := by
  have := op_conv_int (w := w) hs hd ho hx
  rwa [i64_ok hb.1 hb.2] at this
end
/-! ### Rows that are only read, wherever in a block they begin -/
section
variable {α : Type} {d : Kd α} {S : Nat → Prop} {A A' : Option Addr} {n n' c c' e base : Nat} {xs ys : List α} {w0 : World} {L : List Chunk}
def Chunk.view (d : Kd α) (S : Nat → Prop) (A : Option Addr) (n c : Nat) (xs : List α) : Chunk := ⟨S, fun w => d.F w S A n xs ∧ n ≤ c ∧ ∀ ad, A = some ad → S ad.block, fun h hm => ⟨Kd.F_step h.1 (fun k hk _ => hm k hk), h.2⟩⟩
theorem Own.row_view (h : Own w0 w L) (i : Nat) (hi : L[i]? = some (Chunk.row d e base S (.slice A n c) xs)) : Own w0 w (L.set i (Chunk.view d S A n c xs)) :=
  h.mapc i hi (fun _ hk => hk) (fun _ hr => ⟨Kd.Q_F (Kd.Q_of_R hr), by have := Kd.R_reads' hr; omega, fun ad e => row_in hr e⟩)
theorem Own.view_cut (h : Own w0 w L) (i : Nat) (hi : L[i]? = some (Chunk.view d S A n c xs)) (hc : n' ≤ c') (hC : ∀ w, d.C w A n xs → d.C w A' n' ys) (hA : ∀ ad, A' = some ad → ∃ ad0, A = some ad0 ∧ ad.block = ad0.block) : Own w0 w (L.set i (Chunk.view d S A' n' c' ys)) :=
  h.mapc i hi (fun _ hk => hk) (fun _ hr => ⟨fun W' hW => hC W' (hr.1 W' hW), hc, fun ad e => by obtain ⟨ad0, e0, hb⟩ := hA ad e; rw [hb]; exact hr.2.2 ad0 e0⟩)
theorem Own.view_nil (h : Own w0 w L) (d : Kd α) : Own w0 w (Chunk.view d (fun _ => False) none 0 0 [] :: L) :=
  h.fresh (cs := [_]) (Out.one (Out.refl w _) (c := Chunk.view d (fun _ => False) none 0 0 []) ⟨fun W' _ => Kd.C_nil _ _, Nat.le_refl _, fun _ e => by cases e⟩ (fun _ hk => hk.elim))
theorem view_C (h : (Chunk.view d S A n c xs).P w) : d.C w A n xs := Kd.F_now h.1
theorem view_le (h : (Chunk.view d S A n c xs).P w) : n ≤ c := h.2.1
theorem view_in (h : (Chunk.view d S A n c xs).P w) {ad : Addr} (e1 : A = some ad) : S ad.block := h.2.2 ad e1
theorem Own.out (h : Own w0 w L) : Out w0 w (fun _ => False) L := ⟨h.below.os, h.below.tape, h.below.output, h.below.size, fun k hk _ => h.below.block k hk, h.holds, fun c hc k hk => ⟨.inr (h.inside c hc k hk).1, (h.inside c hc k hk).2⟩, h.apart⟩
theorem rd_is (xs : List Int) (i : Nat) : rd xs (i : Int) = xs.getD i 0 := by unfold rd; rw [Int.toNat_natCast]
theorem take_snoc (xs : List Int) (i : Int) (h0 : 0 ≤ i) (h1 : i < xs.length) : xs.take i.toNat ++ [xs.getD i.toNat 0] = xs.take (i + 1).toNat := by
  have e : (i + 1).toNat = i.toNat + 1 := by omega
  have hlt : i.toNat < xs.length := by omega
  rw [e, List.take_add_one, List.getD_eq_getElem?_getD, List.getElem?_eq_getElem hlt]
  rfl
theorem drop_one_more (xs : List α) (k : Int) (h0 : 0 ≤ k) : (xs.drop k.toNat).drop (1 : Int).toNat = xs.drop (k + 1).toNat := by
  have e : (k + 1).toNat = k.toNat + 1 := by omega
  rw [List.drop_drop, e]
  rfl
theorem getD_mem (xs : List α) (i : Nat) {z : α} (h : i < xs.length) : xs.getD i z ∈ xs := by
  rw [List.getD_eq_getElem?_getD, List.getElem?_eq_getElem h]
  exact List.getElem_mem h
theorem mnx_le (n : Int) (l : Nat) : (mn (mx n 0) (l : Int)).toNat ≤ l := by
  unfold mn mx
  (repeat' split) <;> omega
theorem cellsn {w : World} {ad : Addr} {m : Nat} {cs : List Value} (h : ∀ j u, cs[j]? = some u → w.cell? (ad.add (m + j)) = some u) : ∀ j u, cs[j]? = some u → w.cell? ((ad.add m).add j) = some u :=
  fun j u hj => by rw [add_add]; exact h j u hj
theorem cellsb {w wq : World} {ad : Addr} {m : Nat} {cs : List Value} (hq : Below w.heap.size w wq) (h : ∀ j u, cs[j]? = some u → w.cell? (ad.add (m + j)) = some u) : ∀ j u, cs[j]? = some u → wq.cell? ((ad.add m).add j) = some u :=
  fun j u hj => cellb hq (cellsn h j u hj)
theorem want_undef {D : List Deferred} {ops : Array Oper} {N : Nat} {a : Act} {F : List (Nat × Value)} {o : Oper} (HF : FrD D N a F) {j dj : Nat} {oj : Oper} {b : Bool} (hg : o.guard = some (j, b)) (hj : ops[j]? = some oj) (hdj : oj.dst = some dj) (hl : look F dj = some undef) : Region.wanted o (yielded ops a.tmps) = false := by
  have hy : yielded ops a.tmps j = none := by simp [yielded, hj, hdj, HF.at_ _ _ hl, undef]
  simp [Region.wanted, hg, hy]
end
end Go.Proofs.Ytkdahjnmldeklaa.PA
