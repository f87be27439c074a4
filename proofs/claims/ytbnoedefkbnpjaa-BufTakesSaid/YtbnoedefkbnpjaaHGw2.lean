/- More operations' laws: bits, division, conversions of numbers, strings. -/
import Derived.Test.YtbnoedefkbnpjaaHGw
namespace Go.Proofs.Ytbnoedefkbnpjaa.PA
open Go.RowKit Go.Proofs.YtbnoedefkbnpjaaW.PrintWords Go.Proofs.YtbnoedefkbnpjaaW.PrintLast Go.Proofs.YtbnoedefkbnpjaaW.PrintMore
set_option linter.unusedVariables false
set_option linter.unusedSimpArgs false
variable {P : Program} {o : Oper} {a : Act} {w : World} {x y : Operand} {t yt : TypeId} {m n : Int} {k k' : IntKind}
theorem op_and (ho : o.op = .binOp .and t x y yt) (hx : a.eval x = .int k m) (hy : a.eval y = .int k n) : Runs P o a w (.int k (bits .and k m n)) w := by
  unfold Runs execOp
  simp only [ho, hx, hy]
  simp [go_sem]
theorem op_or (ho : o.op = .binOp .or t x y yt) (hx : a.eval x = .int k m) (hy : a.eval y = .int k n) : Runs P o a w (.int k (bits .or k m n)) w := by
  unfold Runs execOp
  simp only [ho, hx, hy]
  simp [go_sem]
theorem op_xor (ho : o.op = .binOp .xor t x y yt) (hx : a.eval x = .int k m) (hy : a.eval y = .int k n) : Runs P o a w (.int k (bits .xor k m n)) w := by
  unfold Runs execOp
  simp only [ho, hx, hy]
  simp [go_sem]
theorem op_rem (ho : o.op = .binOp .rem t x y yt) (hx : a.eval x = .int k m) (hy : a.eval y = .int k n) (h0 : n ≠ 0) : Runs P o a w (.int k (m.tmod n)) w := by
  unfold Runs execOp
  simp only [ho, hx, hy]
  simp [go_sem, h0]
theorem op_quo (ho : o.op = .binOp .quo t x y yt) (hx : a.eval x = .int k m) (hy : a.eval y = .int k n) (h0 : n ≠ 0) : Runs P o a w (.int k (k.wrap (m.tdiv n))) w := by
  unfold Runs execOp
  simp only [ho, hx, hy]
  simp [go_sem, h0]
theorem op_shl (ho : o.op = .binOp .shl t x y yt) (hx : a.eval x = .int k m) (hy : a.eval y = .int k' n) (h0 : ¬ n < 0) : Runs P o a w (.int k (k.wrap (m * 2 ^ (min n.toNat k.bits)))) w := by
  unfold Runs execOp
  simp only [ho, hx, hy]
  simp [go_sem, Op.shift, h0]
theorem op_shr (ho : o.op = .binOp .shr t x y yt) (hx : a.eval x = .int k m) (hy : a.eval y = .int k' n) (h0 : ¬ n < 0) : Runs P o a w (.int k (m.fdiv (2 ^ (min n.toNat k.bits)))) w := by
  unfold Runs execOp
  simp only [ho, hx, hy]
  simp [go_sem, Op.shift, h0]
theorem op_conv_int {s d : TypeId} (hs : P.underlying s = some (.int k)) (hd : P.underlying d = some (.int k')) (ho : o.op = .convert s d x) (hx : a.eval x = .int k m) : Runs P o a w (.int k' (k'.wrap m)) w := by
  unfold Runs execOp
  simp only [ho, hx]
  simp [go_sem, hs, hd]
theorem op_adds {s u : ByteArray} (ho : o.op = .binOp .add t x y yt) (hx : a.eval x = .string s) (hy : a.eval y = .string u) (hl : ((s.size + u.size : Nat) : Int) ≤ 9223372036854775807) : Runs P o a w (.string (s ++ u)) w := by
  unfold Runs execOp
  simp only [ho, hx, hy]
  simp [go_sem]
  omega
end Go.Proofs.Ytbnoedefkbnpjaa.PA
