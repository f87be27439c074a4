/- Small lemmas of this session for the contracts that are proved by hand. -/
import Derived.Test.YtmlemnfleicnfaaPAx0
import Derived.Lib.SlBytesConst
import Derived.WalkSpells
namespace Go.Proofs.Ytmlemnfleicnfaa.PA
open Go.RowKit Go.Proofs.YtmlemnfleicnfaaW.PrintWords Go.Proofs.YtmlemnfleicnfaaW.PrintLast Go.Proofs.YtmlemnfleicnfaaW.PrintMore

/-- A literal's row, just laid (with the run-time's mark or without): it reads as its list. -/
theorem C_lit (k : IntKind) (w : World) (e : TypeId) (fr : Nat × Nat) (cs : Array Value) (xs : List Int) (h : cs.toList = xs.map (Value.int k)) (hm : xs.length ≤ 9223372036854775807) :
    Kd.C (Kd.int k) (w.alloc (.cells cs e fr)) (some ⟨w.heap.size, 0, none⟩) xs.length xs := by
  refine ⟨rfl, hm, fun _ => ⟨_, rfl, fun j p hj => ⟨[.int k p], rfl, rfl, fun i u hu => ?_⟩⟩⟩
  have hi : i = 0 := by
    rcases i with _ | i
    · rfl
    · simp at hu
  subst hi
  have hu' : Value.int k p = u := by simpa using hu
  subst hu'
  show (w.alloc (.cells cs e fr)).cell? ((⟨w.heap.size, 0, none⟩ : Addr).add (j * 1 + 0)) = _
  rw [add_plain]
  have hc : cs[j * 1 + 0]? = some (Value.int k p) := by
    rw [← Array.getElem?_toList, h]
    simp [hj]
  have hh : (w.alloc (.cells cs e fr)).heap[w.heap.size]? = some (.cells cs e fr) := by
    show (w.heap.push (.cells cs e fr))[w.heap.size]? = _
    simp
  simp only [World.cell?, hh]
  simpa using hc

section
variable {P : Program} {ops : Array Oper} {rest : List Oper} {o : Oper} {a : Act} {Q : Exit → Act → World → Prop}
/-- '[]byte(s)': a row that reads as the text's bytes, in new memory. -/
theorem ev_conv {w0 W : World} (hgd : o.guard = none) (src dst e : TypeId) (x : Operand) (s : ByteArray) (ho : o.op = .convert src dst x)
    (hs : P.underlying src = some .string) (hd : P.underlying dst = some (.slice e)) (he : P.underlying e = some (.int .u8)) (hx : a.eval x = .string s) (hm : s.size ≤ 9223372036854775807)
    (base : Nat) (HB : Below base w0 W) (hbase : base ≤ W.heap.size)
    (h : ∀ (A : Option Addr) (c : Nat) (w1 : World), Kd.C (Kd.int .u8) w1 A (bytesOf s).length (bytesOf s) → (bytesOf s).length ≤ c → Below W.heap.size W w1 → Below base w0 w1 → wpList P ops Q rest (a.put o.dst (.slice A (bytesOf s).length c)) w1) :
    wpList P ops Q (o :: rest) a W := by
  have hrun : (execOp a.eval o).run P W = .ok (.value (.slice (some ⟨W.heap.size, 0, none⟩) s.size (grownCap W s.size 0 e))) (Lib.bytesWorld W e s) := by
    have := print_bytes src dst e hs hd he s W
    simp only [execOp, ho, hx]
    simp [this]
  refine Kd.event_run hgd hrun ?_
  have hr := bytes_reads W e s hm
  have hc : Kd.C (Kd.int .u8) (Lib.bytesWorld W e s) (some ⟨W.heap.size, 0, none⟩) (bytesOf s).length (bytesOf s) := by
    refine ⟨rfl, by rw [bytesOf_length]; exact hm, fun _ => ⟨_, rfl, fun j p hj => ⟨[.int .u8 p], rfl, rfl, fun i u hu => ?_⟩⟩⟩
    have hi : i = 0 := by
      rcases i with _ | i
      · rfl
      · simp at hu
    subst hi
    have hu' : Value.int .u8 p = u := by simpa using hu
    subst hu'
    obtain ⟨ad, e1, hcell⟩ := hr.2.2 (by
      have := (List.getElem?_eq_some_iff.1 hj).1
      rw [bytesOf_length] at this
      omega)
    injection e1 with e1
    subst e1
    have hlt := (List.getElem?_eq_some_iff.1 hj).1
    rw [bytesOf_length] at hlt
    have := hcell j hlt
    rw [List.getD_eq_getElem?_getD, hj] at this
    have e2 : j * (Kd.int .u8).sz + 0 = j := by show j * 1 + 0 = j; omega
    rw [e2]
    simpa using this
  have := h (some ⟨W.heap.size, 0, none⟩) (grownCap W s.size 0 e) _ hc (by rw [bytesOf_length]; exact grownCap_ge W s.size 0 e) (bytes_below (Below.refl _ _) (Nat.le_refl _) e s) (bytes_below HB hbase e s)
  rw [bytesOf_length] at this
  exact this
end
end Go.Proofs.Ytmlemnfleicnfaa.PA
