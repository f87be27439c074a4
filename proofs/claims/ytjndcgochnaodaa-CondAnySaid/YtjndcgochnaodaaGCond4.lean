/- Conditions: of some the first that holds. Printed by a program of this session; Lean checks it. -/
import Derived.Test.YtjndcgochnaodaaGMix1
namespace Go.Proofs.Ytjndcgochnaodaa.PA
open Go.RowKit Go.Proofs.YtjndcgochnaodaaW.PrintWords Go.Proofs.YtjndcgochnaodaaW.PrintLast Go.Proofs.YtjndcgochnaodaaW.PrintMore
set_option linter.unusedVariables false
set_option linter.unusedSimpArgs false
namespace GCond4_
theorem gwagg24 : ∀ w, (isAgg 24).run Try.prog w = .ok true w := fun _ => by kernel_rfl
theorem gwagg27 : ∀ w, (isAgg 27).run Try.prog w = .ok true w := fun _ => by kernel_rfl
theorem gwsiz24 : ∀ w, (sizeOf 24).run Try.prog w = .ok 4 w := fun _ => by kernel_rfl
theorem gwsiz27 : ∀ w, (sizeOf 27).run Try.prog w = .ok 2 w := fun _ => by kernel_rfl
set_option maxHeartbeats 4000000 in
set_option maxRecDepth 100000 in
theorem any1_calls (k : Nat) (kd : Int) (nm vl : ByteArray) (A3 : Option Addr) (c3 : Nat) (kids : List S24) (b : ByteArray) (Ap : Option Addr) (cp : Nat) (ps : List S36) (r : Bool) (w : World) (hr3 : Kd.C k24 w A3 kids.length kids) (hc3 : kids.length ≤ c3) (hrp : Kd.C k36 w Ap ps.length ps) (hcp : ps.length ≤ cp) (g : Nat) (hB : w.heap[g]? = some (.cells #[.string b, .slice Ap ps.length cp] 27 (0, 0))) (h : cond_Holds.f k kd nm vl kids b ps = some r) :
    Calls Try.prog 34 #[.agg #[.int .i64 kd, .string nm, .string vl, .slice A3 kids.length c3], .pointer (some ⟨g, 0, none⟩)] w fun e w' => e = .returned (.bool r) ∧ Below w.heap.size w w' := by
  refine gw_start (N := 7) (vs := [.agg #[.int .i64 kd, .string nm, .string vl, .slice A3 kids.length c3], .pointer (some ⟨g, 0, none⟩)]) Try.func34 rfl rfl (by simp) fun a HF HO => ?_
  replace HO : Own w w [] := HO
  refine gw_seq fun K1 hK1 => ?_
  refine wp_region_lit ?_
  refine gw_new HF HO (want_none rfl) rfl (by decide) (op_box rfl (HF.ev rfl)) ?_
  intro g2 a3 w4 HF5 HO6; clear HF HO
  have HO7 : Own w w4 [Chunk.blk g2 (.cells #[.int .i64 kd, .string nm, .string vl, .slice A3 kids.length c3] 24 (0, 0))] := HO6
  clear HO6
  refine gw_ev HF5 (want_none rfl) rfl (by decide) (op_assign rfl (ev_c _ _)) ?_
  intro a8 HF9; clear HF5
  refine wpList_nil ?_
  refine gw_nx (hK1 _ _ ?_)
  refine gw_seq fun K10 hK10 => ?_
  refine wp_region_lit ?_
  refine gw_ev HF9 (want_none rfl) rfl (by decide) (op_loadn gwagg24 gwsiz24 rfl (HF9.ev rfl) (HO7.get 0 rfl) rfl rfl) ?_
  intro a11 HF12; clear HF9
  refine gw_ev HF12 (want_none rfl) rfl (by decide) (op_loadn gwagg27 gwsiz27 rfl (HF12.ev rfl) (argblk HO7 hB) rfl rfl) ?_
  intro a13 HF14; clear HF12
  refine gw_call HF14 (want_none rfl) rfl (by decide) (op_callL Try.func12 (by kernel_rfl) rfl rfl (ar_cons (HF14.ev rfl) (ar_cons (HF14.ev rfl) ar_nil))) (cond_Holds.calls k kd nm vl A3 c3 kids b Ap cp ps r _ (Kd.C_below hr3 HO7.below) hc3 (Kd.C_below hrp HO7.below) hcp h) ?_
  rintro e15 w16 ⟨rfl, hb17⟩
  refine ⟨_, rfl, fun a18 HF19 => ?_⟩
  have HO20 := HO7.after hb17
  clear HF14 HO7 hb17
  refine gw_ev HF19 (want_none rfl) rfl (by decide) (op_assign rfl (HF19.ev rfl)) ?_
  intro a22 HF23; clear HF19
  refine wpList_nil ?_
  refine gw_nx (hK10 _ _ ?_)
  refine wp_ret ?_
  refine gw_ret1 HF23 rfl rfl ?_
  exact ⟨rfl, HO20.below⟩
def cond_Any.f (k : Nat) (l : List S24) (b : ByteArray) (ps : List S36) : Option Bool := anyM (fun x => cond_Holds.f k x.f0 x.f1 x.f2 x.f3 b ps) l
theorem cond_Any.mono : ∀ a0 a1 a2 k, LeO (cond_Any.f k a0 a1 a2) (cond_Any.f (k + 1) a0 a1 a2) := fun a0 a1 a2 k r h => anyM_mono (fun x b hb => cond_Holds.mono _ _ _ _ _ _ _ _ hb) _ _ h

set_option maxHeartbeats 4000000 in
set_option maxRecDepth 100000 in
theorem Any_walk (k : Nat) (A0 : Option Addr) (c0 : Nat) (l : List S24) (b : ByteArray) (Ap : Option Addr) (cp : Nat) (ps : List S36) (r : Bool) (w : World) (hr : Kd.C k24 w A0 l.length l) (hc : l.length ≤ c0) (hrp : Kd.C k36 w Ap ps.length ps) (hcp : ps.length ≤ cp) (h : cond_Any.f k l b ps = some r) :
    Calls Try.prog 21 #[.slice A0 l.length c0, .agg #[.string b, .slice Ap ps.length cp]] w fun e w' => e = .returned (.bool r) ∧ Below w.heap.size w w' := by
  refine gw_start (N := 8) (vs := [.slice A0 l.length c0, .agg #[.string b, .slice Ap ps.length cp]]) Try.func21 rfl rfl (by simp) fun a HF HO => ?_
  replace HO : Own w w [] := HO
  refine gw_seq fun K1 hK1 => ?_
  refine wp_region_lit ?_
  refine gw_new HF HO (want_none rfl) rfl (by decide) (op_box rfl (HF.ev rfl)) ?_
  intro g2 a3 w4 HF5 HO6; clear HF HO
  have HO7 : Own w w4 [Chunk.blk g2 (.cells #[.string b, .slice Ap ps.length cp] 27 (0, 0))] := HO6
  clear HO6
  refine gw_ev HF5 (want_none rfl) rfl (by decide) (op_assign rfl (ev_c _ _)) ?_
  intro a8 HF9; clear HF5
  refine wpList_nil ?_
  refine gw_nx (hK1 _ _ ?_)
  refine gw_seq fun K10 hK10 => ?_
  refine wp_region_lit ?_
  refine gw_ev HF9 (want_none rfl) rfl (by decide) (op_move rfl (HF9.ev rfl)) ?_
  intro a11 HF12; clear HF9
  refine gw_ev HF12 (want_none rfl) rfl (by decide) (op_func rfl (ar_cons (HF12.ev rfl) ar_nil)) ?_
  intro a13 HF14; clear HF12
  refine gw_call HF14 (want_none rfl) rfl (by decide) (op_callL Try.func33 (by kernel_rfl) rfl rfl (ar_cons (HF14.ev rfl) (ar_cons (HF14.ev rfl) ar_nil))) (contains_calls A0 c0 l _ (Kd.C_below hr HO7.below) hc (len_C (Kd.C_below hr HO7.below)) 34 _ [.pointer (some ⟨g2, 0, none⟩)] Try.func34 (by kernel_rfl) rfl (fun x => cond_Holds.f k x.f0 x.f1 x.f2 x.f3 b ps) r h (fun x _ A3_ c3_ w1 hbb hC_ hc_ b_ hp_ => any1_calls k x.f0 x.f1 x.f2 A3_ c3_ x.f3 b Ap cp ps b_ w1 hC_ hc_ (Kd.C_below (Kd.C_below hrp HO7.below) hbb) hcp g2 (blk_below hbb (HO7.get 0 rfl)) hp_)) ?_
  rintro e15 w16 ⟨rfl, hb17⟩
  refine ⟨_, rfl, fun a18 HF19 => ?_⟩
  have HO20 := HO7.after hb17
  clear HF14 HO7 hb17
  refine gw_ev HF19 (want_none rfl) rfl (by decide) (op_assign rfl (HF19.ev rfl)) ?_
  intro a22 HF23; clear HF19
  refine wpList_nil ?_
  refine gw_nx (hK10 _ _ ?_)
  refine wp_ret ?_
  refine gw_ret1 HF23 rfl rfl ?_
  exact ⟨rfl, HO20.below⟩
theorem cond_Any.calls (k : Nat) (A0 : Option Addr) (c0 : Nat) (l0 : List S24) (a1_0 : ByteArray) (A1_1 : Option Addr) (c1_1 : Nat) (l1_1 : List S36) (r : Bool) (w : World) (hr0 : Kd.C k24 w A0 l0.length l0) (hc0 : l0.length ≤ c0) (hr1_1 : Kd.C k36 w A1_1 l1_1.length l1_1) (hc1_1 : l1_1.length ≤ c1_1) (h : cond_Any.f k l0 a1_0 l1_1 = some r) : Calls Try.prog 21 #[.slice A0 l0.length c0, .agg #[.string a1_0, .slice A1_1 l1_1.length c1_1]] w fun e w' => e = .returned (.bool r) ∧ Below w.heap.size w w' :=
  Any_walk k A0 c0 l0 a1_0 A1_1 c1_1 l1_1 r w hr0 hc0 hr1_1 hc1_1 h

end GCond4_
export GCond4_ (cond_Any.f cond_Any.mono cond_Any.calls Any_walk)
end Go.Proofs.Ytjndcgochnaodaa.PA
