/- Conditions: right and holding as the document says. Printed by a program of this session; Lean checks it. -/
import Derived.Test.YtjndcgochnaodaaGCond5
import Derived.Test.YtjndcgochnaodaaHMixR
namespace Go.Proofs.Ytjndcgochnaodaa.PA
open Go.RowKit Go.Proofs.YtjndcgochnaodaaW.PrintWords Go.Proofs.YtjndcgochnaodaaW.PrintLast Go.Proofs.YtjndcgochnaodaaW.PrintMore
set_option linter.unusedVariables false
set_option linter.unusedSimpArgs false
namespace GCond7_
theorem gwagg24 : ∀ w, (isAgg 24).run Try.prog w = .ok true w := fun _ => by kernel_rfl
theorem gwagg27 : ∀ w, (isAgg 27).run Try.prog w = .ok true w := fun _ => by kernel_rfl
theorem gwsiz24 : ∀ w, (sizeOf 24).run Try.prog w = .ok 4 w := fun _ => by kernel_rfl
theorem gwsiz27 : ∀ w, (sizeOf 27).run Try.prog w = .ok 2 w := fun _ => by kernel_rfl
set_option maxHeartbeats 4000000 in
set_option maxRecDepth 100000 in
theorem CondHolds_walk (kd : Int) (nm vl : ByteArray) (A3 : Option Addr) (c3 : Nat) (kids : List S24) (b : ByteArray) (Ap : Option Addr) (cp : Nat) (ps : List S36) (w : World) (hr3 : Kd.C k24 w A3 kids.length kids) (hc3 : kids.length ≤ c3) (hrp : Kd.C k36 w Ap ps.length ps) (hcp : ps.length ≤ cp) (hs : smallN 20 ⟨kd, nm, vl, kids⟩) (hp : ps.length ≤ 281474976710656) :
    Calls Try.prog 3 #[.agg #[.int .i64 kd, .string nm, .string vl, .slice A3 kids.length c3], .agg #[.string b, .slice Ap ps.length cp]] w fun e w' => e = .returned (.bool true) ∧ Below w.heap.size w w' := by
  obtain ⟨n, R, H, h1, h2, h3, h4⟩ := facts_holds kd nm vl kids b ps hs hp
  refine gw_start (N := 26) (vs := [.agg #[.int .i64 kd, .string nm, .string vl, .slice A3 kids.length c3], .agg #[.string b, .slice Ap ps.length cp]]) Try.func3 rfl rfl (by simp) fun a HF HO => ?_
  replace HO : Own w w [] := HO
  refine gw_seq fun K1 hK1 => ?_
  refine wp_region_lit ?_
  refine gw_new HF HO (want_none rfl) rfl (by decide) (op_box rfl (HF.ev rfl)) ?_
  intro g2 a3 w4 HF5 HO6; clear HF HO
  have HO7 : Own w w4 [Chunk.blk g2 (.cells #[.int .i64 kd, .string nm, .string vl, .slice A3 kids.length c3] 24 (0, 0))] := HO6
  clear HO6
  refine gw_new HF5 HO7 (want_none rfl) rfl (by decide) (op_box rfl (HF5.ev rfl)) ?_
  intro g8 a9 w10 HF11 HO12; clear HF5 HO7
  have HO13 : Own w w10 [Chunk.blk g8 (.cells #[.string b, .slice Ap ps.length cp] 27 (0, 0)), Chunk.blk g2 (.cells #[.int .i64 kd, .string nm, .string vl, .slice A3 kids.length c3] 24 (0, 0))] := HO12
  clear HO12
  refine gw_ev HF11 (want_none rfl) rfl (by decide) (op_assign rfl (ev_c _ _)) ?_
  intro a14 HF15; clear HF11
  refine wpList_nil ?_
  refine gw_nx (hK1 _ _ ?_)
  refine gw_seq fun K16 hK16 => ?_
  refine gw_seq fun K17 hK17 => ?_
  refine wp_region_lit ?_
  refine gw_call HF15 (want_none rfl) rfl (by decide) (op_callL Try.func9 (by kernel_rfl) rfl rfl ar_nil) (alive_calls _) ?_
  rintro e18 w19 ⟨rfl, hb20⟩
  refine ⟨_, rfl, fun a21 HF22 => ?_⟩
  have HO23 := HO13.after hb20
  clear HF15 HO13 hb20
  refine gw_ev HF22 (want_none rfl) rfl (by decide) (op_not rfl (HF22.ev rfl)) ?_
  intro a25 HF26; clear HF22
  refine wpList_nil ?_
  refine gw_nx (hK17 _ _ ?_)
  refine gw_cond HF26 rfl (fun hb27 => ?_) (fun hb27 => ?_)
  skip
  · cases hb27
  refine wp_skip ?_
  refine gw_nx (hK16 _ _ ?_)
  refine gw_seq fun K28 hK28 => ?_
  refine wp_region_lit ?_
  refine gw_ev HF26 (want_none rfl) rfl (by decide) (op_loadn gwagg24 gwsiz24 rfl (HF26.ev rfl) (HO23.get 1 rfl) rfl rfl) ?_
  intro a29 HF30; clear HF26
  refine gw_call HF30 (want_none rfl) rfl (by decide) (op_callL Try.func10 (by kernel_rfl) rfl rfl (ar_cons (HF30.ev rfl) (ar_cons (ev_c _ _) ar_nil))) (colloquyref12_Right.calls n kd nm vl A3 c3 kids 20 R _ (Kd.C_below hr3 HO23.below) hc3 h2) ?_
  rintro e31 w32 ⟨rfl, hb33⟩
  refine ⟨_, rfl, fun a34 HF35 => ?_⟩
  have HO36 := HO23.after hb33
  clear HF30 HO23 hb33
  refine gw_ev HF35 (want_none rfl) rfl (by decide) (op_assign rfl (HF35.ev rfl)) ?_
  intro a38 HF39; clear HF35
  refine wpList_nil ?_
  refine gw_nx (hK28 _ _ ?_)
  refine gw_seq fun K40 hK40 => ?_
  refine wp_region_lit ?_
  refine gw_ev HF39 (want_none rfl) rfl (by decide) (op_loadn gwagg24 gwsiz24 rfl (HF39.ev rfl) (HO36.get 1 rfl) rfl rfl) ?_
  intro a41 HF42; clear HF39
  refine gw_call HF42 (want_none rfl) rfl (by decide) (op_callL Try.func11 (by kernel_rfl) rfl rfl (ar_cons (HF42.ev rfl) ar_nil)) (cond_Right.calls n kd nm vl A3 c3 kids R _ (Kd.C_below hr3 HO36.below) hc3 h1) ?_
  rintro e43 w44 ⟨rfl, hb45⟩
  refine ⟨_, rfl, fun a46 HF47 => ?_⟩
  have HO48 := HO36.after hb45
  clear HF42 HO36 hb45
  refine gw_ev HF47 (want_none rfl) rfl (by decide) (op_move rfl (HF47.ev rfl)) ?_
  intro a50 HF51; clear HF47
  refine gw_ev HF51 (want_none rfl) rfl (by decide) (op_eqb Try.underlying4 rfl (HF51.ev rfl) (HF51.ev rfl)) ?_
  intro a52 HF53; clear HF51
  have HF54 := HF53.lit (b := true) (by simp)
  clear HF53
  refine gw_ev HF54 (want_none rfl) rfl (by decide) (op_move rfl (HF54.ev rfl)) ?_
  intro a55 HF56; clear HF54
  refine gw_ev HF56 (want_yes HF56 rfl rfl rfl rfl) rfl (by decide) (op_loadn gwagg24 gwsiz24 rfl (HF56.ev rfl) (HO48.get 1 rfl) rfl rfl) ?_
  intro a57 HF58; clear HF56
  refine gw_ev HF58 (want_yes HF58 rfl rfl rfl rfl) rfl (by decide) (op_loadn gwagg27 gwsiz27 rfl (HF58.ev rfl) (HO48.get 0 rfl) rfl rfl) ?_
  intro a59 HF60; clear HF58
  refine gw_call HF60 (want_yes HF60 rfl rfl rfl rfl) rfl (by decide) (op_callL Try.func12 (by kernel_rfl) rfl rfl (ar_cons (HF60.ev rfl) (ar_cons (HF60.ev rfl) ar_nil))) (cond_Holds.calls n kd nm vl A3 c3 kids b Ap cp ps (R && H) _ (Kd.C_below hr3 HO48.below) hc3 (Kd.C_below hrp HO48.below) hcp h3) ?_
  rintro e61 w62 ⟨rfl, hb63⟩
  refine ⟨_, rfl, fun a64 HF65 => ?_⟩
  have HO66 := HO48.after hb63
  clear HF60 HO48 hb63
  refine gw_ev HF65 (want_yes HF65 rfl rfl rfl rfl) rfl (by decide) (op_move rfl (HF65.ev rfl)) ?_
  intro a68 HF69; clear HF65
  refine gw_ev HF69 (want_yes HF69 rfl rfl rfl rfl) rfl (by decide) (op_move rfl (HF69.ev rfl)) ?_
  intro a70 HF71; clear HF69
  refine gw_evG HF71 rfl rfl rfl rfl (on_t _) rfl (by decide) (fun h_ => (op_loadn gwagg24 gwsiz24 rfl (HF71.ev rfl) (HO66.get 1 rfl) rfl rfl)) ?_
  intro a72 HF73; clear HF71
  refine gw_evG HF73 rfl rfl rfl rfl (on_t _) rfl (by decide) (fun h_ => (op_loadn gwagg27 gwsiz27 rfl (HF73.ev rfl) (HO66.get 0 rfl) rfl rfl)) ?_
  intro a74 HF75; clear HF73
  refine gw_callG HF75 rfl rfl rfl rfl (on_t _) rfl (by decide) (fun h_ => (op_callL Try.func13 (by kernel_rfl) rfl rfl (ar_cons (ev_gv (HF75.ev rfl) h_) (ar_cons (ev_gv (HF75.ev rfl) h_) ar_nil)))) (fun h_ => colloquyref12_Holds.calls n kd nm vl A3 c3 kids b Ap cp ps H _ (Kd.C_below hr3 HO66.below) hc3 (Kd.C_below hrp HO66.below) hcp (h4 h_)) ?_
  intro a76 w78 hb79 HF77
  have HO80 := HO66.after hb79; clear HF75 HO66 hb79
  refine gw_ev HF77 (want_yes HF77 rfl rfl rfl rfl) rfl (by decide) (op_pick_and rfl (HF77.ev rfl) (fun hp_ => (ev_gv (HF77.ev rfl) hp_)) (ev_c _ _)) ?_
  intro a81 HF82; clear HF77
  refine gw_ev HF82 (want_yes HF82 rfl rfl rfl rfl) rfl (by decide) (op_eqb Try.underlying4 rfl (HF82.ev rfl) (HF82.ev rfl)) ?_
  intro a83 HF84; clear HF82
  refine gw_ev HF84 (want_none rfl) rfl (by decide) (op_pick_t rfl (HF84.ev rfl) (HF84.ev rfl)) ?_
  intro a85 HF86; clear HF84
  refine gw_ev HF86 (want_none rfl) rfl (by decide) (op_assign rfl (HF86.ev rfl)) ?_
  intro a87 HF88; clear HF86
  refine wpList_nil ?_
  refine gw_nx (hK40 _ _ ?_)
  refine wp_ret ?_
  refine gw_ret1 HF88 rfl rfl ?_
  exact ⟨by congr 2; simp, HO80.below⟩
end GCond7_
export GCond7_ (CondHolds_walk)
open Classical in
noncomputable def colloquylaw12_CondHolds.f (a0_0 : Int) (a0_1 : ByteArray) (a0_2 : ByteArray) (l0_3 : List S24) (a1_0 : ByteArray) (l1_1 : List S36) : Option Bool := if (smallN 20 ⟨a0_0, a0_1, a0_2, l0_3⟩) ∧ (l1_1.length ≤ 281474976710656) then some true else none
theorem colloquylaw12_CondHolds.calls (a0_0 : Int) (a0_1 : ByteArray) (a0_2 : ByteArray) (A0_3 : Option Addr) (c0_3 : Nat) (l0_3 : List S24) (a1_0 : ByteArray) (A1_1 : Option Addr) (c1_1 : Nat) (l1_1 : List S36) (r : Bool) (w : World) (hr0_3 : Kd.C k24 w A0_3 l0_3.length l0_3) (hc0_3 : l0_3.length ≤ c0_3) (hr1_1 : Kd.C k36 w A1_1 l1_1.length l1_1) (hc1_1 : l1_1.length ≤ c1_1) (h : colloquylaw12_CondHolds.f a0_0 a0_1 a0_2 l0_3 a1_0 l1_1 = some r) :
    Calls Try.prog 3 #[(.agg #[.int .i64 a0_0, .string a0_1, .string a0_2, .slice A0_3 l0_3.length c0_3]), (.agg #[.string a1_0, .slice A1_1 l1_1.length c1_1])] w fun e w' => e = .returned (.bool r) ∧ Below w.heap.size w w' := by
  unfold colloquylaw12_CondHolds.f at h
  split at h
  · cases h; rename_i hh; exact CondHolds_walk a0_0 a0_1 a0_2 A0_3 c0_3 l0_3 a1_0 A1_1 c1_1 l1_1 w hr0_3 hc0_3 hr1_1 hc1_1 hh.1 hh.2
  · cases h
end Go.Proofs.Ytjndcgochnaodaa.PA
