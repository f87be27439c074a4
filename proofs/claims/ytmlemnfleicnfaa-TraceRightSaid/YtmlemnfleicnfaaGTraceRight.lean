/- TraceRight. Printed by a program of this session; Lean checks it. -/
import Derived.Test.YtmlemnfleicnfaaGRightT
import Derived.Test.YtmlemnfleicnfaaGRightR
import Derived.Test.YtmlemnfleicnfaaPAx48
namespace Go.Proofs.Ytmlemnfleicnfaa.PA
open Go.RowKit Go.Proofs.YtmlemnfleicnfaaW.PrintWords Go.Proofs.YtmlemnfleicnfaaW.PrintLast Go.Proofs.YtmlemnfleicnfaaW.PrintMore
set_option linter.unusedVariables false
set_option linter.unusedSimpArgs false
namespace GTraceRight_
theorem gwagg70 : ∀ w, (isAgg 70).run Try.prog w = .ok true w := fun _ => by kernel_rfl
theorem gwsiz70 : ∀ w, (sizeOf 70).run Try.prog w = .ok 4 w := fun _ => by kernel_rfl
theorem gwzer70 : ∀ w, (zeroValue 70).run Try.prog w = .ok (.agg #[.int .i64 0, .int .i64 0, .string (⟨#[]⟩ : ByteArray), .int .i64 0]) w := fun _ => by kernel_rfl
theorem alive60 : colloquylaw18_alive.f 60 = some true := by decide +kernel
set_option maxHeartbeats 4000000 in
set_option maxRecDepth 100000 in
theorem TraceRight_calls (A0 : Option Addr) (c0 : Nat) (es : List S70) (w : World) (hr0 : Kd.C k70 w A0 es.length es) (hc0 : es.length ≤ c0) (hl : es.length ≤ 9223372036854775807) :
    Calls Try.prog 13 #[.slice A0 es.length c0] w fun e w' => e = .returned (.bool true) ∧ Below w.heap.size w w' := by
  refine gw_start (N := 24) (vs := [.slice A0 es.length c0]) Try.func13 rfl rfl (by simp) fun a HF HO => ?_
  replace HO : Own w w [] := HO
  refine gw_seq fun K1 hK1 => ?_
  refine wp_region_lit ?_
  refine gw_ev HF (want_none rfl) rfl (by decide) (op_assign rfl (ev_c _ _)) ?_
  intro a2 HF3; clear HF
  refine wpList_nil ?_
  refine gw_nx (hK1 _ _ ?_)
  refine gw_seq fun K4 hK4 => ?_
  refine gw_seq fun K5 hK5 => ?_
  refine wp_region_lit ?_
  refine gw_call HF3 (want_none rfl) rfl (by decide) (op_callL Try.func48 (by kernel_rfl) rfl rfl ar_nil) (colloquylaw18_alive.calls 60 true _ alive60) ?_
  rintro e6 w7 ⟨rfl, hb8⟩
  refine ⟨_, rfl, fun a9 HF10 => ?_⟩
  have HO11 := HO.after hb8
  clear HF3 HO hb8
  refine gw_ev HF10 (want_none rfl) rfl (by decide) (op_not rfl (HF10.ev rfl)) ?_
  intro a13 HF14; clear HF10
  refine wpList_nil ?_
  refine gw_nx (hK5 _ _ ?_)
  refine gw_cond HF14 rfl (fun hb15 => ?_) (fun hb15 => ?_)
  skip
  · cases hb15
  refine wp_skip ?_
  refine gw_nx (hK4 _ _ ?_)
  refine gw_seq fun K16 hK16 => ?_
  refine gw_seq fun K17 hK17 => ?_
  refine wp_region_lit ?_
  refine gw_ev HF14 (want_none rfl) rfl (by decide) (op_move rfl (HF14.ev rfl)) ?_
  intro a18 HF19; clear HF14
  refine gw_ev HF19 (want_none rfl) rfl (by decide) (op_len Try.underlying66 rfl (HF19.ev rfl)) ?_
  intro a20 HF21; clear HF19
  refine gw_ev HF21 (want_none rfl) rfl (by decide) (op_move rfl (ev_c _ _)) ?_
  intro a22 HF23; clear HF21
  refine wpList_nil ?_
  refine gw_nx (hK17 _ _ ?_)
  refine wp_block ?_
  refine gw_loop (fun m_ a_ w_ => ∃ (i : Int), Fr 24 a_ [(9, .int .i64 i), (0, .slice A0 es.length c0), (7, .slice A0 es.length c0), (8, .int .i64 (es.length : Int))] ∧ Own w w_ [] ∧ (0 ≤ i ∧ i ≤ es.length) ∧ m_ = (es.length - i.toNat)) ((es.length - (0 : Int).toNat)) ?_ ?_
  · refine ⟨0, (HF23.pick (t := 9) rfl (HF23.pick (t := 0) rfl (HF23.pick (t := 7) rfl (HF23.pick (t := 8) rfl HF23.nil)))), HO11.sel [] (by decide), ?_, rfl⟩
    · omega
  · rintro m25 a26 w27 ⟨i, HF28, HO29, hi, hm30⟩
    refine gw_seq fun K31 hK31 => ?_
    refine wp_region_lit ?_
    refine gw_ev HF28 (want_none rfl) rfl (by decide) (op_lss rfl (HF28.ev rfl) (HF28.ev rfl)) ?_
    intro a32 HF33; clear HF28
    refine wpList_nil ?_
    refine gw_nx (hK31 _ _ ?_)
    refine gw_seq fun K34 hK34 => ?_
    refine gw_cond HF33 rfl (fun hb35 => ?_) (fun hb35 => ?_)
    · skip
      have HF36 := HF33.subst_ (d := 10) (b := true) rfl hb35
      clear HF33
      (try simp only [Bool.and_eq_true, Bool.or_eq_true, Bool.and_eq_false_iff, Bool.or_eq_false_iff, Bool.not_and, Bool.not_or, Bool.not_not, decide_eq_true_eq, decide_eq_false_iff_not, Bool.not_eq_true', Bool.not_eq_false', Bool.not_eq_true, Bool.not_eq_false, ne_eq, Decidable.not_not, Int.not_lt, Int.not_le, not_true_eq_false, not_false_eq_true, bne_iff_ne, beq_iff_eq, bne_eq_false_iff_eq, beq_eq_false_iff_ne] at hb35)
      refine wp_skip ?_
      refine gw_nx (hK34 _ _ ?_)
      refine gw_seq fun K37 hK37 => ?_
      refine wp_block ?_
      refine gw_seq fun K38 hK38 => ?_
      refine wp_region_lit ?_
      obtain ⟨ad39, cs42, hA40, hl43, hK44, hc41⟩ := Kd.C_get hr0 z70 i (by omega) (by omega)
      obtain rfl := k70_open hK44
      clear hl43
      refine gw_ev HF36 (want_none rfl) rfl (by decide) (op_index Try.underlying66 gwsiz70 rfl (HF36.ev rfl) (HF36.ev rfl) hA40 (⟨by omega, by omega⟩)) ?_
      intro a45 HF46; clear HF36
      refine gw_ev HF46 (want_none rfl) rfl (by decide) (op_loadc gwagg70 gwsiz70 rfl (HF46.ev rfl) rfl (cells0 HO29 hc41)) ?_
      intro a47 HF48; clear HF46
      refine gw_new HF48 HO29 (want_none rfl) rfl (by decide) (op_alloc gwzer70 rfl) ?_
      intro g49 a50 w51 HF52 HO53; clear HF48 HO29
      have HO54 : Own w w51 [Chunk.blk g49 (.cells #[.int .i64 0, .int .i64 0, .string (⟨#[]⟩ : ByteArray), .int .i64 0] 70 (0, 0))] := HO53
      clear HO53
      refine gw_setn 0 HF52 HO54 rfl (want_none rfl) rfl (op_storen gwsiz70 rfl (HF52.ev rfl) (HF52.ev rfl) (HO54.get 0 rfl) rfl (by simp) (by simp [Value.oneCell'])) ?_
      intro a55 w57 HF56 HO58; clear HF52 HO54
      have HO59 : Own w w57 [Chunk.blk g49 (.cells #[.int .i64 ((es.getD i.toNat z70).f0), .int .i64 ((es.getD i.toNat z70).f1), .string ((es.getD i.toNat z70).f2), .int .i64 ((es.getD i.toNat z70).f3)] 70 (0, 0))] := HO58
      clear HO58
      refine wpList_nil ?_
      refine gw_nx (hK38 _ _ ?_)
      refine gw_seq fun K60 hK60 => ?_
      refine gw_drawB HO59 (by kernel_rfl) (by kernel_rfl) fun w61 HO62 => ?_
      clear HO59
      refine gq_ev HF56 (want_none rfl) rfl (by decide) (fun wq hq => have HO := HO62.after hq; (op_loadn gwagg70 gwsiz70 rfl (HF56.ev rfl) (HO.get 0 rfl) rfl rfl)) ?_
      intro a63 HF64; clear HF56
      refine gq_call HF64 (want_none rfl) rfl (by decide) (fun wq hq => have HO := HO62.after hq; (op_callL Try.func51 (by kernel_rfl) rfl rfl (ar_cons (HF64.ev rfl) ar_nil))) (fun wq hq => have HO := HO62.after hq; (GDecides_.decides_calls (es.getD i.toNat z70) _).mono fun e w' h => ⟨h.1, below_then hq h.2⟩) ?_
      intro a65 HF66; clear HF64
      refine gq_ev HF66 (want_none rfl) rfl (by decide) (fun wq hq => have HO := HO62.after hq; (op_loadn gwagg70 gwsiz70 rfl (HF66.ev rfl) (HO.get 0 rfl) rfl rfl)) ?_
      intro a67 HF68; clear HF66
      refine gq_call HF68 (want_none rfl) rfl (by decide) (fun wq hq => have HO := HO62.after hq; (op_callL Try.func52 (by kernel_rfl) rfl rfl (ar_cons (HF68.ev rfl) ar_nil))) (fun wq hq => have HO := HO62.after hq; (GDecides_.rdecides_calls (es.getD i.toNat z70) _).mono fun e w' h => ⟨h.1, below_then hq h.2⟩) ?_
      intro a69 HF70; clear HF68
      refine gq_ev HF70 (want_none rfl) rfl (by decide) (fun wq hq => have HO := HO62.after hq; (op_neb Try.underlying4 rfl (HF70.ev rfl) (HF70.ev rfl))) ?_
      intro a71 HF72; clear HF70
      have HF73 := HF72.lit (b := false) (by simp)
      clear HF72
      refine wpQuiet_nil ?_
      intro w74 hq
      have HO75 := HO62.after hq
      clear HO62 hq
      refine gw_nx (hK60 _ _ ?_)
      refine gw_cond HF73 rfl (fun hb76 => ?_) (fun hb76 => ?_)
      skip
      · cases hb76
      refine wp_skip ?_
      refine gw_blk ?_
      refine gw_nx (hK37 _ _ ?_)
      refine wp_region_lit ?_
      refine gw_ev HF73 (want_none rfl) rfl (by decide) (op_add rfl (HF73.ev rfl) (ev_c _ _) (by omega)) ?_
      intro a77 HF78; clear HF73
      refine gw_ev HF78 (want_none rfl) rfl (by decide) (op_move rfl (HF78.ev rfl)) ?_
      intro a79 HF80; clear HF78
      refine wpList_nil ?_
      refine gw_nx ⟨_, ?_, i + 1, (HF80.pick (t := 9) rfl (HF80.pick (t := 0) rfl (HF80.pick (t := 7) rfl (HF80.pick (t := 8) rfl HF80.nil)))), HO75.sel [] (by decide), ?_, rfl⟩
      · rw [hm30]; omega
      · omega
    · skip
      have HF81 := HF33.subst_ (d := 10) (b := false) rfl hb35
      clear HF33
      (try simp only [Bool.and_eq_true, Bool.or_eq_true, Bool.and_eq_false_iff, Bool.or_eq_false_iff, Bool.not_and, Bool.not_or, Bool.not_not, decide_eq_true_eq, decide_eq_false_iff_not, Bool.not_eq_true', Bool.not_eq_false', Bool.not_eq_true, Bool.not_eq_false, ne_eq, Decidable.not_not, Int.not_lt, Int.not_le, not_true_eq_false, not_false_eq_true, bne_iff_ne, beq_iff_eq, bne_eq_false_iff_eq, beq_eq_false_iff_ne] at hb35)
      refine wp_exit ?_
      refine gw_thx ?_
      refine gw_thx ?_
      refine gw_in ?_
      refine gw_nx (hK16 _ _ ?_)
      refine gw_seq fun K82 hK82 => ?_
      refine wp_region_lit ?_
      refine gw_ev HF81 (want_none rfl) rfl (by decide) (op_move rfl (HF81.ev rfl)) ?_
      intro a83 HF84; clear HF81
      refine gw_call HF84 (want_none rfl) rfl (by decide) (op_callL Try.func53 (by kernel_rfl) rfl rfl (ar_cons (HF84.ev rfl) ar_nil)) (GRightT_.rightt_calls A0 c0 es _ (Kd.C_below hr0 HO29.below) hc0 (by omega)) ?_
      rintro e85 w86 ⟨rfl, hb87⟩
      refine ⟨_, rfl, fun a88 HF89 => ?_⟩
      have HO90 := HO29.after hb87
      clear HF84 HO29 hb87
      refine gw_ev HF89 (want_none rfl) rfl (by decide) (op_move rfl (HF89.ev rfl)) ?_
      intro a92 HF93; clear HF89
      refine gw_call HF93 (want_none rfl) rfl (by decide) (op_callL Try.func54 (by kernel_rfl) rfl rfl (ar_cons (HF93.ev rfl) ar_nil)) (GRightR_.rightr_calls A0 c0 es _ (Kd.C_below hr0 HO90.below) hc0 (by omega)) ?_
      rintro e94 w95 ⟨rfl, hb96⟩
      refine ⟨_, rfl, fun a97 HF98 => ?_⟩
      have HO99 := HO90.after hb96
      clear HF93 HO90 hb96
      refine gw_ev HF98 (want_none rfl) rfl (by decide) (op_eqb Try.underlying4 rfl (HF98.ev rfl) (HF98.ev rfl)) ?_
      intro a101 HF102; clear HF98
      have HF103 := HF102.lit (b := true) (by simp)
      clear HF102
      refine gw_ev HF103 (want_none rfl) rfl (by decide) (op_assign rfl (HF103.ev rfl)) ?_
      intro a104 HF105; clear HF103
      refine wpList_nil ?_
      refine gw_nx (hK82 _ _ ?_)
      refine wp_ret ?_
      refine gw_ret1 HF105 rfl rfl ?_
      exact ⟨rfl, HO99.below⟩
end GTraceRight_
open Classical in
noncomputable def colloquylaw18_TraceRight.f (l0 : List S70) : Option Bool := if (l0.length ≤ 9223372036854775807) then some true else none
theorem colloquylaw18_TraceRight.calls (A0 : Option Addr) (c0 : Nat) (l0 : List S70) (r : Bool) (w : World) (hr0 : Kd.C k70 w A0 l0.length l0) (hc0 : l0.length ≤ c0) (h : colloquylaw18_TraceRight.f l0 = some r) :
    Calls Try.prog 13 #[(.slice A0 l0.length c0)] w fun e w' => e = .returned (.bool r) ∧ Below w.heap.size w w' := by
  unfold colloquylaw18_TraceRight.f at h
  split at h
  · cases h; rename_i hh; exact GTraceRight_.TraceRight_calls A0 c0 l0 w hr0 hc0 hh
  · cases h
end Go.Proofs.Ytmlemnfleicnfaa.PA
