/- BufPlays. Printed by a program of this session; Lean checks it. -/
import Derived.Test.YtbnoedefkbnpjaaGBufAlive
import Derived.Test.YtbnoedefkbnpjaaGRef11
import Derived.Test.YtbnoedefkbnpjaaHKinds
namespace Go.Proofs.Ytbnoedefkbnpjaa.PA
open Go.RowKit Go.Proofs.YtbnoedefkbnpjaaW.PrintWords Go.Proofs.YtbnoedefkbnpjaaW.PrintLast Go.Proofs.YtbnoedefkbnpjaaW.PrintMore
set_option linter.unusedVariables false
set_option linter.unusedSimpArgs false
namespace GBufPlays_
theorem gwagg2 : ∀ w, (isAgg 2).run Try.prog w = .ok false w := fun _ => by kernel_rfl
theorem gwagg26 : ∀ w, (isAgg 26).run Try.prog w = .ok false w := fun _ => by kernel_rfl
theorem gwagg28 : ∀ w, (isAgg 28).run Try.prog w = .ok true w := fun _ => by kernel_rfl
theorem gwagg3 : ∀ w, (isAgg 3).run Try.prog w = .ok false w := fun _ => by kernel_rfl
theorem gwagg31 : ∀ w, (isAgg 31).run Try.prog w = .ok true w := fun _ => by kernel_rfl
theorem gwfld28_0 (g off : Nat) : ∀ w, (Instr.fieldAt 28 (.pointer (some ⟨g, off, none⟩)) 0).run Try.prog w = .ok (.pointer (some ⟨g, off + 0, none⟩)) w := fun _ => by kernel_rfl
theorem gwfld28_1 (g off : Nat) : ∀ w, (Instr.fieldAt 28 (.pointer (some ⟨g, off, none⟩)) 1).run Try.prog w = .ok (.pointer (some ⟨g, off + 1, none⟩)) w := fun _ => by kernel_rfl
theorem gwfld28_2 (g off : Nat) : ∀ w, (Instr.fieldAt 28 (.pointer (some ⟨g, off, none⟩)) 2).run Try.prog w = .ok (.pointer (some ⟨g, off + 2, none⟩)) w := fun _ => by kernel_rfl
theorem gwfld31_0 (g off : Nat) : ∀ w, (Instr.fieldAt 31 (.pointer (some ⟨g, off, none⟩)) 0).run Try.prog w = .ok (.pointer (some ⟨g, off + 0, none⟩)) w := fun _ => by kernel_rfl
theorem gwfld31_1 (g off : Nat) : ∀ w, (Instr.fieldAt 31 (.pointer (some ⟨g, off, none⟩)) 1).run Try.prog w = .ok (.pointer (some ⟨g, off + 1, none⟩)) w := fun _ => by kernel_rfl
theorem gwfld31_2 (g off : Nat) : ∀ w, (Instr.fieldAt 31 (.pointer (some ⟨g, off, none⟩)) 2).run Try.prog w = .ok (.pointer (some ⟨g, off + 2, none⟩)) w := fun _ => by kernel_rfl
theorem gwsiz28 : ∀ w, (sizeOf 28).run Try.prog w = .ok 3 w := fun _ => by kernel_rfl
theorem gwsiz31 : ∀ w, (sizeOf 31).run Try.prog w = .ok 3 w := fun _ => by kernel_rfl
theorem gwsiz5 : ∀ w, (sizeOf 5).run Try.prog w = .ok 1 w := fun _ => by kernel_rfl
theorem gwzer28 : ∀ w, (zeroValue 28).run Try.prog w = .ok (.agg #[.int .i64 0, .slice none 0 0, .int .i64 0]) w := fun _ => by kernel_rfl
theorem gwzer31 : ∀ w, (zeroValue 31).run Try.prog w = .ok (.agg #[.int .i64 0, .int .i64 0, .slice none 0 0]) w := fun _ => by kernel_rfl
set_option maxHeartbeats 4000000 in
set_option maxRecDepth 100000 in
theorem BufPlays_calls (most : Int) (A1 : Option Addr) (c1 : Nat) (script : List S31) (w : World) (hr1 : Kd.C k31 w A1 script.length script) (hc1 : script.length ≤ c1) (hl : script.length ≤ 9223372036854775807) (hz : ∀ x ∈ script, x.f2.length ≤ 140737488351232) :
    Calls Try.prog 3 #[.int .i64 most, .slice A1 script.length c1] w fun e w' => e = .returned (.bool true) ∧ Below w.heap.size w w' := by
  have hm : 1 ≤ mn (mx most 1) 2000 ∧ mn (mx most 1) 2000 ≤ 2000 := by unfold mn mx; (repeat' split) <;> omega
  refine gw_start (N := 124) (vs := [.int .i64 most, .slice A1 script.length c1]) Try.func3 rfl rfl (by simp) fun a HF HO => ?_
  replace HO : Own w w [] := HO
  refine gw_seq fun K1 hK1 => ?_
  refine wp_region_lit ?_
  refine gw_ev HF (want_none rfl) rfl (by decide) (op_assign rfl (ev_c _ _)) ?_
  intro a2 HF3; clear HF
  refine wpList_nil ?_
  refine gw_nx (hK1 _ _ ?_)
  refine gw_seq fun K4 hK4 => ?_
  refine wp_region_lit ?_
  refine gw_ev HF3 (want_none rfl) rfl (by decide) (op_move rfl (HF3.ev rfl)) ?_
  intro a5 HF6; clear HF3
  refine gw_call HF6 (want_none rfl) rfl (by decide) (op_callL Try.func11 (by kernel_rfl) rfl rfl (ar_cons (HF6.ev rfl) ar_nil)) (buf_new0 w.heap.size most _ HO.below.size) ?_
  rintro e9 w10 ⟨g7, S8, rfl, hb11⟩
  refine ⟨_, rfl, fun a12 HF13 => ?_⟩
  have HO14 := HO.fresh hb11
  clear HF6 HO hb11
  have HO16 : Own w w10 [Chunk.buf w.heap.size g7 S8 (mn (mx most 1) 2000) ([] : List Int) 0] := HO14
  clear HO14
  refine gw_ev HF13 (want_none rfl) rfl (by decide) (op_assign rfl (HF13.ev rfl)) ?_
  intro a17 HF18; clear HF13
  refine wpList_nil ?_
  refine gw_nx (hK4 _ _ ?_)
  refine gw_seq fun K19 hK19 => ?_
  refine gw_seq fun K20 hK20 => ?_
  refine wp_region_lit ?_
  refine gw_ev HF18 (want_none rfl) rfl (by decide) (op_move rfl (HF18.ev rfl)) ?_
  intro a21 HF22; clear HF18
  refine gw_ev HF22 (want_none rfl) rfl (by decide) (op_eqp_nil Try.underlying23 rfl (HF22.ev rfl)) ?_
  intro a23 HF24; clear HF22
  refine gw_ev HF24 (want_none rfl) rfl (by decide) (op_move rfl (HF24.ev rfl)) ?_
  intro a25 HF26; clear HF24
  refine gw_call HF26 (want_yes HF26 rfl rfl rfl rfl) rfl (by decide) (op_callL Try.func12 (by kernel_rfl) rfl rfl ar_nil) (GBufAlive_.alive_calls _) ?_
  rintro e27 w28 ⟨rfl, hb29⟩
  refine ⟨_, rfl, fun a30 HF31 => ?_⟩
  have HO32 := HO16.after hb29
  clear HF26 HO16 hb29
  refine gw_ev HF31 (want_yes HF31 rfl rfl rfl rfl) rfl (by decide) (op_not rfl (HF31.ev rfl)) ?_
  intro a34 HF35; clear HF31
  refine gw_ev HF35 (want_none rfl) rfl (by decide) (op_pick_f rfl (HF35.ev rfl) (HF35.ev rfl)) ?_
  intro a36 HF37; clear HF35
  refine wpList_nil ?_
  refine gw_nx (hK20 _ _ ?_)
  refine gw_cond HF37 rfl (fun hb38 => ?_) (fun hb38 => ?_)
  skip
  · cases hb38
  refine wp_skip ?_
  refine gw_nx (hK19 _ _ ?_)
  refine gw_seq fun K39 hK39 => ?_
  refine wp_region_lit ?_
  refine gw_ev HF37 (want_none rfl) rfl (by decide) (op_move rfl (HF37.ev rfl)) ?_
  intro a40 HF41; clear HF37
  refine gw_call HF41 (want_none rfl) rfl (by decide) (op_callL Try.func13 (by kernel_rfl) rfl rfl (ar_cons (HF41.ev rfl) ar_nil)) (GRef11_.new_calls most _) ?_
  rintro e42 w43 ⟨rfl, hb44⟩
  refine ⟨_, rfl, fun a45 HF46 => ?_⟩
  have HO47 := HO32.after hb44
  clear HF41 HO32 hb44
  refine gw_new HF46 HO47 (want_none rfl) rfl (by decide) (op_alloc gwzer28 rfl) ?_
  intro g49 a50 w51 HF52 HO53; clear HF46 HO47
  have HO54 : Own w w51 [Chunk.blk g49 (.cells #[.int .i64 0, .slice none 0 0, .int .i64 0] 28 (0, 0)), Chunk.buf w.heap.size g7 S8 (mn (mx most 1) 2000) ([] : List Int) 0] := HO53
  clear HO53
  refine gw_setn 0 HF52 HO54 rfl (want_none rfl) rfl (op_storen gwsiz28 rfl (HF52.ev rfl) (HF52.ev rfl) (HO54.get 0 rfl) rfl (by simp) (by simp [Value.oneCell'])) ?_
  intro a55 w57 HF56 HO58; clear HF52 HO54
  have HO59 : Own w w57 [Chunk.blk g49 (.cells #[.int .i64 (mn (mx most 1) 2000), .slice none 0 0, .int .i64 0] 28 (0, 0)), Chunk.buf w.heap.size g7 S8 (mn (mx most 1) 2000) ([] : List Int) 0] := HO58
  clear HO58
  refine wpList_nil ?_
  refine gw_nx (hK39 _ _ ?_)
  refine gw_seq fun K60 hK60 => ?_
  refine wp_region_lit ?_
  refine gw_ev HF56 (want_none rfl) rfl (by decide) (op_assign rfl (ev_c _ _)) ?_
  intro a61 HF62; clear HF56
  refine wpList_nil ?_
  refine gw_nx (hK60 _ _ ?_)
  refine gw_seq fun K63 hK63 => ?_
  refine gw_seq fun K64 hK64 => ?_
  refine wp_region_lit ?_
  refine gw_ev HF62 (want_none rfl) rfl (by decide) (op_move rfl (HF62.ev rfl)) ?_
  intro a65 HF66; clear HF62
  refine gw_ev HF66 (want_none rfl) rfl (by decide) (op_len Try.underlying22 rfl (HF66.ev rfl)) ?_
  intro a67 HF68; clear HF66
  refine gw_ev HF68 (want_none rfl) rfl (by decide) (op_move rfl (ev_c _ _)) ?_
  intro a69 HF70; clear HF68
  refine wpList_nil ?_
  refine gw_nx (hK64 _ _ ?_)
  refine wp_block ?_
  have HO71 := HO59.view_nil (Kd.int .u8)
  clear HO59
  refine gw_loop (fun m_ a_ w_ => ∃ (i : Int) (used : Int) (G : Int) (xs : List Int) (Sb : Nat → Prop) (Sm : Nat → Prop) (Am : Option Addr) (cm : Nat), Fr 124 a_ [(31, .int .i64 i), (7, .int .i64 used), (5, .pointer (some ⟨g7, 0, none⟩)), (6, .pointer (some ⟨g49, 0, none⟩)), (29, .slice A1 script.length c1), (30, .int .i64 (script.length : Int))] ∧ Own w w_ [Chunk.view (Kd.int .u8) Sm Am xs.length cm xs, Chunk.buf w.heap.size g7 Sb (mn (mx most 1) 2000) xs G, Chunk.blk g49 (.cells #[.int .i64 (mn (mx most 1) 2000), .slice Am xs.length cm, .int .i64 G] 28 (0, 0))] ∧ (0 ≤ i ∧ i ≤ script.length) ∧ (0 ≤ G ∧ 0 ≤ used ∧ used ≤ 20000 ∧ G + xs.length ≤ used) ∧ ((xs.length : Int) ≤ (mn (mx most 1) 2000)) ∧ m_ = (script.length - i.toNat)) ((script.length - (0 : Int).toNat)) ?_ ?_
  · refine ⟨0, 0, 0, [], S8, (fun _ => False), none, 0, (HF70.pick (t := 31) rfl (HF70.pick (t := 7) rfl (HF70.pick (t := 5) rfl (HF70.pick (t := 6) rfl (HF70.pick (t := 29) rfl (HF70.pick (t := 30) rfl HF70.nil)))))), HO71.sel [0, 2, 1] (by decide), ?_, ?_, ?_, rfl⟩
    · (first | omega | ((try have h1_ := ovN_le (mn (mx most 1) 2000) xs.length ((script.getD i.toNat z31).f2).length); (try have h2_ := hz _ (getD_mem (z := z31) script i.toNat (by omega))); (try have h3_ := putL_len' (mn (mx most 1) 2000) xs (script.getD i.toNat z31).f2 (by omega)); (try have h4_ := ov_add' (mn (mx most 1) 2000) xs (script.getD i.toNat z31).f2); first | omega | ((try simp only [List.length_append, List.length_take, List.length_drop, List.length_nil, List.length_cons, List.length_set] at *); omega)))
    · simp
    · simp; (first | omega | ((try have h1_ := ovN_le (mn (mx most 1) 2000) xs.length ((script.getD i.toNat z31).f2).length); (try have h2_ := hz _ (getD_mem (z := z31) script i.toNat (by omega))); (try have h3_ := putL_len' (mn (mx most 1) 2000) xs (script.getD i.toNat z31).f2 (by omega)); (try have h4_ := ov_add' (mn (mx most 1) 2000) xs (script.getD i.toNat z31).f2); first | omega | ((try simp only [List.length_append, List.length_take, List.length_drop, List.length_nil, List.length_cons, List.length_set] at *); omega)))
  · rintro m73 a74 w75 ⟨i, used, G, xs, Sb, Sm, Am, cm, HF76, HO77, hi, hu, hx, hm78⟩
    refine gw_seq fun K79 hK79 => ?_
    refine wp_region_lit ?_
    refine gw_ev HF76 (want_none rfl) rfl (by decide) (op_lss rfl (HF76.ev rfl) (HF76.ev rfl)) ?_
    intro a80 HF81; clear HF76
    refine wpList_nil ?_
    refine gw_nx (hK79 _ _ ?_)
    refine gw_seq fun K82 hK82 => ?_
    refine gw_cond HF81 rfl (fun hb83 => ?_) (fun hb83 => ?_)
    · skip
      have HF84 := HF81.subst_ (d := 32) (b := true) rfl hb83
      clear HF81
      (try simp only [decide_eq_true_eq, decide_eq_false_iff_not, Bool.not_eq_true', Bool.not_eq_false', Bool.not_eq_true, Bool.not_eq_false, ne_eq, Decidable.not_not, Int.not_lt, Int.not_le, not_true_eq_false, not_false_eq_true, bne_iff_ne, beq_iff_eq, bne_eq_false_iff_eq, beq_eq_false_iff_ne] at hb83)
      refine wp_skip ?_
      refine gw_nx (hK82 _ _ ?_)
      refine gw_seq fun K85 hK85 => ?_
      refine wp_block ?_
      refine gw_seq fun K86 hK86 => ?_
      refine wp_region_lit ?_
      obtain ⟨ad87, cs90, hA88, hl91, hK92, hc89⟩ := Kd.C_get hr1 z31 i (by (first | omega | ((try have h1_ := ovN_le (mn (mx most 1) 2000) xs.length ((script.getD i.toNat z31).f2).length); (try have h2_ := hz _ (getD_mem (z := z31) script i.toNat (by omega))); (try have h3_ := putL_len' (mn (mx most 1) 2000) xs (script.getD i.toNat z31).f2 (by omega)); (try have h4_ := ov_add' (mn (mx most 1) 2000) xs (script.getD i.toNat z31).f2); first | omega | ((try simp only [List.length_append, List.length_take, List.length_drop, List.length_nil, List.length_cons, List.length_set] at *); omega)))) (by (first | omega | ((try have h1_ := ovN_le (mn (mx most 1) 2000) xs.length ((script.getD i.toNat z31).f2).length); (try have h2_ := hz _ (getD_mem (z := z31) script i.toNat (by omega))); (try have h3_ := putL_len' (mn (mx most 1) 2000) xs (script.getD i.toNat z31).f2 (by omega)); (try have h4_ := ov_add' (mn (mx most 1) 2000) xs (script.getD i.toNat z31).f2); first | omega | ((try simp only [List.length_append, List.length_take, List.length_drop, List.length_nil, List.length_cons, List.length_set] at *); omega))))
      obtain ⟨A93, c94, rfl, hl95, hC96⟩ := k31_open hK92
      clear hl91
      refine gw_ev HF84 (want_none rfl) rfl (by decide) (op_index Try.underlying22 gwsiz31 rfl (HF84.ev rfl) (HF84.ev rfl) hA88 (⟨by (first | omega | ((try have h1_ := ovN_le (mn (mx most 1) 2000) xs.length ((script.getD i.toNat z31).f2).length); (try have h2_ := hz _ (getD_mem (z := z31) script i.toNat (by omega))); (try have h3_ := putL_len' (mn (mx most 1) 2000) xs (script.getD i.toNat z31).f2 (by omega)); (try have h4_ := ov_add' (mn (mx most 1) 2000) xs (script.getD i.toNat z31).f2); first | omega | ((try simp only [List.length_append, List.length_take, List.length_drop, List.length_nil, List.length_cons, List.length_set] at *); omega))), by (first | omega | ((try have h1_ := ovN_le (mn (mx most 1) 2000) xs.length ((script.getD i.toNat z31).f2).length); (try have h2_ := hz _ (getD_mem (z := z31) script i.toNat (by omega))); (try have h3_ := putL_len' (mn (mx most 1) 2000) xs (script.getD i.toNat z31).f2 (by omega)); (try have h4_ := ov_add' (mn (mx most 1) 2000) xs (script.getD i.toNat z31).f2); first | omega | ((try simp only [List.length_append, List.length_take, List.length_drop, List.length_nil, List.length_cons, List.length_set] at *); omega)))⟩)) ?_
      intro a97 HF98; clear HF84
      refine gw_ev HF98 (want_none rfl) rfl (by decide) (op_loadc gwagg31 gwsiz31 rfl (HF98.ev rfl) rfl (cells0 HO77 hc89)) ?_
      intro a99 HF100; clear HF98
      refine gw_new HF100 HO77 (want_none rfl) rfl (by decide) (op_alloc gwzer31 rfl) ?_
      intro g101 a102 w103 HF104 HO105; clear HF100 HO77
      have HO106 : Own w w103 [Chunk.blk g101 (.cells #[.int .i64 0, .int .i64 0, .slice none 0 0] 31 (0, 0)), Chunk.view (Kd.int .u8) Sm Am xs.length cm xs, Chunk.buf w.heap.size g7 Sb (mn (mx most 1) 2000) xs G, Chunk.blk g49 (.cells #[.int .i64 (mn (mx most 1) 2000), .slice Am xs.length cm, .int .i64 G] 28 (0, 0))] := HO105
      clear HO105
      refine gw_setn 0 HF104 HO106 rfl (want_none rfl) rfl (op_storen gwsiz31 rfl (HF104.ev rfl) (HF104.ev rfl) (HO106.get 0 rfl) rfl (by simp) (by simp [Value.oneCell'])) ?_
      intro a107 w109 HF108 HO110; clear HF104 HO106
      have HO111 : Own w w109 [Chunk.blk g101 (.cells #[.int .i64 ((script.getD i.toNat z31).f0), .int .i64 ((script.getD i.toNat z31).f1), .slice A93 ((script.getD i.toNat z31).f2.length) c94] 31 (0, 0)), Chunk.view (Kd.int .u8) Sm Am xs.length cm xs, Chunk.buf w.heap.size g7 Sb (mn (mx most 1) 2000) xs G, Chunk.blk g49 (.cells #[.int .i64 (mn (mx most 1) 2000), .slice Am xs.length cm, .int .i64 G] 28 (0, 0))] := HO110
      clear HO110
      refine wpList_nil ?_
      refine gw_nx (hK86 _ _ ?_)
      refine gw_seq fun K112 hK112 => ?_
      refine wp_region_lit ?_
      refine gw_ev HF108 (want_none rfl) rfl (by decide) (op_move rfl (HF108.ev rfl)) ?_
      intro a113 HF114; clear HF108
      refine gw_ev HF114 (want_none rfl) rfl (by decide) (op_field (gwfld31_2 _ _) rfl (HF114.ev rfl)) ?_
      intro a115 HF116; clear HF114
      refine gw_ev HF116 (want_none rfl) rfl (by decide) (op_load1 gwagg26 rfl (HF116.ev rfl) (blk_at (HO111.get 0 rfl) rfl)) ?_
      intro a117 HF118; clear HF116
      refine gw_ev HF118 (want_none rfl) rfl (by decide) (op_len Try.underlying26 rfl (HF118.ev rfl)) ?_
      intro a119 HF120; clear HF118
      refine gw_ev HF120 (want_none rfl) rfl (by decide) (op_add rfl (HF120.ev rfl) (ev_c _ _) (by (first | omega | ((try have h1_ := ovN_le (mn (mx most 1) 2000) xs.length ((script.getD i.toNat z31).f2).length); (try have h2_ := hz _ (getD_mem (z := z31) script i.toNat (by omega))); (try have h3_ := putL_len' (mn (mx most 1) 2000) xs (script.getD i.toNat z31).f2 (by omega)); (try have h4_ := ov_add' (mn (mx most 1) 2000) xs (script.getD i.toNat z31).f2); first | omega | ((try simp only [List.length_append, List.length_take, List.length_drop, List.length_nil, List.length_cons, List.length_set] at *); omega))))) ?_
      intro a121 HF122; clear HF120
      refine gw_ev HF122 (want_none rfl) rfl (by decide) (op_add rfl (HF122.ev rfl) (HF122.ev rfl) (by (first | omega | ((try have h1_ := ovN_le (mn (mx most 1) 2000) xs.length ((script.getD i.toNat z31).f2).length); (try have h2_ := hz _ (getD_mem (z := z31) script i.toNat (by omega))); (try have h3_ := putL_len' (mn (mx most 1) 2000) xs (script.getD i.toNat z31).f2 (by omega)); (try have h4_ := ov_add' (mn (mx most 1) 2000) xs (script.getD i.toNat z31).f2); first | omega | ((try simp only [List.length_append, List.length_take, List.length_drop, List.length_nil, List.length_cons, List.length_set] at *); omega))))) ?_
      intro a123 HF124; clear HF122
      refine gw_ev HF124 (want_none rfl) rfl (by decide) (op_assign rfl (HF124.ev rfl)) ?_
      intro a125 HF126; clear HF124
      refine wpList_nil ?_
      refine gw_nx (hK112 _ _ ?_)
      refine gw_seq fun K127 hK127 => ?_
      refine gw_seq fun K128 hK128 => ?_
      refine wp_region_lit ?_
      refine gw_ev HF126 (want_none rfl) rfl (by decide) (op_move rfl (HF126.ev rfl)) ?_
      intro a129 HF130; clear HF126
      refine gw_ev HF130 (want_none rfl) rfl (by decide) (op_gtr rfl (HF130.ev rfl) (ev_c _ _)) ?_
      intro a131 HF132; clear HF130
      refine wpList_nil ?_
      refine gw_nx (hK128 _ _ ?_)
      refine gw_cond HF132 rfl (fun hb133 => ?_) (fun hb133 => ?_)
      · skip
        have HF134 := HF132.subst_ (d := 42) (b := true) rfl hb133
        clear HF132
        (try simp only [decide_eq_true_eq, decide_eq_false_iff_not, Bool.not_eq_true', Bool.not_eq_false', Bool.not_eq_true, Bool.not_eq_false, ne_eq, Decidable.not_not, Int.not_lt, Int.not_le, not_true_eq_false, not_false_eq_true, bne_iff_ne, beq_iff_eq, bne_eq_false_iff_eq, beq_eq_false_iff_ne] at hb133)
        refine gw_seq fun K135 hK135 => ?_
        refine wp_region_lit ?_
        refine gw_ev HF134 (want_none rfl) rfl (by decide) (op_assign rfl (ev_c _ _)) ?_
        intro a136 HF137; clear HF134
        refine wpList_nil ?_
        refine gw_nx (hK135 _ _ ?_)
        refine wp_ret ?_
        refine gw_thr ?_
        refine gw_blr ?_
        refine gw_thr ?_
        refine gw_thr ?_
        refine gw_blr ?_
        refine gw_thr ?_
        refine gw_ret1 HF137 rfl rfl ?_
        exact ⟨rfl, HO111.below⟩
      · skip
        have HF138 := HF132.subst_ (d := 42) (b := false) rfl hb133
        clear HF132
        (try simp only [decide_eq_true_eq, decide_eq_false_iff_not, Bool.not_eq_true', Bool.not_eq_false', Bool.not_eq_true, Bool.not_eq_false, ne_eq, Decidable.not_not, Int.not_lt, Int.not_le, not_true_eq_false, not_false_eq_true, bne_iff_ne, beq_iff_eq, bne_eq_false_iff_eq, beq_eq_false_iff_ne] at hb133)
        refine wp_skip ?_
        refine gw_nx (hK127 _ _ ?_)
        refine gw_seq fun K139 hK139 => ?_
        refine gw_seq fun K140 hK140 => ?_
        refine wp_region_lit ?_
        refine gw_ev HF138 (want_none rfl) rfl (by decide) (op_field (gwfld31_0 _ _) rfl (HF138.ev rfl)) ?_
        intro a141 HF142; clear HF138
        refine gw_ev HF142 (want_none rfl) rfl (by decide) (op_load1 gwagg3 rfl (HF142.ev rfl) (blk_at (HO111.get 0 rfl) rfl)) ?_
        intro a143 HF144; clear HF142
        refine wpList_nil ?_
        refine gw_nx (hK140 _ _ ?_)
        refine wp_block ?_
        refine gw_seq fun K145 hK145 => ?_
        refine wp_region_lit ?_
        refine gw_ev HF144 (want_none rfl) rfl (by decide) (op_eqi rfl (HF144.ev rfl) (ev_c _ _)) ?_
        intro a146 HF147; clear HF144
        refine gw_ev HF147 (want_none rfl) rfl (by decide) (op_assign rfl (HF147.ev rfl)) ?_
        intro a148 HF149; clear HF147
        refine wpList_nil ?_
        refine gw_nx (hK145 _ _ ?_)
        refine gw_cond HF149 rfl (fun hb150 => ?_) (fun hb150 => ?_)
        · skip
          have HF151 := HF149.subst_ (d := 45) (b := true) rfl hb150
          clear HF149
          (try simp only [decide_eq_true_eq, decide_eq_false_iff_not, Bool.not_eq_true', Bool.not_eq_false', Bool.not_eq_true, Bool.not_eq_false, ne_eq, Decidable.not_not, Int.not_lt, Int.not_le, not_true_eq_false, not_false_eq_true, bne_iff_ne, beq_iff_eq, bne_eq_false_iff_eq, beq_eq_false_iff_ne] at hb150)
          refine gw_seq fun K152 hK152 => ?_
          refine wp_region_lit ?_
          refine gw_ev HF151 (want_none rfl) rfl (by decide) (op_move rfl (HF151.ev rfl)) ?_
          intro a153 HF154; clear HF151
          refine gw_ev HF154 (want_none rfl) rfl (by decide) (op_field (gwfld31_2 _ _) rfl (HF154.ev rfl)) ?_
          intro a155 HF156; clear HF154
          refine gw_ev HF156 (want_none rfl) rfl (by decide) (op_load1 gwagg26 rfl (HF156.ev rfl) (blk_at (HO111.get 0 rfl) rfl)) ?_
          intro a157 HF158; clear HF156
          refine gw_call HF158 (want_none rfl) rfl (by decide) (op_callL Try.func14 (by kernel_rfl) rfl rfl (ar_cons (HF158.ev rfl) (ar_cons (HF158.ev rfl) ar_nil))) (buf_put w.heap.size g7 Sb (mn (mx most 1) 2000) xs G A93 c94 ((script.getD i.toNat z31).f2) _ (HO111.get 2 rfl) (fun k hk => (HO111.lt 2 rfl hk).2) HO111.below.size (Kd.C_below hC96 HO111.below) hl95 (arg_out HO111 hC96 2 rfl) (by (first | omega | ((try have h1_ := ovN_le (mn (mx most 1) 2000) xs.length ((script.getD i.toNat z31).f2).length); (try have h2_ := hz _ (getD_mem (z := z31) script i.toNat (by omega))); (try have h3_ := putL_len' (mn (mx most 1) 2000) xs (script.getD i.toNat z31).f2 (by omega)); (try have h4_ := ov_add' (mn (mx most 1) 2000) xs (script.getD i.toNat z31).f2); first | omega | ((try simp only [List.length_append, List.length_take, List.length_drop, List.length_nil, List.length_cons, List.length_set] at *); omega)))) (by (first | omega | ((try have h1_ := ovN_le (mn (mx most 1) 2000) xs.length ((script.getD i.toNat z31).f2).length); (try have h2_ := hz _ (getD_mem (z := z31) script i.toNat (by omega))); (try have h3_ := putL_len' (mn (mx most 1) 2000) xs (script.getD i.toNat z31).f2 (by omega)); (try have h4_ := ov_add' (mn (mx most 1) 2000) xs (script.getD i.toNat z31).f2); first | omega | ((try simp only [List.length_append, List.length_take, List.length_drop, List.length_nil, List.length_cons, List.length_set] at *); omega)))) (by (first | omega | ((try have h1_ := ovN_le (mn (mx most 1) 2000) xs.length ((script.getD i.toNat z31).f2).length); (try have h2_ := hz _ (getD_mem (z := z31) script i.toNat (by omega))); (try have h3_ := putL_len' (mn (mx most 1) 2000) xs (script.getD i.toNat z31).f2 (by omega)); (try have h4_ := ov_add' (mn (mx most 1) 2000) xs (script.getD i.toNat z31).f2); first | omega | ((try simp only [List.length_append, List.length_take, List.length_drop, List.length_nil, List.length_cons, List.length_set] at *); omega)))) (by (first | omega | ((try have h1_ := ovN_le (mn (mx most 1) 2000) xs.length ((script.getD i.toNat z31).f2).length); (try have h2_ := hz _ (getD_mem (z := z31) script i.toNat (by omega))); (try have h3_ := putL_len' (mn (mx most 1) 2000) xs (script.getD i.toNat z31).f2 (by omega)); (try have h4_ := ov_add' (mn (mx most 1) 2000) xs (script.getD i.toNat z31).f2); first | omega | ((try simp only [List.length_append, List.length_take, List.length_drop, List.length_nil, List.length_cons, List.length_set] at *); omega))))) ?_
          rintro e160 w161 ⟨S159, rfl, hb162⟩
          refine ⟨_, rfl, fun a163 HF164 => ?_⟩
          have HO165 := HO111.calls 2 rfl hb162
          clear HF158 HO111 hb162
          have HO167 : Own w w161 [Chunk.blk g101 (.cells #[.int .i64 ((script.getD i.toNat z31).f0), .int .i64 ((script.getD i.toNat z31).f1), .slice A93 ((script.getD i.toNat z31).f2.length) c94] 31 (0, 0)), Chunk.view (Kd.int .u8) Sm Am xs.length cm xs, Chunk.buf w.heap.size g7 S159 (mn (mx most 1) 2000) (putL (mn (mx most 1) 2000) xs ((script.getD i.toNat z31).f2)) (G + (ovN (mn (mx most 1) 2000) xs.length ((script.getD i.toNat z31).f2).length : Int)), Chunk.blk g49 (.cells #[.int .i64 (mn (mx most 1) 2000), .slice Am xs.length cm, .int .i64 G] 28 (0, 0))] := HO165
          clear HO165
          refine gw_ev HF164 (want_none rfl) rfl (by decide) (op_assign rfl (HF164.ev rfl)) ?_
          intro a168 HF169; clear HF164
          refine wpList_nil ?_
          refine gw_nx (hK152 _ _ ?_)
          refine gw_seq fun K170 hK170 => ?_
          refine wp_region_lit ?_
          refine gw_ev HF169 (want_none rfl) rfl (by decide) (op_loadn gwagg28 gwsiz28 rfl (HF169.ev rfl) (HO167.get 3 rfl) rfl rfl) ?_
          intro a171 HF172; clear HF169
          refine gw_ev HF172 (want_none rfl) rfl (by decide) (op_field (gwfld31_2 _ _) rfl (HF172.ev rfl)) ?_
          intro a173 HF174; clear HF172
          refine gw_ev HF174 (want_none rfl) rfl (by decide) (op_load1 gwagg26 rfl (HF174.ev rfl) (blk_at (HO167.get 0 rfl) rfl)) ?_
          intro a175 HF176; clear HF174
          refine gw_call HF176 (want_none rfl) rfl (by decide) (op_callL Try.func15 (by kernel_rfl) rfl rfl (ar_cons (HF176.ev rfl) (ar_cons (HF176.ev rfl) ar_nil))) (GRef11_.put_calls (mn (mx most 1) 2000) Am cm xs G A93 c94 ((script.getD i.toNat z31).f2) _ (view_C (HO167.get 1 rfl)) (view_le (HO167.get 1 rfl)) (Kd.C_below hC96 HO167.below) hl95 (by (first | omega | ((try have h1_ := ovN_le (mn (mx most 1) 2000) xs.length ((script.getD i.toNat z31).f2).length); (try have h2_ := hz _ (getD_mem (z := z31) script i.toNat (by omega))); (try have h3_ := putL_len' (mn (mx most 1) 2000) xs (script.getD i.toNat z31).f2 (by omega)); (try have h4_ := ov_add' (mn (mx most 1) 2000) xs (script.getD i.toNat z31).f2); first | omega | ((try simp only [List.length_append, List.length_take, List.length_drop, List.length_nil, List.length_cons, List.length_set] at *); omega)))) (by (first | omega | ((try have h1_ := ovN_le (mn (mx most 1) 2000) xs.length ((script.getD i.toNat z31).f2).length); (try have h2_ := hz _ (getD_mem (z := z31) script i.toNat (by omega))); (try have h3_ := putL_len' (mn (mx most 1) 2000) xs (script.getD i.toNat z31).f2 (by omega)); (try have h4_ := ov_add' (mn (mx most 1) 2000) xs (script.getD i.toNat z31).f2); first | omega | ((try simp only [List.length_append, List.length_take, List.length_drop, List.length_nil, List.length_cons, List.length_set] at *); omega)))) (by (first | omega | ((try have h1_ := ovN_le (mn (mx most 1) 2000) xs.length ((script.getD i.toNat z31).f2).length); (try have h2_ := hz _ (getD_mem (z := z31) script i.toNat (by omega))); (try have h3_ := putL_len' (mn (mx most 1) 2000) xs (script.getD i.toNat z31).f2 (by omega)); (try have h4_ := ov_add' (mn (mx most 1) 2000) xs (script.getD i.toNat z31).f2); first | omega | ((try simp only [List.length_append, List.length_take, List.length_drop, List.length_nil, List.length_cons, List.length_set] at *); omega))))) ?_
          rintro e181 w182 ⟨A177, c178, S179, rfl, hb183⟩
          refine ⟨_, rfl, fun a184 HF185 => ?_⟩
          have HO186 := HO167.fresh hb183
          clear HF176 HO167 hb183
          have HO188 : Own w w182 [Chunk.view (Kd.int .u8) S179 A177 ((putL (mn (mx most 1) 2000) xs ((script.getD i.toNat z31).f2)).length) c178 (putL (mn (mx most 1) 2000) xs ((script.getD i.toNat z31).f2)), Chunk.blk g101 (.cells #[.int .i64 ((script.getD i.toNat z31).f0), .int .i64 ((script.getD i.toNat z31).f1), .slice A93 ((script.getD i.toNat z31).f2.length) c94] 31 (0, 0)), Chunk.view (Kd.int .u8) Sm Am xs.length cm xs, Chunk.buf w.heap.size g7 S159 (mn (mx most 1) 2000) (putL (mn (mx most 1) 2000) xs ((script.getD i.toNat z31).f2)) (G + (ovN (mn (mx most 1) 2000) xs.length ((script.getD i.toNat z31).f2).length : Int)), Chunk.blk g49 (.cells #[.int .i64 (mn (mx most 1) 2000), .slice Am xs.length cm, .int .i64 G] 28 (0, 0))] := HO186
          clear HO186
          refine gw_ev HF185 (want_none rfl) rfl (by decide) (op_move rfl (HF185.ev rfl)) ?_
          intro a189 HF190; clear HF185
          refine gw_ev HF190 (want_none rfl) rfl (by decide) (op_extract rfl (HF190.ev rfl) rfl) ?_
          intro a191 HF192; clear HF190
          refine gw_ev HF192 (want_none rfl) rfl (by decide) (op_extract rfl (HF192.ev rfl) rfl) ?_
          intro a193 HF194; clear HF192
          refine gw_new HF194 HO188 (want_none rfl) rfl (by decide) (op_alloc gwzer28 rfl) ?_
          intro g195 a196 w197 HF198 HO199; clear HF194 HO188
          have HO200 : Own w w197 [Chunk.blk g195 (.cells #[.int .i64 0, .slice none 0 0, .int .i64 0] 28 (0, 0)), Chunk.view (Kd.int .u8) S179 A177 ((putL (mn (mx most 1) 2000) xs ((script.getD i.toNat z31).f2)).length) c178 (putL (mn (mx most 1) 2000) xs ((script.getD i.toNat z31).f2)), Chunk.blk g101 (.cells #[.int .i64 ((script.getD i.toNat z31).f0), .int .i64 ((script.getD i.toNat z31).f1), .slice A93 ((script.getD i.toNat z31).f2.length) c94] 31 (0, 0)), Chunk.view (Kd.int .u8) Sm Am xs.length cm xs, Chunk.buf w.heap.size g7 S159 (mn (mx most 1) 2000) (putL (mn (mx most 1) 2000) xs ((script.getD i.toNat z31).f2)) (G + (ovN (mn (mx most 1) 2000) xs.length ((script.getD i.toNat z31).f2).length : Int)), Chunk.blk g49 (.cells #[.int .i64 (mn (mx most 1) 2000), .slice Am xs.length cm, .int .i64 G] 28 (0, 0))] := HO199
          clear HO199
          refine gw_setn 0 HF198 HO200 rfl (want_none rfl) rfl (op_storen gwsiz28 rfl (HF198.ev rfl) (HF198.ev rfl) (HO200.get 0 rfl) rfl (by simp) (by simp [Value.oneCell'])) ?_
          intro a201 w203 HF202 HO204; clear HF198 HO200
          have HO205 : Own w w203 [Chunk.blk g195 (.cells #[.int .i64 (mn (mx most 1) 2000), .slice A177 ((putL (mn (mx most 1) 2000) xs ((script.getD i.toNat z31).f2)).length) c178, .int .i64 (G + (ovN (mn (mx most 1) 2000) xs.length ((script.getD i.toNat z31).f2).length : Int))] 28 (0, 0)), Chunk.view (Kd.int .u8) S179 A177 ((putL (mn (mx most 1) 2000) xs ((script.getD i.toNat z31).f2)).length) c178 (putL (mn (mx most 1) 2000) xs ((script.getD i.toNat z31).f2)), Chunk.blk g101 (.cells #[.int .i64 ((script.getD i.toNat z31).f0), .int .i64 ((script.getD i.toNat z31).f1), .slice A93 ((script.getD i.toNat z31).f2.length) c94] 31 (0, 0)), Chunk.view (Kd.int .u8) Sm Am xs.length cm xs, Chunk.buf w.heap.size g7 S159 (mn (mx most 1) 2000) (putL (mn (mx most 1) 2000) xs ((script.getD i.toNat z31).f2)) (G + (ovN (mn (mx most 1) 2000) xs.length ((script.getD i.toNat z31).f2).length : Int)), Chunk.blk g49 (.cells #[.int .i64 (mn (mx most 1) 2000), .slice Am xs.length cm, .int .i64 G] 28 (0, 0))] := HO204
          clear HO204
          refine gw_ev HF202 (want_none rfl) rfl (by decide) (op_assign rfl (HF202.ev rfl)) ?_
          intro a206 HF207; clear HF202
          refine wpList_nil ?_
          refine gw_nx (hK170 _ _ ?_)
          refine gw_seq fun K208 hK208 => ?_
          refine wp_region_lit ?_
          refine gw_ev HF207 (want_none rfl) rfl (by decide) (op_loadn gwagg28 gwsiz28 rfl (HF207.ev rfl) (HO205.get 0 rfl) rfl rfl) ?_
          intro a209 HF210; clear HF207
          refine gw_setn 5 HF210 HO205 rfl (want_none rfl) rfl (op_storen gwsiz28 rfl (HF210.ev rfl) (HF210.ev rfl) (HO205.get 5 rfl) rfl (by simp) (by simp [Value.oneCell'])) ?_
          intro a211 w213 HF212 HO214; clear HF210 HO205
          have HO215 : Own w w213 [Chunk.blk g195 (.cells #[.int .i64 (mn (mx most 1) 2000), .slice A177 ((putL (mn (mx most 1) 2000) xs ((script.getD i.toNat z31).f2)).length) c178, .int .i64 (G + (ovN (mn (mx most 1) 2000) xs.length ((script.getD i.toNat z31).f2).length : Int))] 28 (0, 0)), Chunk.view (Kd.int .u8) S179 A177 ((putL (mn (mx most 1) 2000) xs ((script.getD i.toNat z31).f2)).length) c178 (putL (mn (mx most 1) 2000) xs ((script.getD i.toNat z31).f2)), Chunk.blk g101 (.cells #[.int .i64 ((script.getD i.toNat z31).f0), .int .i64 ((script.getD i.toNat z31).f1), .slice A93 ((script.getD i.toNat z31).f2.length) c94] 31 (0, 0)), Chunk.view (Kd.int .u8) Sm Am xs.length cm xs, Chunk.buf w.heap.size g7 S159 (mn (mx most 1) 2000) (putL (mn (mx most 1) 2000) xs ((script.getD i.toNat z31).f2)) (G + (ovN (mn (mx most 1) 2000) xs.length ((script.getD i.toNat z31).f2).length : Int)), Chunk.blk g49 (.cells #[.int .i64 (mn (mx most 1) 2000), .slice A177 ((putL (mn (mx most 1) 2000) xs ((script.getD i.toNat z31).f2)).length) c178, .int .i64 (G + (ovN (mn (mx most 1) 2000) xs.length ((script.getD i.toNat z31).f2).length : Int))] 28 (0, 0))] := HO214
          clear HO214
          refine wpList_nil ?_
          refine gw_nx (hK208 _ _ ?_)
          refine gw_seq fun K216 hK216 => ?_
          refine wp_region_lit ?_
          refine gw_ev HF212 (want_none rfl) rfl (by decide) (op_move rfl (HF212.ev rfl)) ?_
          intro a217 HF218; clear HF212
          refine gw_ev HF218 (want_none rfl) rfl (by decide) (op_move rfl (HF218.ev rfl)) ?_
          intro a219 HF220; clear HF218
          refine gw_ev HF220 (want_none rfl) rfl (by decide) (op_nei rfl (HF220.ev rfl) (HF220.ev rfl)) ?_
          intro a221 HF222; clear HF220
          have HF223 := HF222.lit (b := false) (by simp)
          clear HF222
          refine wpList_nil ?_
          refine gw_nx (hK216 _ _ ?_)
          refine gw_cond HF223 rfl (fun hb224 => ?_) (fun hb224 => ?_)
          skip
          · cases hb224
          refine wp_skip ?_
          refine gw_blk ?_
          refine gw_nx (hK139 _ _ ?_)
          refine gw_seq fun K225 hK225 => ?_
          refine wp_region_lit ?_
          refine gw_ev HF223 (want_none rfl) rfl (by decide) (op_move rfl (HF223.ev rfl)) ?_
          intro a226 HF227; clear HF223
          refine gw_call HF227 (want_none rfl) rfl (by decide) (op_callL Try.func19 (by kernel_rfl) rfl rfl (ar_cons (HF227.ev rfl) ar_nil)) (buf_bytes0 w.heap.size g7 S159 (mn (mx most 1) 2000) (putL (mn (mx most 1) 2000) xs ((script.getD i.toNat z31).f2)) (G + (ovN (mn (mx most 1) 2000) xs.length ((script.getD i.toNat z31).f2).length : Int)) _ (HO215.get 4 rfl) (by (first | omega | ((try have h1_ := ovN_le (mn (mx most 1) 2000) xs.length ((script.getD i.toNat z31).f2).length); (try have h2_ := hz _ (getD_mem (z := z31) script i.toNat (by omega))); (try have h3_ := putL_len' (mn (mx most 1) 2000) xs (script.getD i.toNat z31).f2 (by omega)); (try have h4_ := ov_add' (mn (mx most 1) 2000) xs (script.getD i.toNat z31).f2); first | omega | ((try simp only [List.length_append, List.length_take, List.length_drop, List.length_nil, List.length_cons, List.length_set] at *); omega))))) ?_
          rintro e231 w232 ⟨A228, c229, S230, rfl, hb233⟩
          refine ⟨_, rfl, fun a234 HF235 => ?_⟩
          have HO236 := HO215.fresh hb233
          have hbel237 := HO215.below
          clear HF227 HO215 hb233
          have HO238 := HO236.lowrow 0 rfl (base' := w.heap.size) (Below.size hbel237)
          have HO239 : Own w w232 [Chunk.row (Kd.int .u8) 5 w.heap.size S230 (.slice A228 ((putL (mn (mx most 1) 2000) xs ((script.getD i.toNat z31).f2)).length) c229) (putL (mn (mx most 1) 2000) xs ((script.getD i.toNat z31).f2)), Chunk.blk g195 (.cells #[.int .i64 (mn (mx most 1) 2000), .slice A177 ((putL (mn (mx most 1) 2000) xs ((script.getD i.toNat z31).f2)).length) c178, .int .i64 (G + (ovN (mn (mx most 1) 2000) xs.length ((script.getD i.toNat z31).f2).length : Int))] 28 (0, 0)), Chunk.view (Kd.int .u8) S179 A177 ((putL (mn (mx most 1) 2000) xs ((script.getD i.toNat z31).f2)).length) c178 (putL (mn (mx most 1) 2000) xs ((script.getD i.toNat z31).f2)), Chunk.blk g101 (.cells #[.int .i64 ((script.getD i.toNat z31).f0), .int .i64 ((script.getD i.toNat z31).f1), .slice A93 ((script.getD i.toNat z31).f2.length) c94] 31 (0, 0)), Chunk.view (Kd.int .u8) Sm Am xs.length cm xs, Chunk.buf w.heap.size g7 S159 (mn (mx most 1) 2000) (putL (mn (mx most 1) 2000) xs ((script.getD i.toNat z31).f2)) (G + (ovN (mn (mx most 1) 2000) xs.length ((script.getD i.toNat z31).f2).length : Int)), Chunk.blk g49 (.cells #[.int .i64 (mn (mx most 1) 2000), .slice A177 ((putL (mn (mx most 1) 2000) xs ((script.getD i.toNat z31).f2)).length) c178, .int .i64 (G + (ovN (mn (mx most 1) 2000) xs.length ((script.getD i.toNat z31).f2).length : Int))] 28 (0, 0))] := HO238
          clear HO238
          refine gw_ev HF235 (want_none rfl) rfl (by decide) (op_assign rfl (HF235.ev rfl)) ?_
          intro a240 HF241; clear HF235
          refine wpList_nil ?_
          refine gw_nx (hK225 _ _ ?_)
          refine gw_seq fun K242 hK242 => ?_
          refine gw_seq fun K243 hK243 => ?_
          refine gw_draw HO239 (by kernel_rfl) (by kernel_rfl) ?_
          refine gq_ev HF241 (want_none rfl) rfl (by decide) (fun wq HO => (op_move rfl (HF241.ev rfl))) ?_
          intro a244 HF245; clear HF241
          refine gq_ev HF245 (want_none rfl) rfl (by decide) (fun wq HO => (op_field (gwfld28_1 _ _) rfl (HF245.ev rfl))) ?_
          intro a246 HF247; clear HF245
          refine gq_ev HF247 (want_none rfl) rfl (by decide) (fun wq HO => (op_load1 gwagg26 rfl (HF247.ev rfl) (blk_at (HO.get 6 rfl) rfl))) ?_
          intro a248 HF249; clear HF247
          refine gq_call HF249 (want_none rfl) rfl (by decide) (fun wq HO => (op_callL Try.func18 (by kernel_rfl) rfl rfl (ar_cons (HF249.ev rfl) (ar_cons (HF249.ev rfl) ar_nil)))) (fun wq HO => (same_calls A228 c229 (putL (mn (mx most 1) 2000) xs ((script.getD i.toNat z31).f2)) A177 c178 (putL (mn (mx most 1) 2000) xs ((script.getD i.toNat z31).f2)) _ (Kd.R_reads' (HO.get 0 rfl)).2.2 (row_cap (HO.get 0 rfl)) (view_C (HO.get 2 rfl)) (view_le (HO.get 2 rfl)) (by (first | omega | ((try have h1_ := ovN_le (mn (mx most 1) 2000) xs.length ((script.getD i.toNat z31).f2).length); (try have h2_ := hz _ (getD_mem (z := z31) script i.toNat (by omega))); (try have h3_ := putL_len' (mn (mx most 1) 2000) xs (script.getD i.toNat z31).f2 (by omega)); (try have h4_ := ov_add' (mn (mx most 1) 2000) xs (script.getD i.toNat z31).f2); first | omega | ((try simp only [List.length_append, List.length_take, List.length_drop, List.length_nil, List.length_cons, List.length_set] at *); omega))))).mono fun e w' h => ⟨h.1, HO.after h.2⟩) ?_
          intro a250 HF251; clear HF249
          have HF252 := HF251.lit (b := true) (by simp)
          clear HF251
          refine gq_ev HF252 (want_none rfl) rfl (by decide) (fun wq HO => (op_not rfl (HF252.ev rfl))) ?_
          intro a253 HF254; clear HF252
          refine gq_ev HF254 (want_none rfl) rfl (by decide) (fun wq HO => (op_move rfl (HF254.ev rfl))) ?_
          intro a255 HF256; clear HF254
          refine gq_ev HF256 (want_yes HF256 rfl rfl rfl rfl) rfl (by decide) (fun wq HO => (op_move rfl (HF256.ev rfl))) ?_
          intro a257 HF258; clear HF256
          refine gq_call HF258 (want_yes HF258 rfl rfl rfl rfl) rfl (by decide) (fun wq HO => (op_callL Try.func20 (by kernel_rfl) rfl rfl (ar_cons (HF258.ev rfl) ar_nil))) (fun wq HO => (buf_full0 w.heap.size g7 S159 (mn (mx most 1) 2000) (putL (mn (mx most 1) 2000) xs ((script.getD i.toNat z31).f2)) (G + (ovN (mn (mx most 1) 2000) xs.length ((script.getD i.toNat z31).f2).length : Int)) _ (HO.get 5 rfl)).mono fun e w' h => ⟨h.1, HO.after h.2⟩) ?_
          intro a259 HF260; clear HF258
          refine gq_ev HF260 (want_yes HF260 rfl rfl rfl rfl) rfl (by decide) (fun wq HO => (op_field (gwfld28_1 _ _) rfl (HF260.ev rfl))) ?_
          intro a261 HF262; clear HF260
          refine gq_ev HF262 (want_yes HF262 rfl rfl rfl rfl) rfl (by decide) (fun wq HO => (op_load1 gwagg26 rfl (HF262.ev rfl) (blk_at (HO.get 6 rfl) rfl))) ?_
          intro a263 HF264; clear HF262
          refine gq_ev HF264 (want_yes HF264 rfl rfl rfl rfl) rfl (by decide) (fun wq HO => (op_len Try.underlying26 rfl (HF264.ev rfl))) ?_
          intro a265 HF266; clear HF264
          refine gq_ev HF266 (want_yes HF266 rfl rfl rfl rfl) rfl (by decide) (fun wq HO => (op_field (gwfld28_0 _ _) rfl (HF266.ev rfl))) ?_
          intro a267 HF268; clear HF266
          refine gq_ev HF268 (want_yes HF268 rfl rfl rfl rfl) rfl (by decide) (fun wq HO => (op_load1 gwagg3 rfl (HF268.ev rfl) (blk_at (HO.get 6 rfl) rfl))) ?_
          intro a269 HF270; clear HF268
          refine gq_ev HF270 (want_yes HF270 rfl rfl rfl rfl) rfl (by decide) (fun wq HO => (op_eqi rfl (HF270.ev rfl) (HF270.ev rfl))) ?_
          intro a271 HF272; clear HF270
          refine gq_ev HF272 (want_yes HF272 rfl rfl rfl rfl) rfl (by decide) (fun wq HO => (op_neb Try.underlying4 rfl (HF272.ev rfl) (HF272.ev rfl))) ?_
          intro a273 HF274; clear HF272
          have HF275 := HF274.lit (b := false) (by simp)
          clear HF274
          refine gq_ev HF275 (want_none rfl) rfl (by decide) (fun wq HO => (op_pick_f rfl (HF275.ev rfl) (HF275.ev rfl))) ?_
          intro a276 HF277; clear HF275
          refine gq_ev HF277 (want_none rfl) rfl (by decide) (fun wq HO => (op_move rfl (HF277.ev rfl))) ?_
          intro a278 HF279; clear HF277
          refine gq_ev HF279 (want_yes HF279 rfl rfl rfl rfl) rfl (by decide) (fun wq HO => (op_move rfl (HF279.ev rfl))) ?_
          intro a280 HF281; clear HF279
          refine gq_call HF281 (want_yes HF281 rfl rfl rfl rfl) rfl (by decide) (fun wq HO => (op_callL Try.func21 (by kernel_rfl) rfl rfl (ar_cons (HF281.ev rfl) ar_nil))) (fun wq HO => (buf_gone w.heap.size g7 S159 (mn (mx most 1) 2000) (putL (mn (mx most 1) 2000) xs ((script.getD i.toNat z31).f2)) (G + (ovN (mn (mx most 1) 2000) xs.length ((script.getD i.toNat z31).f2).length : Int)) _ (HO.get 5 rfl)).mono fun e w' h => ⟨h.1, HO.after h.2⟩) ?_
          intro a282 HF283; clear HF281
          refine gq_ev HF283 (want_yes HF283 rfl rfl rfl rfl) rfl (by decide) (fun wq HO => (op_field (gwfld28_2 _ _) rfl (HF283.ev rfl))) ?_
          intro a284 HF285; clear HF283
          refine gq_ev HF285 (want_yes HF285 rfl rfl rfl rfl) rfl (by decide) (fun wq HO => (op_load1 gwagg2 rfl (HF285.ev rfl) (blk_at (HO.get 6 rfl) rfl))) ?_
          intro a286 HF287; clear HF285
          refine gq_ev HF287 (want_yes HF287 rfl rfl rfl rfl) rfl (by decide) (fun wq HO => (op_nei rfl (HF287.ev rfl) (HF287.ev rfl))) ?_
          intro a288 HF289; clear HF287
          have HF290 := HF289.lit (b := false) (by simp)
          clear HF289
          refine gq_ev HF290 (want_none rfl) rfl (by decide) (fun wq HO => (op_pick_f rfl (HF290.ev rfl) (HF290.ev rfl))) ?_
          intro a291 HF292; clear HF290
          refine wpQuiet_nil ?_
          intro w293 HO294; clear HO239
          refine gw_nx (hK243 _ _ ?_)
          refine gw_cond HF292 rfl (fun hb295 => ?_) (fun hb295 => ?_)
          skip
          · cases hb295
          refine wp_skip ?_
          refine gw_nx (hK242 _ _ ?_)
          refine gw_seq fun K296 hK296 => ?_
          refine wp_region_lit ?_
          refine gw_ev HF292 (want_none rfl) rfl (by decide) (op_move rfl (HF292.ev rfl)) ?_
          intro a297 HF298; clear HF292
          refine gw_ev HF298 (want_none rfl) rfl (by decide) (op_len Try.underlying26 rfl (HF298.ev rfl)) ?_
          intro a299 HF300; clear HF298
          refine gw_ev HF300 (want_none rfl) rfl (by decide) (op_move rfl (ev_c _ _)) ?_
          intro a301 HF302; clear HF300
          refine wpList_nil ?_
          refine gw_nx (hK296 _ _ ?_)
          refine wp_block ?_
          refine gw_loop (fun m_ a_ w_ => ∃ (p304 : Int) (X303 : List Int), Fr 124 a_ [(116, .int .i64 p304), (31, .int .i64 i), (5, .pointer (some ⟨g7, 0, none⟩)), (6, .pointer (some ⟨g49, 0, none⟩)), (29, .slice A1 script.length c1), (30, .int .i64 (script.length : Int)), (32, .bool true), (33, .pointer (some (ad87.add (i.toNat * 3)))), (34, .agg #[.int .i64 ((script.getD i.toNat z31).f0), .int .i64 ((script.getD i.toNat z31).f1), .slice A93 ((script.getD i.toNat z31).f2.length) c94]), (9, .pointer (some ⟨g101, 0, none⟩)), (35, .int .i64 used), (36, .pointer (some ⟨g101, 2, none⟩)), (37, .slice A93 ((script.getD i.toNat z31).f2.length) c94), (38, .int .i64 (((script.getD i.toNat z31).f2.length) : Int)), (39, .int .i64 ((((script.getD i.toNat z31).f2.length) : Int) + 1)), (40, .int .i64 (used + ((((script.getD i.toNat z31).f2.length) : Int) + 1))), (7, .int .i64 (used + ((((script.getD i.toNat z31).f2.length) : Int) + 1))), (41, .int .i64 (used + ((((script.getD i.toNat z31).f2.length) : Int) + 1))), (42, .bool false), (43, .pointer (some ⟨g101, 0, none⟩)), (44, .int .i64 ((script.getD i.toNat z31).f0)), (46, .bool (decide (((script.getD i.toNat z31).f0) = 1))), (45, .bool true), (47, .pointer (some ⟨g7, 0, none⟩)), (48, .pointer (some ⟨g101, 2, none⟩)), (49, .slice A93 ((script.getD i.toNat z31).f2.length) c94), (50, .int .i64 (ovN (mn (mx most 1) 2000) xs.length ((script.getD i.toNat z31).f2).length : Int)), (10, .int .i64 (ovN (mn (mx most 1) 2000) xs.length ((script.getD i.toNat z31).f2).length : Int)), (52, .agg #[.int .i64 (mn (mx most 1) 2000), .slice Am xs.length cm, .int .i64 G]), (53, .pointer (some ⟨g101, 2, none⟩)), (54, .slice A93 ((script.getD i.toNat z31).f2.length) c94), (55, .tuple #[.agg #[.int .i64 (mn (mx most 1) 2000), .slice A177 ((putL (mn (mx most 1) 2000) xs ((script.getD i.toNat z31).f2)).length) c178, .int .i64 (G + (ovN (mn (mx most 1) 2000) xs.length ((script.getD i.toNat z31).f2).length : Int))], .int .i64 (ovN (mn (mx most 1) 2000) xs.length ((script.getD i.toNat z31).f2).length : Int)]), (51, .tuple #[.agg #[.int .i64 (mn (mx most 1) 2000), .slice A177 ((putL (mn (mx most 1) 2000) xs ((script.getD i.toNat z31).f2)).length) c178, .int .i64 (G + (ovN (mn (mx most 1) 2000) xs.length ((script.getD i.toNat z31).f2).length : Int))], .int .i64 (ovN (mn (mx most 1) 2000) xs.length ((script.getD i.toNat z31).f2).length : Int)]), (56, .agg #[.int .i64 (mn (mx most 1) 2000), .slice A177 ((putL (mn (mx most 1) 2000) xs ((script.getD i.toNat z31).f2)).length) c178, .int .i64 (G + (ovN (mn (mx most 1) 2000) xs.length ((script.getD i.toNat z31).f2).length : Int))]), (57, .int .i64 (ovN (mn (mx most 1) 2000) xs.length ((script.getD i.toNat z31).f2).length : Int)), (11, .pointer (some ⟨g195, 0, none⟩)), (12, .int .i64 (ovN (mn (mx most 1) 2000) xs.length ((script.getD i.toNat z31).f2).length : Int)), (58, .agg #[.int .i64 (mn (mx most 1) 2000), .slice A177 ((putL (mn (mx most 1) 2000) xs ((script.getD i.toNat z31).f2)).length) c178, .int .i64 (G + (ovN (mn (mx most 1) 2000) xs.length ((script.getD i.toNat z31).f2).length : Int))]), (59, .int .i64 (ovN (mn (mx most 1) 2000) xs.length ((script.getD i.toNat z31).f2).length : Int)), (60, .int .i64 (ovN (mn (mx most 1) 2000) xs.length ((script.getD i.toNat z31).f2).length : Int)), (61, .bool false), (89, .pointer (some ⟨g7, 0, none⟩)), (90, .slice A228 ((putL (mn (mx most 1) 2000) xs ((script.getD i.toNat z31).f2)).length) c229), (17, .slice A228 ((putL (mn (mx most 1) 2000) xs ((script.getD i.toNat z31).f2)).length) c229), (91, .slice A228 ((putL (mn (mx most 1) 2000) xs ((script.getD i.toNat z31).f2)).length) c229), (92, .pointer (some ⟨g49, 1, none⟩)), (93, .slice A177 ((putL (mn (mx most 1) 2000) xs ((script.getD i.toNat z31).f2)).length) c178), (94, .bool true), (95, .bool false), (96, .bool false), (97, .pointer (some ⟨g7, 0, none⟩)), (98, .bool (decide (((putL (mn (mx most 1) 2000) xs ((script.getD i.toNat z31).f2)).length : Int) = (mn (mx most 1) 2000)))), (99, .pointer (some ⟨g49, 1, none⟩)), (100, .slice A177 ((putL (mn (mx most 1) 2000) xs ((script.getD i.toNat z31).f2)).length) c178), (101, .int .i64 (((putL (mn (mx most 1) 2000) xs ((script.getD i.toNat z31).f2)).length) : Int)), (102, .pointer (some ⟨g49, 0, none⟩)), (103, .int .i64 (mn (mx most 1) 2000)), (104, .bool (decide ((((putL (mn (mx most 1) 2000) xs ((script.getD i.toNat z31).f2)).length) : Int) = (mn (mx most 1) 2000)))), (105, .bool false), (106, .bool false), (107, .bool false), (108, .pointer (some ⟨g7, 0, none⟩)), (109, .int .i64 (G + (ovN (mn (mx most 1) 2000) xs.length ((script.getD i.toNat z31).f2).length : Int))), (110, .pointer (some ⟨g49, 2, none⟩)), (111, .int .i64 (G + (ovN (mn (mx most 1) 2000) xs.length ((script.getD i.toNat z31).f2).length : Int))), (112, .bool false), (113, .bool false), (114, .slice A228 ((putL (mn (mx most 1) 2000) xs ((script.getD i.toNat z31).f2)).length) c229), (115, .int .i64 (((putL (mn (mx most 1) 2000) xs ((script.getD i.toNat z31).f2)).length) : Int))] ∧ Own w w_ [Chunk.row (Kd.int .u8) 5 w.heap.size S230 (.slice A228 ((putL (mn (mx most 1) 2000) xs ((script.getD i.toNat z31).f2)).length) c229) X303, Chunk.blk g195 (.cells #[.int .i64 (mn (mx most 1) 2000), .slice A177 ((putL (mn (mx most 1) 2000) xs ((script.getD i.toNat z31).f2)).length) c178, .int .i64 (G + (ovN (mn (mx most 1) 2000) xs.length ((script.getD i.toNat z31).f2).length : Int))] 28 (0, 0)), Chunk.view (Kd.int .u8) S179 A177 ((putL (mn (mx most 1) 2000) xs ((script.getD i.toNat z31).f2)).length) c178 (putL (mn (mx most 1) 2000) xs ((script.getD i.toNat z31).f2)), Chunk.blk g101 (.cells #[.int .i64 ((script.getD i.toNat z31).f0), .int .i64 ((script.getD i.toNat z31).f1), .slice A93 ((script.getD i.toNat z31).f2.length) c94] 31 (0, 0)), Chunk.view (Kd.int .u8) Sm Am xs.length cm xs, Chunk.buf w.heap.size g7 S159 (mn (mx most 1) 2000) (putL (mn (mx most 1) 2000) xs ((script.getD i.toNat z31).f2)) (G + (ovN (mn (mx most 1) 2000) xs.length ((script.getD i.toNat z31).f2).length : Int)), Chunk.blk g49 (.cells #[.int .i64 (mn (mx most 1) 2000), .slice A177 ((putL (mn (mx most 1) 2000) xs ((script.getD i.toNat z31).f2)).length) c178, .int .i64 (G + (ovN (mn (mx most 1) 2000) xs.length ((script.getD i.toNat z31).f2).length : Int))] 28 (0, 0))] ∧ (0 ≤ p304 ∧ p304 ≤ ((putL (mn (mx most 1) 2000) xs ((script.getD i.toNat z31).f2)).length : Int)) ∧ (X303.length = (putL (mn (mx most 1) 2000) xs ((script.getD i.toNat z31).f2)).length) ∧ m_ = ((putL (mn (mx most 1) 2000) xs ((script.getD i.toNat z31).f2)).length - p304.toNat)) (((putL (mn (mx most 1) 2000) xs ((script.getD i.toNat z31).f2)).length - (0 : Int).toNat)) ?_ ?_
          · refine ⟨0, putL (mn (mx most 1) 2000) xs ((script.getD i.toNat z31).f2), (HF302.pick (t := 116) rfl (HF302.pick (t := 31) rfl (HF302.pick (t := 5) rfl (HF302.pick (t := 6) rfl (HF302.pick (t := 29) rfl (HF302.pick (t := 30) rfl (HF302.pick (t := 32) rfl (HF302.pick (t := 33) rfl (HF302.pick (t := 34) rfl (HF302.pick (t := 9) rfl (HF302.pick (t := 35) rfl (HF302.pick (t := 36) rfl (HF302.pick (t := 37) rfl (HF302.pick (t := 38) rfl (HF302.pick (t := 39) rfl (HF302.pick (t := 40) rfl (HF302.pick (t := 7) rfl (HF302.pick (t := 41) rfl (HF302.pick (t := 42) rfl (HF302.pick (t := 43) rfl (HF302.pick (t := 44) rfl (HF302.pick (t := 46) rfl (HF302.pick (t := 45) rfl (HF302.pick (t := 47) rfl (HF302.pick (t := 48) rfl (HF302.pick (t := 49) rfl (HF302.pick (t := 50) rfl (HF302.pick (t := 10) rfl (HF302.pick (t := 52) rfl (HF302.pick (t := 53) rfl (HF302.pick (t := 54) rfl (HF302.pick (t := 55) rfl (HF302.pick (t := 51) rfl (HF302.pick (t := 56) rfl (HF302.pick (t := 57) rfl (HF302.pick (t := 11) rfl (HF302.pick (t := 12) rfl (HF302.pick (t := 58) rfl (HF302.pick (t := 59) rfl (HF302.pick (t := 60) rfl (HF302.pick (t := 61) rfl (HF302.pick (t := 89) rfl (HF302.pick (t := 90) rfl (HF302.pick (t := 17) rfl (HF302.pick (t := 91) rfl (HF302.pick (t := 92) rfl (HF302.pick (t := 93) rfl (HF302.pick (t := 94) rfl (HF302.pick (t := 95) rfl (HF302.pick (t := 96) rfl (HF302.pick (t := 97) rfl (HF302.pick (t := 98) rfl (HF302.pick (t := 99) rfl (HF302.pick (t := 100) rfl (HF302.pick (t := 101) rfl (HF302.pick (t := 102) rfl (HF302.pick (t := 103) rfl (HF302.pick (t := 104) rfl (HF302.pick (t := 105) rfl (HF302.pick (t := 106) rfl (HF302.pick (t := 107) rfl (HF302.pick (t := 108) rfl (HF302.pick (t := 109) rfl (HF302.pick (t := 110) rfl (HF302.pick (t := 111) rfl (HF302.pick (t := 112) rfl (HF302.pick (t := 113) rfl (HF302.pick (t := 114) rfl (HF302.pick (t := 115) rfl HF302.nil))))))))))))))))))))))))))))))))))))))))))))))))))))))))))))))))))))), HO294.sel [0, 1, 2, 3, 4, 5, 6] (by decide), ?_, ?_, rfl⟩
            · (first | omega | ((try have h1_ := ovN_le (mn (mx most 1) 2000) xs.length ((script.getD i.toNat z31).f2).length); (try have h2_ := hz _ (getD_mem (z := z31) script i.toNat (by omega))); (try have h3_ := putL_len' (mn (mx most 1) 2000) xs (script.getD i.toNat z31).f2 (by omega)); (try have h4_ := ov_add' (mn (mx most 1) 2000) xs (script.getD i.toNat z31).f2); first | omega | ((try simp only [List.length_append, List.length_take, List.length_drop, List.length_nil, List.length_cons, List.length_set] at *); omega)))
            · rfl
          · rintro m308 a309 w310 ⟨p304, X303, HF311, HO312, hp306, hX305, hm313⟩
            refine gw_seq fun K314 hK314 => ?_
            refine wp_region_lit ?_
            refine gw_ev HF311 (want_none rfl) rfl (by decide) (op_lss rfl (HF311.ev rfl) (HF311.ev rfl)) ?_
            intro a315 HF316; clear HF311
            refine wpList_nil ?_
            refine gw_nx (hK314 _ _ ?_)
            refine gw_seq fun K317 hK317 => ?_
            refine gw_cond HF316 rfl (fun hb318 => ?_) (fun hb318 => ?_)
            · skip
              have HF319 := HF316.subst_ (d := 117) (b := true) rfl hb318
              clear HF316
              (try simp only [decide_eq_true_eq, decide_eq_false_iff_not, Bool.not_eq_true', Bool.not_eq_false', Bool.not_eq_true, Bool.not_eq_false, ne_eq, Decidable.not_not, Int.not_lt, Int.not_le, not_true_eq_false, not_false_eq_true, bne_iff_ne, beq_iff_eq, bne_eq_false_iff_eq, beq_eq_false_iff_ne] at hb318)
              refine wp_skip ?_
              refine gw_nx (hK317 _ _ ?_)
              refine gw_seq fun K320 hK320 => ?_
              refine wp_block ?_
              refine gw_seq fun K321 hK321 => ?_
              refine wp_region_lit ?_
              refine gw_ev HF319 (want_none rfl) rfl (by decide) (op_move rfl (HF319.ev rfl)) ?_
              intro a322 HF323; clear HF319
              refine gw_ev HF323 (want_none rfl) rfl (by decide) (op_assign rfl (HF323.ev rfl)) ?_
              intro a324 HF325; clear HF323
              refine wpList_nil ?_
              refine gw_nx (hK321 _ _ ?_)
              refine wp_region_lit ?_
              refine gw_ev HF325 (want_none rfl) rfl (by decide) (op_move rfl (HF325.ev rfl)) ?_
              intro a326 HF327; clear HF325
              refine gw_ev HF327 (want_none rfl) rfl (by decide) (op_move rfl (HF327.ev rfl)) ?_
              intro a328 HF329; clear HF327
              obtain ⟨ad330, hA331⟩ := row_head (HO312.get 0 rfl) p304 (by (first | omega | ((try have h1_ := ovN_le (mn (mx most 1) 2000) xs.length ((script.getD i.toNat z31).f2).length); (try have h2_ := hz _ (getD_mem (z := z31) script i.toNat (by omega))); (try have h3_ := putL_len' (mn (mx most 1) 2000) xs (script.getD i.toNat z31).f2 (by omega)); (try have h4_ := ov_add' (mn (mx most 1) 2000) xs (script.getD i.toNat z31).f2); first | omega | ((try simp only [List.length_append, List.length_take, List.length_drop, List.length_nil, List.length_cons, List.length_set] at *); omega)))) (by (first | omega | ((try have h1_ := ovN_le (mn (mx most 1) 2000) xs.length ((script.getD i.toNat z31).f2).length); (try have h2_ := hz _ (getD_mem (z := z31) script i.toNat (by omega))); (try have h3_ := putL_len' (mn (mx most 1) 2000) xs (script.getD i.toNat z31).f2 (by omega)); (try have h4_ := ov_add' (mn (mx most 1) 2000) xs (script.getD i.toNat z31).f2); first | omega | ((try simp only [List.length_append, List.length_take, List.length_drop, List.length_nil, List.length_cons, List.length_set] at *); omega))))
              subst hA331
              refine gw_ev HF329 (want_none rfl) rfl (by decide) (op_index Try.underlying26 gwsiz5 rfl (HF329.ev rfl) (HF329.ev rfl) rfl (⟨by (first | omega | ((try have h1_ := ovN_le (mn (mx most 1) 2000) xs.length ((script.getD i.toNat z31).f2).length); (try have h2_ := hz _ (getD_mem (z := z31) script i.toNat (by omega))); (try have h3_ := putL_len' (mn (mx most 1) 2000) xs (script.getD i.toNat z31).f2 (by omega)); (try have h4_ := ov_add' (mn (mx most 1) 2000) xs (script.getD i.toNat z31).f2); first | omega | ((try simp only [List.length_append, List.length_take, List.length_drop, List.length_nil, List.length_cons, List.length_set] at *); omega))), by (first | omega | ((try have h1_ := ovN_le (mn (mx most 1) 2000) xs.length ((script.getD i.toNat z31).f2).length); (try have h2_ := hz _ (getD_mem (z := z31) script i.toNat (by omega))); (try have h3_ := putL_len' (mn (mx most 1) 2000) xs (script.getD i.toNat z31).f2 (by omega)); (try have h4_ := ov_add' (mn (mx most 1) 2000) xs (script.getD i.toNat z31).f2); first | omega | ((try simp only [List.length_append, List.length_take, List.length_drop, List.length_nil, List.length_cons, List.length_set] at *); omega)))⟩)) ?_
              intro a333 HF334; clear HF329
              refine gw_row 0 HF334 HO312 rfl (want_none rfl) rfl gwsiz5 (by (first | omega | ((try have h1_ := ovN_le (mn (mx most 1) 2000) xs.length ((script.getD i.toNat z31).f2).length); (try have h2_ := hz _ (getD_mem (z := z31) script i.toNat (by omega))); (try have h3_ := putL_len' (mn (mx most 1) 2000) xs (script.getD i.toNat z31).f2 (by omega)); (try have h4_ := ov_add' (mn (mx most 1) 2000) xs (script.getD i.toNat z31).f2); first | omega | ((try simp only [List.length_append, List.length_take, List.length_drop, List.length_nil, List.length_cons, List.length_set] at *); omega)))) (by (first | omega | ((try have h1_ := ovN_le (mn (mx most 1) 2000) xs.length ((script.getD i.toNat z31).f2).length); (try have h2_ := hz _ (getD_mem (z := z31) script i.toNat (by omega))); (try have h3_ := putL_len' (mn (mx most 1) 2000) xs (script.getD i.toNat z31).f2 (by omega)); (try have h4_ := ov_add' (mn (mx most 1) 2000) xs (script.getD i.toNat z31).f2); first | omega | ((try simp only [List.length_append, List.length_take, List.length_drop, List.length_nil, List.length_cons, List.length_set] at *); omega)))) rfl (HF334.ev rfl) (ev_c _ _) ?_
              intro a335 w337 HF336 HO338; clear HF334 HO312
              have HO339 : Own w w337 [Chunk.row (Kd.int .u8) 5 w.heap.size S230 (.slice (some ad330) ((putL (mn (mx most 1) 2000) xs ((script.getD i.toNat z31).f2)).length) c229) (X303.set p304.toNat 99), Chunk.blk g195 (.cells #[.int .i64 (mn (mx most 1) 2000), .slice A177 ((putL (mn (mx most 1) 2000) xs ((script.getD i.toNat z31).f2)).length) c178, .int .i64 (G + (ovN (mn (mx most 1) 2000) xs.length ((script.getD i.toNat z31).f2).length : Int))] 28 (0, 0)), Chunk.view (Kd.int .u8) S179 A177 ((putL (mn (mx most 1) 2000) xs ((script.getD i.toNat z31).f2)).length) c178 (putL (mn (mx most 1) 2000) xs ((script.getD i.toNat z31).f2)), Chunk.blk g101 (.cells #[.int .i64 ((script.getD i.toNat z31).f0), .int .i64 ((script.getD i.toNat z31).f1), .slice A93 ((script.getD i.toNat z31).f2.length) c94] 31 (0, 0)), Chunk.view (Kd.int .u8) Sm Am xs.length cm xs, Chunk.buf w.heap.size g7 S159 (mn (mx most 1) 2000) (putL (mn (mx most 1) 2000) xs ((script.getD i.toNat z31).f2)) (G + (ovN (mn (mx most 1) 2000) xs.length ((script.getD i.toNat z31).f2).length : Int)), Chunk.blk g49 (.cells #[.int .i64 (mn (mx most 1) 2000), .slice A177 ((putL (mn (mx most 1) 2000) xs ((script.getD i.toNat z31).f2)).length) c178, .int .i64 (G + (ovN (mn (mx most 1) 2000) xs.length ((script.getD i.toNat z31).f2).length : Int))] 28 (0, 0))] := HO338
              clear HO338
              refine wpList_nil ?_
              refine gw_blk ?_
              refine gw_nx (hK320 _ _ ?_)
              refine wp_region_lit ?_
              refine gw_ev HF336 (want_none rfl) rfl (by decide) (op_add rfl (HF336.ev rfl) (ev_c _ _) (by (first | omega | ((try have h1_ := ovN_le (mn (mx most 1) 2000) xs.length ((script.getD i.toNat z31).f2).length); (try have h2_ := hz _ (getD_mem (z := z31) script i.toNat (by omega))); (try have h3_ := putL_len' (mn (mx most 1) 2000) xs (script.getD i.toNat z31).f2 (by omega)); (try have h4_ := ov_add' (mn (mx most 1) 2000) xs (script.getD i.toNat z31).f2); first | omega | ((try simp only [List.length_append, List.length_take, List.length_drop, List.length_nil, List.length_cons, List.length_set] at *); omega))))) ?_
              intro a340 HF341; clear HF336
              refine gw_ev HF341 (want_none rfl) rfl (by decide) (op_move rfl (HF341.ev rfl)) ?_
              intro a342 HF343; clear HF341
              refine wpList_nil ?_
              refine gw_nx ⟨_, ?_, p304 + 1, (X303.set p304.toNat 99), (HF343.pick (t := 116) rfl (HF343.pick (t := 31) rfl (HF343.pick (t := 5) rfl (HF343.pick (t := 6) rfl (HF343.pick (t := 29) rfl (HF343.pick (t := 30) rfl (HF343.pick (t := 32) rfl (HF343.pick (t := 33) rfl (HF343.pick (t := 34) rfl (HF343.pick (t := 9) rfl (HF343.pick (t := 35) rfl (HF343.pick (t := 36) rfl (HF343.pick (t := 37) rfl (HF343.pick (t := 38) rfl (HF343.pick (t := 39) rfl (HF343.pick (t := 40) rfl (HF343.pick (t := 7) rfl (HF343.pick (t := 41) rfl (HF343.pick (t := 42) rfl (HF343.pick (t := 43) rfl (HF343.pick (t := 44) rfl (HF343.pick (t := 46) rfl (HF343.pick (t := 45) rfl (HF343.pick (t := 47) rfl (HF343.pick (t := 48) rfl (HF343.pick (t := 49) rfl (HF343.pick (t := 50) rfl (HF343.pick (t := 10) rfl (HF343.pick (t := 52) rfl (HF343.pick (t := 53) rfl (HF343.pick (t := 54) rfl (HF343.pick (t := 55) rfl (HF343.pick (t := 51) rfl (HF343.pick (t := 56) rfl (HF343.pick (t := 57) rfl (HF343.pick (t := 11) rfl (HF343.pick (t := 12) rfl (HF343.pick (t := 58) rfl (HF343.pick (t := 59) rfl (HF343.pick (t := 60) rfl (HF343.pick (t := 61) rfl (HF343.pick (t := 89) rfl (HF343.pick (t := 90) rfl (HF343.pick (t := 17) rfl (HF343.pick (t := 91) rfl (HF343.pick (t := 92) rfl (HF343.pick (t := 93) rfl (HF343.pick (t := 94) rfl (HF343.pick (t := 95) rfl (HF343.pick (t := 96) rfl (HF343.pick (t := 97) rfl (HF343.pick (t := 98) rfl (HF343.pick (t := 99) rfl (HF343.pick (t := 100) rfl (HF343.pick (t := 101) rfl (HF343.pick (t := 102) rfl (HF343.pick (t := 103) rfl (HF343.pick (t := 104) rfl (HF343.pick (t := 105) rfl (HF343.pick (t := 106) rfl (HF343.pick (t := 107) rfl (HF343.pick (t := 108) rfl (HF343.pick (t := 109) rfl (HF343.pick (t := 110) rfl (HF343.pick (t := 111) rfl (HF343.pick (t := 112) rfl (HF343.pick (t := 113) rfl (HF343.pick (t := 114) rfl (HF343.pick (t := 115) rfl HF343.nil))))))))))))))))))))))))))))))))))))))))))))))))))))))))))))))))))))), HO339.sel [0, 1, 2, 3, 4, 5, 6] (by decide), ?_, ?_, rfl⟩
              · rw [hm313]; (first | omega | ((try have h1_ := ovN_le (mn (mx most 1) 2000) xs.length ((script.getD i.toNat z31).f2).length); (try have h2_ := hz _ (getD_mem (z := z31) script i.toNat (by omega))); (try have h3_ := putL_len' (mn (mx most 1) 2000) xs (script.getD i.toNat z31).f2 (by omega)); (try have h4_ := ov_add' (mn (mx most 1) 2000) xs (script.getD i.toNat z31).f2); first | omega | ((try simp only [List.length_append, List.length_take, List.length_drop, List.length_nil, List.length_cons, List.length_set] at *); omega)))
              · (first | omega | ((try have h1_ := ovN_le (mn (mx most 1) 2000) xs.length ((script.getD i.toNat z31).f2).length); (try have h2_ := hz _ (getD_mem (z := z31) script i.toNat (by omega))); (try have h3_ := putL_len' (mn (mx most 1) 2000) xs (script.getD i.toNat z31).f2 (by omega)); (try have h4_ := ov_add' (mn (mx most 1) 2000) xs (script.getD i.toNat z31).f2); first | omega | ((try simp only [List.length_append, List.length_take, List.length_drop, List.length_nil, List.length_cons, List.length_set] at *); omega)))
              · rw [List.length_set]; exact hX305
            · skip
              have HF344 := HF316.subst_ (d := 117) (b := false) rfl hb318
              clear HF316
              (try simp only [decide_eq_true_eq, decide_eq_false_iff_not, Bool.not_eq_true', Bool.not_eq_false', Bool.not_eq_true, Bool.not_eq_false, ne_eq, Decidable.not_not, Int.not_lt, Int.not_le, not_true_eq_false, not_false_eq_true, bne_iff_ne, beq_iff_eq, bne_eq_false_iff_eq, beq_eq_false_iff_ne] at hb318)
              refine wp_exit ?_
              refine gw_thx ?_
              refine gw_thx ?_
              refine gw_in ?_
              refine gw_blk ?_
              refine gw_nx (hK85 _ _ ?_)
              refine wp_region_lit ?_
              refine gw_ev HF344 (want_none rfl) rfl (by decide) (op_add rfl (HF344.ev rfl) (ev_c _ _) (by (first | omega | ((try have h1_ := ovN_le (mn (mx most 1) 2000) xs.length ((script.getD i.toNat z31).f2).length); (try have h2_ := hz _ (getD_mem (z := z31) script i.toNat (by omega))); (try have h3_ := putL_len' (mn (mx most 1) 2000) xs (script.getD i.toNat z31).f2 (by omega)); (try have h4_ := ov_add' (mn (mx most 1) 2000) xs (script.getD i.toNat z31).f2); first | omega | ((try simp only [List.length_append, List.length_take, List.length_drop, List.length_nil, List.length_cons, List.length_set] at *); omega))))) ?_
              intro a345 HF346; clear HF344
              refine gw_ev HF346 (want_none rfl) rfl (by decide) (op_move rfl (HF346.ev rfl)) ?_
              intro a347 HF348; clear HF346
              refine wpList_nil ?_
              refine gw_nx ⟨_, ?_, i + 1, used + ((((script.getD i.toNat z31).f2.length) : Int) + 1), G + (ovN (mn (mx most 1) 2000) xs.length ((script.getD i.toNat z31).f2).length : Int), (putL (mn (mx most 1) 2000) xs ((script.getD i.toNat z31).f2)), S159, S179, A177, c178, (HF348.pick (t := 31) rfl (HF348.pick (t := 7) rfl (HF348.pick (t := 5) rfl (HF348.pick (t := 6) rfl (HF348.pick (t := 29) rfl (HF348.pick (t := 30) rfl HF348.nil)))))), HO312.sel [2, 5, 6] (by decide), ?_, ?_, ?_, rfl⟩
              · rw [hm78]; (first | omega | ((try have h1_ := ovN_le (mn (mx most 1) 2000) xs.length ((script.getD i.toNat z31).f2).length); (try have h2_ := hz _ (getD_mem (z := z31) script i.toNat (by omega))); (try have h3_ := putL_len' (mn (mx most 1) 2000) xs (script.getD i.toNat z31).f2 (by omega)); (try have h4_ := ov_add' (mn (mx most 1) 2000) xs (script.getD i.toNat z31).f2); first | omega | ((try simp only [List.length_append, List.length_take, List.length_drop, List.length_nil, List.length_cons, List.length_set] at *); omega)))
              · (first | omega | ((try have h1_ := ovN_le (mn (mx most 1) 2000) xs.length ((script.getD i.toNat z31).f2).length); (try have h2_ := hz _ (getD_mem (z := z31) script i.toNat (by omega))); (try have h3_ := putL_len' (mn (mx most 1) 2000) xs (script.getD i.toNat z31).f2 (by omega)); (try have h4_ := ov_add' (mn (mx most 1) 2000) xs (script.getD i.toNat z31).f2); first | omega | ((try simp only [List.length_append, List.length_take, List.length_drop, List.length_nil, List.length_cons, List.length_set] at *); omega)))
              · (first | omega | ((try have h1_ := ovN_le (mn (mx most 1) 2000) xs.length ((script.getD i.toNat z31).f2).length); (try have h2_ := hz _ (getD_mem (z := z31) script i.toNat (by omega))); (try have h3_ := putL_len' (mn (mx most 1) 2000) xs (script.getD i.toNat z31).f2 (by omega)); (try have h4_ := ov_add' (mn (mx most 1) 2000) xs (script.getD i.toNat z31).f2); first | omega | ((try simp only [List.length_append, List.length_take, List.length_drop, List.length_nil, List.length_cons, List.length_set] at *); omega)))
              · (first | omega | ((try have h1_ := ovN_le (mn (mx most 1) 2000) xs.length ((script.getD i.toNat z31).f2).length); (try have h2_ := hz _ (getD_mem (z := z31) script i.toNat (by omega))); (try have h3_ := putL_len' (mn (mx most 1) 2000) xs (script.getD i.toNat z31).f2 (by omega)); (try have h4_ := ov_add' (mn (mx most 1) 2000) xs (script.getD i.toNat z31).f2); first | omega | ((try simp only [List.length_append, List.length_take, List.length_drop, List.length_nil, List.length_cons, List.length_set] at *); omega)))
        · skip
          have HF349 := HF149.subst_ (d := 45) (b := false) rfl hb150
          clear HF149
          (try simp only [decide_eq_true_eq, decide_eq_false_iff_not, Bool.not_eq_true', Bool.not_eq_false', Bool.not_eq_true, Bool.not_eq_false, ne_eq, Decidable.not_not, Int.not_lt, Int.not_le, not_true_eq_false, not_false_eq_true, bne_iff_ne, beq_iff_eq, bne_eq_false_iff_eq, beq_eq_false_iff_ne] at hb150)
          refine gw_seq fun K350 hK350 => ?_
          refine wp_region_lit ?_
          refine gw_ev HF349 (want_none rfl) rfl (by decide) (op_eqi rfl (HF349.ev rfl) (ev_c _ _)) ?_
          intro a351 HF352; clear HF349
          refine gw_ev HF352 (want_none rfl) rfl (by decide) (op_assign rfl (HF352.ev rfl)) ?_
          intro a353 HF354; clear HF352
          refine wpList_nil ?_
          refine gw_nx (hK350 _ _ ?_)
          refine gw_cond HF354 rfl (fun hb355 => ?_) (fun hb355 => ?_)
          · skip
            have HF356 := HF354.subst_ (d := 62) (b := true) rfl hb355
            clear HF354
            (try simp only [decide_eq_true_eq, decide_eq_false_iff_not, Bool.not_eq_true', Bool.not_eq_false', Bool.not_eq_true, Bool.not_eq_false, ne_eq, Decidable.not_not, Int.not_lt, Int.not_le, not_true_eq_false, not_false_eq_true, bne_iff_ne, beq_iff_eq, bne_eq_false_iff_eq, beq_eq_false_iff_ne] at hb355)
            refine gw_seq fun K357 hK357 => ?_
            refine wp_region_lit ?_
            refine gw_ev HF356 (want_none rfl) rfl (by decide) (op_move rfl (HF356.ev rfl)) ?_
            intro a358 HF359; clear HF356
            refine gw_ev HF359 (want_none rfl) rfl (by decide) (op_field (gwfld31_1 _ _) rfl (HF359.ev rfl)) ?_
            intro a360 HF361; clear HF359
            refine gw_ev HF361 (want_none rfl) rfl (by decide) (op_load1 gwagg3 rfl (HF361.ev rfl) (blk_at (HO111.get 0 rfl) rfl)) ?_
            intro a362 HF363; clear HF361
            refine gw_call HF363 (want_none rfl) rfl (by decide) (op_callL Try.func16 (by kernel_rfl) rfl rfl (ar_cons (HF363.ev rfl) (ar_cons (HF363.ev rfl) ar_nil))) (buf_take0 w.heap.size g7 Sb (mn (mx most 1) 2000) xs G ((script.getD i.toNat z31).f1) _ (HO111.get 2 rfl) (by (first | omega | ((try have h1_ := ovN_le (mn (mx most 1) 2000) xs.length ((script.getD i.toNat z31).f2).length); (try have h2_ := hz _ (getD_mem (z := z31) script i.toNat (by omega))); (try have h3_ := putL_len' (mn (mx most 1) 2000) xs (script.getD i.toNat z31).f2 (by omega)); (try have h4_ := ov_add' (mn (mx most 1) 2000) xs (script.getD i.toNat z31).f2); first | omega | ((try simp only [List.length_append, List.length_take, List.length_drop, List.length_nil, List.length_cons, List.length_set] at *); omega)))) (fun k hk => (HO111.lt 2 rfl hk).2)) ?_
            rintro e368 w369 ⟨A364, c365, S367, rfl, hb370⟩
            refine ⟨_, rfl, fun a371 HF372 => ?_⟩
            have HO373 := HO111.calls 2 rfl hb370
            have hbel374 := HO111.below
            clear HF363 HO111 hb370
            have HO375 := HO373.lowrow 0 rfl (base' := w.heap.size) (Below.size hbel374)
            have HO376 : Own w w369 [Chunk.row (Kd.int .u8) 5 w.heap.size S367 (.slice A364 ((xs.take (mn (mx ((script.getD i.toNat z31).f1) 0) xs.length).toNat).length) c365) (xs.take (mn (mx ((script.getD i.toNat z31).f1) 0) xs.length).toNat), Chunk.blk g101 (.cells #[.int .i64 ((script.getD i.toNat z31).f0), .int .i64 ((script.getD i.toNat z31).f1), .slice A93 ((script.getD i.toNat z31).f2.length) c94] 31 (0, 0)), Chunk.view (Kd.int .u8) Sm Am xs.length cm xs, Chunk.buf w.heap.size g7 Sb (mn (mx most 1) 2000) (xs.drop (mn (mx ((script.getD i.toNat z31).f1) 0) xs.length).toNat) G, Chunk.blk g49 (.cells #[.int .i64 (mn (mx most 1) 2000), .slice Am xs.length cm, .int .i64 G] 28 (0, 0))] := HO375
            clear HO375
            refine gw_ev HF372 (want_none rfl) rfl (by decide) (op_assign rfl (HF372.ev rfl)) ?_
            intro a377 HF378; clear HF372
            refine wpList_nil ?_
            refine gw_nx (hK357 _ _ ?_)
            refine gw_seq fun K379 hK379 => ?_
            refine wp_region_lit ?_
            refine gw_ev HF378 (want_none rfl) rfl (by decide) (op_loadn gwagg28 gwsiz28 rfl (HF378.ev rfl) (HO376.get 4 rfl) rfl rfl) ?_
            intro a380 HF381; clear HF378
            refine gw_ev HF381 (want_none rfl) rfl (by decide) (op_field (gwfld31_1 _ _) rfl (HF381.ev rfl)) ?_
            intro a382 HF383; clear HF381
            refine gw_ev HF383 (want_none rfl) rfl (by decide) (op_load1 gwagg3 rfl (HF383.ev rfl) (blk_at (HO376.get 1 rfl) rfl)) ?_
            intro a384 HF385; clear HF383
            refine gw_call HF385 (want_none rfl) rfl (by decide) (op_callL Try.func17 (by kernel_rfl) rfl rfl (ar_cons (HF385.ev rfl) (ar_cons (HF385.ev rfl) ar_nil))) (GRef11_.take_calls (mn (mx most 1) 2000) Am cm xs G ((script.getD i.toNat z31).f1) _ (view_C (HO376.get 2 rfl)) (view_le (HO376.get 2 rfl))) ?_
            rintro e391 w392 ⟨A386, c387, hC388, hc389, hA390, rfl, hb393⟩
            refine ⟨_, rfl, fun a394 HF395 => ?_⟩
            have HO396 := HO376.after hb393
            clear HF385 HO376 hb393
            refine gw_ev HF395 (want_none rfl) rfl (by decide) (op_move rfl (HF395.ev rfl)) ?_
            intro a398 HF399; clear HF395
            refine gw_ev HF399 (want_none rfl) rfl (by decide) (op_extract rfl (HF399.ev rfl) rfl) ?_
            intro a400 HF401; clear HF399
            refine gw_ev HF401 (want_none rfl) rfl (by decide) (op_extract rfl (HF401.ev rfl) rfl) ?_
            intro a402 HF403; clear HF401
            refine gw_new HF403 HO396 (want_none rfl) rfl (by decide) (op_alloc gwzer28 rfl) ?_
            intro g404 a405 w406 HF407 HO408; clear HF403 HO396
            have HO409 : Own w w406 [Chunk.blk g404 (.cells #[.int .i64 0, .slice none 0 0, .int .i64 0] 28 (0, 0)), Chunk.row (Kd.int .u8) 5 w.heap.size S367 (.slice A364 ((xs.take (mn (mx ((script.getD i.toNat z31).f1) 0) xs.length).toNat).length) c365) (xs.take (mn (mx ((script.getD i.toNat z31).f1) 0) xs.length).toNat), Chunk.blk g101 (.cells #[.int .i64 ((script.getD i.toNat z31).f0), .int .i64 ((script.getD i.toNat z31).f1), .slice A93 ((script.getD i.toNat z31).f2.length) c94] 31 (0, 0)), Chunk.view (Kd.int .u8) Sm Am xs.length cm xs, Chunk.buf w.heap.size g7 Sb (mn (mx most 1) 2000) (xs.drop (mn (mx ((script.getD i.toNat z31).f1) 0) xs.length).toNat) G, Chunk.blk g49 (.cells #[.int .i64 (mn (mx most 1) 2000), .slice Am xs.length cm, .int .i64 G] 28 (0, 0))] := HO408
            clear HO408
            refine gw_setn 0 HF407 HO409 rfl (want_none rfl) rfl (op_storen gwsiz28 rfl (HF407.ev rfl) (HF407.ev rfl) (HO409.get 0 rfl) rfl (by simp) (by simp [Value.oneCell'])) ?_
            intro a410 w412 HF411 HO413; clear HF407 HO409
            have HO414 : Own w w412 [Chunk.blk g404 (.cells #[.int .i64 (mn (mx most 1) 2000), .slice A386 ((xs.drop (mn (mx ((script.getD i.toNat z31).f1) 0) xs.length).toNat).length) c387, .int .i64 G] 28 (0, 0)), Chunk.row (Kd.int .u8) 5 w.heap.size S367 (.slice A364 ((xs.take (mn (mx ((script.getD i.toNat z31).f1) 0) xs.length).toNat).length) c365) (xs.take (mn (mx ((script.getD i.toNat z31).f1) 0) xs.length).toNat), Chunk.blk g101 (.cells #[.int .i64 ((script.getD i.toNat z31).f0), .int .i64 ((script.getD i.toNat z31).f1), .slice A93 ((script.getD i.toNat z31).f2.length) c94] 31 (0, 0)), Chunk.view (Kd.int .u8) Sm Am xs.length cm xs, Chunk.buf w.heap.size g7 Sb (mn (mx most 1) 2000) (xs.drop (mn (mx ((script.getD i.toNat z31).f1) 0) xs.length).toNat) G, Chunk.blk g49 (.cells #[.int .i64 (mn (mx most 1) 2000), .slice Am xs.length cm, .int .i64 G] 28 (0, 0))] := HO413
            clear HO413
            refine gw_ev HF411 (want_none rfl) rfl (by decide) (op_assign rfl (HF411.ev rfl)) ?_
            intro a415 HF416; clear HF411
            refine wpList_nil ?_
            refine gw_nx (hK379 _ _ ?_)
            refine gw_seq fun K417 hK417 => ?_
            refine wp_region_lit ?_
            refine gw_ev HF416 (want_none rfl) rfl (by decide) (op_loadn gwagg28 gwsiz28 rfl (HF416.ev rfl) (HO414.get 0 rfl) rfl rfl) ?_
            intro a418 HF419; clear HF416
            refine gw_setn 5 HF419 HO414 rfl (want_none rfl) rfl (op_storen gwsiz28 rfl (HF419.ev rfl) (HF419.ev rfl) (HO414.get 5 rfl) rfl (by simp) (by simp [Value.oneCell'])) ?_
            intro a420 w422 HF421 HO423; clear HF419 HO414
            have HO424 : Own w w422 [Chunk.blk g404 (.cells #[.int .i64 (mn (mx most 1) 2000), .slice A386 ((xs.drop (mn (mx ((script.getD i.toNat z31).f1) 0) xs.length).toNat).length) c387, .int .i64 G] 28 (0, 0)), Chunk.row (Kd.int .u8) 5 w.heap.size S367 (.slice A364 ((xs.take (mn (mx ((script.getD i.toNat z31).f1) 0) xs.length).toNat).length) c365) (xs.take (mn (mx ((script.getD i.toNat z31).f1) 0) xs.length).toNat), Chunk.blk g101 (.cells #[.int .i64 ((script.getD i.toNat z31).f0), .int .i64 ((script.getD i.toNat z31).f1), .slice A93 ((script.getD i.toNat z31).f2.length) c94] 31 (0, 0)), Chunk.view (Kd.int .u8) Sm Am xs.length cm xs, Chunk.buf w.heap.size g7 Sb (mn (mx most 1) 2000) (xs.drop (mn (mx ((script.getD i.toNat z31).f1) 0) xs.length).toNat) G, Chunk.blk g49 (.cells #[.int .i64 (mn (mx most 1) 2000), .slice A386 ((xs.drop (mn (mx ((script.getD i.toNat z31).f1) 0) xs.length).toNat).length) c387, .int .i64 G] 28 (0, 0))] := HO423
            clear HO423
            refine wpList_nil ?_
            refine gw_nx (hK417 _ _ ?_)
            refine gw_seq fun K425 hK425 => ?_
            refine gw_seq fun K426 hK426 => ?_
            refine wp_region_lit ?_
            refine gw_ev HF421 (want_none rfl) rfl (by decide) (op_move rfl (HF421.ev rfl)) ?_
            intro a427 HF428; clear HF421
            refine gw_ev HF428 (want_none rfl) rfl (by decide) (op_move rfl (HF428.ev rfl)) ?_
            intro a429 HF430; clear HF428
            refine gw_call HF430 (want_none rfl) rfl (by decide) (op_callL Try.func18 (by kernel_rfl) rfl rfl (ar_cons (HF430.ev rfl) (ar_cons (HF430.ev rfl) ar_nil))) (same_calls A364 c365 (xs.take (mn (mx ((script.getD i.toNat z31).f1) 0) xs.length).toNat) Am cm (xs.take (mn (mx ((script.getD i.toNat z31).f1) 0) xs.length).toNat) _ (Kd.R_reads' (HO424.get 1 rfl)).2.2 (row_cap (HO424.get 1 rfl)) (Kd.C_take (view_C (HO424.get 3 rfl)) (mnx_le _ _)) (Nat.le_trans (by rw [List.length_take]; omega) (view_le (HO424.get 3 rfl))) (by (first | omega | ((try have h1_ := ovN_le (mn (mx most 1) 2000) xs.length ((script.getD i.toNat z31).f2).length); (try have h2_ := hz _ (getD_mem (z := z31) script i.toNat (by omega))); (try have h3_ := putL_len' (mn (mx most 1) 2000) xs (script.getD i.toNat z31).f2 (by omega)); (try have h4_ := ov_add' (mn (mx most 1) 2000) xs (script.getD i.toNat z31).f2); first | omega | ((try simp only [List.length_append, List.length_take, List.length_drop, List.length_nil, List.length_cons, List.length_set] at *); omega))))) ?_
            rintro e431 w432 ⟨rfl, hb433⟩
            refine ⟨_, rfl, fun a434 HF435 => ?_⟩
            have HO436 := HO424.after hb433
            clear HF430 HO424 hb433
            have HF438 := HF435.lit (b := true) (by simp)
            clear HF435
            refine gw_ev HF438 (want_none rfl) rfl (by decide) (op_not rfl (HF438.ev rfl)) ?_
            intro a439 HF440; clear HF438
            refine wpList_nil ?_
            refine gw_nx (hK426 _ _ ?_)
            refine gw_cond HF440 rfl (fun hb441 => ?_) (fun hb441 => ?_)
            skip
            · cases hb441
            refine wp_skip ?_
            refine gw_nx (hK425 _ _ ?_)
            refine gw_seq fun K442 hK442 => ?_
            refine wp_region_lit ?_
            refine gw_ev HF440 (want_none rfl) rfl (by decide) (op_move rfl (HF440.ev rfl)) ?_
            intro a443 HF444; clear HF440
            refine gw_ev HF444 (want_none rfl) rfl (by decide) (op_len Try.underlying26 rfl (HF444.ev rfl)) ?_
            intro a445 HF446; clear HF444
            refine gw_ev HF446 (want_none rfl) rfl (by decide) (op_move rfl (ev_c _ _)) ?_
            intro a447 HF448; clear HF446
            refine wpList_nil ?_
            refine gw_nx (hK442 _ _ ?_)
            refine wp_block ?_
            refine gw_loop (fun m_ a_ w_ => ∃ (p450 : Int) (X449 : List Int), Fr 124 a_ [(82, .int .i64 p450), (31, .int .i64 i), (5, .pointer (some ⟨g7, 0, none⟩)), (6, .pointer (some ⟨g49, 0, none⟩)), (29, .slice A1 script.length c1), (30, .int .i64 (script.length : Int)), (32, .bool true), (33, .pointer (some (ad87.add (i.toNat * 3)))), (34, .agg #[.int .i64 ((script.getD i.toNat z31).f0), .int .i64 ((script.getD i.toNat z31).f1), .slice A93 ((script.getD i.toNat z31).f2.length) c94]), (9, .pointer (some ⟨g101, 0, none⟩)), (35, .int .i64 used), (36, .pointer (some ⟨g101, 2, none⟩)), (37, .slice A93 ((script.getD i.toNat z31).f2.length) c94), (38, .int .i64 (((script.getD i.toNat z31).f2.length) : Int)), (39, .int .i64 ((((script.getD i.toNat z31).f2.length) : Int) + 1)), (40, .int .i64 (used + ((((script.getD i.toNat z31).f2.length) : Int) + 1))), (7, .int .i64 (used + ((((script.getD i.toNat z31).f2.length) : Int) + 1))), (41, .int .i64 (used + ((((script.getD i.toNat z31).f2.length) : Int) + 1))), (42, .bool false), (43, .pointer (some ⟨g101, 0, none⟩)), (44, .int .i64 ((script.getD i.toNat z31).f0)), (46, .bool (decide (((script.getD i.toNat z31).f0) = 1))), (45, .bool false), (63, .bool (decide (((script.getD i.toNat z31).f0) = 2))), (62, .bool true), (64, .pointer (some ⟨g7, 0, none⟩)), (65, .pointer (some ⟨g101, 1, none⟩)), (66, .int .i64 ((script.getD i.toNat z31).f1)), (67, .slice A364 ((xs.take (mn (mx ((script.getD i.toNat z31).f1) 0) xs.length).toNat).length) c365), (13, .slice A364 ((xs.take (mn (mx ((script.getD i.toNat z31).f1) 0) xs.length).toNat).length) c365), (69, .agg #[.int .i64 (mn (mx most 1) 2000), .slice Am xs.length cm, .int .i64 G]), (70, .pointer (some ⟨g101, 1, none⟩)), (71, .int .i64 ((script.getD i.toNat z31).f1)), (72, .tuple #[.agg #[.int .i64 (mn (mx most 1) 2000), .slice A386 ((xs.drop (mn (mx ((script.getD i.toNat z31).f1) 0) xs.length).toNat).length) c387, .int .i64 G], .slice Am ((xs.take (mn (mx ((script.getD i.toNat z31).f1) 0) xs.length).toNat).length) cm]), (68, .tuple #[.agg #[.int .i64 (mn (mx most 1) 2000), .slice A386 ((xs.drop (mn (mx ((script.getD i.toNat z31).f1) 0) xs.length).toNat).length) c387, .int .i64 G], .slice Am ((xs.take (mn (mx ((script.getD i.toNat z31).f1) 0) xs.length).toNat).length) cm]), (73, .agg #[.int .i64 (mn (mx most 1) 2000), .slice A386 ((xs.drop (mn (mx ((script.getD i.toNat z31).f1) 0) xs.length).toNat).length) c387, .int .i64 G]), (74, .slice Am ((xs.take (mn (mx ((script.getD i.toNat z31).f1) 0) xs.length).toNat).length) cm), (14, .pointer (some ⟨g404, 0, none⟩)), (15, .slice Am ((xs.take (mn (mx ((script.getD i.toNat z31).f1) 0) xs.length).toNat).length) cm), (75, .agg #[.int .i64 (mn (mx most 1) 2000), .slice A386 ((xs.drop (mn (mx ((script.getD i.toNat z31).f1) 0) xs.length).toNat).length) c387, .int .i64 G]), (76, .slice A364 ((xs.take (mn (mx ((script.getD i.toNat z31).f1) 0) xs.length).toNat).length) c365), (77, .slice Am ((xs.take (mn (mx ((script.getD i.toNat z31).f1) 0) xs.length).toNat).length) cm), (78, .bool true), (79, .bool false), (80, .slice A364 ((xs.take (mn (mx ((script.getD i.toNat z31).f1) 0) xs.length).toNat).length) c365), (81, .int .i64 (((xs.take (mn (mx ((script.getD i.toNat z31).f1) 0) xs.length).toNat).length) : Int))] ∧ Own w w_ [Chunk.blk g404 (.cells #[.int .i64 (mn (mx most 1) 2000), .slice A386 ((xs.drop (mn (mx ((script.getD i.toNat z31).f1) 0) xs.length).toNat).length) c387, .int .i64 G] 28 (0, 0)), Chunk.row (Kd.int .u8) 5 w.heap.size S367 (.slice A364 ((xs.take (mn (mx ((script.getD i.toNat z31).f1) 0) xs.length).toNat).length) c365) X449, Chunk.blk g101 (.cells #[.int .i64 ((script.getD i.toNat z31).f0), .int .i64 ((script.getD i.toNat z31).f1), .slice A93 ((script.getD i.toNat z31).f2.length) c94] 31 (0, 0)), Chunk.view (Kd.int .u8) Sm Am xs.length cm xs, Chunk.buf w.heap.size g7 Sb (mn (mx most 1) 2000) (xs.drop (mn (mx ((script.getD i.toNat z31).f1) 0) xs.length).toNat) G, Chunk.blk g49 (.cells #[.int .i64 (mn (mx most 1) 2000), .slice A386 ((xs.drop (mn (mx ((script.getD i.toNat z31).f1) 0) xs.length).toNat).length) c387, .int .i64 G] 28 (0, 0))] ∧ (0 ≤ p450 ∧ p450 ≤ ((xs.take (mn (mx ((script.getD i.toNat z31).f1) 0) xs.length).toNat).length : Int)) ∧ (X449.length = (xs.take (mn (mx ((script.getD i.toNat z31).f1) 0) xs.length).toNat).length) ∧ m_ = ((xs.take (mn (mx ((script.getD i.toNat z31).f1) 0) xs.length).toNat).length - p450.toNat)) (((xs.take (mn (mx ((script.getD i.toNat z31).f1) 0) xs.length).toNat).length - (0 : Int).toNat)) ?_ ?_
            · refine ⟨0, (xs.take (mn (mx ((script.getD i.toNat z31).f1) 0) xs.length).toNat), (HF448.pick (t := 82) rfl (HF448.pick (t := 31) rfl (HF448.pick (t := 5) rfl (HF448.pick (t := 6) rfl (HF448.pick (t := 29) rfl (HF448.pick (t := 30) rfl (HF448.pick (t := 32) rfl (HF448.pick (t := 33) rfl (HF448.pick (t := 34) rfl (HF448.pick (t := 9) rfl (HF448.pick (t := 35) rfl (HF448.pick (t := 36) rfl (HF448.pick (t := 37) rfl (HF448.pick (t := 38) rfl (HF448.pick (t := 39) rfl (HF448.pick (t := 40) rfl (HF448.pick (t := 7) rfl (HF448.pick (t := 41) rfl (HF448.pick (t := 42) rfl (HF448.pick (t := 43) rfl (HF448.pick (t := 44) rfl (HF448.pick (t := 46) rfl (HF448.pick (t := 45) rfl (HF448.pick (t := 63) rfl (HF448.pick (t := 62) rfl (HF448.pick (t := 64) rfl (HF448.pick (t := 65) rfl (HF448.pick (t := 66) rfl (HF448.pick (t := 67) rfl (HF448.pick (t := 13) rfl (HF448.pick (t := 69) rfl (HF448.pick (t := 70) rfl (HF448.pick (t := 71) rfl (HF448.pick (t := 72) rfl (HF448.pick (t := 68) rfl (HF448.pick (t := 73) rfl (HF448.pick (t := 74) rfl (HF448.pick (t := 14) rfl (HF448.pick (t := 15) rfl (HF448.pick (t := 75) rfl (HF448.pick (t := 76) rfl (HF448.pick (t := 77) rfl (HF448.pick (t := 78) rfl (HF448.pick (t := 79) rfl (HF448.pick (t := 80) rfl (HF448.pick (t := 81) rfl HF448.nil)))))))))))))))))))))))))))))))))))))))))))))), HO436.sel [0, 1, 2, 3, 4, 5] (by decide), ?_, ?_, rfl⟩
              · (first | omega | ((try have h1_ := ovN_le (mn (mx most 1) 2000) xs.length ((script.getD i.toNat z31).f2).length); (try have h2_ := hz _ (getD_mem (z := z31) script i.toNat (by omega))); (try have h3_ := putL_len' (mn (mx most 1) 2000) xs (script.getD i.toNat z31).f2 (by omega)); (try have h4_ := ov_add' (mn (mx most 1) 2000) xs (script.getD i.toNat z31).f2); first | omega | ((try simp only [List.length_append, List.length_take, List.length_drop, List.length_nil, List.length_cons, List.length_set] at *); omega)))
              · rfl
            · rintro m454 a455 w456 ⟨p450, X449, HF457, HO458, hp452, hX451, hm459⟩
              refine gw_seq fun K460 hK460 => ?_
              refine wp_region_lit ?_
              refine gw_ev HF457 (want_none rfl) rfl (by decide) (op_lss rfl (HF457.ev rfl) (HF457.ev rfl)) ?_
              intro a461 HF462; clear HF457
              refine wpList_nil ?_
              refine gw_nx (hK460 _ _ ?_)
              refine gw_seq fun K463 hK463 => ?_
              refine gw_cond HF462 rfl (fun hb464 => ?_) (fun hb464 => ?_)
              · skip
                have HF465 := HF462.subst_ (d := 83) (b := true) rfl hb464
                clear HF462
                (try simp only [decide_eq_true_eq, decide_eq_false_iff_not, Bool.not_eq_true', Bool.not_eq_false', Bool.not_eq_true, Bool.not_eq_false, ne_eq, Decidable.not_not, Int.not_lt, Int.not_le, not_true_eq_false, not_false_eq_true, bne_iff_ne, beq_iff_eq, bne_eq_false_iff_eq, beq_eq_false_iff_ne] at hb464)
                refine wp_skip ?_
                refine gw_nx (hK463 _ _ ?_)
                refine gw_seq fun K466 hK466 => ?_
                refine wp_block ?_
                refine gw_seq fun K467 hK467 => ?_
                refine wp_region_lit ?_
                refine gw_ev HF465 (want_none rfl) rfl (by decide) (op_move rfl (HF465.ev rfl)) ?_
                intro a468 HF469; clear HF465
                refine gw_ev HF469 (want_none rfl) rfl (by decide) (op_assign rfl (HF469.ev rfl)) ?_
                intro a470 HF471; clear HF469
                refine wpList_nil ?_
                refine gw_nx (hK467 _ _ ?_)
                refine wp_region_lit ?_
                refine gw_ev HF471 (want_none rfl) rfl (by decide) (op_move rfl (HF471.ev rfl)) ?_
                intro a472 HF473; clear HF471
                refine gw_ev HF473 (want_none rfl) rfl (by decide) (op_move rfl (HF473.ev rfl)) ?_
                intro a474 HF475; clear HF473
                obtain ⟨ad476, hA477⟩ := row_head (HO458.get 1 rfl) p450 (by (first | omega | ((try have h1_ := ovN_le (mn (mx most 1) 2000) xs.length ((script.getD i.toNat z31).f2).length); (try have h2_ := hz _ (getD_mem (z := z31) script i.toNat (by omega))); (try have h3_ := putL_len' (mn (mx most 1) 2000) xs (script.getD i.toNat z31).f2 (by omega)); (try have h4_ := ov_add' (mn (mx most 1) 2000) xs (script.getD i.toNat z31).f2); first | omega | ((try simp only [List.length_append, List.length_take, List.length_drop, List.length_nil, List.length_cons, List.length_set] at *); omega)))) (by (first | omega | ((try have h1_ := ovN_le (mn (mx most 1) 2000) xs.length ((script.getD i.toNat z31).f2).length); (try have h2_ := hz _ (getD_mem (z := z31) script i.toNat (by omega))); (try have h3_ := putL_len' (mn (mx most 1) 2000) xs (script.getD i.toNat z31).f2 (by omega)); (try have h4_ := ov_add' (mn (mx most 1) 2000) xs (script.getD i.toNat z31).f2); first | omega | ((try simp only [List.length_append, List.length_take, List.length_drop, List.length_nil, List.length_cons, List.length_set] at *); omega))))
                subst hA477
                refine gw_ev HF475 (want_none rfl) rfl (by decide) (op_index Try.underlying26 gwsiz5 rfl (HF475.ev rfl) (HF475.ev rfl) rfl (⟨by (first | omega | ((try have h1_ := ovN_le (mn (mx most 1) 2000) xs.length ((script.getD i.toNat z31).f2).length); (try have h2_ := hz _ (getD_mem (z := z31) script i.toNat (by omega))); (try have h3_ := putL_len' (mn (mx most 1) 2000) xs (script.getD i.toNat z31).f2 (by omega)); (try have h4_ := ov_add' (mn (mx most 1) 2000) xs (script.getD i.toNat z31).f2); first | omega | ((try simp only [List.length_append, List.length_take, List.length_drop, List.length_nil, List.length_cons, List.length_set] at *); omega))), by (first | omega | ((try have h1_ := ovN_le (mn (mx most 1) 2000) xs.length ((script.getD i.toNat z31).f2).length); (try have h2_ := hz _ (getD_mem (z := z31) script i.toNat (by omega))); (try have h3_ := putL_len' (mn (mx most 1) 2000) xs (script.getD i.toNat z31).f2 (by omega)); (try have h4_ := ov_add' (mn (mx most 1) 2000) xs (script.getD i.toNat z31).f2); first | omega | ((try simp only [List.length_append, List.length_take, List.length_drop, List.length_nil, List.length_cons, List.length_set] at *); omega)))⟩)) ?_
                intro a479 HF480; clear HF475
                refine gw_row 1 HF480 HO458 rfl (want_none rfl) rfl gwsiz5 (by (first | omega | ((try have h1_ := ovN_le (mn (mx most 1) 2000) xs.length ((script.getD i.toNat z31).f2).length); (try have h2_ := hz _ (getD_mem (z := z31) script i.toNat (by omega))); (try have h3_ := putL_len' (mn (mx most 1) 2000) xs (script.getD i.toNat z31).f2 (by omega)); (try have h4_ := ov_add' (mn (mx most 1) 2000) xs (script.getD i.toNat z31).f2); first | omega | ((try simp only [List.length_append, List.length_take, List.length_drop, List.length_nil, List.length_cons, List.length_set] at *); omega)))) (by (first | omega | ((try have h1_ := ovN_le (mn (mx most 1) 2000) xs.length ((script.getD i.toNat z31).f2).length); (try have h2_ := hz _ (getD_mem (z := z31) script i.toNat (by omega))); (try have h3_ := putL_len' (mn (mx most 1) 2000) xs (script.getD i.toNat z31).f2 (by omega)); (try have h4_ := ov_add' (mn (mx most 1) 2000) xs (script.getD i.toNat z31).f2); first | omega | ((try simp only [List.length_append, List.length_take, List.length_drop, List.length_nil, List.length_cons, List.length_set] at *); omega)))) rfl (HF480.ev rfl) (ev_c _ _) ?_
                intro a481 w483 HF482 HO484; clear HF480 HO458
                have HO485 : Own w w483 [Chunk.blk g404 (.cells #[.int .i64 (mn (mx most 1) 2000), .slice A386 ((xs.drop (mn (mx ((script.getD i.toNat z31).f1) 0) xs.length).toNat).length) c387, .int .i64 G] 28 (0, 0)), Chunk.row (Kd.int .u8) 5 w.heap.size S367 (.slice (some ad476) ((xs.take (mn (mx ((script.getD i.toNat z31).f1) 0) xs.length).toNat).length) c365) (X449.set p450.toNat 99), Chunk.blk g101 (.cells #[.int .i64 ((script.getD i.toNat z31).f0), .int .i64 ((script.getD i.toNat z31).f1), .slice A93 ((script.getD i.toNat z31).f2.length) c94] 31 (0, 0)), Chunk.view (Kd.int .u8) Sm Am xs.length cm xs, Chunk.buf w.heap.size g7 Sb (mn (mx most 1) 2000) (xs.drop (mn (mx ((script.getD i.toNat z31).f1) 0) xs.length).toNat) G, Chunk.blk g49 (.cells #[.int .i64 (mn (mx most 1) 2000), .slice A386 ((xs.drop (mn (mx ((script.getD i.toNat z31).f1) 0) xs.length).toNat).length) c387, .int .i64 G] 28 (0, 0))] := HO484
                clear HO484
                refine wpList_nil ?_
                refine gw_blk ?_
                refine gw_nx (hK466 _ _ ?_)
                refine wp_region_lit ?_
                refine gw_ev HF482 (want_none rfl) rfl (by decide) (op_add rfl (HF482.ev rfl) (ev_c _ _) (by (first | omega | ((try have h1_ := ovN_le (mn (mx most 1) 2000) xs.length ((script.getD i.toNat z31).f2).length); (try have h2_ := hz _ (getD_mem (z := z31) script i.toNat (by omega))); (try have h3_ := putL_len' (mn (mx most 1) 2000) xs (script.getD i.toNat z31).f2 (by omega)); (try have h4_ := ov_add' (mn (mx most 1) 2000) xs (script.getD i.toNat z31).f2); first | omega | ((try simp only [List.length_append, List.length_take, List.length_drop, List.length_nil, List.length_cons, List.length_set] at *); omega))))) ?_
                intro a486 HF487; clear HF482
                refine gw_ev HF487 (want_none rfl) rfl (by decide) (op_move rfl (HF487.ev rfl)) ?_
                intro a488 HF489; clear HF487
                refine wpList_nil ?_
                refine gw_nx ⟨_, ?_, p450 + 1, (X449.set p450.toNat 99), (HF489.pick (t := 82) rfl (HF489.pick (t := 31) rfl (HF489.pick (t := 5) rfl (HF489.pick (t := 6) rfl (HF489.pick (t := 29) rfl (HF489.pick (t := 30) rfl (HF489.pick (t := 32) rfl (HF489.pick (t := 33) rfl (HF489.pick (t := 34) rfl (HF489.pick (t := 9) rfl (HF489.pick (t := 35) rfl (HF489.pick (t := 36) rfl (HF489.pick (t := 37) rfl (HF489.pick (t := 38) rfl (HF489.pick (t := 39) rfl (HF489.pick (t := 40) rfl (HF489.pick (t := 7) rfl (HF489.pick (t := 41) rfl (HF489.pick (t := 42) rfl (HF489.pick (t := 43) rfl (HF489.pick (t := 44) rfl (HF489.pick (t := 46) rfl (HF489.pick (t := 45) rfl (HF489.pick (t := 63) rfl (HF489.pick (t := 62) rfl (HF489.pick (t := 64) rfl (HF489.pick (t := 65) rfl (HF489.pick (t := 66) rfl (HF489.pick (t := 67) rfl (HF489.pick (t := 13) rfl (HF489.pick (t := 69) rfl (HF489.pick (t := 70) rfl (HF489.pick (t := 71) rfl (HF489.pick (t := 72) rfl (HF489.pick (t := 68) rfl (HF489.pick (t := 73) rfl (HF489.pick (t := 74) rfl (HF489.pick (t := 14) rfl (HF489.pick (t := 15) rfl (HF489.pick (t := 75) rfl (HF489.pick (t := 76) rfl (HF489.pick (t := 77) rfl (HF489.pick (t := 78) rfl (HF489.pick (t := 79) rfl (HF489.pick (t := 80) rfl (HF489.pick (t := 81) rfl HF489.nil)))))))))))))))))))))))))))))))))))))))))))))), HO485.sel [0, 1, 2, 3, 4, 5] (by decide), ?_, ?_, rfl⟩
                · rw [hm459]; (first | omega | ((try have h1_ := ovN_le (mn (mx most 1) 2000) xs.length ((script.getD i.toNat z31).f2).length); (try have h2_ := hz _ (getD_mem (z := z31) script i.toNat (by omega))); (try have h3_ := putL_len' (mn (mx most 1) 2000) xs (script.getD i.toNat z31).f2 (by omega)); (try have h4_ := ov_add' (mn (mx most 1) 2000) xs (script.getD i.toNat z31).f2); first | omega | ((try simp only [List.length_append, List.length_take, List.length_drop, List.length_nil, List.length_cons, List.length_set] at *); omega)))
                · (first | omega | ((try have h1_ := ovN_le (mn (mx most 1) 2000) xs.length ((script.getD i.toNat z31).f2).length); (try have h2_ := hz _ (getD_mem (z := z31) script i.toNat (by omega))); (try have h3_ := putL_len' (mn (mx most 1) 2000) xs (script.getD i.toNat z31).f2 (by omega)); (try have h4_ := ov_add' (mn (mx most 1) 2000) xs (script.getD i.toNat z31).f2); first | omega | ((try simp only [List.length_append, List.length_take, List.length_drop, List.length_nil, List.length_cons, List.length_set] at *); omega)))
                · rw [List.length_set]; exact hX451
              · skip
                have HF490 := HF462.subst_ (d := 83) (b := false) rfl hb464
                clear HF462
                (try simp only [decide_eq_true_eq, decide_eq_false_iff_not, Bool.not_eq_true', Bool.not_eq_false', Bool.not_eq_true, Bool.not_eq_false, ne_eq, Decidable.not_not, Int.not_lt, Int.not_le, not_true_eq_false, not_false_eq_true, bne_iff_ne, beq_iff_eq, bne_eq_false_iff_eq, beq_eq_false_iff_ne] at hb464)
                refine wp_exit ?_
                refine gw_thx ?_
                refine gw_thx ?_
                refine gw_in ?_
                refine gw_blk ?_
                refine gw_nx (hK139 _ _ ?_)
                refine gw_seq fun K491 hK491 => ?_
                refine wp_region_lit ?_
                refine gw_ev HF490 (want_none rfl) rfl (by decide) (op_move rfl (HF490.ev rfl)) ?_
                intro a492 HF493; clear HF490
                refine gw_call HF493 (want_none rfl) rfl (by decide) (op_callL Try.func19 (by kernel_rfl) rfl rfl (ar_cons (HF493.ev rfl) ar_nil)) (buf_bytes0 w.heap.size g7 Sb (mn (mx most 1) 2000) (xs.drop (mn (mx ((script.getD i.toNat z31).f1) 0) xs.length).toNat) G _ (HO458.get 4 rfl) (by (first | omega | ((try have h1_ := ovN_le (mn (mx most 1) 2000) xs.length ((script.getD i.toNat z31).f2).length); (try have h2_ := hz _ (getD_mem (z := z31) script i.toNat (by omega))); (try have h3_ := putL_len' (mn (mx most 1) 2000) xs (script.getD i.toNat z31).f2 (by omega)); (try have h4_ := ov_add' (mn (mx most 1) 2000) xs (script.getD i.toNat z31).f2); first | omega | ((try simp only [List.length_append, List.length_take, List.length_drop, List.length_nil, List.length_cons, List.length_set] at *); omega))))) ?_
                rintro e497 w498 ⟨A494, c495, S496, rfl, hb499⟩
                refine ⟨_, rfl, fun a500 HF501 => ?_⟩
                have HO502 := HO458.fresh hb499
                have hbel503 := HO458.below
                clear HF493 HO458 hb499
                have HO504 := HO502.lowrow 0 rfl (base' := w.heap.size) (Below.size hbel503)
                have HO505 : Own w w498 [Chunk.row (Kd.int .u8) 5 w.heap.size S496 (.slice A494 ((xs.drop (mn (mx ((script.getD i.toNat z31).f1) 0) xs.length).toNat).length) c495) (xs.drop (mn (mx ((script.getD i.toNat z31).f1) 0) xs.length).toNat), Chunk.blk g404 (.cells #[.int .i64 (mn (mx most 1) 2000), .slice A386 ((xs.drop (mn (mx ((script.getD i.toNat z31).f1) 0) xs.length).toNat).length) c387, .int .i64 G] 28 (0, 0)), Chunk.row (Kd.int .u8) 5 w.heap.size S367 (.slice A364 ((xs.take (mn (mx ((script.getD i.toNat z31).f1) 0) xs.length).toNat).length) c365) X449, Chunk.blk g101 (.cells #[.int .i64 ((script.getD i.toNat z31).f0), .int .i64 ((script.getD i.toNat z31).f1), .slice A93 ((script.getD i.toNat z31).f2.length) c94] 31 (0, 0)), Chunk.view (Kd.int .u8) Sm Am xs.length cm xs, Chunk.buf w.heap.size g7 Sb (mn (mx most 1) 2000) (xs.drop (mn (mx ((script.getD i.toNat z31).f1) 0) xs.length).toNat) G, Chunk.blk g49 (.cells #[.int .i64 (mn (mx most 1) 2000), .slice A386 ((xs.drop (mn (mx ((script.getD i.toNat z31).f1) 0) xs.length).toNat).length) c387, .int .i64 G] 28 (0, 0))] := HO504
                clear HO504
                refine gw_ev HF501 (want_none rfl) rfl (by decide) (op_assign rfl (HF501.ev rfl)) ?_
                intro a506 HF507; clear HF501
                refine wpList_nil ?_
                refine gw_nx (hK491 _ _ ?_)
                refine gw_seq fun K508 hK508 => ?_
                refine gw_seq fun K509 hK509 => ?_
                refine gw_draw HO505 (by kernel_rfl) (by kernel_rfl) ?_
                refine gq_ev HF507 (want_none rfl) rfl (by decide) (fun wq HO => (op_move rfl (HF507.ev rfl))) ?_
                intro a510 HF511; clear HF507
                refine gq_ev HF511 (want_none rfl) rfl (by decide) (fun wq HO => (op_field (gwfld28_1 _ _) rfl (HF511.ev rfl))) ?_
                intro a512 HF513; clear HF511
                refine gq_ev HF513 (want_none rfl) rfl (by decide) (fun wq HO => (op_load1 gwagg26 rfl (HF513.ev rfl) (blk_at (HO.get 6 rfl) rfl))) ?_
                intro a514 HF515; clear HF513
                refine gq_call HF515 (want_none rfl) rfl (by decide) (fun wq HO => (op_callL Try.func18 (by kernel_rfl) rfl rfl (ar_cons (HF515.ev rfl) (ar_cons (HF515.ev rfl) ar_nil)))) (fun wq HO => (same_calls A494 c495 (xs.drop (mn (mx ((script.getD i.toNat z31).f1) 0) xs.length).toNat) A386 c387 (xs.drop (mn (mx ((script.getD i.toNat z31).f1) 0) xs.length).toNat) _ (Kd.R_reads' (HO.get 0 rfl)).2.2 (row_cap (HO.get 0 rfl)) (hC388 _ (view_C (HO.get 4 rfl))) hc389 (by (first | omega | ((try have h1_ := ovN_le (mn (mx most 1) 2000) xs.length ((script.getD i.toNat z31).f2).length); (try have h2_ := hz _ (getD_mem (z := z31) script i.toNat (by omega))); (try have h3_ := putL_len' (mn (mx most 1) 2000) xs (script.getD i.toNat z31).f2 (by omega)); (try have h4_ := ov_add' (mn (mx most 1) 2000) xs (script.getD i.toNat z31).f2); first | omega | ((try simp only [List.length_append, List.length_take, List.length_drop, List.length_nil, List.length_cons, List.length_set] at *); omega))))).mono fun e w' h => ⟨h.1, HO.after h.2⟩) ?_
                intro a516 HF517; clear HF515
                have HF518 := HF517.lit (b := true) (by simp)
                clear HF517
                refine gq_ev HF518 (want_none rfl) rfl (by decide) (fun wq HO => (op_not rfl (HF518.ev rfl))) ?_
                intro a519 HF520; clear HF518
                refine gq_ev HF520 (want_none rfl) rfl (by decide) (fun wq HO => (op_move rfl (HF520.ev rfl))) ?_
                intro a521 HF522; clear HF520
                refine gq_ev HF522 (want_yes HF522 rfl rfl rfl rfl) rfl (by decide) (fun wq HO => (op_move rfl (HF522.ev rfl))) ?_
                intro a523 HF524; clear HF522
                refine gq_call HF524 (want_yes HF524 rfl rfl rfl rfl) rfl (by decide) (fun wq HO => (op_callL Try.func20 (by kernel_rfl) rfl rfl (ar_cons (HF524.ev rfl) ar_nil))) (fun wq HO => (buf_full0 w.heap.size g7 Sb (mn (mx most 1) 2000) (xs.drop (mn (mx ((script.getD i.toNat z31).f1) 0) xs.length).toNat) G _ (HO.get 5 rfl)).mono fun e w' h => ⟨h.1, HO.after h.2⟩) ?_
                intro a525 HF526; clear HF524
                refine gq_ev HF526 (want_yes HF526 rfl rfl rfl rfl) rfl (by decide) (fun wq HO => (op_field (gwfld28_1 _ _) rfl (HF526.ev rfl))) ?_
                intro a527 HF528; clear HF526
                refine gq_ev HF528 (want_yes HF528 rfl rfl rfl rfl) rfl (by decide) (fun wq HO => (op_load1 gwagg26 rfl (HF528.ev rfl) (blk_at (HO.get 6 rfl) rfl))) ?_
                intro a529 HF530; clear HF528
                refine gq_ev HF530 (want_yes HF530 rfl rfl rfl rfl) rfl (by decide) (fun wq HO => (op_len Try.underlying26 rfl (HF530.ev rfl))) ?_
                intro a531 HF532; clear HF530
                refine gq_ev HF532 (want_yes HF532 rfl rfl rfl rfl) rfl (by decide) (fun wq HO => (op_field (gwfld28_0 _ _) rfl (HF532.ev rfl))) ?_
                intro a533 HF534; clear HF532
                refine gq_ev HF534 (want_yes HF534 rfl rfl rfl rfl) rfl (by decide) (fun wq HO => (op_load1 gwagg3 rfl (HF534.ev rfl) (blk_at (HO.get 6 rfl) rfl))) ?_
                intro a535 HF536; clear HF534
                refine gq_ev HF536 (want_yes HF536 rfl rfl rfl rfl) rfl (by decide) (fun wq HO => (op_eqi rfl (HF536.ev rfl) (HF536.ev rfl))) ?_
                intro a537 HF538; clear HF536
                refine gq_ev HF538 (want_yes HF538 rfl rfl rfl rfl) rfl (by decide) (fun wq HO => (op_neb Try.underlying4 rfl (HF538.ev rfl) (HF538.ev rfl))) ?_
                intro a539 HF540; clear HF538
                have HF541 := HF540.lit (b := false) (by simp)
                clear HF540
                refine gq_ev HF541 (want_none rfl) rfl (by decide) (fun wq HO => (op_pick_f rfl (HF541.ev rfl) (HF541.ev rfl))) ?_
                intro a542 HF543; clear HF541
                refine gq_ev HF543 (want_none rfl) rfl (by decide) (fun wq HO => (op_move rfl (HF543.ev rfl))) ?_
                intro a544 HF545; clear HF543
                refine gq_ev HF545 (want_yes HF545 rfl rfl rfl rfl) rfl (by decide) (fun wq HO => (op_move rfl (HF545.ev rfl))) ?_
                intro a546 HF547; clear HF545
                refine gq_call HF547 (want_yes HF547 rfl rfl rfl rfl) rfl (by decide) (fun wq HO => (op_callL Try.func21 (by kernel_rfl) rfl rfl (ar_cons (HF547.ev rfl) ar_nil))) (fun wq HO => (buf_gone w.heap.size g7 Sb (mn (mx most 1) 2000) (xs.drop (mn (mx ((script.getD i.toNat z31).f1) 0) xs.length).toNat) G _ (HO.get 5 rfl)).mono fun e w' h => ⟨h.1, HO.after h.2⟩) ?_
                intro a548 HF549; clear HF547
                refine gq_ev HF549 (want_yes HF549 rfl rfl rfl rfl) rfl (by decide) (fun wq HO => (op_field (gwfld28_2 _ _) rfl (HF549.ev rfl))) ?_
                intro a550 HF551; clear HF549
                refine gq_ev HF551 (want_yes HF551 rfl rfl rfl rfl) rfl (by decide) (fun wq HO => (op_load1 gwagg2 rfl (HF551.ev rfl) (blk_at (HO.get 6 rfl) rfl))) ?_
                intro a552 HF553; clear HF551
                refine gq_ev HF553 (want_yes HF553 rfl rfl rfl rfl) rfl (by decide) (fun wq HO => (op_nei rfl (HF553.ev rfl) (HF553.ev rfl))) ?_
                intro a554 HF555; clear HF553
                have HF556 := HF555.lit (b := false) (by simp)
                clear HF555
                refine gq_ev HF556 (want_none rfl) rfl (by decide) (fun wq HO => (op_pick_f rfl (HF556.ev rfl) (HF556.ev rfl))) ?_
                intro a557 HF558; clear HF556
                refine wpQuiet_nil ?_
                intro w559 HO560; clear HO505
                refine gw_nx (hK509 _ _ ?_)
                refine gw_cond HF558 rfl (fun hb561 => ?_) (fun hb561 => ?_)
                skip
                · cases hb561
                refine wp_skip ?_
                refine gw_nx (hK508 _ _ ?_)
                refine gw_seq fun K562 hK562 => ?_
                refine wp_region_lit ?_
                refine gw_ev HF558 (want_none rfl) rfl (by decide) (op_move rfl (HF558.ev rfl)) ?_
                intro a563 HF564; clear HF558
                refine gw_ev HF564 (want_none rfl) rfl (by decide) (op_len Try.underlying26 rfl (HF564.ev rfl)) ?_
                intro a565 HF566; clear HF564
                refine gw_ev HF566 (want_none rfl) rfl (by decide) (op_move rfl (ev_c _ _)) ?_
                intro a567 HF568; clear HF566
                refine wpList_nil ?_
                refine gw_nx (hK562 _ _ ?_)
                refine wp_block ?_
                refine gw_loop (fun m_ a_ w_ => ∃ (p570 : Int) (X569 : List Int), Fr 124 a_ [(116, .int .i64 p570), (82, .int .i64 p450), (31, .int .i64 i), (5, .pointer (some ⟨g7, 0, none⟩)), (6, .pointer (some ⟨g49, 0, none⟩)), (29, .slice A1 script.length c1), (30, .int .i64 (script.length : Int)), (32, .bool true), (33, .pointer (some (ad87.add (i.toNat * 3)))), (34, .agg #[.int .i64 ((script.getD i.toNat z31).f0), .int .i64 ((script.getD i.toNat z31).f1), .slice A93 ((script.getD i.toNat z31).f2.length) c94]), (9, .pointer (some ⟨g101, 0, none⟩)), (35, .int .i64 used), (36, .pointer (some ⟨g101, 2, none⟩)), (37, .slice A93 ((script.getD i.toNat z31).f2.length) c94), (38, .int .i64 (((script.getD i.toNat z31).f2.length) : Int)), (39, .int .i64 ((((script.getD i.toNat z31).f2.length) : Int) + 1)), (40, .int .i64 (used + ((((script.getD i.toNat z31).f2.length) : Int) + 1))), (7, .int .i64 (used + ((((script.getD i.toNat z31).f2.length) : Int) + 1))), (41, .int .i64 (used + ((((script.getD i.toNat z31).f2.length) : Int) + 1))), (42, .bool false), (43, .pointer (some ⟨g101, 0, none⟩)), (44, .int .i64 ((script.getD i.toNat z31).f0)), (46, .bool (decide (((script.getD i.toNat z31).f0) = 1))), (45, .bool false), (63, .bool (decide (((script.getD i.toNat z31).f0) = 2))), (62, .bool true), (64, .pointer (some ⟨g7, 0, none⟩)), (65, .pointer (some ⟨g101, 1, none⟩)), (66, .int .i64 ((script.getD i.toNat z31).f1)), (67, .slice A364 ((xs.take (mn (mx ((script.getD i.toNat z31).f1) 0) xs.length).toNat).length) c365), (13, .slice A364 ((xs.take (mn (mx ((script.getD i.toNat z31).f1) 0) xs.length).toNat).length) c365), (69, .agg #[.int .i64 (mn (mx most 1) 2000), .slice Am xs.length cm, .int .i64 G]), (70, .pointer (some ⟨g101, 1, none⟩)), (71, .int .i64 ((script.getD i.toNat z31).f1)), (72, .tuple #[.agg #[.int .i64 (mn (mx most 1) 2000), .slice A386 ((xs.drop (mn (mx ((script.getD i.toNat z31).f1) 0) xs.length).toNat).length) c387, .int .i64 G], .slice Am ((xs.take (mn (mx ((script.getD i.toNat z31).f1) 0) xs.length).toNat).length) cm]), (68, .tuple #[.agg #[.int .i64 (mn (mx most 1) 2000), .slice A386 ((xs.drop (mn (mx ((script.getD i.toNat z31).f1) 0) xs.length).toNat).length) c387, .int .i64 G], .slice Am ((xs.take (mn (mx ((script.getD i.toNat z31).f1) 0) xs.length).toNat).length) cm]), (73, .agg #[.int .i64 (mn (mx most 1) 2000), .slice A386 ((xs.drop (mn (mx ((script.getD i.toNat z31).f1) 0) xs.length).toNat).length) c387, .int .i64 G]), (74, .slice Am ((xs.take (mn (mx ((script.getD i.toNat z31).f1) 0) xs.length).toNat).length) cm), (14, .pointer (some ⟨g404, 0, none⟩)), (15, .slice Am ((xs.take (mn (mx ((script.getD i.toNat z31).f1) 0) xs.length).toNat).length) cm), (75, .agg #[.int .i64 (mn (mx most 1) 2000), .slice A386 ((xs.drop (mn (mx ((script.getD i.toNat z31).f1) 0) xs.length).toNat).length) c387, .int .i64 G]), (76, .slice A364 ((xs.take (mn (mx ((script.getD i.toNat z31).f1) 0) xs.length).toNat).length) c365), (77, .slice Am ((xs.take (mn (mx ((script.getD i.toNat z31).f1) 0) xs.length).toNat).length) cm), (78, .bool true), (79, .bool false), (80, .slice A364 ((xs.take (mn (mx ((script.getD i.toNat z31).f1) 0) xs.length).toNat).length) c365), (81, .int .i64 (((xs.take (mn (mx ((script.getD i.toNat z31).f1) 0) xs.length).toNat).length) : Int)), (83, .bool false), (89, .pointer (some ⟨g7, 0, none⟩)), (90, .slice A494 ((xs.drop (mn (mx ((script.getD i.toNat z31).f1) 0) xs.length).toNat).length) c495), (17, .slice A494 ((xs.drop (mn (mx ((script.getD i.toNat z31).f1) 0) xs.length).toNat).length) c495), (91, .slice A494 ((xs.drop (mn (mx ((script.getD i.toNat z31).f1) 0) xs.length).toNat).length) c495), (92, .pointer (some ⟨g49, 1, none⟩)), (93, .slice A386 ((xs.drop (mn (mx ((script.getD i.toNat z31).f1) 0) xs.length).toNat).length) c387), (94, .bool true), (95, .bool false), (96, .bool false), (97, .pointer (some ⟨g7, 0, none⟩)), (98, .bool (decide (((xs.drop (mn (mx ((script.getD i.toNat z31).f1) 0) xs.length).toNat).length : Int) = (mn (mx most 1) 2000)))), (99, .pointer (some ⟨g49, 1, none⟩)), (100, .slice A386 ((xs.drop (mn (mx ((script.getD i.toNat z31).f1) 0) xs.length).toNat).length) c387), (101, .int .i64 (((xs.drop (mn (mx ((script.getD i.toNat z31).f1) 0) xs.length).toNat).length) : Int)), (102, .pointer (some ⟨g49, 0, none⟩)), (103, .int .i64 (mn (mx most 1) 2000)), (104, .bool (decide ((((xs.drop (mn (mx ((script.getD i.toNat z31).f1) 0) xs.length).toNat).length) : Int) = (mn (mx most 1) 2000)))), (105, .bool false), (106, .bool false), (107, .bool false), (108, .pointer (some ⟨g7, 0, none⟩)), (109, .int .i64 G), (110, .pointer (some ⟨g49, 2, none⟩)), (111, .int .i64 G), (112, .bool false), (113, .bool false), (114, .slice A494 ((xs.drop (mn (mx ((script.getD i.toNat z31).f1) 0) xs.length).toNat).length) c495), (115, .int .i64 (((xs.drop (mn (mx ((script.getD i.toNat z31).f1) 0) xs.length).toNat).length) : Int))] ∧ Own w w_ [Chunk.row (Kd.int .u8) 5 w.heap.size S496 (.slice A494 ((xs.drop (mn (mx ((script.getD i.toNat z31).f1) 0) xs.length).toNat).length) c495) X569, Chunk.blk g404 (.cells #[.int .i64 (mn (mx most 1) 2000), .slice A386 ((xs.drop (mn (mx ((script.getD i.toNat z31).f1) 0) xs.length).toNat).length) c387, .int .i64 G] 28 (0, 0)), Chunk.row (Kd.int .u8) 5 w.heap.size S367 (.slice A364 ((xs.take (mn (mx ((script.getD i.toNat z31).f1) 0) xs.length).toNat).length) c365) X449, Chunk.blk g101 (.cells #[.int .i64 ((script.getD i.toNat z31).f0), .int .i64 ((script.getD i.toNat z31).f1), .slice A93 ((script.getD i.toNat z31).f2.length) c94] 31 (0, 0)), Chunk.view (Kd.int .u8) Sm Am xs.length cm xs, Chunk.buf w.heap.size g7 Sb (mn (mx most 1) 2000) (xs.drop (mn (mx ((script.getD i.toNat z31).f1) 0) xs.length).toNat) G, Chunk.blk g49 (.cells #[.int .i64 (mn (mx most 1) 2000), .slice A386 ((xs.drop (mn (mx ((script.getD i.toNat z31).f1) 0) xs.length).toNat).length) c387, .int .i64 G] 28 (0, 0))] ∧ (0 ≤ p570 ∧ p570 ≤ ((xs.drop (mn (mx ((script.getD i.toNat z31).f1) 0) xs.length).toNat).length : Int)) ∧ (X569.length = (xs.drop (mn (mx ((script.getD i.toNat z31).f1) 0) xs.length).toNat).length) ∧ m_ = ((xs.drop (mn (mx ((script.getD i.toNat z31).f1) 0) xs.length).toNat).length - p570.toNat)) (((xs.drop (mn (mx ((script.getD i.toNat z31).f1) 0) xs.length).toNat).length - (0 : Int).toNat)) ?_ ?_
                · refine ⟨0, (xs.drop (mn (mx ((script.getD i.toNat z31).f1) 0) xs.length).toNat), (HF568.pick (t := 116) rfl (HF568.pick (t := 82) rfl (HF568.pick (t := 31) rfl (HF568.pick (t := 5) rfl (HF568.pick (t := 6) rfl (HF568.pick (t := 29) rfl (HF568.pick (t := 30) rfl (HF568.pick (t := 32) rfl (HF568.pick (t := 33) rfl (HF568.pick (t := 34) rfl (HF568.pick (t := 9) rfl (HF568.pick (t := 35) rfl (HF568.pick (t := 36) rfl (HF568.pick (t := 37) rfl (HF568.pick (t := 38) rfl (HF568.pick (t := 39) rfl (HF568.pick (t := 40) rfl (HF568.pick (t := 7) rfl (HF568.pick (t := 41) rfl (HF568.pick (t := 42) rfl (HF568.pick (t := 43) rfl (HF568.pick (t := 44) rfl (HF568.pick (t := 46) rfl (HF568.pick (t := 45) rfl (HF568.pick (t := 63) rfl (HF568.pick (t := 62) rfl (HF568.pick (t := 64) rfl (HF568.pick (t := 65) rfl (HF568.pick (t := 66) rfl (HF568.pick (t := 67) rfl (HF568.pick (t := 13) rfl (HF568.pick (t := 69) rfl (HF568.pick (t := 70) rfl (HF568.pick (t := 71) rfl (HF568.pick (t := 72) rfl (HF568.pick (t := 68) rfl (HF568.pick (t := 73) rfl (HF568.pick (t := 74) rfl (HF568.pick (t := 14) rfl (HF568.pick (t := 15) rfl (HF568.pick (t := 75) rfl (HF568.pick (t := 76) rfl (HF568.pick (t := 77) rfl (HF568.pick (t := 78) rfl (HF568.pick (t := 79) rfl (HF568.pick (t := 80) rfl (HF568.pick (t := 81) rfl (HF568.pick (t := 83) rfl (HF568.pick (t := 89) rfl (HF568.pick (t := 90) rfl (HF568.pick (t := 17) rfl (HF568.pick (t := 91) rfl (HF568.pick (t := 92) rfl (HF568.pick (t := 93) rfl (HF568.pick (t := 94) rfl (HF568.pick (t := 95) rfl (HF568.pick (t := 96) rfl (HF568.pick (t := 97) rfl (HF568.pick (t := 98) rfl (HF568.pick (t := 99) rfl (HF568.pick (t := 100) rfl (HF568.pick (t := 101) rfl (HF568.pick (t := 102) rfl (HF568.pick (t := 103) rfl (HF568.pick (t := 104) rfl (HF568.pick (t := 105) rfl (HF568.pick (t := 106) rfl (HF568.pick (t := 107) rfl (HF568.pick (t := 108) rfl (HF568.pick (t := 109) rfl (HF568.pick (t := 110) rfl (HF568.pick (t := 111) rfl (HF568.pick (t := 112) rfl (HF568.pick (t := 113) rfl (HF568.pick (t := 114) rfl (HF568.pick (t := 115) rfl HF568.nil)))))))))))))))))))))))))))))))))))))))))))))))))))))))))))))))))))))))))))), HO560.sel [0, 1, 2, 3, 4, 5, 6] (by decide), ?_, ?_, rfl⟩
                  · (first | omega | ((try have h1_ := ovN_le (mn (mx most 1) 2000) xs.length ((script.getD i.toNat z31).f2).length); (try have h2_ := hz _ (getD_mem (z := z31) script i.toNat (by omega))); (try have h3_ := putL_len' (mn (mx most 1) 2000) xs (script.getD i.toNat z31).f2 (by omega)); (try have h4_ := ov_add' (mn (mx most 1) 2000) xs (script.getD i.toNat z31).f2); first | omega | ((try simp only [List.length_append, List.length_take, List.length_drop, List.length_nil, List.length_cons, List.length_set] at *); omega)))
                  · rfl
                · rintro m574 a575 w576 ⟨p570, X569, HF577, HO578, hp572, hX571, hm579⟩
                  refine gw_seq fun K580 hK580 => ?_
                  refine wp_region_lit ?_
                  refine gw_ev HF577 (want_none rfl) rfl (by decide) (op_lss rfl (HF577.ev rfl) (HF577.ev rfl)) ?_
                  intro a581 HF582; clear HF577
                  refine wpList_nil ?_
                  refine gw_nx (hK580 _ _ ?_)
                  refine gw_seq fun K583 hK583 => ?_
                  refine gw_cond HF582 rfl (fun hb584 => ?_) (fun hb584 => ?_)
                  · skip
                    have HF585 := HF582.subst_ (d := 117) (b := true) rfl hb584
                    clear HF582
                    (try simp only [decide_eq_true_eq, decide_eq_false_iff_not, Bool.not_eq_true', Bool.not_eq_false', Bool.not_eq_true, Bool.not_eq_false, ne_eq, Decidable.not_not, Int.not_lt, Int.not_le, not_true_eq_false, not_false_eq_true, bne_iff_ne, beq_iff_eq, bne_eq_false_iff_eq, beq_eq_false_iff_ne] at hb584)
                    refine wp_skip ?_
                    refine gw_nx (hK583 _ _ ?_)
                    refine gw_seq fun K586 hK586 => ?_
                    refine wp_block ?_
                    refine gw_seq fun K587 hK587 => ?_
                    refine wp_region_lit ?_
                    refine gw_ev HF585 (want_none rfl) rfl (by decide) (op_move rfl (HF585.ev rfl)) ?_
                    intro a588 HF589; clear HF585
                    refine gw_ev HF589 (want_none rfl) rfl (by decide) (op_assign rfl (HF589.ev rfl)) ?_
                    intro a590 HF591; clear HF589
                    refine wpList_nil ?_
                    refine gw_nx (hK587 _ _ ?_)
                    refine wp_region_lit ?_
                    refine gw_ev HF591 (want_none rfl) rfl (by decide) (op_move rfl (HF591.ev rfl)) ?_
                    intro a592 HF593; clear HF591
                    refine gw_ev HF593 (want_none rfl) rfl (by decide) (op_move rfl (HF593.ev rfl)) ?_
                    intro a594 HF595; clear HF593
                    obtain ⟨ad596, hA597⟩ := row_head (HO578.get 0 rfl) p570 (by (first | omega | ((try have h1_ := ovN_le (mn (mx most 1) 2000) xs.length ((script.getD i.toNat z31).f2).length); (try have h2_ := hz _ (getD_mem (z := z31) script i.toNat (by omega))); (try have h3_ := putL_len' (mn (mx most 1) 2000) xs (script.getD i.toNat z31).f2 (by omega)); (try have h4_ := ov_add' (mn (mx most 1) 2000) xs (script.getD i.toNat z31).f2); first | omega | ((try simp only [List.length_append, List.length_take, List.length_drop, List.length_nil, List.length_cons, List.length_set] at *); omega)))) (by (first | omega | ((try have h1_ := ovN_le (mn (mx most 1) 2000) xs.length ((script.getD i.toNat z31).f2).length); (try have h2_ := hz _ (getD_mem (z := z31) script i.toNat (by omega))); (try have h3_ := putL_len' (mn (mx most 1) 2000) xs (script.getD i.toNat z31).f2 (by omega)); (try have h4_ := ov_add' (mn (mx most 1) 2000) xs (script.getD i.toNat z31).f2); first | omega | ((try simp only [List.length_append, List.length_take, List.length_drop, List.length_nil, List.length_cons, List.length_set] at *); omega))))
                    subst hA597
                    refine gw_ev HF595 (want_none rfl) rfl (by decide) (op_index Try.underlying26 gwsiz5 rfl (HF595.ev rfl) (HF595.ev rfl) rfl (⟨by (first | omega | ((try have h1_ := ovN_le (mn (mx most 1) 2000) xs.length ((script.getD i.toNat z31).f2).length); (try have h2_ := hz _ (getD_mem (z := z31) script i.toNat (by omega))); (try have h3_ := putL_len' (mn (mx most 1) 2000) xs (script.getD i.toNat z31).f2 (by omega)); (try have h4_ := ov_add' (mn (mx most 1) 2000) xs (script.getD i.toNat z31).f2); first | omega | ((try simp only [List.length_append, List.length_take, List.length_drop, List.length_nil, List.length_cons, List.length_set] at *); omega))), by (first | omega | ((try have h1_ := ovN_le (mn (mx most 1) 2000) xs.length ((script.getD i.toNat z31).f2).length); (try have h2_ := hz _ (getD_mem (z := z31) script i.toNat (by omega))); (try have h3_ := putL_len' (mn (mx most 1) 2000) xs (script.getD i.toNat z31).f2 (by omega)); (try have h4_ := ov_add' (mn (mx most 1) 2000) xs (script.getD i.toNat z31).f2); first | omega | ((try simp only [List.length_append, List.length_take, List.length_drop, List.length_nil, List.length_cons, List.length_set] at *); omega)))⟩)) ?_
                    intro a599 HF600; clear HF595
                    refine gw_row 0 HF600 HO578 rfl (want_none rfl) rfl gwsiz5 (by (first | omega | ((try have h1_ := ovN_le (mn (mx most 1) 2000) xs.length ((script.getD i.toNat z31).f2).length); (try have h2_ := hz _ (getD_mem (z := z31) script i.toNat (by omega))); (try have h3_ := putL_len' (mn (mx most 1) 2000) xs (script.getD i.toNat z31).f2 (by omega)); (try have h4_ := ov_add' (mn (mx most 1) 2000) xs (script.getD i.toNat z31).f2); first | omega | ((try simp only [List.length_append, List.length_take, List.length_drop, List.length_nil, List.length_cons, List.length_set] at *); omega)))) (by (first | omega | ((try have h1_ := ovN_le (mn (mx most 1) 2000) xs.length ((script.getD i.toNat z31).f2).length); (try have h2_ := hz _ (getD_mem (z := z31) script i.toNat (by omega))); (try have h3_ := putL_len' (mn (mx most 1) 2000) xs (script.getD i.toNat z31).f2 (by omega)); (try have h4_ := ov_add' (mn (mx most 1) 2000) xs (script.getD i.toNat z31).f2); first | omega | ((try simp only [List.length_append, List.length_take, List.length_drop, List.length_nil, List.length_cons, List.length_set] at *); omega)))) rfl (HF600.ev rfl) (ev_c _ _) ?_
                    intro a601 w603 HF602 HO604; clear HF600 HO578
                    have HO605 : Own w w603 [Chunk.row (Kd.int .u8) 5 w.heap.size S496 (.slice (some ad596) ((xs.drop (mn (mx ((script.getD i.toNat z31).f1) 0) xs.length).toNat).length) c495) (X569.set p570.toNat 99), Chunk.blk g404 (.cells #[.int .i64 (mn (mx most 1) 2000), .slice A386 ((xs.drop (mn (mx ((script.getD i.toNat z31).f1) 0) xs.length).toNat).length) c387, .int .i64 G] 28 (0, 0)), Chunk.row (Kd.int .u8) 5 w.heap.size S367 (.slice A364 ((xs.take (mn (mx ((script.getD i.toNat z31).f1) 0) xs.length).toNat).length) c365) X449, Chunk.blk g101 (.cells #[.int .i64 ((script.getD i.toNat z31).f0), .int .i64 ((script.getD i.toNat z31).f1), .slice A93 ((script.getD i.toNat z31).f2.length) c94] 31 (0, 0)), Chunk.view (Kd.int .u8) Sm Am xs.length cm xs, Chunk.buf w.heap.size g7 Sb (mn (mx most 1) 2000) (xs.drop (mn (mx ((script.getD i.toNat z31).f1) 0) xs.length).toNat) G, Chunk.blk g49 (.cells #[.int .i64 (mn (mx most 1) 2000), .slice A386 ((xs.drop (mn (mx ((script.getD i.toNat z31).f1) 0) xs.length).toNat).length) c387, .int .i64 G] 28 (0, 0))] := HO604
                    clear HO604
                    refine wpList_nil ?_
                    refine gw_blk ?_
                    refine gw_nx (hK586 _ _ ?_)
                    refine wp_region_lit ?_
                    refine gw_ev HF602 (want_none rfl) rfl (by decide) (op_add rfl (HF602.ev rfl) (ev_c _ _) (by (first | omega | ((try have h1_ := ovN_le (mn (mx most 1) 2000) xs.length ((script.getD i.toNat z31).f2).length); (try have h2_ := hz _ (getD_mem (z := z31) script i.toNat (by omega))); (try have h3_ := putL_len' (mn (mx most 1) 2000) xs (script.getD i.toNat z31).f2 (by omega)); (try have h4_ := ov_add' (mn (mx most 1) 2000) xs (script.getD i.toNat z31).f2); first | omega | ((try simp only [List.length_append, List.length_take, List.length_drop, List.length_nil, List.length_cons, List.length_set] at *); omega))))) ?_
                    intro a606 HF607; clear HF602
                    refine gw_ev HF607 (want_none rfl) rfl (by decide) (op_move rfl (HF607.ev rfl)) ?_
                    intro a608 HF609; clear HF607
                    refine wpList_nil ?_
                    refine gw_nx ⟨_, ?_, p570 + 1, (X569.set p570.toNat 99), (HF609.pick (t := 116) rfl (HF609.pick (t := 82) rfl (HF609.pick (t := 31) rfl (HF609.pick (t := 5) rfl (HF609.pick (t := 6) rfl (HF609.pick (t := 29) rfl (HF609.pick (t := 30) rfl (HF609.pick (t := 32) rfl (HF609.pick (t := 33) rfl (HF609.pick (t := 34) rfl (HF609.pick (t := 9) rfl (HF609.pick (t := 35) rfl (HF609.pick (t := 36) rfl (HF609.pick (t := 37) rfl (HF609.pick (t := 38) rfl (HF609.pick (t := 39) rfl (HF609.pick (t := 40) rfl (HF609.pick (t := 7) rfl (HF609.pick (t := 41) rfl (HF609.pick (t := 42) rfl (HF609.pick (t := 43) rfl (HF609.pick (t := 44) rfl (HF609.pick (t := 46) rfl (HF609.pick (t := 45) rfl (HF609.pick (t := 63) rfl (HF609.pick (t := 62) rfl (HF609.pick (t := 64) rfl (HF609.pick (t := 65) rfl (HF609.pick (t := 66) rfl (HF609.pick (t := 67) rfl (HF609.pick (t := 13) rfl (HF609.pick (t := 69) rfl (HF609.pick (t := 70) rfl (HF609.pick (t := 71) rfl (HF609.pick (t := 72) rfl (HF609.pick (t := 68) rfl (HF609.pick (t := 73) rfl (HF609.pick (t := 74) rfl (HF609.pick (t := 14) rfl (HF609.pick (t := 15) rfl (HF609.pick (t := 75) rfl (HF609.pick (t := 76) rfl (HF609.pick (t := 77) rfl (HF609.pick (t := 78) rfl (HF609.pick (t := 79) rfl (HF609.pick (t := 80) rfl (HF609.pick (t := 81) rfl (HF609.pick (t := 83) rfl (HF609.pick (t := 89) rfl (HF609.pick (t := 90) rfl (HF609.pick (t := 17) rfl (HF609.pick (t := 91) rfl (HF609.pick (t := 92) rfl (HF609.pick (t := 93) rfl (HF609.pick (t := 94) rfl (HF609.pick (t := 95) rfl (HF609.pick (t := 96) rfl (HF609.pick (t := 97) rfl (HF609.pick (t := 98) rfl (HF609.pick (t := 99) rfl (HF609.pick (t := 100) rfl (HF609.pick (t := 101) rfl (HF609.pick (t := 102) rfl (HF609.pick (t := 103) rfl (HF609.pick (t := 104) rfl (HF609.pick (t := 105) rfl (HF609.pick (t := 106) rfl (HF609.pick (t := 107) rfl (HF609.pick (t := 108) rfl (HF609.pick (t := 109) rfl (HF609.pick (t := 110) rfl (HF609.pick (t := 111) rfl (HF609.pick (t := 112) rfl (HF609.pick (t := 113) rfl (HF609.pick (t := 114) rfl (HF609.pick (t := 115) rfl HF609.nil)))))))))))))))))))))))))))))))))))))))))))))))))))))))))))))))))))))))))))), HO605.sel [0, 1, 2, 3, 4, 5, 6] (by decide), ?_, ?_, rfl⟩
                    · rw [hm579]; (first | omega | ((try have h1_ := ovN_le (mn (mx most 1) 2000) xs.length ((script.getD i.toNat z31).f2).length); (try have h2_ := hz _ (getD_mem (z := z31) script i.toNat (by omega))); (try have h3_ := putL_len' (mn (mx most 1) 2000) xs (script.getD i.toNat z31).f2 (by omega)); (try have h4_ := ov_add' (mn (mx most 1) 2000) xs (script.getD i.toNat z31).f2); first | omega | ((try simp only [List.length_append, List.length_take, List.length_drop, List.length_nil, List.length_cons, List.length_set] at *); omega)))
                    · (first | omega | ((try have h1_ := ovN_le (mn (mx most 1) 2000) xs.length ((script.getD i.toNat z31).f2).length); (try have h2_ := hz _ (getD_mem (z := z31) script i.toNat (by omega))); (try have h3_ := putL_len' (mn (mx most 1) 2000) xs (script.getD i.toNat z31).f2 (by omega)); (try have h4_ := ov_add' (mn (mx most 1) 2000) xs (script.getD i.toNat z31).f2); first | omega | ((try simp only [List.length_append, List.length_take, List.length_drop, List.length_nil, List.length_cons, List.length_set] at *); omega)))
                    · rw [List.length_set]; exact hX571
                  · skip
                    have HF610 := HF582.subst_ (d := 117) (b := false) rfl hb584
                    clear HF582
                    (try simp only [decide_eq_true_eq, decide_eq_false_iff_not, Bool.not_eq_true', Bool.not_eq_false', Bool.not_eq_true, Bool.not_eq_false, ne_eq, Decidable.not_not, Int.not_lt, Int.not_le, not_true_eq_false, not_false_eq_true, bne_iff_ne, beq_iff_eq, bne_eq_false_iff_eq, beq_eq_false_iff_ne] at hb584)
                    refine wp_exit ?_
                    refine gw_thx ?_
                    refine gw_thx ?_
                    refine gw_in ?_
                    refine gw_blk ?_
                    refine gw_nx (hK85 _ _ ?_)
                    refine wp_region_lit ?_
                    refine gw_ev HF610 (want_none rfl) rfl (by decide) (op_add rfl (HF610.ev rfl) (ev_c _ _) (by (first | omega | ((try have h1_ := ovN_le (mn (mx most 1) 2000) xs.length ((script.getD i.toNat z31).f2).length); (try have h2_ := hz _ (getD_mem (z := z31) script i.toNat (by omega))); (try have h3_ := putL_len' (mn (mx most 1) 2000) xs (script.getD i.toNat z31).f2 (by omega)); (try have h4_ := ov_add' (mn (mx most 1) 2000) xs (script.getD i.toNat z31).f2); first | omega | ((try simp only [List.length_append, List.length_take, List.length_drop, List.length_nil, List.length_cons, List.length_set] at *); omega))))) ?_
                    intro a611 HF612; clear HF610
                    refine gw_ev HF612 (want_none rfl) rfl (by decide) (op_move rfl (HF612.ev rfl)) ?_
                    intro a613 HF614; clear HF612
                    refine wpList_nil ?_
                    have HO615 := HO578.view_cut 4 rfl (A' := A386) (n' := ((xs.drop (mn (mx ((script.getD i.toNat z31).f1) 0) xs.length).toNat).length)) (c' := c387) (ys := (xs.drop (mn (mx ((script.getD i.toNat z31).f1) 0) xs.length).toNat)) hc389 hC388 hA390
                    clear HO578
                    have HO616 : Own w w576 [Chunk.row (Kd.int .u8) 5 w.heap.size S496 (.slice A494 ((xs.drop (mn (mx ((script.getD i.toNat z31).f1) 0) xs.length).toNat).length) c495) X569, Chunk.blk g404 (.cells #[.int .i64 (mn (mx most 1) 2000), .slice A386 ((xs.drop (mn (mx ((script.getD i.toNat z31).f1) 0) xs.length).toNat).length) c387, .int .i64 G] 28 (0, 0)), Chunk.row (Kd.int .u8) 5 w.heap.size S367 (.slice A364 ((xs.take (mn (mx ((script.getD i.toNat z31).f1) 0) xs.length).toNat).length) c365) X449, Chunk.blk g101 (.cells #[.int .i64 ((script.getD i.toNat z31).f0), .int .i64 ((script.getD i.toNat z31).f1), .slice A93 ((script.getD i.toNat z31).f2.length) c94] 31 (0, 0)), Chunk.view (Kd.int .u8) Sm A386 ((xs.drop (mn (mx ((script.getD i.toNat z31).f1) 0) xs.length).toNat).length) c387 (xs.drop (mn (mx ((script.getD i.toNat z31).f1) 0) xs.length).toNat), Chunk.buf w.heap.size g7 Sb (mn (mx most 1) 2000) (xs.drop (mn (mx ((script.getD i.toNat z31).f1) 0) xs.length).toNat) G, Chunk.blk g49 (.cells #[.int .i64 (mn (mx most 1) 2000), .slice A386 ((xs.drop (mn (mx ((script.getD i.toNat z31).f1) 0) xs.length).toNat).length) c387, .int .i64 G] 28 (0, 0))] := HO615
                    clear HO615
                    refine gw_nx ⟨_, ?_, i + 1, used + ((((script.getD i.toNat z31).f2.length) : Int) + 1), G, (xs.drop (mn (mx ((script.getD i.toNat z31).f1) 0) xs.length).toNat), Sb, Sm, A386, c387, (HF614.pick (t := 31) rfl (HF614.pick (t := 7) rfl (HF614.pick (t := 5) rfl (HF614.pick (t := 6) rfl (HF614.pick (t := 29) rfl (HF614.pick (t := 30) rfl HF614.nil)))))), HO616.sel [4, 5, 6] (by decide), ?_, ?_, ?_, rfl⟩
                    · rw [hm78]; (first | omega | ((try have h1_ := ovN_le (mn (mx most 1) 2000) xs.length ((script.getD i.toNat z31).f2).length); (try have h2_ := hz _ (getD_mem (z := z31) script i.toNat (by omega))); (try have h3_ := putL_len' (mn (mx most 1) 2000) xs (script.getD i.toNat z31).f2 (by omega)); (try have h4_ := ov_add' (mn (mx most 1) 2000) xs (script.getD i.toNat z31).f2); first | omega | ((try simp only [List.length_append, List.length_take, List.length_drop, List.length_nil, List.length_cons, List.length_set] at *); omega)))
                    · (first | omega | ((try have h1_ := ovN_le (mn (mx most 1) 2000) xs.length ((script.getD i.toNat z31).f2).length); (try have h2_ := hz _ (getD_mem (z := z31) script i.toNat (by omega))); (try have h3_ := putL_len' (mn (mx most 1) 2000) xs (script.getD i.toNat z31).f2 (by omega)); (try have h4_ := ov_add' (mn (mx most 1) 2000) xs (script.getD i.toNat z31).f2); first | omega | ((try simp only [List.length_append, List.length_take, List.length_drop, List.length_nil, List.length_cons, List.length_set] at *); omega)))
                    · (first | omega | ((try have h1_ := ovN_le (mn (mx most 1) 2000) xs.length ((script.getD i.toNat z31).f2).length); (try have h2_ := hz _ (getD_mem (z := z31) script i.toNat (by omega))); (try have h3_ := putL_len' (mn (mx most 1) 2000) xs (script.getD i.toNat z31).f2 (by omega)); (try have h4_ := ov_add' (mn (mx most 1) 2000) xs (script.getD i.toNat z31).f2); first | omega | ((try simp only [List.length_append, List.length_take, List.length_drop, List.length_nil, List.length_cons, List.length_set] at *); omega)))
                    · (first | omega | ((try have h1_ := ovN_le (mn (mx most 1) 2000) xs.length ((script.getD i.toNat z31).f2).length); (try have h2_ := hz _ (getD_mem (z := z31) script i.toNat (by omega))); (try have h3_ := putL_len' (mn (mx most 1) 2000) xs (script.getD i.toNat z31).f2 (by omega)); (try have h4_ := ov_add' (mn (mx most 1) 2000) xs (script.getD i.toNat z31).f2); first | omega | ((try simp only [List.length_append, List.length_take, List.length_drop, List.length_nil, List.length_cons, List.length_set] at *); omega)))
          · skip
            have HF617 := HF354.subst_ (d := 62) (b := false) rfl hb355
            clear HF354
            (try simp only [decide_eq_true_eq, decide_eq_false_iff_not, Bool.not_eq_true', Bool.not_eq_false', Bool.not_eq_true, Bool.not_eq_false, ne_eq, Decidable.not_not, Int.not_lt, Int.not_le, not_true_eq_false, not_false_eq_true, bne_iff_ne, beq_iff_eq, bne_eq_false_iff_eq, beq_eq_false_iff_ne] at hb355)
            refine wp_skip ?_
            refine gw_blk ?_
            refine gw_nx (hK139 _ _ ?_)
            refine gw_seq fun K618 hK618 => ?_
            refine wp_region_lit ?_
            refine gw_ev HF617 (want_none rfl) rfl (by decide) (op_move rfl (HF617.ev rfl)) ?_
            intro a619 HF620; clear HF617
            refine gw_call HF620 (want_none rfl) rfl (by decide) (op_callL Try.func19 (by kernel_rfl) rfl rfl (ar_cons (HF620.ev rfl) ar_nil)) (buf_bytes0 w.heap.size g7 Sb (mn (mx most 1) 2000) xs G _ (HO111.get 2 rfl) (by (first | omega | ((try have h1_ := ovN_le (mn (mx most 1) 2000) xs.length ((script.getD i.toNat z31).f2).length); (try have h2_ := hz _ (getD_mem (z := z31) script i.toNat (by omega))); (try have h3_ := putL_len' (mn (mx most 1) 2000) xs (script.getD i.toNat z31).f2 (by omega)); (try have h4_ := ov_add' (mn (mx most 1) 2000) xs (script.getD i.toNat z31).f2); first | omega | ((try simp only [List.length_append, List.length_take, List.length_drop, List.length_nil, List.length_cons, List.length_set] at *); omega))))) ?_
            rintro e624 w625 ⟨A621, c622, S623, rfl, hb626⟩
            refine ⟨_, rfl, fun a627 HF628 => ?_⟩
            have HO629 := HO111.fresh hb626
            have hbel630 := HO111.below
            clear HF620 HO111 hb626
            have HO631 := HO629.lowrow 0 rfl (base' := w.heap.size) (Below.size hbel630)
            have HO632 : Own w w625 [Chunk.row (Kd.int .u8) 5 w.heap.size S623 (.slice A621 xs.length c622) xs, Chunk.blk g101 (.cells #[.int .i64 ((script.getD i.toNat z31).f0), .int .i64 ((script.getD i.toNat z31).f1), .slice A93 ((script.getD i.toNat z31).f2.length) c94] 31 (0, 0)), Chunk.view (Kd.int .u8) Sm Am xs.length cm xs, Chunk.buf w.heap.size g7 Sb (mn (mx most 1) 2000) xs G, Chunk.blk g49 (.cells #[.int .i64 (mn (mx most 1) 2000), .slice Am xs.length cm, .int .i64 G] 28 (0, 0))] := HO631
            clear HO631
            refine gw_ev HF628 (want_none rfl) rfl (by decide) (op_assign rfl (HF628.ev rfl)) ?_
            intro a633 HF634; clear HF628
            refine wpList_nil ?_
            refine gw_nx (hK618 _ _ ?_)
            refine gw_seq fun K635 hK635 => ?_
            refine gw_seq fun K636 hK636 => ?_
            refine gw_draw HO632 (by kernel_rfl) (by kernel_rfl) ?_
            refine gq_ev HF634 (want_none rfl) rfl (by decide) (fun wq HO => (op_move rfl (HF634.ev rfl))) ?_
            intro a637 HF638; clear HF634
            refine gq_ev HF638 (want_none rfl) rfl (by decide) (fun wq HO => (op_field (gwfld28_1 _ _) rfl (HF638.ev rfl))) ?_
            intro a639 HF640; clear HF638
            refine gq_ev HF640 (want_none rfl) rfl (by decide) (fun wq HO => (op_load1 gwagg26 rfl (HF640.ev rfl) (blk_at (HO.get 4 rfl) rfl))) ?_
            intro a641 HF642; clear HF640
            refine gq_call HF642 (want_none rfl) rfl (by decide) (fun wq HO => (op_callL Try.func18 (by kernel_rfl) rfl rfl (ar_cons (HF642.ev rfl) (ar_cons (HF642.ev rfl) ar_nil)))) (fun wq HO => (same_calls A621 c622 xs Am cm xs _ (Kd.R_reads' (HO.get 0 rfl)).2.2 (row_cap (HO.get 0 rfl)) (view_C (HO.get 2 rfl)) (view_le (HO.get 2 rfl)) (by (first | omega | ((try have h1_ := ovN_le (mn (mx most 1) 2000) xs.length ((script.getD i.toNat z31).f2).length); (try have h2_ := hz _ (getD_mem (z := z31) script i.toNat (by omega))); (try have h3_ := putL_len' (mn (mx most 1) 2000) xs (script.getD i.toNat z31).f2 (by omega)); (try have h4_ := ov_add' (mn (mx most 1) 2000) xs (script.getD i.toNat z31).f2); first | omega | ((try simp only [List.length_append, List.length_take, List.length_drop, List.length_nil, List.length_cons, List.length_set] at *); omega))))).mono fun e w' h => ⟨h.1, HO.after h.2⟩) ?_
            intro a643 HF644; clear HF642
            have HF645 := HF644.lit (b := true) (by simp)
            clear HF644
            refine gq_ev HF645 (want_none rfl) rfl (by decide) (fun wq HO => (op_not rfl (HF645.ev rfl))) ?_
            intro a646 HF647; clear HF645
            refine gq_ev HF647 (want_none rfl) rfl (by decide) (fun wq HO => (op_move rfl (HF647.ev rfl))) ?_
            intro a648 HF649; clear HF647
            refine gq_ev HF649 (want_yes HF649 rfl rfl rfl rfl) rfl (by decide) (fun wq HO => (op_move rfl (HF649.ev rfl))) ?_
            intro a650 HF651; clear HF649
            refine gq_call HF651 (want_yes HF651 rfl rfl rfl rfl) rfl (by decide) (fun wq HO => (op_callL Try.func20 (by kernel_rfl) rfl rfl (ar_cons (HF651.ev rfl) ar_nil))) (fun wq HO => (buf_full0 w.heap.size g7 Sb (mn (mx most 1) 2000) xs G _ (HO.get 3 rfl)).mono fun e w' h => ⟨h.1, HO.after h.2⟩) ?_
            intro a652 HF653; clear HF651
            refine gq_ev HF653 (want_yes HF653 rfl rfl rfl rfl) rfl (by decide) (fun wq HO => (op_field (gwfld28_1 _ _) rfl (HF653.ev rfl))) ?_
            intro a654 HF655; clear HF653
            refine gq_ev HF655 (want_yes HF655 rfl rfl rfl rfl) rfl (by decide) (fun wq HO => (op_load1 gwagg26 rfl (HF655.ev rfl) (blk_at (HO.get 4 rfl) rfl))) ?_
            intro a656 HF657; clear HF655
            refine gq_ev HF657 (want_yes HF657 rfl rfl rfl rfl) rfl (by decide) (fun wq HO => (op_len Try.underlying26 rfl (HF657.ev rfl))) ?_
            intro a658 HF659; clear HF657
            refine gq_ev HF659 (want_yes HF659 rfl rfl rfl rfl) rfl (by decide) (fun wq HO => (op_field (gwfld28_0 _ _) rfl (HF659.ev rfl))) ?_
            intro a660 HF661; clear HF659
            refine gq_ev HF661 (want_yes HF661 rfl rfl rfl rfl) rfl (by decide) (fun wq HO => (op_load1 gwagg3 rfl (HF661.ev rfl) (blk_at (HO.get 4 rfl) rfl))) ?_
            intro a662 HF663; clear HF661
            refine gq_ev HF663 (want_yes HF663 rfl rfl rfl rfl) rfl (by decide) (fun wq HO => (op_eqi rfl (HF663.ev rfl) (HF663.ev rfl))) ?_
            intro a664 HF665; clear HF663
            refine gq_ev HF665 (want_yes HF665 rfl rfl rfl rfl) rfl (by decide) (fun wq HO => (op_neb Try.underlying4 rfl (HF665.ev rfl) (HF665.ev rfl))) ?_
            intro a666 HF667; clear HF665
            have HF668 := HF667.lit (b := false) (by simp)
            clear HF667
            refine gq_ev HF668 (want_none rfl) rfl (by decide) (fun wq HO => (op_pick_f rfl (HF668.ev rfl) (HF668.ev rfl))) ?_
            intro a669 HF670; clear HF668
            refine gq_ev HF670 (want_none rfl) rfl (by decide) (fun wq HO => (op_move rfl (HF670.ev rfl))) ?_
            intro a671 HF672; clear HF670
            refine gq_ev HF672 (want_yes HF672 rfl rfl rfl rfl) rfl (by decide) (fun wq HO => (op_move rfl (HF672.ev rfl))) ?_
            intro a673 HF674; clear HF672
            refine gq_call HF674 (want_yes HF674 rfl rfl rfl rfl) rfl (by decide) (fun wq HO => (op_callL Try.func21 (by kernel_rfl) rfl rfl (ar_cons (HF674.ev rfl) ar_nil))) (fun wq HO => (buf_gone w.heap.size g7 Sb (mn (mx most 1) 2000) xs G _ (HO.get 3 rfl)).mono fun e w' h => ⟨h.1, HO.after h.2⟩) ?_
            intro a675 HF676; clear HF674
            refine gq_ev HF676 (want_yes HF676 rfl rfl rfl rfl) rfl (by decide) (fun wq HO => (op_field (gwfld28_2 _ _) rfl (HF676.ev rfl))) ?_
            intro a677 HF678; clear HF676
            refine gq_ev HF678 (want_yes HF678 rfl rfl rfl rfl) rfl (by decide) (fun wq HO => (op_load1 gwagg2 rfl (HF678.ev rfl) (blk_at (HO.get 4 rfl) rfl))) ?_
            intro a679 HF680; clear HF678
            refine gq_ev HF680 (want_yes HF680 rfl rfl rfl rfl) rfl (by decide) (fun wq HO => (op_nei rfl (HF680.ev rfl) (HF680.ev rfl))) ?_
            intro a681 HF682; clear HF680
            have HF683 := HF682.lit (b := false) (by simp)
            clear HF682
            refine gq_ev HF683 (want_none rfl) rfl (by decide) (fun wq HO => (op_pick_f rfl (HF683.ev rfl) (HF683.ev rfl))) ?_
            intro a684 HF685; clear HF683
            refine wpQuiet_nil ?_
            intro w686 HO687; clear HO632
            refine gw_nx (hK636 _ _ ?_)
            refine gw_cond HF685 rfl (fun hb688 => ?_) (fun hb688 => ?_)
            skip
            · cases hb688
            refine wp_skip ?_
            refine gw_nx (hK635 _ _ ?_)
            refine gw_seq fun K689 hK689 => ?_
            refine wp_region_lit ?_
            refine gw_ev HF685 (want_none rfl) rfl (by decide) (op_move rfl (HF685.ev rfl)) ?_
            intro a690 HF691; clear HF685
            refine gw_ev HF691 (want_none rfl) rfl (by decide) (op_len Try.underlying26 rfl (HF691.ev rfl)) ?_
            intro a692 HF693; clear HF691
            refine gw_ev HF693 (want_none rfl) rfl (by decide) (op_move rfl (ev_c _ _)) ?_
            intro a694 HF695; clear HF693
            refine wpList_nil ?_
            refine gw_nx (hK689 _ _ ?_)
            refine wp_block ?_
            refine gw_loop (fun m_ a_ w_ => ∃ (p697 : Int) (X696 : List Int), Fr 124 a_ [(116, .int .i64 p697), (31, .int .i64 i), (5, .pointer (some ⟨g7, 0, none⟩)), (6, .pointer (some ⟨g49, 0, none⟩)), (29, .slice A1 script.length c1), (30, .int .i64 (script.length : Int)), (32, .bool true), (33, .pointer (some (ad87.add (i.toNat * 3)))), (34, .agg #[.int .i64 ((script.getD i.toNat z31).f0), .int .i64 ((script.getD i.toNat z31).f1), .slice A93 ((script.getD i.toNat z31).f2.length) c94]), (9, .pointer (some ⟨g101, 0, none⟩)), (35, .int .i64 used), (36, .pointer (some ⟨g101, 2, none⟩)), (37, .slice A93 ((script.getD i.toNat z31).f2.length) c94), (38, .int .i64 (((script.getD i.toNat z31).f2.length) : Int)), (39, .int .i64 ((((script.getD i.toNat z31).f2.length) : Int) + 1)), (40, .int .i64 (used + ((((script.getD i.toNat z31).f2.length) : Int) + 1))), (7, .int .i64 (used + ((((script.getD i.toNat z31).f2.length) : Int) + 1))), (41, .int .i64 (used + ((((script.getD i.toNat z31).f2.length) : Int) + 1))), (42, .bool false), (43, .pointer (some ⟨g101, 0, none⟩)), (44, .int .i64 ((script.getD i.toNat z31).f0)), (46, .bool (decide (((script.getD i.toNat z31).f0) = 1))), (45, .bool false), (63, .bool (decide (((script.getD i.toNat z31).f0) = 2))), (62, .bool false), (89, .pointer (some ⟨g7, 0, none⟩)), (90, .slice A621 xs.length c622), (17, .slice A621 xs.length c622), (91, .slice A621 xs.length c622), (92, .pointer (some ⟨g49, 1, none⟩)), (93, .slice Am xs.length cm), (94, .bool true), (95, .bool false), (96, .bool false), (97, .pointer (some ⟨g7, 0, none⟩)), (98, .bool (decide ((xs.length : Int) = (mn (mx most 1) 2000)))), (99, .pointer (some ⟨g49, 1, none⟩)), (100, .slice Am xs.length cm), (101, .int .i64 (xs.length : Int)), (102, .pointer (some ⟨g49, 0, none⟩)), (103, .int .i64 (mn (mx most 1) 2000)), (104, .bool (decide ((xs.length : Int) = (mn (mx most 1) 2000)))), (105, .bool false), (106, .bool false), (107, .bool false), (108, .pointer (some ⟨g7, 0, none⟩)), (109, .int .i64 G), (110, .pointer (some ⟨g49, 2, none⟩)), (111, .int .i64 G), (112, .bool false), (113, .bool false), (114, .slice A621 xs.length c622), (115, .int .i64 (xs.length : Int))] ∧ Own w w_ [Chunk.row (Kd.int .u8) 5 w.heap.size S623 (.slice A621 xs.length c622) X696, Chunk.blk g101 (.cells #[.int .i64 ((script.getD i.toNat z31).f0), .int .i64 ((script.getD i.toNat z31).f1), .slice A93 ((script.getD i.toNat z31).f2.length) c94] 31 (0, 0)), Chunk.view (Kd.int .u8) Sm Am xs.length cm xs, Chunk.buf w.heap.size g7 Sb (mn (mx most 1) 2000) xs G, Chunk.blk g49 (.cells #[.int .i64 (mn (mx most 1) 2000), .slice Am xs.length cm, .int .i64 G] 28 (0, 0))] ∧ (0 ≤ p697 ∧ p697 ≤ (xs.length : Int)) ∧ (X696.length = xs.length) ∧ m_ = (xs.length - p697.toNat)) ((xs.length - (0 : Int).toNat)) ?_ ?_
            · refine ⟨0, xs, (HF695.pick (t := 116) rfl (HF695.pick (t := 31) rfl (HF695.pick (t := 5) rfl (HF695.pick (t := 6) rfl (HF695.pick (t := 29) rfl (HF695.pick (t := 30) rfl (HF695.pick (t := 32) rfl (HF695.pick (t := 33) rfl (HF695.pick (t := 34) rfl (HF695.pick (t := 9) rfl (HF695.pick (t := 35) rfl (HF695.pick (t := 36) rfl (HF695.pick (t := 37) rfl (HF695.pick (t := 38) rfl (HF695.pick (t := 39) rfl (HF695.pick (t := 40) rfl (HF695.pick (t := 7) rfl (HF695.pick (t := 41) rfl (HF695.pick (t := 42) rfl (HF695.pick (t := 43) rfl (HF695.pick (t := 44) rfl (HF695.pick (t := 46) rfl (HF695.pick (t := 45) rfl (HF695.pick (t := 63) rfl (HF695.pick (t := 62) rfl (HF695.pick (t := 89) rfl (HF695.pick (t := 90) rfl (HF695.pick (t := 17) rfl (HF695.pick (t := 91) rfl (HF695.pick (t := 92) rfl (HF695.pick (t := 93) rfl (HF695.pick (t := 94) rfl (HF695.pick (t := 95) rfl (HF695.pick (t := 96) rfl (HF695.pick (t := 97) rfl (HF695.pick (t := 98) rfl (HF695.pick (t := 99) rfl (HF695.pick (t := 100) rfl (HF695.pick (t := 101) rfl (HF695.pick (t := 102) rfl (HF695.pick (t := 103) rfl (HF695.pick (t := 104) rfl (HF695.pick (t := 105) rfl (HF695.pick (t := 106) rfl (HF695.pick (t := 107) rfl (HF695.pick (t := 108) rfl (HF695.pick (t := 109) rfl (HF695.pick (t := 110) rfl (HF695.pick (t := 111) rfl (HF695.pick (t := 112) rfl (HF695.pick (t := 113) rfl (HF695.pick (t := 114) rfl (HF695.pick (t := 115) rfl HF695.nil))))))))))))))))))))))))))))))))))))))))))))))))))))), HO687.sel [0, 1, 2, 3, 4] (by decide), ?_, ?_, rfl⟩
              · (first | omega | ((try have h1_ := ovN_le (mn (mx most 1) 2000) xs.length ((script.getD i.toNat z31).f2).length); (try have h2_ := hz _ (getD_mem (z := z31) script i.toNat (by omega))); (try have h3_ := putL_len' (mn (mx most 1) 2000) xs (script.getD i.toNat z31).f2 (by omega)); (try have h4_ := ov_add' (mn (mx most 1) 2000) xs (script.getD i.toNat z31).f2); first | omega | ((try simp only [List.length_append, List.length_take, List.length_drop, List.length_nil, List.length_cons, List.length_set] at *); omega)))
              · rfl
            · rintro m701 a702 w703 ⟨p697, X696, HF704, HO705, hp699, hX698, hm706⟩
              refine gw_seq fun K707 hK707 => ?_
              refine wp_region_lit ?_
              refine gw_ev HF704 (want_none rfl) rfl (by decide) (op_lss rfl (HF704.ev rfl) (HF704.ev rfl)) ?_
              intro a708 HF709; clear HF704
              refine wpList_nil ?_
              refine gw_nx (hK707 _ _ ?_)
              refine gw_seq fun K710 hK710 => ?_
              refine gw_cond HF709 rfl (fun hb711 => ?_) (fun hb711 => ?_)
              · skip
                have HF712 := HF709.subst_ (d := 117) (b := true) rfl hb711
                clear HF709
                (try simp only [decide_eq_true_eq, decide_eq_false_iff_not, Bool.not_eq_true', Bool.not_eq_false', Bool.not_eq_true, Bool.not_eq_false, ne_eq, Decidable.not_not, Int.not_lt, Int.not_le, not_true_eq_false, not_false_eq_true, bne_iff_ne, beq_iff_eq, bne_eq_false_iff_eq, beq_eq_false_iff_ne] at hb711)
                refine wp_skip ?_
                refine gw_nx (hK710 _ _ ?_)
                refine gw_seq fun K713 hK713 => ?_
                refine wp_block ?_
                refine gw_seq fun K714 hK714 => ?_
                refine wp_region_lit ?_
                refine gw_ev HF712 (want_none rfl) rfl (by decide) (op_move rfl (HF712.ev rfl)) ?_
                intro a715 HF716; clear HF712
                refine gw_ev HF716 (want_none rfl) rfl (by decide) (op_assign rfl (HF716.ev rfl)) ?_
                intro a717 HF718; clear HF716
                refine wpList_nil ?_
                refine gw_nx (hK714 _ _ ?_)
                refine wp_region_lit ?_
                refine gw_ev HF718 (want_none rfl) rfl (by decide) (op_move rfl (HF718.ev rfl)) ?_
                intro a719 HF720; clear HF718
                refine gw_ev HF720 (want_none rfl) rfl (by decide) (op_move rfl (HF720.ev rfl)) ?_
                intro a721 HF722; clear HF720
                obtain ⟨ad723, hA724⟩ := row_head (HO705.get 0 rfl) p697 (by (first | omega | ((try have h1_ := ovN_le (mn (mx most 1) 2000) xs.length ((script.getD i.toNat z31).f2).length); (try have h2_ := hz _ (getD_mem (z := z31) script i.toNat (by omega))); (try have h3_ := putL_len' (mn (mx most 1) 2000) xs (script.getD i.toNat z31).f2 (by omega)); (try have h4_ := ov_add' (mn (mx most 1) 2000) xs (script.getD i.toNat z31).f2); first | omega | ((try simp only [List.length_append, List.length_take, List.length_drop, List.length_nil, List.length_cons, List.length_set] at *); omega)))) (by (first | omega | ((try have h1_ := ovN_le (mn (mx most 1) 2000) xs.length ((script.getD i.toNat z31).f2).length); (try have h2_ := hz _ (getD_mem (z := z31) script i.toNat (by omega))); (try have h3_ := putL_len' (mn (mx most 1) 2000) xs (script.getD i.toNat z31).f2 (by omega)); (try have h4_ := ov_add' (mn (mx most 1) 2000) xs (script.getD i.toNat z31).f2); first | omega | ((try simp only [List.length_append, List.length_take, List.length_drop, List.length_nil, List.length_cons, List.length_set] at *); omega))))
                subst hA724
                refine gw_ev HF722 (want_none rfl) rfl (by decide) (op_index Try.underlying26 gwsiz5 rfl (HF722.ev rfl) (HF722.ev rfl) rfl (⟨by (first | omega | ((try have h1_ := ovN_le (mn (mx most 1) 2000) xs.length ((script.getD i.toNat z31).f2).length); (try have h2_ := hz _ (getD_mem (z := z31) script i.toNat (by omega))); (try have h3_ := putL_len' (mn (mx most 1) 2000) xs (script.getD i.toNat z31).f2 (by omega)); (try have h4_ := ov_add' (mn (mx most 1) 2000) xs (script.getD i.toNat z31).f2); first | omega | ((try simp only [List.length_append, List.length_take, List.length_drop, List.length_nil, List.length_cons, List.length_set] at *); omega))), by (first | omega | ((try have h1_ := ovN_le (mn (mx most 1) 2000) xs.length ((script.getD i.toNat z31).f2).length); (try have h2_ := hz _ (getD_mem (z := z31) script i.toNat (by omega))); (try have h3_ := putL_len' (mn (mx most 1) 2000) xs (script.getD i.toNat z31).f2 (by omega)); (try have h4_ := ov_add' (mn (mx most 1) 2000) xs (script.getD i.toNat z31).f2); first | omega | ((try simp only [List.length_append, List.length_take, List.length_drop, List.length_nil, List.length_cons, List.length_set] at *); omega)))⟩)) ?_
                intro a726 HF727; clear HF722
                refine gw_row 0 HF727 HO705 rfl (want_none rfl) rfl gwsiz5 (by (first | omega | ((try have h1_ := ovN_le (mn (mx most 1) 2000) xs.length ((script.getD i.toNat z31).f2).length); (try have h2_ := hz _ (getD_mem (z := z31) script i.toNat (by omega))); (try have h3_ := putL_len' (mn (mx most 1) 2000) xs (script.getD i.toNat z31).f2 (by omega)); (try have h4_ := ov_add' (mn (mx most 1) 2000) xs (script.getD i.toNat z31).f2); first | omega | ((try simp only [List.length_append, List.length_take, List.length_drop, List.length_nil, List.length_cons, List.length_set] at *); omega)))) (by (first | omega | ((try have h1_ := ovN_le (mn (mx most 1) 2000) xs.length ((script.getD i.toNat z31).f2).length); (try have h2_ := hz _ (getD_mem (z := z31) script i.toNat (by omega))); (try have h3_ := putL_len' (mn (mx most 1) 2000) xs (script.getD i.toNat z31).f2 (by omega)); (try have h4_ := ov_add' (mn (mx most 1) 2000) xs (script.getD i.toNat z31).f2); first | omega | ((try simp only [List.length_append, List.length_take, List.length_drop, List.length_nil, List.length_cons, List.length_set] at *); omega)))) rfl (HF727.ev rfl) (ev_c _ _) ?_
                intro a728 w730 HF729 HO731; clear HF727 HO705
                have HO732 : Own w w730 [Chunk.row (Kd.int .u8) 5 w.heap.size S623 (.slice (some ad723) xs.length c622) (X696.set p697.toNat 99), Chunk.blk g101 (.cells #[.int .i64 ((script.getD i.toNat z31).f0), .int .i64 ((script.getD i.toNat z31).f1), .slice A93 ((script.getD i.toNat z31).f2.length) c94] 31 (0, 0)), Chunk.view (Kd.int .u8) Sm Am xs.length cm xs, Chunk.buf w.heap.size g7 Sb (mn (mx most 1) 2000) xs G, Chunk.blk g49 (.cells #[.int .i64 (mn (mx most 1) 2000), .slice Am xs.length cm, .int .i64 G] 28 (0, 0))] := HO731
                clear HO731
                refine wpList_nil ?_
                refine gw_blk ?_
                refine gw_nx (hK713 _ _ ?_)
                refine wp_region_lit ?_
                refine gw_ev HF729 (want_none rfl) rfl (by decide) (op_add rfl (HF729.ev rfl) (ev_c _ _) (by (first | omega | ((try have h1_ := ovN_le (mn (mx most 1) 2000) xs.length ((script.getD i.toNat z31).f2).length); (try have h2_ := hz _ (getD_mem (z := z31) script i.toNat (by omega))); (try have h3_ := putL_len' (mn (mx most 1) 2000) xs (script.getD i.toNat z31).f2 (by omega)); (try have h4_ := ov_add' (mn (mx most 1) 2000) xs (script.getD i.toNat z31).f2); first | omega | ((try simp only [List.length_append, List.length_take, List.length_drop, List.length_nil, List.length_cons, List.length_set] at *); omega))))) ?_
                intro a733 HF734; clear HF729
                refine gw_ev HF734 (want_none rfl) rfl (by decide) (op_move rfl (HF734.ev rfl)) ?_
                intro a735 HF736; clear HF734
                refine wpList_nil ?_
                refine gw_nx ⟨_, ?_, p697 + 1, (X696.set p697.toNat 99), (HF736.pick (t := 116) rfl (HF736.pick (t := 31) rfl (HF736.pick (t := 5) rfl (HF736.pick (t := 6) rfl (HF736.pick (t := 29) rfl (HF736.pick (t := 30) rfl (HF736.pick (t := 32) rfl (HF736.pick (t := 33) rfl (HF736.pick (t := 34) rfl (HF736.pick (t := 9) rfl (HF736.pick (t := 35) rfl (HF736.pick (t := 36) rfl (HF736.pick (t := 37) rfl (HF736.pick (t := 38) rfl (HF736.pick (t := 39) rfl (HF736.pick (t := 40) rfl (HF736.pick (t := 7) rfl (HF736.pick (t := 41) rfl (HF736.pick (t := 42) rfl (HF736.pick (t := 43) rfl (HF736.pick (t := 44) rfl (HF736.pick (t := 46) rfl (HF736.pick (t := 45) rfl (HF736.pick (t := 63) rfl (HF736.pick (t := 62) rfl (HF736.pick (t := 89) rfl (HF736.pick (t := 90) rfl (HF736.pick (t := 17) rfl (HF736.pick (t := 91) rfl (HF736.pick (t := 92) rfl (HF736.pick (t := 93) rfl (HF736.pick (t := 94) rfl (HF736.pick (t := 95) rfl (HF736.pick (t := 96) rfl (HF736.pick (t := 97) rfl (HF736.pick (t := 98) rfl (HF736.pick (t := 99) rfl (HF736.pick (t := 100) rfl (HF736.pick (t := 101) rfl (HF736.pick (t := 102) rfl (HF736.pick (t := 103) rfl (HF736.pick (t := 104) rfl (HF736.pick (t := 105) rfl (HF736.pick (t := 106) rfl (HF736.pick (t := 107) rfl (HF736.pick (t := 108) rfl (HF736.pick (t := 109) rfl (HF736.pick (t := 110) rfl (HF736.pick (t := 111) rfl (HF736.pick (t := 112) rfl (HF736.pick (t := 113) rfl (HF736.pick (t := 114) rfl (HF736.pick (t := 115) rfl HF736.nil))))))))))))))))))))))))))))))))))))))))))))))))))))), HO732.sel [0, 1, 2, 3, 4] (by decide), ?_, ?_, rfl⟩
                · rw [hm706]; (first | omega | ((try have h1_ := ovN_le (mn (mx most 1) 2000) xs.length ((script.getD i.toNat z31).f2).length); (try have h2_ := hz _ (getD_mem (z := z31) script i.toNat (by omega))); (try have h3_ := putL_len' (mn (mx most 1) 2000) xs (script.getD i.toNat z31).f2 (by omega)); (try have h4_ := ov_add' (mn (mx most 1) 2000) xs (script.getD i.toNat z31).f2); first | omega | ((try simp only [List.length_append, List.length_take, List.length_drop, List.length_nil, List.length_cons, List.length_set] at *); omega)))
                · (first | omega | ((try have h1_ := ovN_le (mn (mx most 1) 2000) xs.length ((script.getD i.toNat z31).f2).length); (try have h2_ := hz _ (getD_mem (z := z31) script i.toNat (by omega))); (try have h3_ := putL_len' (mn (mx most 1) 2000) xs (script.getD i.toNat z31).f2 (by omega)); (try have h4_ := ov_add' (mn (mx most 1) 2000) xs (script.getD i.toNat z31).f2); first | omega | ((try simp only [List.length_append, List.length_take, List.length_drop, List.length_nil, List.length_cons, List.length_set] at *); omega)))
                · rw [List.length_set]; exact hX698
              · skip
                have HF737 := HF709.subst_ (d := 117) (b := false) rfl hb711
                clear HF709
                (try simp only [decide_eq_true_eq, decide_eq_false_iff_not, Bool.not_eq_true', Bool.not_eq_false', Bool.not_eq_true, Bool.not_eq_false, ne_eq, Decidable.not_not, Int.not_lt, Int.not_le, not_true_eq_false, not_false_eq_true, bne_iff_ne, beq_iff_eq, bne_eq_false_iff_eq, beq_eq_false_iff_ne] at hb711)
                refine wp_exit ?_
                refine gw_thx ?_
                refine gw_thx ?_
                refine gw_in ?_
                refine gw_blk ?_
                refine gw_nx (hK85 _ _ ?_)
                refine wp_region_lit ?_
                refine gw_ev HF737 (want_none rfl) rfl (by decide) (op_add rfl (HF737.ev rfl) (ev_c _ _) (by (first | omega | ((try have h1_ := ovN_le (mn (mx most 1) 2000) xs.length ((script.getD i.toNat z31).f2).length); (try have h2_ := hz _ (getD_mem (z := z31) script i.toNat (by omega))); (try have h3_ := putL_len' (mn (mx most 1) 2000) xs (script.getD i.toNat z31).f2 (by omega)); (try have h4_ := ov_add' (mn (mx most 1) 2000) xs (script.getD i.toNat z31).f2); first | omega | ((try simp only [List.length_append, List.length_take, List.length_drop, List.length_nil, List.length_cons, List.length_set] at *); omega))))) ?_
                intro a738 HF739; clear HF737
                refine gw_ev HF739 (want_none rfl) rfl (by decide) (op_move rfl (HF739.ev rfl)) ?_
                intro a740 HF741; clear HF739
                refine wpList_nil ?_
                refine gw_nx ⟨_, ?_, i + 1, used + ((((script.getD i.toNat z31).f2.length) : Int) + 1), G, xs, Sb, Sm, Am, cm, (HF741.pick (t := 31) rfl (HF741.pick (t := 7) rfl (HF741.pick (t := 5) rfl (HF741.pick (t := 6) rfl (HF741.pick (t := 29) rfl (HF741.pick (t := 30) rfl HF741.nil)))))), HO705.sel [2, 3, 4] (by decide), ?_, ?_, ?_, rfl⟩
                · rw [hm78]; (first | omega | ((try have h1_ := ovN_le (mn (mx most 1) 2000) xs.length ((script.getD i.toNat z31).f2).length); (try have h2_ := hz _ (getD_mem (z := z31) script i.toNat (by omega))); (try have h3_ := putL_len' (mn (mx most 1) 2000) xs (script.getD i.toNat z31).f2 (by omega)); (try have h4_ := ov_add' (mn (mx most 1) 2000) xs (script.getD i.toNat z31).f2); first | omega | ((try simp only [List.length_append, List.length_take, List.length_drop, List.length_nil, List.length_cons, List.length_set] at *); omega)))
                · (first | omega | ((try have h1_ := ovN_le (mn (mx most 1) 2000) xs.length ((script.getD i.toNat z31).f2).length); (try have h2_ := hz _ (getD_mem (z := z31) script i.toNat (by omega))); (try have h3_ := putL_len' (mn (mx most 1) 2000) xs (script.getD i.toNat z31).f2 (by omega)); (try have h4_ := ov_add' (mn (mx most 1) 2000) xs (script.getD i.toNat z31).f2); first | omega | ((try simp only [List.length_append, List.length_take, List.length_drop, List.length_nil, List.length_cons, List.length_set] at *); omega)))
                · (first | omega | ((try have h1_ := ovN_le (mn (mx most 1) 2000) xs.length ((script.getD i.toNat z31).f2).length); (try have h2_ := hz _ (getD_mem (z := z31) script i.toNat (by omega))); (try have h3_ := putL_len' (mn (mx most 1) 2000) xs (script.getD i.toNat z31).f2 (by omega)); (try have h4_ := ov_add' (mn (mx most 1) 2000) xs (script.getD i.toNat z31).f2); first | omega | ((try simp only [List.length_append, List.length_take, List.length_drop, List.length_nil, List.length_cons, List.length_set] at *); omega)))
                · (first | omega | ((try have h1_ := ovN_le (mn (mx most 1) 2000) xs.length ((script.getD i.toNat z31).f2).length); (try have h2_ := hz _ (getD_mem (z := z31) script i.toNat (by omega))); (try have h3_ := putL_len' (mn (mx most 1) 2000) xs (script.getD i.toNat z31).f2 (by omega)); (try have h4_ := ov_add' (mn (mx most 1) 2000) xs (script.getD i.toNat z31).f2); first | omega | ((try simp only [List.length_append, List.length_take, List.length_drop, List.length_nil, List.length_cons, List.length_set] at *); omega)))
    · skip
      have HF742 := HF81.subst_ (d := 32) (b := false) rfl hb83
      clear HF81
      (try simp only [decide_eq_true_eq, decide_eq_false_iff_not, Bool.not_eq_true', Bool.not_eq_false', Bool.not_eq_true, Bool.not_eq_false, ne_eq, Decidable.not_not, Int.not_lt, Int.not_le, not_true_eq_false, not_false_eq_true, bne_iff_ne, beq_iff_eq, bne_eq_false_iff_eq, beq_eq_false_iff_ne] at hb83)
      refine wp_exit ?_
      refine gw_thx ?_
      refine gw_thx ?_
      refine gw_in ?_
      refine gw_nx (hK63 _ _ ?_)
      refine gw_seq fun K743 hK743 => ?_
      refine wp_region_lit ?_
      refine gw_ev HF742 (want_none rfl) rfl (by decide) (op_assign rfl (ev_c _ _)) ?_
      intro a744 HF745; clear HF742
      refine wpList_nil ?_
      refine gw_nx (hK743 _ _ ?_)
      refine wp_ret ?_
      refine gw_ret1 HF745 rfl rfl ?_
      exact ⟨rfl, HO77.below⟩
end GBufPlays_
open Classical in
noncomputable def colloquylaw11_BufPlays.f (a0 : Int) (l1 : List S31) : Option Bool := if (l1.length ≤ 9223372036854775807) ∧ (∀ x ∈ l1, x.f2.length ≤ 140737488351232) then some true else none
theorem colloquylaw11_BufPlays.calls (a0 : Int) (A1 : Option Addr) (c1 : Nat) (l1 : List S31) (r : Bool) (w : World) (hr1 : Kd.C k31 w A1 l1.length l1) (hc1 : l1.length ≤ c1) (h : colloquylaw11_BufPlays.f a0 l1 = some r) :
    Calls Try.prog 3 #[(.int .i64 a0), (.slice A1 l1.length c1)] w fun e w' => e = .returned (.bool r) ∧ Below w.heap.size w w' := by
  unfold colloquylaw11_BufPlays.f at h
  split at h
  · cases h; rename_i hh; exact GBufPlays_.BufPlays_calls a0 A1 c1 l1 w hr1 hc1 hh.1 hh.2
  · cases h
end Go.Proofs.Ytbnoedefkbnpjaa.PA
