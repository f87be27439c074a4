/- VfsKeeps. Printed by a program of this session; Lean checks it. -/
import Derived.Test.YtkdahjnmldeklaaGVfsA
namespace Go.Proofs.Ytkdahjnmldeklaa.PA
open Go.RowKit Go.Proofs.YtkdahjnmldeklaaW.PrintWords Go.Proofs.YtkdahjnmldeklaaW.PrintLast Go.Proofs.YtkdahjnmldeklaaW.PrintMore
set_option linter.unusedVariables false
set_option linter.unusedSimpArgs false
namespace GVfsK_
theorem gwagg28 : ∀ w, (isAgg 28).run Try.prog w = .ok false w := fun _ => by kernel_rfl
theorem gwinfo5 : (Try.prog.info? 5).map (fun i => (i.zero, i.size, i.bytes)) = some (some (.int .u8 0), 1, 1) := by kernel_rfl
theorem gwsiz28 : ∀ w, (sizeOf 28).run Try.prog w = .ok 1 w := fun _ => by kernel_rfl
theorem gwsiz5 : ∀ w, (sizeOf 5).run Try.prog w = .ok 1 w := fun _ => by kernel_rfl
set_option maxHeartbeats 4000000 in
set_option maxRecDepth 100000 in
theorem VfsKeeps_walk (A1 : Option Addr) (c1 : Nat) (parts : List (List Int)) (synced keep fail : Int) (w : World) (hr1 : Kd.C (Kd.slice 5 (Kd.int .u8)) w A1 parts.length parts) (hc1 : parts.length ≤ c1) (hl : parts.length ≤ 9223372036854775807) :
    Calls Try.prog 3 #[.slice A1 parts.length c1, .int .i64 synced, .int .i64 keep, .int .i64 fail] w fun e w' => e = .returned (.bool true) ∧ Below w.heap.size w w' := by
  refine gw_start (N := 115) (vs := [.slice A1 parts.length c1, .int .i64 synced, .int .i64 keep, .int .i64 fail]) Try.func3 rfl rfl (by simp) fun a HF HO => ?_
  replace HO : Own w w [] := HO
  refine gw_seq fun K1 hK1 => ?_
  refine wp_region_lit ?_
  refine gw_ev HF (want_none rfl) rfl (by decide) (op_assign rfl (ev_c _ _)) ?_
  intro a2 HF3; clear HF
  refine wpList_nil ?_
  refine gw_nx (hK1 _ _ ?_)
  refine gw_seq fun K4 hK4 => ?_
  refine wp_region_lit ?_
  have HO14 : Own w _ [(Chunk.all [])] := Own.bundle (A := []) (L := []) (HO.sel [] (by decide))
  refine gw_call HF3 (want_none rfl) rfl (by decide) (op_callL Try.func11 (by kernel_rfl) rfl rfl (ar_cons (ev_c _ _) ar_nil)) (new_own w _ (Chunk.all []) 100000 (by exact HO14)) ?_
  rintro e8 w9 ⟨gd5, S6, rfl, hb10⟩
  refine ⟨_, rfl, fun a11 HF12 => ?_⟩
  have HO13 : Own w w9 [Chunk.disk w.heap.size gd5 S6 (newD 100000)] := Own.unbundle (A := []) (L := [Chunk.disk w.heap.size gd5 S6 (newD 100000)]) (hb10.sel [0, 1] (by decide))
  clear HO14
  clear HF3 HO hb10
  have HO16 : Own w w9 [Chunk.disk w.heap.size gd5 S6 (newD 100000)] := HO13
  clear HO13
  have hwf7 : wfD (newD 100000) := wf_new (by decide)
  refine gw_ev HF12 (want_none rfl) rfl (by decide) (op_assign rfl (HF12.ev rfl)) ?_
  intro a17 HF18; clear HF12
  refine wpList_nil ?_
  refine gw_nx (hK4 _ _ ?_)
  refine gw_seq fun K19 hK19 => ?_
  refine gw_seq fun K20 hK20 => ?_
  refine wp_region_lit ?_
  refine gw_ev HF18 (want_none rfl) rfl (by decide) (op_move rfl (HF18.ev rfl)) ?_
  intro a21 HF22; clear HF18
  refine gw_ev HF22 (want_none rfl) rfl (by decide) (op_eqp_nil Try.underlying23 rfl (HF22.ev rfl)) ?_
  intro a23 HF24; clear HF22
  refine gw_ev HF24 (want_none rfl) rfl (by decide) (op_move rfl (HF24.ev rfl)) ?_
  intro a25 HF26; clear HF24
  refine gw_call HF26 (want_yes HF26 rfl rfl rfl rfl) rfl (by decide) (op_callL Try.func12 (by kernel_rfl) rfl rfl ar_nil) (alive_calls _) ?_
  rintro e27 w28 ⟨rfl, hb29⟩
  refine ⟨_, rfl, fun a30 HF31 => ?_⟩
  have HO32 := HO16.after hb29
  clear HF26 HO16 hb29
  refine gw_ev HF31 (want_yes HF31 rfl rfl rfl rfl) rfl (by decide) (op_not rfl (HF31.ev rfl)) ?_
  intro a34 HF35; clear HF31
  refine gw_ev HF35 (want_none rfl) rfl (by decide) (op_pick_f rfl (HF35.ev rfl) (HF35.ev rfl)) ?_
  intro a36 HF37; clear HF35
  refine gw_ev HF37 (want_none rfl) rfl (by decide) (op_move rfl (HF37.ev rfl)) ?_
  intro a38 HF39; clear HF37
  refine gw_ev HF39 (want_yes HF39 rfl rfl rfl rfl) rfl (by decide) (op_move rfl (HF39.ev rfl)) ?_
  intro a40 HF41; clear HF39
  have HO51 : Own w _ [(Chunk.all []), Chunk.disk w.heap.size gd5 S6 (newD 100000)] := Own.bundle (A := []) (L := [Chunk.disk w.heap.size gd5 S6 (newD 100000)]) (HO32.sel [0] (by decide))
  refine gw_call HF41 (want_yes HF41 rfl rfl rfl rfl) rfl (by decide) (op_callL Try.func13 (by kernel_rfl) rfl rfl (ar_cons (HF41.ev rfl) (ar_cons (ev_c _ _) ar_nil))) ((by have h_ := create_calls w _ (Chunk.all []) gd5 S6 (newD 100000) (⟨#[102]⟩ : ByteArray) hwf7 (by decide) (by decide) (by exact HO51); rw [show (createD (⟨#[102]⟩ : ByteArray) (newD 100000)) = ((⟨[⟨nmF, [], 0⟩], 100000, 0, 0, false⟩ : PD), 0) from (by kernel_rfl)] at h_; (try dsimp only at h_); exact h_)) ?_
  rintro e45 w46 ⟨rfl, S42, hb47⟩
  refine ⟨_, rfl, fun a48 HF49 => ?_⟩
  have HO50 : Own w w46 [Chunk.disk w.heap.size gd5 S42 (⟨[⟨nmF, [], 0⟩], 100000, 0, 0, false⟩ : PD)] := Own.unbundle (A := []) (L := [Chunk.disk w.heap.size gd5 S42 (⟨[⟨nmF, [], 0⟩], 100000, 0, 0, false⟩ : PD)]) (hb47.sel [0, 1] (by decide))
  clear HO51
  clear HF41 HO32 hb47
  have HO53 : Own w w46 [Chunk.disk w.heap.size gd5 S42 (⟨[⟨nmF, [], 0⟩], 100000, 0, 0, false⟩ : PD)] := HO50
  clear HO50
  refine gw_ev HF49 (want_yes HF49 rfl rfl rfl rfl) rfl (by decide) (op_nei rfl (HF49.ev rfl) (ev_c _ _)) ?_
  intro a54 HF55; clear HF49
  have HF56 := HF55.lit (b := false) (by decide)
  clear HF55
  refine gw_ev HF56 (want_none rfl) rfl (by decide) (op_pick_f rfl (HF56.ev rfl) (HF56.ev rfl)) ?_
  intro a57 HF58; clear HF56
  refine wpList_nil ?_
  refine gw_nx (hK20 _ _ ?_)
  refine gw_cond HF58 rfl (fun hb59 => ?_) (fun hb59 => ?_)
  skip
  · cases hb59
  refine wp_skip ?_
  refine gw_nx (hK19 _ _ ?_)
  refine gw_seq fun K60 hK60 => ?_
  refine wp_region_lit ?_
  refine gw_lit (enc := Value.int .u8) (fun _ => rfl) (xs := ([] : List Int)) (e := 5) HF58 HO53 (want_none rfl) rfl (by decide) (op_bslice (by kernel_rfl) rfl pt_nil) (by simp) ?_
  intro A61 S62 a63 w64 HF65 HO66; clear HF58 HO53
  have HO67 : Own w w64 [Chunk.row (Kd.int .u8) 5 w.heap.size S62 (.slice A61 ((([] : List Int)).length) ((([] : List Int)).length)) ([] : List Int), Chunk.disk w.heap.size gd5 S42 (⟨[⟨nmF, [], 0⟩], 100000, 0, 0, false⟩ : PD)] := HO66
  clear HO66
  refine gw_ev HF65 (want_none rfl) rfl (by decide) (op_assign rfl (HF65.ev rfl)) ?_
  intro a68 HF69; clear HF65
  refine wpList_nil ?_
  refine gw_nx (hK60 _ _ ?_)
  refine gw_seq fun K70 hK70 => ?_
  refine wp_region_lit ?_
  refine gw_ev HF69 (want_none rfl) rfl (by decide) (op_assign rfl (ev_c _ _)) ?_
  intro a71 HF72; clear HF69
  refine wpList_nil ?_
  refine gw_nx (hK70 _ _ ?_)
  refine gw_seq fun K73 hK73 => ?_
  refine gw_seq fun K74 hK74 => ?_
  refine wp_region_lit ?_
  refine gw_ev HF72 (want_none rfl) rfl (by decide) (op_move rfl (HF72.ev rfl)) ?_
  intro a75 HF76; clear HF72
  refine gw_ev HF76 (want_none rfl) rfl (by decide) (op_len Try.underlying22 rfl (HF76.ev rfl)) ?_
  intro a77 HF78; clear HF76
  refine gw_ev HF78 (want_none rfl) rfl (by decide) (op_move rfl (ev_c _ _)) ?_
  intro a79 HF80; clear HF78
  refine wpList_nil ?_
  refine gw_nx (hK74 _ _ ?_)
  refine wp_block ?_
  refine gw_loop (fun m_ a_ w_ => ∃ (i : Int) (d : PD) (Sd : Nat → Prop) (all : List Int) (Aa : Option Addr) (ca : Nat) (Sa : Nat → Prop) (safe : Int), Fr 115 a_ [(31, .int .i64 i), (10, .slice Aa all.length ca), (11, .int .i64 safe), (1, .int .i64 synced), (2, .int .i64 keep), (3, .int .i64 fail), (8, .bool false), (9, .pointer (some ⟨gd5, 0, none⟩)), (29, .slice A1 parts.length c1), (30, .int .i64 (parts.length : Int))] ∧ Own w w_ [Chunk.disk w.heap.size gd5 Sd d, Chunk.row (Kd.int .u8) 5 w.heap.size Sa (.slice Aa all.length ca) all] ∧ (0 ≤ i ∧ i ≤ parts.length) ∧ (JK nmF 100000 d all safe) ∧ m_ = (parts.length - i.toNat)) ((parts.length - (0 : Int).toNat)) ?_ ?_
  · refine ⟨0, (⟨[⟨nmF, [], 0⟩], 100000, 0, 0, false⟩ : PD), S42, [], A61, _, _, 0, (HF80.pick (t := 31) rfl (HF80.pick (t := 10) rfl (HF80.pick (t := 11) rfl (HF80.pick (t := 1) rfl (HF80.pick (t := 2) rfl (HF80.pick (t := 3) rfl (HF80.pick (t := 8) rfl (HF80.pick (t := 9) rfl (HF80.pick (t := 29) rfl (HF80.pick (t := 30) rfl HF80.nil)))))))))), HO67.sel [1, 0] (by decide), ?_, ?_, rfl⟩
    · omega
    · exact ⟨rfl, rfl, by decide, by decide, rfl, ⟨by decide, by decide, by decide⟩, f0⟩
  · rintro m82 a83 w84 ⟨i, d, Sd, all, Aa, ca, Sa, safe, HF85, HO86, hi, hJ, hm87⟩
    refine gw_seq fun K88 hK88 => ?_
    refine wp_region_lit ?_
    refine gw_ev HF85 (want_none rfl) rfl (by decide) (op_lss rfl (HF85.ev rfl) (HF85.ev rfl)) ?_
    intro a89 HF90; clear HF85
    refine wpList_nil ?_
    refine gw_nx (hK88 _ _ ?_)
    refine gw_seq fun K91 hK91 => ?_
    refine gw_cond HF90 rfl (fun hb92 => ?_) (fun hb92 => ?_)
    · skip
      have HF93 := HF90.subst_ (d := 32) (b := true) rfl hb92
      clear HF90
      (try simp only [Bool.and_eq_true, Bool.or_eq_true, Bool.and_eq_false_iff, Bool.or_eq_false_iff, Bool.not_and, Bool.not_or, Bool.not_not, decide_eq_true_eq, decide_eq_false_iff_not, Bool.not_eq_true', Bool.not_eq_false', Bool.not_eq_true, Bool.not_eq_false, ne_eq, Decidable.not_not, Int.not_lt, Int.not_le, not_true_eq_false, not_false_eq_true, bne_iff_ne, beq_iff_eq, bne_eq_false_iff_eq, beq_eq_false_iff_ne] at hb92)
      refine wp_skip ?_
      refine gw_nx (hK91 _ _ ?_)
      refine gw_seq fun K94 hK94 => ?_
      refine wp_block ?_
      refine gw_seq fun K95 hK95 => ?_
      refine wp_region_lit ?_
      refine gw_ev HF93 (want_none rfl) rfl (by decide) (op_move rfl (HF93.ev rfl)) ?_
      intro a96 HF97; clear HF93
      obtain ⟨ad98, cs101, hA99, hl102, hK103, hc100⟩ := Kd.C_get hr1 ([] : List Int) i (by omega) (by omega)
      obtain ⟨A104, c105, rfl, hl106, hC107⟩ := id hK103
      clear hl102
      refine gw_ev HF97 (want_none rfl) rfl (by decide) (op_index Try.underlying22 gwsiz28 rfl (HF97.ev rfl) (HF97.ev rfl) hA99 (⟨by omega, by omega⟩)) ?_
      intro a108 HF109; clear HF97
      refine gw_ev HF109 (want_none rfl) rfl (by decide) (op_load1 gwagg28 rfl (HF109.ev rfl) (HO86.cell0 (at0 hc100))) ?_
      intro a110 HF111; clear HF109
      refine gw_ev HF111 (want_none rfl) rfl (by decide) (op_assign rfl (HF111.ev rfl)) ?_
      intro a112 HF113; clear HF111
      refine gw_ev HF113 (want_none rfl) rfl (by decide) (op_assign rfl (HF113.ev rfl)) ?_
      intro a114 HF115; clear HF113
      refine wpList_nil ?_
      refine gw_nx (hK95 _ _ ?_)
      refine gw_seq fun K116 hK116 => ?_
      refine gw_seq fun K117 hK117 => ?_
      refine wp_region_lit ?_
      refine gw_ev HF115 (want_none rfl) rfl (by decide) (op_move rfl (HF115.ev rfl)) ?_
      intro a118 HF119; clear HF115
      refine gw_ev HF119 (want_none rfl) rfl (by decide) (op_geq rfl (HF119.ev rfl) (ev_c _ _)) ?_
      intro a120 HF121; clear HF119
      refine gw_ev HF121 (want_none rfl) rfl (by decide) (op_move rfl (HF121.ev rfl)) ?_
      intro a122 HF123; clear HF121
      refine gw_evG HF123 rfl rfl rfl rfl (on_f _) rfl (by decide) (fun h_ => (op_move rfl (HF123.ev rfl))) ?_
      intro a124 HF125; clear HF123
      refine gw_evG HF125 rfl rfl rfl rfl (on_f _) rfl (by decide) (fun h_ => (op_len Try.underlying28 rfl (ev_gv (HF125.ev rfl) h_))) ?_
      intro a126 HF127; clear HF125
      refine gw_evG HF127 rfl rfl rfl rfl (on_f _) rfl (by decide) (fun h_ => (op_gtr rfl (ev_gv (HF127.ev rfl) h_) (ev_c _ _))) ?_
      intro a128 HF129; clear HF127
      refine gw_ev HF129 (want_none rfl) rfl (by decide) (op_pick_or rfl (HF129.ev rfl) (ev_c _ _) (fun hp_ => (ev_gv (HF129.ev rfl) (not_t hp_)))) ?_
      intro a130 HF131; clear HF129
      refine wpList_nil ?_
      refine gw_nx (hK117 _ _ ?_)
      refine gw_cond HF131 rfl (fun hb132 => ?_) (fun hb132 => ?_)
      · skip
        have HF133 := HF131.subst_ (d := 42) (b := true) rfl hb132
        clear HF131
        (try simp only [Bool.and_eq_true, Bool.or_eq_true, Bool.and_eq_false_iff, Bool.or_eq_false_iff, Bool.not_and, Bool.not_or, Bool.not_not, decide_eq_true_eq, decide_eq_false_iff_not, Bool.not_eq_true', Bool.not_eq_false', Bool.not_eq_true, Bool.not_eq_false, ne_eq, Decidable.not_not, Int.not_lt, Int.not_le, not_true_eq_false, not_false_eq_true, bne_iff_ne, beq_iff_eq, bne_eq_false_iff_eq, beq_eq_false_iff_ne] at hb132)
        refine wp_exit ?_
        refine gw_thx ?_
        refine gw_in ?_
        refine gw_nx (hK94 _ _ ?_)
        refine wp_region_lit ?_
        refine gw_ev HF133 (want_none rfl) rfl (by decide) (op_add rfl (HF133.ev rfl) (ev_c _ _) (by omega)) ?_
        intro a134 HF135; clear HF133
        refine gw_ev HF135 (want_none rfl) rfl (by decide) (op_move rfl (HF135.ev rfl)) ?_
        intro a136 HF137; clear HF135
        refine wpList_nil ?_
        refine gw_nx ⟨_, ?_, i + 1, d, Sd, all, Aa, ca, _, safe, (HF137.pick (t := 31) rfl (HF137.pick (t := 10) rfl (HF137.pick (t := 11) rfl (HF137.pick (t := 1) rfl (HF137.pick (t := 2) rfl (HF137.pick (t := 3) rfl (HF137.pick (t := 8) rfl (HF137.pick (t := 9) rfl (HF137.pick (t := 29) rfl (HF137.pick (t := 30) rfl HF137.nil)))))))))), HO86.sel [0, 1] (by decide), ?_, ?_, rfl⟩
        · rw [hm87]; omega
        · omega
        · exact hJ
      · skip
        have HF138 := HF131.subst_ (d := 42) (b := false) rfl hb132
        clear HF131
        (try simp only [Bool.and_eq_true, Bool.or_eq_true, Bool.and_eq_false_iff, Bool.or_eq_false_iff, Bool.not_and, Bool.not_or, Bool.not_not, decide_eq_true_eq, decide_eq_false_iff_not, Bool.not_eq_true', Bool.not_eq_false', Bool.not_eq_true, Bool.not_eq_false, ne_eq, Decidable.not_not, Int.not_lt, Int.not_le, not_true_eq_false, not_false_eq_true, bne_iff_ne, beq_iff_eq, bne_eq_false_iff_eq, beq_eq_false_iff_ne] at hb132)
        refine wp_skip ?_
        refine gw_nx (hK116 _ _ ?_)
        refine gw_seq fun K139 hK139 => ?_
        refine gw_seq fun K140 hK140 => ?_
        refine wp_region_lit ?_
        refine gw_ev HF138 (want_none rfl) rfl (by decide) (op_move rfl (HF138.ev rfl)) ?_
        intro a141 HF142; clear HF138
        refine gw_ev HF142 (want_none rfl) rfl (by decide) (op_move rfl (HF142.ev rfl)) ?_
        intro a143 HF144; clear HF142
        refine gw_ev HF144 (want_none rfl) rfl (by decide) (op_and rfl (HF144.ev rfl) (ev_c _ _)) ?_
        intro a145 HF146; clear HF144
        refine gw_ev HF146 (want_none rfl) rfl (by decide) (op_eqi rfl (HF146.ev rfl) (HF146.ev rfl)) ?_
        intro a147 HF148; clear HF146
        refine wpList_nil ?_
        refine gw_nx (hK140 _ _ ?_)
        refine gw_cond HF148 rfl (fun hb149 => ?_) (fun hb149 => ?_)
        · skip
          have HF150 := HF148.subst_ (d := 46) (b := true) rfl hb149
          clear HF148
          (try simp only [Bool.and_eq_true, Bool.or_eq_true, Bool.and_eq_false_iff, Bool.or_eq_false_iff, Bool.not_and, Bool.not_or, Bool.not_not, decide_eq_true_eq, decide_eq_false_iff_not, Bool.not_eq_true', Bool.not_eq_false', Bool.not_eq_true, Bool.not_eq_false, ne_eq, Decidable.not_not, Int.not_lt, Int.not_le, not_true_eq_false, not_false_eq_true, bne_iff_ne, beq_iff_eq, bne_eq_false_iff_eq, beq_eq_false_iff_ne] at hb149)
          refine wp_region_lit ?_
          refine gw_ev HF150 (want_none rfl) rfl (by decide) (op_move rfl (HF150.ev rfl)) ?_
          intro a151 HF152; clear HF150
          refine gw_ev HF152 (want_none rfl) rfl (by decide) (op_move rfl (HF152.ev rfl)) ?_
          intro a153 HF154; clear HF152
          refine gw_ev HF154 (want_none rfl) rfl (by decide) (op_and rfl (HF154.ev rfl) (ev_c _ _)) ?_
          intro a155 HF156; clear HF154
          have HO166 : Own w _ [(Chunk.all [Chunk.row (Kd.int .u8) 5 w.heap.size Sa (.slice Aa all.length ca) all]), Chunk.disk w.heap.size gd5 Sd d] := Own.bundle (A := [Chunk.row (Kd.int .u8) 5 w.heap.size Sa (.slice Aa all.length ca) all]) (L := [Chunk.disk w.heap.size gd5 Sd d]) (HO86.sel [1, 0] (by decide))
          refine gw_call HF156 (want_none rfl) rfl (by decide) (op_callL Try.func14 (by kernel_rfl) rfl rfl (ar_cons (HF156.ev rfl) (ar_cons (HF156.ev rfl) ar_nil))) (fail_calls w _ (Chunk.all [Chunk.row (Kd.int .u8) 5 w.heap.size Sa (.slice Aa all.length ca) all]) gd5 Sd d (bits .and .i64 fail 7) (by exact HO166)) ?_
          rintro e160 w161 ⟨rfl, S157, hb162⟩
          refine ⟨_, rfl, fun a163 HF164 => ?_⟩
          have HO165 : Own w w161 [Chunk.row (Kd.int .u8) 5 w.heap.size Sa (.slice Aa all.length ca) all, Chunk.disk w.heap.size gd5 S157 ({ d with fuse := mx (bits .and .i64 fail 7) 0 } : PD)] := Own.unbundle (A := [Chunk.row (Kd.int .u8) 5 w.heap.size Sa (.slice Aa all.length ca) all]) (L := [Chunk.disk w.heap.size gd5 S157 ({ d with fuse := mx (bits .and .i64 fail 7) 0 } : PD)]) (hb162.sel [0, 1] (by decide))
          clear HO166
          clear HF156 HO86 hb162
          have HO168 : Own w w161 [Chunk.row (Kd.int .u8) 5 w.heap.size Sa (.slice Aa all.length ca) all, Chunk.disk w.heap.size gd5 S157 ({ d with fuse := mx (bits .and .i64 fail 7) 0 } : PD)] := HO165
          clear HO165
          have hJ159 := hJ.fuse_ (n := bits .and .i64 fail 7) (by have h_ : 0 ≤ bits .and .i64 fail 7 ∧ bits .and .i64 fail 7 ≤ 7 := and_low fail 7 (by decide); omega)
          refine wpList_nil ?_
          refine gw_nx (hK139 _ _ ?_)
          refine gw_seq fun K169 hK169 => ?_
          refine gw_seq fun K170 hK170 => ?_
          refine wp_region_lit ?_
          refine gw_ev HF164 (want_none rfl) rfl (by decide) (op_move rfl (HF164.ev rfl)) ?_
          intro a171 HF172; clear HF164
          refine gw_ev HF172 (want_none rfl) rfl (by decide) (op_move rfl (HF172.ev rfl)) ?_
          intro a173 HF174; clear HF172
          have HO184 : Own w _ [(Chunk.all [Chunk.row (Kd.int .u8) 5 w.heap.size Sa (.slice Aa all.length ca) all]), Chunk.disk w.heap.size gd5 S157 ({ d with fuse := mx (bits .and .i64 fail 7) 0 } : PD)] := Own.bundle (A := [Chunk.row (Kd.int .u8) 5 w.heap.size Sa (.slice Aa all.length ca) all]) (L := [Chunk.disk w.heap.size gd5 S157 ({ d with fuse := mx (bits .and .i64 fail 7) 0 } : PD)]) (HO168.sel [0, 1] (by decide))
          refine gw_call HF174 (want_none rfl) rfl (by decide) (op_callL Try.func15 (by kernel_rfl) rfl rfl (ar_cons (HF174.ev rfl) (ar_cons (ev_c _ _) (ar_cons (HF174.ev rfl) ar_nil)))) (append_calls w _ (Chunk.all [Chunk.row (Kd.int .u8) 5 w.heap.size Sa (.slice Aa all.length ca) all]) gd5 S157 ({ d with fuse := mx (bits .and .i64 fail 7) 0 } : PD) (⟨#[102]⟩ : ByteArray) A104 c105 (parts.getD i.toNat ([] : List Int)) (fun w_ h_ => Kd.C_below hC107 h_.below) hl106 hJ159.wf (by decide) (by have h1_ := hJ159.used; have h2_ := hJ159.sf; omega) (by exact HO184)) ?_
          rintro e178 w179 ⟨rfl, S175, hb180⟩
          refine ⟨_, rfl, fun a181 HF182 => ?_⟩
          have HO183 : Own w w179 [Chunk.row (Kd.int .u8) 5 w.heap.size Sa (.slice Aa all.length ca) all, Chunk.disk w.heap.size gd5 S175 ((appendD (⟨#[102]⟩ : ByteArray) (parts.getD i.toNat ([] : List Int)) ({ d with fuse := mx (bits .and .i64 fail 7) 0 } : PD)).1)] := Own.unbundle (A := [Chunk.row (Kd.int .u8) 5 w.heap.size Sa (.slice Aa all.length ca) all]) (L := [Chunk.disk w.heap.size gd5 S175 ((appendD (⟨#[102]⟩ : ByteArray) (parts.getD i.toNat ([] : List Int)) ({ d with fuse := mx (bits .and .i64 fail 7) 0 } : PD)).1)]) (hb180.sel [0, 1] (by decide))
          clear HO184
          clear HF174 HO168 hb180
          have HO186 : Own w w179 [Chunk.row (Kd.int .u8) 5 w.heap.size Sa (.slice Aa all.length ca) all, Chunk.disk w.heap.size gd5 S175 ((appendD (⟨#[102]⟩ : ByteArray) (parts.getD i.toNat ([] : List Int)) ({ d with fuse := mx (bits .and .i64 fail 7) 0 } : PD)).1)] := HO183
          clear HO183
          have hJ177 := hJ159.append (y := (parts.getD i.toNat ([] : List Int)))
          refine gw_ev HF182 (want_none rfl) rfl (by decide) (op_eqi rfl (HF182.ev rfl) (ev_c _ _)) ?_
          intro a187 HF188; clear HF182
          refine wpList_nil ?_
          refine gw_nx (hK170 _ _ ?_)
          refine gw_cond HF188 rfl (fun hb189 => ?_) (fun hb189 => ?_)
          · skip
            have HF190 := HF188.subst_ (d := 54) (b := true) rfl hb189
            clear HF188
            (try simp only [Bool.and_eq_true, Bool.or_eq_true, Bool.and_eq_false_iff, Bool.or_eq_false_iff, Bool.not_and, Bool.not_or, Bool.not_not, decide_eq_true_eq, decide_eq_false_iff_not, Bool.not_eq_true', Bool.not_eq_false', Bool.not_eq_true, Bool.not_eq_false, ne_eq, Decidable.not_not, Int.not_lt, Int.not_le, not_true_eq_false, not_false_eq_true, bne_iff_ne, beq_iff_eq, bne_eq_false_iff_eq, beq_eq_false_iff_ne] at hb189)
            have hJ191 := hJ177.1 hb189
            refine wp_region_lit ?_
            refine gw_ev HF190 (want_none rfl) rfl (by decide) (op_move rfl (HF190.ev rfl)) ?_
            intro a192 HF193; clear HF190
            refine gw_ev HF193 (want_none rfl) rfl (by decide) (op_move rfl (HF193.ev rfl)) ?_
            intro a194 HF195; clear HF193
            refine gw_append (Kd.int .u8) 0 HF195 HO186 (want_none rfl) rfl (by decide) rfl Try.underlying28 gwinfo5 rfl (by decide) (by decide) rfl (HF195.ev rfl) (HF195.ev rfl) (Kd.C_below hC107 HO186.below) (fun _ _ h => h) HO186.below.size (by have h1_ := hJ.sf; omega) ?_
            intro A196 c197 S198 a199 w200 HF201 HO202; clear HF195 HO186
            have HO203 : Own w w200 [Chunk.row (Kd.int .u8) 5 w.heap.size S198 (.slice A196 ((all ++ (parts.getD i.toNat ([] : List Int))).length) c197) (all ++ (parts.getD i.toNat ([] : List Int))), Chunk.disk w.heap.size gd5 S175 ((appendD (⟨#[102]⟩ : ByteArray) (parts.getD i.toNat ([] : List Int)) ({ d with fuse := mx (bits .and .i64 fail 7) 0 } : PD)).1)] := HO202
            clear HO202
            refine gw_ev HF201 (want_none rfl) rfl (by decide) (op_assign rfl (HF201.ev rfl)) ?_
            intro a204 HF205; clear HF201
            refine wpList_nil ?_
            refine gw_nx (hK169 _ _ ?_)
            refine gw_seq fun K206 hK206 => ?_
            refine wp_region_lit ?_
            refine gw_ev HF205 (want_none rfl) rfl (by decide) (op_move rfl (HF205.ev rfl)) ?_
            intro a207 HF208; clear HF205
            refine gw_ev HF208 (want_none rfl) rfl (by decide) (op_move rfl (HF208.ev rfl)) ?_
            intro a209 HF210; clear HF208
            refine gw_ev HF210 (want_none rfl) rfl (by decide) (op_and rfl (HF210.ev rfl) (ev_c _ _)) ?_
            intro a211 HF212; clear HF210
            refine gw_ev HF212 (want_none rfl) rfl (by decide) (op_leq rfl (HF212.ev rfl) (HF212.ev rfl)) ?_
            intro a213 HF214; clear HF212
            refine gw_ev HF214 (want_none rfl) rfl (by decide) (op_move rfl (HF214.ev rfl)) ?_
            intro a215 HF216; clear HF214
            rcases Bool.eq_false_or_eq_true (decide (i ≤ (bits .and .i64 synced 15))) with hb217 | hb217
            · skip
              have HF218 := HF216.subst_ (d := 62) (b := true) rfl hb217
              clear HF216
              (try simp only [Bool.and_eq_true, Bool.or_eq_true, Bool.and_eq_false_iff, Bool.or_eq_false_iff, Bool.not_and, Bool.not_or, Bool.not_not, decide_eq_true_eq, decide_eq_false_iff_not, Bool.not_eq_true', Bool.not_eq_false', Bool.not_eq_true, Bool.not_eq_false, ne_eq, Decidable.not_not, Int.not_lt, Int.not_le, not_true_eq_false, not_false_eq_true, bne_iff_ne, beq_iff_eq, bne_eq_false_iff_eq, beq_eq_false_iff_ne] at hb217)
              refine gw_ev HF218 (want_yes HF218 rfl rfl rfl rfl) rfl (by decide) (op_move rfl (HF218.ev rfl)) ?_
              intro a219 HF220; clear HF218
              have HO230 : Own w _ [(Chunk.all [Chunk.row (Kd.int .u8) 5 w.heap.size S198 (.slice A196 ((all ++ (parts.getD i.toNat ([] : List Int))).length) c197) (all ++ (parts.getD i.toNat ([] : List Int)))]), Chunk.disk w.heap.size gd5 S175 ((appendD (⟨#[102]⟩ : ByteArray) (parts.getD i.toNat ([] : List Int)) ({ d with fuse := mx (bits .and .i64 fail 7) 0 } : PD)).1)] := Own.bundle (A := [Chunk.row (Kd.int .u8) 5 w.heap.size S198 (.slice A196 ((all ++ (parts.getD i.toNat ([] : List Int))).length) c197) (all ++ (parts.getD i.toNat ([] : List Int)))]) (L := [Chunk.disk w.heap.size gd5 S175 ((appendD (⟨#[102]⟩ : ByteArray) (parts.getD i.toNat ([] : List Int)) ({ d with fuse := mx (bits .and .i64 fail 7) 0 } : PD)).1)]) (HO203.sel [0, 1] (by decide))
              refine gw_call HF220 (want_yes HF220 rfl rfl rfl rfl) rfl (by decide) (op_callL Try.func16 (by kernel_rfl) rfl rfl (ar_cons (HF220.ev rfl) (ar_cons (ev_c _ _) ar_nil))) (sync_calls w _ (Chunk.all [Chunk.row (Kd.int .u8) 5 w.heap.size S198 (.slice A196 ((all ++ (parts.getD i.toNat ([] : List Int))).length) c197) (all ++ (parts.getD i.toNat ([] : List Int)))]) gd5 S175 ((appendD (⟨#[102]⟩ : ByteArray) (parts.getD i.toNat ([] : List Int)) ({ d with fuse := mx (bits .and .i64 fail 7) 0 } : PD)).1) (⟨#[102]⟩ : ByteArray) hJ191.wf (by decide) (by exact HO230)) ?_
              rintro e224 w225 ⟨rfl, S221, hb226⟩
              refine ⟨_, rfl, fun a227 HF228 => ?_⟩
              have HO229 : Own w w225 [Chunk.row (Kd.int .u8) 5 w.heap.size S198 (.slice A196 ((all ++ (parts.getD i.toNat ([] : List Int))).length) c197) (all ++ (parts.getD i.toNat ([] : List Int))), Chunk.disk w.heap.size gd5 S221 ((syncD (⟨#[102]⟩ : ByteArray) ((appendD (⟨#[102]⟩ : ByteArray) (parts.getD i.toNat ([] : List Int)) ({ d with fuse := mx (bits .and .i64 fail 7) 0 } : PD)).1)).1)] := Own.unbundle (A := [Chunk.row (Kd.int .u8) 5 w.heap.size S198 (.slice A196 ((all ++ (parts.getD i.toNat ([] : List Int))).length) c197) (all ++ (parts.getD i.toNat ([] : List Int)))]) (L := [Chunk.disk w.heap.size gd5 S221 ((syncD (⟨#[102]⟩ : ByteArray) ((appendD (⟨#[102]⟩ : ByteArray) (parts.getD i.toNat ([] : List Int)) ({ d with fuse := mx (bits .and .i64 fail 7) 0 } : PD)).1)).1)]) (hb226.sel [0, 1] (by decide))
              clear HO230
              clear HF220 HO203 hb226
              have HO232 : Own w w225 [Chunk.row (Kd.int .u8) 5 w.heap.size S198 (.slice A196 ((all ++ (parts.getD i.toNat ([] : List Int))).length) c197) (all ++ (parts.getD i.toNat ([] : List Int))), Chunk.disk w.heap.size gd5 S221 ((syncD (⟨#[102]⟩ : ByteArray) ((appendD (⟨#[102]⟩ : ByteArray) (parts.getD i.toNat ([] : List Int)) ({ d with fuse := mx (bits .and .i64 fail 7) 0 } : PD)).1)).1)] := HO229
              clear HO229
              have hJ223 := hJ191.sync
              refine gw_ev HF228 (want_yes HF228 rfl rfl rfl rfl) rfl (by decide) (op_eqi rfl (HF228.ev rfl) (ev_c _ _)) ?_
              intro a233 HF234; clear HF228
              refine gw_ev HF234 (want_none rfl) rfl (by decide) (op_pick_t rfl (HF234.ev rfl) (HF234.ev rfl)) ?_
              intro a235 HF236; clear HF234
              refine wpList_nil ?_
              refine gw_nx (hK206 _ _ ?_)
              refine gw_cond HF236 rfl (fun hb237 => ?_) (fun hb237 => ?_)
              · skip
                have HF238 := HF236.subst_ (d := 66) (b := true) rfl hb237
                clear HF236
                (try simp only [Bool.and_eq_true, Bool.or_eq_true, Bool.and_eq_false_iff, Bool.or_eq_false_iff, Bool.not_and, Bool.not_or, Bool.not_not, decide_eq_true_eq, decide_eq_false_iff_not, Bool.not_eq_true', Bool.not_eq_false', Bool.not_eq_true, Bool.not_eq_false, ne_eq, Decidable.not_not, Int.not_lt, Int.not_le, not_true_eq_false, not_false_eq_true, bne_iff_ne, beq_iff_eq, bne_eq_false_iff_eq, beq_eq_false_iff_ne] at hb237)
                have hJ239 := hJ223.1 hb237
                refine wp_region_lit ?_
                refine gw_ev HF238 (want_none rfl) rfl (by decide) (op_move rfl (HF238.ev rfl)) ?_
                intro a240 HF241; clear HF238
                refine gw_ev HF241 (want_none rfl) rfl (by decide) (op_len Try.underlying28 rfl (HF241.ev rfl)) ?_
                intro a242 HF243; clear HF241
                refine gw_ev HF243 (want_none rfl) rfl (by decide) (op_assign rfl (HF243.ev rfl)) ?_
                intro a244 HF245; clear HF243
                refine wpList_nil ?_
                refine gw_blk ?_
                refine gw_nx (hK94 _ _ ?_)
                refine wp_region_lit ?_
                refine gw_ev HF245 (want_none rfl) rfl (by decide) (op_add rfl (HF245.ev rfl) (ev_c _ _) (by omega)) ?_
                intro a246 HF247; clear HF245
                refine gw_ev HF247 (want_none rfl) rfl (by decide) (op_move rfl (HF247.ev rfl)) ?_
                intro a248 HF249; clear HF247
                refine wpList_nil ?_
                refine gw_nx ⟨_, ?_, i + 1, ((syncD (⟨#[102]⟩ : ByteArray) ((appendD (⟨#[102]⟩ : ByteArray) (parts.getD i.toNat ([] : List Int)) ({ d with fuse := mx (bits .and .i64 fail 7) 0 } : PD)).1)).1), S221, (all ++ (parts.getD i.toNat ([] : List Int))), A196, c197, _, (((all ++ (parts.getD i.toNat ([] : List Int))).length) : Int), (HF249.pick (t := 31) rfl (HF249.pick (t := 10) rfl (HF249.pick (t := 11) rfl (HF249.pick (t := 1) rfl (HF249.pick (t := 2) rfl (HF249.pick (t := 3) rfl (HF249.pick (t := 8) rfl (HF249.pick (t := 9) rfl (HF249.pick (t := 29) rfl (HF249.pick (t := 30) rfl HF249.nil)))))))))), HO232.sel [1, 0] (by decide), ?_, ?_, rfl⟩
                · rw [hm87]; omega
                · omega
                · exact hJ239
              · skip
                have HF250 := HF236.subst_ (d := 66) (b := false) rfl hb237
                clear HF236
                (try simp only [Bool.and_eq_true, Bool.or_eq_true, Bool.and_eq_false_iff, Bool.or_eq_false_iff, Bool.not_and, Bool.not_or, Bool.not_not, decide_eq_true_eq, decide_eq_false_iff_not, Bool.not_eq_true', Bool.not_eq_false', Bool.not_eq_true, Bool.not_eq_false, ne_eq, Decidable.not_not, Int.not_lt, Int.not_le, not_true_eq_false, not_false_eq_true, bne_iff_ne, beq_iff_eq, bne_eq_false_iff_eq, beq_eq_false_iff_ne] at hb237)
                have hJ251 := hJ223.2 hb237
                refine wp_skip ?_
                refine gw_blk ?_
                refine gw_nx (hK94 _ _ ?_)
                refine wp_region_lit ?_
                refine gw_ev HF250 (want_none rfl) rfl (by decide) (op_add rfl (HF250.ev rfl) (ev_c _ _) (by omega)) ?_
                intro a252 HF253; clear HF250
                refine gw_ev HF253 (want_none rfl) rfl (by decide) (op_move rfl (HF253.ev rfl)) ?_
                intro a254 HF255; clear HF253
                refine wpList_nil ?_
                refine gw_nx ⟨_, ?_, i + 1, ((syncD (⟨#[102]⟩ : ByteArray) ((appendD (⟨#[102]⟩ : ByteArray) (parts.getD i.toNat ([] : List Int)) ({ d with fuse := mx (bits .and .i64 fail 7) 0 } : PD)).1)).1), S221, (all ++ (parts.getD i.toNat ([] : List Int))), A196, c197, _, safe, (HF255.pick (t := 31) rfl (HF255.pick (t := 10) rfl (HF255.pick (t := 11) rfl (HF255.pick (t := 1) rfl (HF255.pick (t := 2) rfl (HF255.pick (t := 3) rfl (HF255.pick (t := 8) rfl (HF255.pick (t := 9) rfl (HF255.pick (t := 29) rfl (HF255.pick (t := 30) rfl HF255.nil)))))))))), HO232.sel [1, 0] (by decide), ?_, ?_, rfl⟩
                · rw [hm87]; omega
                · omega
                · exact hJ251
            · skip
              have HF256 := HF216.subst_ (d := 62) (b := false) rfl hb217
              clear HF216
              (try simp only [Bool.and_eq_true, Bool.or_eq_true, Bool.and_eq_false_iff, Bool.or_eq_false_iff, Bool.not_and, Bool.not_or, Bool.not_not, decide_eq_true_eq, decide_eq_false_iff_not, Bool.not_eq_true', Bool.not_eq_false', Bool.not_eq_true, Bool.not_eq_false, ne_eq, Decidable.not_not, Int.not_lt, Int.not_le, not_true_eq_false, not_false_eq_true, bne_iff_ne, beq_iff_eq, bne_eq_false_iff_eq, beq_eq_false_iff_ne] at hb217)
              refine gw_off HF256 (want_no HF256 rfl rfl rfl rfl (by decide)) rfl (by decide) ?_
              intro a257 HF258; clear HF256
              refine gw_off HF258 (want_no HF258 rfl rfl rfl rfl (by decide)) rfl (by decide) ?_
              intro a259 HF260; clear HF258
              refine gw_off HF260 (want_no HF260 rfl rfl rfl rfl (by decide)) rfl (by decide) ?_
              intro a261 HF262; clear HF260
              refine gw_ev HF262 (want_none rfl) rfl (by decide) (op_pick_f rfl (HF262.ev rfl) (ev_c _ _)) ?_
              intro a263 HF264; clear HF262
              refine wpList_nil ?_
              refine gw_nx (hK206 _ _ ?_)
              refine gw_cond HF264 rfl (fun hb265 => ?_) (fun hb265 => ?_)
              skip
              · cases hb265
              refine wp_skip ?_
              refine gw_blk ?_
              refine gw_nx (hK94 _ _ ?_)
              refine wp_region_lit ?_
              refine gw_ev HF264 (want_none rfl) rfl (by decide) (op_add rfl (HF264.ev rfl) (ev_c _ _) (by omega)) ?_
              intro a266 HF267; clear HF264
              refine gw_ev HF267 (want_none rfl) rfl (by decide) (op_move rfl (HF267.ev rfl)) ?_
              intro a268 HF269; clear HF267
              refine wpList_nil ?_
              refine gw_nx ⟨_, ?_, i + 1, ((appendD (⟨#[102]⟩ : ByteArray) (parts.getD i.toNat ([] : List Int)) ({ d with fuse := mx (bits .and .i64 fail 7) 0 } : PD)).1), S175, (all ++ (parts.getD i.toNat ([] : List Int))), A196, c197, _, safe, (HF269.pick (t := 31) rfl (HF269.pick (t := 10) rfl (HF269.pick (t := 11) rfl (HF269.pick (t := 1) rfl (HF269.pick (t := 2) rfl (HF269.pick (t := 3) rfl (HF269.pick (t := 8) rfl (HF269.pick (t := 9) rfl (HF269.pick (t := 29) rfl (HF269.pick (t := 30) rfl HF269.nil)))))))))), HO203.sel [1, 0] (by decide), ?_, ?_, rfl⟩
              · rw [hm87]; omega
              · omega
              · exact hJ191
          · skip
            have HF270 := HF188.subst_ (d := 54) (b := false) rfl hb189
            clear HF188
            (try simp only [Bool.and_eq_true, Bool.or_eq_true, Bool.and_eq_false_iff, Bool.or_eq_false_iff, Bool.not_and, Bool.not_or, Bool.not_not, decide_eq_true_eq, decide_eq_false_iff_not, Bool.not_eq_true', Bool.not_eq_false', Bool.not_eq_true, Bool.not_eq_false, ne_eq, Decidable.not_not, Int.not_lt, Int.not_le, not_true_eq_false, not_false_eq_true, bne_iff_ne, beq_iff_eq, bne_eq_false_iff_eq, beq_eq_false_iff_ne] at hb189)
            have hJ271 := hJ177.2 hb189
            refine wp_skip ?_
            refine gw_nx (hK169 _ _ ?_)
            refine gw_seq fun K272 hK272 => ?_
            refine wp_region_lit ?_
            refine gw_ev HF270 (want_none rfl) rfl (by decide) (op_move rfl (HF270.ev rfl)) ?_
            intro a273 HF274; clear HF270
            refine gw_ev HF274 (want_none rfl) rfl (by decide) (op_move rfl (HF274.ev rfl)) ?_
            intro a275 HF276; clear HF274
            refine gw_ev HF276 (want_none rfl) rfl (by decide) (op_and rfl (HF276.ev rfl) (ev_c _ _)) ?_
            intro a277 HF278; clear HF276
            refine gw_ev HF278 (want_none rfl) rfl (by decide) (op_leq rfl (HF278.ev rfl) (HF278.ev rfl)) ?_
            intro a279 HF280; clear HF278
            refine gw_ev HF280 (want_none rfl) rfl (by decide) (op_move rfl (HF280.ev rfl)) ?_
            intro a281 HF282; clear HF280
            rcases Bool.eq_false_or_eq_true (decide (i ≤ (bits .and .i64 synced 15))) with hb283 | hb283
            · skip
              have HF284 := HF282.subst_ (d := 62) (b := true) rfl hb283
              clear HF282
              (try simp only [Bool.and_eq_true, Bool.or_eq_true, Bool.and_eq_false_iff, Bool.or_eq_false_iff, Bool.not_and, Bool.not_or, Bool.not_not, decide_eq_true_eq, decide_eq_false_iff_not, Bool.not_eq_true', Bool.not_eq_false', Bool.not_eq_true, Bool.not_eq_false, ne_eq, Decidable.not_not, Int.not_lt, Int.not_le, not_true_eq_false, not_false_eq_true, bne_iff_ne, beq_iff_eq, bne_eq_false_iff_eq, beq_eq_false_iff_ne] at hb283)
              refine gw_ev HF284 (want_yes HF284 rfl rfl rfl rfl) rfl (by decide) (op_move rfl (HF284.ev rfl)) ?_
              intro a285 HF286; clear HF284
              have HO296 : Own w _ [(Chunk.all [Chunk.row (Kd.int .u8) 5 w.heap.size Sa (.slice Aa all.length ca) all]), Chunk.disk w.heap.size gd5 S175 ((appendD (⟨#[102]⟩ : ByteArray) (parts.getD i.toNat ([] : List Int)) ({ d with fuse := mx (bits .and .i64 fail 7) 0 } : PD)).1)] := Own.bundle (A := [Chunk.row (Kd.int .u8) 5 w.heap.size Sa (.slice Aa all.length ca) all]) (L := [Chunk.disk w.heap.size gd5 S175 ((appendD (⟨#[102]⟩ : ByteArray) (parts.getD i.toNat ([] : List Int)) ({ d with fuse := mx (bits .and .i64 fail 7) 0 } : PD)).1)]) (HO186.sel [0, 1] (by decide))
              refine gw_call HF286 (want_yes HF286 rfl rfl rfl rfl) rfl (by decide) (op_callL Try.func16 (by kernel_rfl) rfl rfl (ar_cons (HF286.ev rfl) (ar_cons (ev_c _ _) ar_nil))) (sync_calls w _ (Chunk.all [Chunk.row (Kd.int .u8) 5 w.heap.size Sa (.slice Aa all.length ca) all]) gd5 S175 ((appendD (⟨#[102]⟩ : ByteArray) (parts.getD i.toNat ([] : List Int)) ({ d with fuse := mx (bits .and .i64 fail 7) 0 } : PD)).1) (⟨#[102]⟩ : ByteArray) hJ271.wf (by decide) (by exact HO296)) ?_
              rintro e290 w291 ⟨rfl, S287, hb292⟩
              refine ⟨_, rfl, fun a293 HF294 => ?_⟩
              have HO295 : Own w w291 [Chunk.row (Kd.int .u8) 5 w.heap.size Sa (.slice Aa all.length ca) all, Chunk.disk w.heap.size gd5 S287 ((syncD (⟨#[102]⟩ : ByteArray) ((appendD (⟨#[102]⟩ : ByteArray) (parts.getD i.toNat ([] : List Int)) ({ d with fuse := mx (bits .and .i64 fail 7) 0 } : PD)).1)).1)] := Own.unbundle (A := [Chunk.row (Kd.int .u8) 5 w.heap.size Sa (.slice Aa all.length ca) all]) (L := [Chunk.disk w.heap.size gd5 S287 ((syncD (⟨#[102]⟩ : ByteArray) ((appendD (⟨#[102]⟩ : ByteArray) (parts.getD i.toNat ([] : List Int)) ({ d with fuse := mx (bits .and .i64 fail 7) 0 } : PD)).1)).1)]) (hb292.sel [0, 1] (by decide))
              clear HO296
              clear HF286 HO186 hb292
              have HO298 : Own w w291 [Chunk.row (Kd.int .u8) 5 w.heap.size Sa (.slice Aa all.length ca) all, Chunk.disk w.heap.size gd5 S287 ((syncD (⟨#[102]⟩ : ByteArray) ((appendD (⟨#[102]⟩ : ByteArray) (parts.getD i.toNat ([] : List Int)) ({ d with fuse := mx (bits .and .i64 fail 7) 0 } : PD)).1)).1)] := HO295
              clear HO295
              have hJ289 := hJ271.sync
              refine gw_ev HF294 (want_yes HF294 rfl rfl rfl rfl) rfl (by decide) (op_eqi rfl (HF294.ev rfl) (ev_c _ _)) ?_
              intro a299 HF300; clear HF294
              refine gw_ev HF300 (want_none rfl) rfl (by decide) (op_pick_t rfl (HF300.ev rfl) (HF300.ev rfl)) ?_
              intro a301 HF302; clear HF300
              refine wpList_nil ?_
              refine gw_nx (hK272 _ _ ?_)
              refine gw_cond HF302 rfl (fun hb303 => ?_) (fun hb303 => ?_)
              · skip
                have HF304 := HF302.subst_ (d := 66) (b := true) rfl hb303
                clear HF302
                (try simp only [Bool.and_eq_true, Bool.or_eq_true, Bool.and_eq_false_iff, Bool.or_eq_false_iff, Bool.not_and, Bool.not_or, Bool.not_not, decide_eq_true_eq, decide_eq_false_iff_not, Bool.not_eq_true', Bool.not_eq_false', Bool.not_eq_true, Bool.not_eq_false, ne_eq, Decidable.not_not, Int.not_lt, Int.not_le, not_true_eq_false, not_false_eq_true, bne_iff_ne, beq_iff_eq, bne_eq_false_iff_eq, beq_eq_false_iff_ne] at hb303)
                have hJ305 := hJ289.1 hb303
                refine wp_region_lit ?_
                refine gw_ev HF304 (want_none rfl) rfl (by decide) (op_move rfl (HF304.ev rfl)) ?_
                intro a306 HF307; clear HF304
                refine gw_ev HF307 (want_none rfl) rfl (by decide) (op_len Try.underlying28 rfl (HF307.ev rfl)) ?_
                intro a308 HF309; clear HF307
                refine gw_ev HF309 (want_none rfl) rfl (by decide) (op_assign rfl (HF309.ev rfl)) ?_
                intro a310 HF311; clear HF309
                refine wpList_nil ?_
                refine gw_blk ?_
                refine gw_nx (hK94 _ _ ?_)
                refine wp_region_lit ?_
                refine gw_ev HF311 (want_none rfl) rfl (by decide) (op_add rfl (HF311.ev rfl) (ev_c _ _) (by omega)) ?_
                intro a312 HF313; clear HF311
                refine gw_ev HF313 (want_none rfl) rfl (by decide) (op_move rfl (HF313.ev rfl)) ?_
                intro a314 HF315; clear HF313
                refine wpList_nil ?_
                refine gw_nx ⟨_, ?_, i + 1, ((syncD (⟨#[102]⟩ : ByteArray) ((appendD (⟨#[102]⟩ : ByteArray) (parts.getD i.toNat ([] : List Int)) ({ d with fuse := mx (bits .and .i64 fail 7) 0 } : PD)).1)).1), S287, all, Aa, ca, _, (all.length : Int), (HF315.pick (t := 31) rfl (HF315.pick (t := 10) rfl (HF315.pick (t := 11) rfl (HF315.pick (t := 1) rfl (HF315.pick (t := 2) rfl (HF315.pick (t := 3) rfl (HF315.pick (t := 8) rfl (HF315.pick (t := 9) rfl (HF315.pick (t := 29) rfl (HF315.pick (t := 30) rfl HF315.nil)))))))))), HO298.sel [1, 0] (by decide), ?_, ?_, rfl⟩
                · rw [hm87]; omega
                · omega
                · exact hJ305
              · skip
                have HF316 := HF302.subst_ (d := 66) (b := false) rfl hb303
                clear HF302
                (try simp only [Bool.and_eq_true, Bool.or_eq_true, Bool.and_eq_false_iff, Bool.or_eq_false_iff, Bool.not_and, Bool.not_or, Bool.not_not, decide_eq_true_eq, decide_eq_false_iff_not, Bool.not_eq_true', Bool.not_eq_false', Bool.not_eq_true, Bool.not_eq_false, ne_eq, Decidable.not_not, Int.not_lt, Int.not_le, not_true_eq_false, not_false_eq_true, bne_iff_ne, beq_iff_eq, bne_eq_false_iff_eq, beq_eq_false_iff_ne] at hb303)
                have hJ317 := hJ289.2 hb303
                refine wp_skip ?_
                refine gw_blk ?_
                refine gw_nx (hK94 _ _ ?_)
                refine wp_region_lit ?_
                refine gw_ev HF316 (want_none rfl) rfl (by decide) (op_add rfl (HF316.ev rfl) (ev_c _ _) (by omega)) ?_
                intro a318 HF319; clear HF316
                refine gw_ev HF319 (want_none rfl) rfl (by decide) (op_move rfl (HF319.ev rfl)) ?_
                intro a320 HF321; clear HF319
                refine wpList_nil ?_
                refine gw_nx ⟨_, ?_, i + 1, ((syncD (⟨#[102]⟩ : ByteArray) ((appendD (⟨#[102]⟩ : ByteArray) (parts.getD i.toNat ([] : List Int)) ({ d with fuse := mx (bits .and .i64 fail 7) 0 } : PD)).1)).1), S287, all, Aa, ca, _, safe, (HF321.pick (t := 31) rfl (HF321.pick (t := 10) rfl (HF321.pick (t := 11) rfl (HF321.pick (t := 1) rfl (HF321.pick (t := 2) rfl (HF321.pick (t := 3) rfl (HF321.pick (t := 8) rfl (HF321.pick (t := 9) rfl (HF321.pick (t := 29) rfl (HF321.pick (t := 30) rfl HF321.nil)))))))))), HO298.sel [1, 0] (by decide), ?_, ?_, rfl⟩
                · rw [hm87]; omega
                · omega
                · exact hJ317
            · skip
              have HF322 := HF282.subst_ (d := 62) (b := false) rfl hb283
              clear HF282
              (try simp only [Bool.and_eq_true, Bool.or_eq_true, Bool.and_eq_false_iff, Bool.or_eq_false_iff, Bool.not_and, Bool.not_or, Bool.not_not, decide_eq_true_eq, decide_eq_false_iff_not, Bool.not_eq_true', Bool.not_eq_false', Bool.not_eq_true, Bool.not_eq_false, ne_eq, Decidable.not_not, Int.not_lt, Int.not_le, not_true_eq_false, not_false_eq_true, bne_iff_ne, beq_iff_eq, bne_eq_false_iff_eq, beq_eq_false_iff_ne] at hb283)
              refine gw_off HF322 (want_no HF322 rfl rfl rfl rfl (by decide)) rfl (by decide) ?_
              intro a323 HF324; clear HF322
              refine gw_off HF324 (want_no HF324 rfl rfl rfl rfl (by decide)) rfl (by decide) ?_
              intro a325 HF326; clear HF324
              refine gw_off HF326 (want_no HF326 rfl rfl rfl rfl (by decide)) rfl (by decide) ?_
              intro a327 HF328; clear HF326
              refine gw_ev HF328 (want_none rfl) rfl (by decide) (op_pick_f rfl (HF328.ev rfl) (ev_c _ _)) ?_
              intro a329 HF330; clear HF328
              refine wpList_nil ?_
              refine gw_nx (hK272 _ _ ?_)
              refine gw_cond HF330 rfl (fun hb331 => ?_) (fun hb331 => ?_)
              skip
              · cases hb331
              refine wp_skip ?_
              refine gw_blk ?_
              refine gw_nx (hK94 _ _ ?_)
              refine wp_region_lit ?_
              refine gw_ev HF330 (want_none rfl) rfl (by decide) (op_add rfl (HF330.ev rfl) (ev_c _ _) (by omega)) ?_
              intro a332 HF333; clear HF330
              refine gw_ev HF333 (want_none rfl) rfl (by decide) (op_move rfl (HF333.ev rfl)) ?_
              intro a334 HF335; clear HF333
              refine wpList_nil ?_
              refine gw_nx ⟨_, ?_, i + 1, ((appendD (⟨#[102]⟩ : ByteArray) (parts.getD i.toNat ([] : List Int)) ({ d with fuse := mx (bits .and .i64 fail 7) 0 } : PD)).1), S175, all, Aa, ca, _, safe, (HF335.pick (t := 31) rfl (HF335.pick (t := 10) rfl (HF335.pick (t := 11) rfl (HF335.pick (t := 1) rfl (HF335.pick (t := 2) rfl (HF335.pick (t := 3) rfl (HF335.pick (t := 8) rfl (HF335.pick (t := 9) rfl (HF335.pick (t := 29) rfl (HF335.pick (t := 30) rfl HF335.nil)))))))))), HO186.sel [1, 0] (by decide), ?_, ?_, rfl⟩
              · rw [hm87]; omega
              · omega
              · exact hJ271
        · skip
          have HF336 := HF148.subst_ (d := 46) (b := false) rfl hb149
          clear HF148
          (try simp only [Bool.and_eq_true, Bool.or_eq_true, Bool.and_eq_false_iff, Bool.or_eq_false_iff, Bool.not_and, Bool.not_or, Bool.not_not, decide_eq_true_eq, decide_eq_false_iff_not, Bool.not_eq_true', Bool.not_eq_false', Bool.not_eq_true, Bool.not_eq_false, ne_eq, Decidable.not_not, Int.not_lt, Int.not_le, not_true_eq_false, not_false_eq_true, bne_iff_ne, beq_iff_eq, bne_eq_false_iff_eq, beq_eq_false_iff_ne] at hb149)
          refine wp_skip ?_
          refine gw_nx (hK139 _ _ ?_)
          refine gw_seq fun K337 hK337 => ?_
          refine gw_seq fun K338 hK338 => ?_
          refine wp_region_lit ?_
          refine gw_ev HF336 (want_none rfl) rfl (by decide) (op_move rfl (HF336.ev rfl)) ?_
          intro a339 HF340; clear HF336
          refine gw_ev HF340 (want_none rfl) rfl (by decide) (op_move rfl (HF340.ev rfl)) ?_
          intro a341 HF342; clear HF340
          have HO352 : Own w _ [(Chunk.all [Chunk.row (Kd.int .u8) 5 w.heap.size Sa (.slice Aa all.length ca) all]), Chunk.disk w.heap.size gd5 Sd d] := Own.bundle (A := [Chunk.row (Kd.int .u8) 5 w.heap.size Sa (.slice Aa all.length ca) all]) (L := [Chunk.disk w.heap.size gd5 Sd d]) (HO86.sel [1, 0] (by decide))
          refine gw_call HF342 (want_none rfl) rfl (by decide) (op_callL Try.func15 (by kernel_rfl) rfl rfl (ar_cons (HF342.ev rfl) (ar_cons (ev_c _ _) (ar_cons (HF342.ev rfl) ar_nil)))) (append_calls w _ (Chunk.all [Chunk.row (Kd.int .u8) 5 w.heap.size Sa (.slice Aa all.length ca) all]) gd5 Sd d (⟨#[102]⟩ : ByteArray) A104 c105 (parts.getD i.toNat ([] : List Int)) (fun w_ h_ => Kd.C_below hC107 h_.below) hl106 hJ.wf (by decide) (by have h1_ := hJ.used; have h2_ := hJ.sf; omega) (by exact HO352)) ?_
          rintro e346 w347 ⟨rfl, S343, hb348⟩
          refine ⟨_, rfl, fun a349 HF350 => ?_⟩
          have HO351 : Own w w347 [Chunk.row (Kd.int .u8) 5 w.heap.size Sa (.slice Aa all.length ca) all, Chunk.disk w.heap.size gd5 S343 ((appendD (⟨#[102]⟩ : ByteArray) (parts.getD i.toNat ([] : List Int)) d).1)] := Own.unbundle (A := [Chunk.row (Kd.int .u8) 5 w.heap.size Sa (.slice Aa all.length ca) all]) (L := [Chunk.disk w.heap.size gd5 S343 ((appendD (⟨#[102]⟩ : ByteArray) (parts.getD i.toNat ([] : List Int)) d).1)]) (hb348.sel [0, 1] (by decide))
          clear HO352
          clear HF342 HO86 hb348
          have HO354 : Own w w347 [Chunk.row (Kd.int .u8) 5 w.heap.size Sa (.slice Aa all.length ca) all, Chunk.disk w.heap.size gd5 S343 ((appendD (⟨#[102]⟩ : ByteArray) (parts.getD i.toNat ([] : List Int)) d).1)] := HO351
          clear HO351
          have hJ345 := hJ.append (y := (parts.getD i.toNat ([] : List Int)))
          refine gw_ev HF350 (want_none rfl) rfl (by decide) (op_eqi rfl (HF350.ev rfl) (ev_c _ _)) ?_
          intro a355 HF356; clear HF350
          refine wpList_nil ?_
          refine gw_nx (hK338 _ _ ?_)
          refine gw_cond HF356 rfl (fun hb357 => ?_) (fun hb357 => ?_)
          · skip
            have HF358 := HF356.subst_ (d := 54) (b := true) rfl hb357
            clear HF356
            (try simp only [Bool.and_eq_true, Bool.or_eq_true, Bool.and_eq_false_iff, Bool.or_eq_false_iff, Bool.not_and, Bool.not_or, Bool.not_not, decide_eq_true_eq, decide_eq_false_iff_not, Bool.not_eq_true', Bool.not_eq_false', Bool.not_eq_true, Bool.not_eq_false, ne_eq, Decidable.not_not, Int.not_lt, Int.not_le, not_true_eq_false, not_false_eq_true, bne_iff_ne, beq_iff_eq, bne_eq_false_iff_eq, beq_eq_false_iff_ne] at hb357)
            have hJ359 := hJ345.1 hb357
            refine wp_region_lit ?_
            refine gw_ev HF358 (want_none rfl) rfl (by decide) (op_move rfl (HF358.ev rfl)) ?_
            intro a360 HF361; clear HF358
            refine gw_ev HF361 (want_none rfl) rfl (by decide) (op_move rfl (HF361.ev rfl)) ?_
            intro a362 HF363; clear HF361
            refine gw_append (Kd.int .u8) 0 HF363 HO354 (want_none rfl) rfl (by decide) rfl Try.underlying28 gwinfo5 rfl (by decide) (by decide) rfl (HF363.ev rfl) (HF363.ev rfl) (Kd.C_below hC107 HO354.below) (fun _ _ h => h) HO354.below.size (by have h1_ := hJ.sf; omega) ?_
            intro A364 c365 S366 a367 w368 HF369 HO370; clear HF363 HO354
            have HO371 : Own w w368 [Chunk.row (Kd.int .u8) 5 w.heap.size S366 (.slice A364 ((all ++ (parts.getD i.toNat ([] : List Int))).length) c365) (all ++ (parts.getD i.toNat ([] : List Int))), Chunk.disk w.heap.size gd5 S343 ((appendD (⟨#[102]⟩ : ByteArray) (parts.getD i.toNat ([] : List Int)) d).1)] := HO370
            clear HO370
            refine gw_ev HF369 (want_none rfl) rfl (by decide) (op_assign rfl (HF369.ev rfl)) ?_
            intro a372 HF373; clear HF369
            refine wpList_nil ?_
            refine gw_nx (hK337 _ _ ?_)
            refine gw_seq fun K374 hK374 => ?_
            refine wp_region_lit ?_
            refine gw_ev HF373 (want_none rfl) rfl (by decide) (op_move rfl (HF373.ev rfl)) ?_
            intro a375 HF376; clear HF373
            refine gw_ev HF376 (want_none rfl) rfl (by decide) (op_move rfl (HF376.ev rfl)) ?_
            intro a377 HF378; clear HF376
            refine gw_ev HF378 (want_none rfl) rfl (by decide) (op_and rfl (HF378.ev rfl) (ev_c _ _)) ?_
            intro a379 HF380; clear HF378
            refine gw_ev HF380 (want_none rfl) rfl (by decide) (op_leq rfl (HF380.ev rfl) (HF380.ev rfl)) ?_
            intro a381 HF382; clear HF380
            refine gw_ev HF382 (want_none rfl) rfl (by decide) (op_move rfl (HF382.ev rfl)) ?_
            intro a383 HF384; clear HF382
            rcases Bool.eq_false_or_eq_true (decide (i ≤ (bits .and .i64 synced 15))) with hb385 | hb385
            · skip
              have HF386 := HF384.subst_ (d := 62) (b := true) rfl hb385
              clear HF384
              (try simp only [Bool.and_eq_true, Bool.or_eq_true, Bool.and_eq_false_iff, Bool.or_eq_false_iff, Bool.not_and, Bool.not_or, Bool.not_not, decide_eq_true_eq, decide_eq_false_iff_not, Bool.not_eq_true', Bool.not_eq_false', Bool.not_eq_true, Bool.not_eq_false, ne_eq, Decidable.not_not, Int.not_lt, Int.not_le, not_true_eq_false, not_false_eq_true, bne_iff_ne, beq_iff_eq, bne_eq_false_iff_eq, beq_eq_false_iff_ne] at hb385)
              refine gw_ev HF386 (want_yes HF386 rfl rfl rfl rfl) rfl (by decide) (op_move rfl (HF386.ev rfl)) ?_
              intro a387 HF388; clear HF386
              have HO398 : Own w _ [(Chunk.all [Chunk.row (Kd.int .u8) 5 w.heap.size S366 (.slice A364 ((all ++ (parts.getD i.toNat ([] : List Int))).length) c365) (all ++ (parts.getD i.toNat ([] : List Int)))]), Chunk.disk w.heap.size gd5 S343 ((appendD (⟨#[102]⟩ : ByteArray) (parts.getD i.toNat ([] : List Int)) d).1)] := Own.bundle (A := [Chunk.row (Kd.int .u8) 5 w.heap.size S366 (.slice A364 ((all ++ (parts.getD i.toNat ([] : List Int))).length) c365) (all ++ (parts.getD i.toNat ([] : List Int)))]) (L := [Chunk.disk w.heap.size gd5 S343 ((appendD (⟨#[102]⟩ : ByteArray) (parts.getD i.toNat ([] : List Int)) d).1)]) (HO371.sel [0, 1] (by decide))
              refine gw_call HF388 (want_yes HF388 rfl rfl rfl rfl) rfl (by decide) (op_callL Try.func16 (by kernel_rfl) rfl rfl (ar_cons (HF388.ev rfl) (ar_cons (ev_c _ _) ar_nil))) (sync_calls w _ (Chunk.all [Chunk.row (Kd.int .u8) 5 w.heap.size S366 (.slice A364 ((all ++ (parts.getD i.toNat ([] : List Int))).length) c365) (all ++ (parts.getD i.toNat ([] : List Int)))]) gd5 S343 ((appendD (⟨#[102]⟩ : ByteArray) (parts.getD i.toNat ([] : List Int)) d).1) (⟨#[102]⟩ : ByteArray) hJ359.wf (by decide) (by exact HO398)) ?_
              rintro e392 w393 ⟨rfl, S389, hb394⟩
              refine ⟨_, rfl, fun a395 HF396 => ?_⟩
              have HO397 : Own w w393 [Chunk.row (Kd.int .u8) 5 w.heap.size S366 (.slice A364 ((all ++ (parts.getD i.toNat ([] : List Int))).length) c365) (all ++ (parts.getD i.toNat ([] : List Int))), Chunk.disk w.heap.size gd5 S389 ((syncD (⟨#[102]⟩ : ByteArray) ((appendD (⟨#[102]⟩ : ByteArray) (parts.getD i.toNat ([] : List Int)) d).1)).1)] := Own.unbundle (A := [Chunk.row (Kd.int .u8) 5 w.heap.size S366 (.slice A364 ((all ++ (parts.getD i.toNat ([] : List Int))).length) c365) (all ++ (parts.getD i.toNat ([] : List Int)))]) (L := [Chunk.disk w.heap.size gd5 S389 ((syncD (⟨#[102]⟩ : ByteArray) ((appendD (⟨#[102]⟩ : ByteArray) (parts.getD i.toNat ([] : List Int)) d).1)).1)]) (hb394.sel [0, 1] (by decide))
              clear HO398
              clear HF388 HO371 hb394
              have HO400 : Own w w393 [Chunk.row (Kd.int .u8) 5 w.heap.size S366 (.slice A364 ((all ++ (parts.getD i.toNat ([] : List Int))).length) c365) (all ++ (parts.getD i.toNat ([] : List Int))), Chunk.disk w.heap.size gd5 S389 ((syncD (⟨#[102]⟩ : ByteArray) ((appendD (⟨#[102]⟩ : ByteArray) (parts.getD i.toNat ([] : List Int)) d).1)).1)] := HO397
              clear HO397
              have hJ391 := hJ359.sync
              refine gw_ev HF396 (want_yes HF396 rfl rfl rfl rfl) rfl (by decide) (op_eqi rfl (HF396.ev rfl) (ev_c _ _)) ?_
              intro a401 HF402; clear HF396
              refine gw_ev HF402 (want_none rfl) rfl (by decide) (op_pick_t rfl (HF402.ev rfl) (HF402.ev rfl)) ?_
              intro a403 HF404; clear HF402
              refine wpList_nil ?_
              refine gw_nx (hK374 _ _ ?_)
              refine gw_cond HF404 rfl (fun hb405 => ?_) (fun hb405 => ?_)
              · skip
                have HF406 := HF404.subst_ (d := 66) (b := true) rfl hb405
                clear HF404
                (try simp only [Bool.and_eq_true, Bool.or_eq_true, Bool.and_eq_false_iff, Bool.or_eq_false_iff, Bool.not_and, Bool.not_or, Bool.not_not, decide_eq_true_eq, decide_eq_false_iff_not, Bool.not_eq_true', Bool.not_eq_false', Bool.not_eq_true, Bool.not_eq_false, ne_eq, Decidable.not_not, Int.not_lt, Int.not_le, not_true_eq_false, not_false_eq_true, bne_iff_ne, beq_iff_eq, bne_eq_false_iff_eq, beq_eq_false_iff_ne] at hb405)
                have hJ407 := hJ391.1 hb405
                refine wp_region_lit ?_
                refine gw_ev HF406 (want_none rfl) rfl (by decide) (op_move rfl (HF406.ev rfl)) ?_
                intro a408 HF409; clear HF406
                refine gw_ev HF409 (want_none rfl) rfl (by decide) (op_len Try.underlying28 rfl (HF409.ev rfl)) ?_
                intro a410 HF411; clear HF409
                refine gw_ev HF411 (want_none rfl) rfl (by decide) (op_assign rfl (HF411.ev rfl)) ?_
                intro a412 HF413; clear HF411
                refine wpList_nil ?_
                refine gw_blk ?_
                refine gw_nx (hK94 _ _ ?_)
                refine wp_region_lit ?_
                refine gw_ev HF413 (want_none rfl) rfl (by decide) (op_add rfl (HF413.ev rfl) (ev_c _ _) (by omega)) ?_
                intro a414 HF415; clear HF413
                refine gw_ev HF415 (want_none rfl) rfl (by decide) (op_move rfl (HF415.ev rfl)) ?_
                intro a416 HF417; clear HF415
                refine wpList_nil ?_
                refine gw_nx ⟨_, ?_, i + 1, ((syncD (⟨#[102]⟩ : ByteArray) ((appendD (⟨#[102]⟩ : ByteArray) (parts.getD i.toNat ([] : List Int)) d).1)).1), S389, (all ++ (parts.getD i.toNat ([] : List Int))), A364, c365, _, (((all ++ (parts.getD i.toNat ([] : List Int))).length) : Int), (HF417.pick (t := 31) rfl (HF417.pick (t := 10) rfl (HF417.pick (t := 11) rfl (HF417.pick (t := 1) rfl (HF417.pick (t := 2) rfl (HF417.pick (t := 3) rfl (HF417.pick (t := 8) rfl (HF417.pick (t := 9) rfl (HF417.pick (t := 29) rfl (HF417.pick (t := 30) rfl HF417.nil)))))))))), HO400.sel [1, 0] (by decide), ?_, ?_, rfl⟩
                · rw [hm87]; omega
                · omega
                · exact hJ407
              · skip
                have HF418 := HF404.subst_ (d := 66) (b := false) rfl hb405
                clear HF404
                (try simp only [Bool.and_eq_true, Bool.or_eq_true, Bool.and_eq_false_iff, Bool.or_eq_false_iff, Bool.not_and, Bool.not_or, Bool.not_not, decide_eq_true_eq, decide_eq_false_iff_not, Bool.not_eq_true', Bool.not_eq_false', Bool.not_eq_true, Bool.not_eq_false, ne_eq, Decidable.not_not, Int.not_lt, Int.not_le, not_true_eq_false, not_false_eq_true, bne_iff_ne, beq_iff_eq, bne_eq_false_iff_eq, beq_eq_false_iff_ne] at hb405)
                have hJ419 := hJ391.2 hb405
                refine wp_skip ?_
                refine gw_blk ?_
                refine gw_nx (hK94 _ _ ?_)
                refine wp_region_lit ?_
                refine gw_ev HF418 (want_none rfl) rfl (by decide) (op_add rfl (HF418.ev rfl) (ev_c _ _) (by omega)) ?_
                intro a420 HF421; clear HF418
                refine gw_ev HF421 (want_none rfl) rfl (by decide) (op_move rfl (HF421.ev rfl)) ?_
                intro a422 HF423; clear HF421
                refine wpList_nil ?_
                refine gw_nx ⟨_, ?_, i + 1, ((syncD (⟨#[102]⟩ : ByteArray) ((appendD (⟨#[102]⟩ : ByteArray) (parts.getD i.toNat ([] : List Int)) d).1)).1), S389, (all ++ (parts.getD i.toNat ([] : List Int))), A364, c365, _, safe, (HF423.pick (t := 31) rfl (HF423.pick (t := 10) rfl (HF423.pick (t := 11) rfl (HF423.pick (t := 1) rfl (HF423.pick (t := 2) rfl (HF423.pick (t := 3) rfl (HF423.pick (t := 8) rfl (HF423.pick (t := 9) rfl (HF423.pick (t := 29) rfl (HF423.pick (t := 30) rfl HF423.nil)))))))))), HO400.sel [1, 0] (by decide), ?_, ?_, rfl⟩
                · rw [hm87]; omega
                · omega
                · exact hJ419
            · skip
              have HF424 := HF384.subst_ (d := 62) (b := false) rfl hb385
              clear HF384
              (try simp only [Bool.and_eq_true, Bool.or_eq_true, Bool.and_eq_false_iff, Bool.or_eq_false_iff, Bool.not_and, Bool.not_or, Bool.not_not, decide_eq_true_eq, decide_eq_false_iff_not, Bool.not_eq_true', Bool.not_eq_false', Bool.not_eq_true, Bool.not_eq_false, ne_eq, Decidable.not_not, Int.not_lt, Int.not_le, not_true_eq_false, not_false_eq_true, bne_iff_ne, beq_iff_eq, bne_eq_false_iff_eq, beq_eq_false_iff_ne] at hb385)
              refine gw_off HF424 (want_no HF424 rfl rfl rfl rfl (by decide)) rfl (by decide) ?_
              intro a425 HF426; clear HF424
              refine gw_off HF426 (want_no HF426 rfl rfl rfl rfl (by decide)) rfl (by decide) ?_
              intro a427 HF428; clear HF426
              refine gw_off HF428 (want_no HF428 rfl rfl rfl rfl (by decide)) rfl (by decide) ?_
              intro a429 HF430; clear HF428
              refine gw_ev HF430 (want_none rfl) rfl (by decide) (op_pick_f rfl (HF430.ev rfl) (ev_c _ _)) ?_
              intro a431 HF432; clear HF430
              refine wpList_nil ?_
              refine gw_nx (hK374 _ _ ?_)
              refine gw_cond HF432 rfl (fun hb433 => ?_) (fun hb433 => ?_)
              skip
              · cases hb433
              refine wp_skip ?_
              refine gw_blk ?_
              refine gw_nx (hK94 _ _ ?_)
              refine wp_region_lit ?_
              refine gw_ev HF432 (want_none rfl) rfl (by decide) (op_add rfl (HF432.ev rfl) (ev_c _ _) (by omega)) ?_
              intro a434 HF435; clear HF432
              refine gw_ev HF435 (want_none rfl) rfl (by decide) (op_move rfl (HF435.ev rfl)) ?_
              intro a436 HF437; clear HF435
              refine wpList_nil ?_
              refine gw_nx ⟨_, ?_, i + 1, ((appendD (⟨#[102]⟩ : ByteArray) (parts.getD i.toNat ([] : List Int)) d).1), S343, (all ++ (parts.getD i.toNat ([] : List Int))), A364, c365, _, safe, (HF437.pick (t := 31) rfl (HF437.pick (t := 10) rfl (HF437.pick (t := 11) rfl (HF437.pick (t := 1) rfl (HF437.pick (t := 2) rfl (HF437.pick (t := 3) rfl (HF437.pick (t := 8) rfl (HF437.pick (t := 9) rfl (HF437.pick (t := 29) rfl (HF437.pick (t := 30) rfl HF437.nil)))))))))), HO371.sel [1, 0] (by decide), ?_, ?_, rfl⟩
              · rw [hm87]; omega
              · omega
              · exact hJ359
          · skip
            have HF438 := HF356.subst_ (d := 54) (b := false) rfl hb357
            clear HF356
            (try simp only [Bool.and_eq_true, Bool.or_eq_true, Bool.and_eq_false_iff, Bool.or_eq_false_iff, Bool.not_and, Bool.not_or, Bool.not_not, decide_eq_true_eq, decide_eq_false_iff_not, Bool.not_eq_true', Bool.not_eq_false', Bool.not_eq_true, Bool.not_eq_false, ne_eq, Decidable.not_not, Int.not_lt, Int.not_le, not_true_eq_false, not_false_eq_true, bne_iff_ne, beq_iff_eq, bne_eq_false_iff_eq, beq_eq_false_iff_ne] at hb357)
            have hJ439 := hJ345.2 hb357
            refine wp_skip ?_
            refine gw_nx (hK337 _ _ ?_)
            refine gw_seq fun K440 hK440 => ?_
            refine wp_region_lit ?_
            refine gw_ev HF438 (want_none rfl) rfl (by decide) (op_move rfl (HF438.ev rfl)) ?_
            intro a441 HF442; clear HF438
            refine gw_ev HF442 (want_none rfl) rfl (by decide) (op_move rfl (HF442.ev rfl)) ?_
            intro a443 HF444; clear HF442
            refine gw_ev HF444 (want_none rfl) rfl (by decide) (op_and rfl (HF444.ev rfl) (ev_c _ _)) ?_
            intro a445 HF446; clear HF444
            refine gw_ev HF446 (want_none rfl) rfl (by decide) (op_leq rfl (HF446.ev rfl) (HF446.ev rfl)) ?_
            intro a447 HF448; clear HF446
            refine gw_ev HF448 (want_none rfl) rfl (by decide) (op_move rfl (HF448.ev rfl)) ?_
            intro a449 HF450; clear HF448
            rcases Bool.eq_false_or_eq_true (decide (i ≤ (bits .and .i64 synced 15))) with hb451 | hb451
            · skip
              have HF452 := HF450.subst_ (d := 62) (b := true) rfl hb451
              clear HF450
              (try simp only [Bool.and_eq_true, Bool.or_eq_true, Bool.and_eq_false_iff, Bool.or_eq_false_iff, Bool.not_and, Bool.not_or, Bool.not_not, decide_eq_true_eq, decide_eq_false_iff_not, Bool.not_eq_true', Bool.not_eq_false', Bool.not_eq_true, Bool.not_eq_false, ne_eq, Decidable.not_not, Int.not_lt, Int.not_le, not_true_eq_false, not_false_eq_true, bne_iff_ne, beq_iff_eq, bne_eq_false_iff_eq, beq_eq_false_iff_ne] at hb451)
              refine gw_ev HF452 (want_yes HF452 rfl rfl rfl rfl) rfl (by decide) (op_move rfl (HF452.ev rfl)) ?_
              intro a453 HF454; clear HF452
              have HO464 : Own w _ [(Chunk.all [Chunk.row (Kd.int .u8) 5 w.heap.size Sa (.slice Aa all.length ca) all]), Chunk.disk w.heap.size gd5 S343 ((appendD (⟨#[102]⟩ : ByteArray) (parts.getD i.toNat ([] : List Int)) d).1)] := Own.bundle (A := [Chunk.row (Kd.int .u8) 5 w.heap.size Sa (.slice Aa all.length ca) all]) (L := [Chunk.disk w.heap.size gd5 S343 ((appendD (⟨#[102]⟩ : ByteArray) (parts.getD i.toNat ([] : List Int)) d).1)]) (HO354.sel [0, 1] (by decide))
              refine gw_call HF454 (want_yes HF454 rfl rfl rfl rfl) rfl (by decide) (op_callL Try.func16 (by kernel_rfl) rfl rfl (ar_cons (HF454.ev rfl) (ar_cons (ev_c _ _) ar_nil))) (sync_calls w _ (Chunk.all [Chunk.row (Kd.int .u8) 5 w.heap.size Sa (.slice Aa all.length ca) all]) gd5 S343 ((appendD (⟨#[102]⟩ : ByteArray) (parts.getD i.toNat ([] : List Int)) d).1) (⟨#[102]⟩ : ByteArray) hJ439.wf (by decide) (by exact HO464)) ?_
              rintro e458 w459 ⟨rfl, S455, hb460⟩
              refine ⟨_, rfl, fun a461 HF462 => ?_⟩
              have HO463 : Own w w459 [Chunk.row (Kd.int .u8) 5 w.heap.size Sa (.slice Aa all.length ca) all, Chunk.disk w.heap.size gd5 S455 ((syncD (⟨#[102]⟩ : ByteArray) ((appendD (⟨#[102]⟩ : ByteArray) (parts.getD i.toNat ([] : List Int)) d).1)).1)] := Own.unbundle (A := [Chunk.row (Kd.int .u8) 5 w.heap.size Sa (.slice Aa all.length ca) all]) (L := [Chunk.disk w.heap.size gd5 S455 ((syncD (⟨#[102]⟩ : ByteArray) ((appendD (⟨#[102]⟩ : ByteArray) (parts.getD i.toNat ([] : List Int)) d).1)).1)]) (hb460.sel [0, 1] (by decide))
              clear HO464
              clear HF454 HO354 hb460
              have HO466 : Own w w459 [Chunk.row (Kd.int .u8) 5 w.heap.size Sa (.slice Aa all.length ca) all, Chunk.disk w.heap.size gd5 S455 ((syncD (⟨#[102]⟩ : ByteArray) ((appendD (⟨#[102]⟩ : ByteArray) (parts.getD i.toNat ([] : List Int)) d).1)).1)] := HO463
              clear HO463
              have hJ457 := hJ439.sync
              refine gw_ev HF462 (want_yes HF462 rfl rfl rfl rfl) rfl (by decide) (op_eqi rfl (HF462.ev rfl) (ev_c _ _)) ?_
              intro a467 HF468; clear HF462
              refine gw_ev HF468 (want_none rfl) rfl (by decide) (op_pick_t rfl (HF468.ev rfl) (HF468.ev rfl)) ?_
              intro a469 HF470; clear HF468
              refine wpList_nil ?_
              refine gw_nx (hK440 _ _ ?_)
              refine gw_cond HF470 rfl (fun hb471 => ?_) (fun hb471 => ?_)
              · skip
                have HF472 := HF470.subst_ (d := 66) (b := true) rfl hb471
                clear HF470
                (try simp only [Bool.and_eq_true, Bool.or_eq_true, Bool.and_eq_false_iff, Bool.or_eq_false_iff, Bool.not_and, Bool.not_or, Bool.not_not, decide_eq_true_eq, decide_eq_false_iff_not, Bool.not_eq_true', Bool.not_eq_false', Bool.not_eq_true, Bool.not_eq_false, ne_eq, Decidable.not_not, Int.not_lt, Int.not_le, not_true_eq_false, not_false_eq_true, bne_iff_ne, beq_iff_eq, bne_eq_false_iff_eq, beq_eq_false_iff_ne] at hb471)
                have hJ473 := hJ457.1 hb471
                refine wp_region_lit ?_
                refine gw_ev HF472 (want_none rfl) rfl (by decide) (op_move rfl (HF472.ev rfl)) ?_
                intro a474 HF475; clear HF472
                refine gw_ev HF475 (want_none rfl) rfl (by decide) (op_len Try.underlying28 rfl (HF475.ev rfl)) ?_
                intro a476 HF477; clear HF475
                refine gw_ev HF477 (want_none rfl) rfl (by decide) (op_assign rfl (HF477.ev rfl)) ?_
                intro a478 HF479; clear HF477
                refine wpList_nil ?_
                refine gw_blk ?_
                refine gw_nx (hK94 _ _ ?_)
                refine wp_region_lit ?_
                refine gw_ev HF479 (want_none rfl) rfl (by decide) (op_add rfl (HF479.ev rfl) (ev_c _ _) (by omega)) ?_
                intro a480 HF481; clear HF479
                refine gw_ev HF481 (want_none rfl) rfl (by decide) (op_move rfl (HF481.ev rfl)) ?_
                intro a482 HF483; clear HF481
                refine wpList_nil ?_
                refine gw_nx ⟨_, ?_, i + 1, ((syncD (⟨#[102]⟩ : ByteArray) ((appendD (⟨#[102]⟩ : ByteArray) (parts.getD i.toNat ([] : List Int)) d).1)).1), S455, all, Aa, ca, _, (all.length : Int), (HF483.pick (t := 31) rfl (HF483.pick (t := 10) rfl (HF483.pick (t := 11) rfl (HF483.pick (t := 1) rfl (HF483.pick (t := 2) rfl (HF483.pick (t := 3) rfl (HF483.pick (t := 8) rfl (HF483.pick (t := 9) rfl (HF483.pick (t := 29) rfl (HF483.pick (t := 30) rfl HF483.nil)))))))))), HO466.sel [1, 0] (by decide), ?_, ?_, rfl⟩
                · rw [hm87]; omega
                · omega
                · exact hJ473
              · skip
                have HF484 := HF470.subst_ (d := 66) (b := false) rfl hb471
                clear HF470
                (try simp only [Bool.and_eq_true, Bool.or_eq_true, Bool.and_eq_false_iff, Bool.or_eq_false_iff, Bool.not_and, Bool.not_or, Bool.not_not, decide_eq_true_eq, decide_eq_false_iff_not, Bool.not_eq_true', Bool.not_eq_false', Bool.not_eq_true, Bool.not_eq_false, ne_eq, Decidable.not_not, Int.not_lt, Int.not_le, not_true_eq_false, not_false_eq_true, bne_iff_ne, beq_iff_eq, bne_eq_false_iff_eq, beq_eq_false_iff_ne] at hb471)
                have hJ485 := hJ457.2 hb471
                refine wp_skip ?_
                refine gw_blk ?_
                refine gw_nx (hK94 _ _ ?_)
                refine wp_region_lit ?_
                refine gw_ev HF484 (want_none rfl) rfl (by decide) (op_add rfl (HF484.ev rfl) (ev_c _ _) (by omega)) ?_
                intro a486 HF487; clear HF484
                refine gw_ev HF487 (want_none rfl) rfl (by decide) (op_move rfl (HF487.ev rfl)) ?_
                intro a488 HF489; clear HF487
                refine wpList_nil ?_
                refine gw_nx ⟨_, ?_, i + 1, ((syncD (⟨#[102]⟩ : ByteArray) ((appendD (⟨#[102]⟩ : ByteArray) (parts.getD i.toNat ([] : List Int)) d).1)).1), S455, all, Aa, ca, _, safe, (HF489.pick (t := 31) rfl (HF489.pick (t := 10) rfl (HF489.pick (t := 11) rfl (HF489.pick (t := 1) rfl (HF489.pick (t := 2) rfl (HF489.pick (t := 3) rfl (HF489.pick (t := 8) rfl (HF489.pick (t := 9) rfl (HF489.pick (t := 29) rfl (HF489.pick (t := 30) rfl HF489.nil)))))))))), HO466.sel [1, 0] (by decide), ?_, ?_, rfl⟩
                · rw [hm87]; omega
                · omega
                · exact hJ485
            · skip
              have HF490 := HF450.subst_ (d := 62) (b := false) rfl hb451
              clear HF450
              (try simp only [Bool.and_eq_true, Bool.or_eq_true, Bool.and_eq_false_iff, Bool.or_eq_false_iff, Bool.not_and, Bool.not_or, Bool.not_not, decide_eq_true_eq, decide_eq_false_iff_not, Bool.not_eq_true', Bool.not_eq_false', Bool.not_eq_true, Bool.not_eq_false, ne_eq, Decidable.not_not, Int.not_lt, Int.not_le, not_true_eq_false, not_false_eq_true, bne_iff_ne, beq_iff_eq, bne_eq_false_iff_eq, beq_eq_false_iff_ne] at hb451)
              refine gw_off HF490 (want_no HF490 rfl rfl rfl rfl (by decide)) rfl (by decide) ?_
              intro a491 HF492; clear HF490
              refine gw_off HF492 (want_no HF492 rfl rfl rfl rfl (by decide)) rfl (by decide) ?_
              intro a493 HF494; clear HF492
              refine gw_off HF494 (want_no HF494 rfl rfl rfl rfl (by decide)) rfl (by decide) ?_
              intro a495 HF496; clear HF494
              refine gw_ev HF496 (want_none rfl) rfl (by decide) (op_pick_f rfl (HF496.ev rfl) (ev_c _ _)) ?_
              intro a497 HF498; clear HF496
              refine wpList_nil ?_
              refine gw_nx (hK440 _ _ ?_)
              refine gw_cond HF498 rfl (fun hb499 => ?_) (fun hb499 => ?_)
              skip
              · cases hb499
              refine wp_skip ?_
              refine gw_blk ?_
              refine gw_nx (hK94 _ _ ?_)
              refine wp_region_lit ?_
              refine gw_ev HF498 (want_none rfl) rfl (by decide) (op_add rfl (HF498.ev rfl) (ev_c _ _) (by omega)) ?_
              intro a500 HF501; clear HF498
              refine gw_ev HF501 (want_none rfl) rfl (by decide) (op_move rfl (HF501.ev rfl)) ?_
              intro a502 HF503; clear HF501
              refine wpList_nil ?_
              refine gw_nx ⟨_, ?_, i + 1, ((appendD (⟨#[102]⟩ : ByteArray) (parts.getD i.toNat ([] : List Int)) d).1), S343, all, Aa, ca, _, safe, (HF503.pick (t := 31) rfl (HF503.pick (t := 10) rfl (HF503.pick (t := 11) rfl (HF503.pick (t := 1) rfl (HF503.pick (t := 2) rfl (HF503.pick (t := 3) rfl (HF503.pick (t := 8) rfl (HF503.pick (t := 9) rfl (HF503.pick (t := 29) rfl (HF503.pick (t := 30) rfl HF503.nil)))))))))), HO354.sel [1, 0] (by decide), ?_, ?_, rfl⟩
              · rw [hm87]; omega
              · omega
              · exact hJ439
    · skip
      have HF504 := HF90.subst_ (d := 32) (b := false) rfl hb92
      clear HF90
      (try simp only [Bool.and_eq_true, Bool.or_eq_true, Bool.and_eq_false_iff, Bool.or_eq_false_iff, Bool.not_and, Bool.not_or, Bool.not_not, decide_eq_true_eq, decide_eq_false_iff_not, Bool.not_eq_true', Bool.not_eq_false', Bool.not_eq_true, Bool.not_eq_false, ne_eq, Decidable.not_not, Int.not_lt, Int.not_le, not_true_eq_false, not_false_eq_true, bne_iff_ne, beq_iff_eq, bne_eq_false_iff_eq, beq_eq_false_iff_ne] at hb92)
      refine wp_exit ?_
      refine gw_thx ?_
      refine gw_thx ?_
      refine gw_in ?_
      refine gw_nx (hK73 _ _ ?_)
      refine gw_seq fun K505 hK505 => ?_
      refine wp_region_lit ?_
      refine gw_ev HF504 (want_none rfl) rfl (by decide) (op_move rfl (HF504.ev rfl)) ?_
      intro a506 HF507; clear HF504
      refine gw_ev HF507 (want_none rfl) rfl (by decide) (op_move rfl (HF507.ev rfl)) ?_
      intro a508 HF509; clear HF507
      refine gw_lit (enc := Value.int .i64) (fun _ => rfl) (xs := [keep]) (e := 3) HF509 HO86 (want_none rfl) rfl (by decide) (op_bslice (by kernel_rfl) rfl (pt_cons (HF509.ev rfl) pt_nil)) (by simp) ?_
      intro A510 S511 a512 w513 HF514 HO515; clear HF509 HO86
      have HO516 : Own w w513 [Chunk.row (Kd.int .i64) 3 w.heap.size S511 (.slice A510 (([keep]).length) (([keep]).length)) ([keep]), Chunk.disk w.heap.size gd5 Sd d, Chunk.row (Kd.int .u8) 5 w.heap.size Sa (.slice Aa all.length ca) all] := HO515
      clear HO515
      have HO526 : Own w _ [(Chunk.all [Chunk.row (Kd.int .i64) 3 w.heap.size S511 (.slice A510 (([keep]).length) (([keep]).length)) ([keep]), Chunk.row (Kd.int .u8) 5 w.heap.size Sa (.slice Aa all.length ca) all]), Chunk.disk w.heap.size gd5 Sd d] := Own.bundle (A := [Chunk.row (Kd.int .i64) 3 w.heap.size S511 (.slice A510 (([keep]).length) (([keep]).length)) ([keep]), Chunk.row (Kd.int .u8) 5 w.heap.size Sa (.slice Aa all.length ca) all]) (L := [Chunk.disk w.heap.size gd5 Sd d]) (HO516.sel [0, 2, 1] (by decide))
      refine gw_call HF514 (want_none rfl) rfl (by decide) (op_callL Try.func17 (by kernel_rfl) rfl rfl (ar_cons (HF514.ev rfl) (ar_cons (HF514.ev rfl) ar_nil))) (crash_calls w _ (Chunk.all [Chunk.row (Kd.int .i64) 3 w.heap.size S511 (.slice A510 (([keep]).length) (([keep]).length)) ([keep]), Chunk.row (Kd.int .u8) 5 w.heap.size Sa (.slice Aa all.length ca) all]) gd5 Sd d A510 (([keep]).length) ([keep]) (fun w_ h_ => (Kd.R_reads' ((Own.unbundle (A := [Chunk.row (Kd.int .i64) 3 w.heap.size S511 (.slice A510 (([keep]).length) (([keep]).length)) ([keep]), Chunk.row (Kd.int .u8) 5 w.heap.size Sa (.slice Aa all.length ca) all]) (L := []) h_).get 0 rfl)).2.2) (row_cap (HO516.get 0 rfl)) hJ.wf hJ.len (by exact HO526)) ?_
      rintro e520 w521 ⟨rfl, S517, hb522⟩
      refine ⟨_, rfl, fun a523 HF524 => ?_⟩
      have HO525 : Own w w521 [Chunk.row (Kd.int .i64) 3 w.heap.size S511 (.slice A510 (([keep]).length) (([keep]).length)) ([keep]), Chunk.row (Kd.int .u8) 5 w.heap.size Sa (.slice Aa all.length ca) all, Chunk.disk w.heap.size gd5 S517 (crashD ([keep]) d)] := Own.unbundle (A := [Chunk.row (Kd.int .i64) 3 w.heap.size S511 (.slice A510 (([keep]).length) (([keep]).length)) ([keep]), Chunk.row (Kd.int .u8) 5 w.heap.size Sa (.slice Aa all.length ca) all]) (L := [Chunk.disk w.heap.size gd5 S517 (crashD ([keep]) d)]) (hb522.sel [0, 1] (by decide))
      clear HO526
      clear HF514 HO516 hb522
      have HO528 : Own w w521 [Chunk.row (Kd.int .i64) 3 w.heap.size S511 (.slice A510 (([keep]).length) (([keep]).length)) ([keep]), Chunk.row (Kd.int .u8) 5 w.heap.size Sa (.slice Aa all.length ca) all, Chunk.disk w.heap.size gd5 S517 (crashD ([keep]) d)] := HO525
      clear HO525
      obtain ⟨m, hm1, hm2, hm3, hm4, hm5⟩ := hJ.crash keep
      have hJs := hJ.sf
      have hmL : (all.take m).length ≤ all.length := by rw [List.length_take]; omega
      refine wpList_nil ?_
      refine gw_nx (hK505 _ _ ?_)
      refine gw_seq fun K529 hK529 => ?_
      refine wp_region_lit ?_
      refine gw_ev HF524 (want_none rfl) rfl (by decide) (op_move rfl (HF524.ev rfl)) ?_
      intro a530 HF531; clear HF524
      refine gw_call HF531 (want_none rfl) rfl (by decide) (op_callL Try.func18 (by kernel_rfl) rfl rfl (ar_cons (HF531.ev rfl) (ar_cons (ev_c _ _) ar_nil))) ((by have h_ := read_calls w.heap.size gd5 S517 (crashD ([keep]) d) (⟨#[102]⟩ : ByteArray) _ (by exact HO528.get 2 rfl) (by decide) (wf_crash hJ.wf) (by have h_ := hJ.sf; rw [hm4]; omega); rw [show (readD (⟨#[102]⟩ : ByteArray) (crashD ([keep]) d)) = ((all.take m), 0) from hm5] at h_; (try dsimp only at h_); exact h_)) ?_
      rintro e535 w536 ⟨A532, c533, S534, rfl, hb537⟩
      refine ⟨_, rfl, fun a538 HF539 => ?_⟩
      have HO540 := HO528.fresh hb537
      have hbel541 := HO528.below
      clear HF531 HO528 hb537
      have HO542 := HO540.lowrow 0 rfl (base' := w.heap.size) (Below.size hbel541)
      have HO543 : Own w w536 [Chunk.row (Kd.int .u8) 5 w.heap.size S534 (.slice A532 ((all.take m).length) c533) (all.take m), Chunk.row (Kd.int .i64) 3 w.heap.size S511 (.slice A510 (([keep]).length) (([keep]).length)) ([keep]), Chunk.row (Kd.int .u8) 5 w.heap.size Sa (.slice Aa all.length ca) all, Chunk.disk w.heap.size gd5 S517 (crashD ([keep]) d)] := HO542
      clear HO542
      refine gw_ev HF539 (want_none rfl) rfl (by decide) (op_move rfl (HF539.ev rfl)) ?_
      intro a544 HF545; clear HF539
      refine gw_ev HF545 (want_none rfl) rfl (by decide) (op_extract rfl (HF545.ev rfl) rfl) ?_
      intro a546 HF547; clear HF545
      refine gw_ev HF547 (want_none rfl) rfl (by decide) (op_extract rfl (HF547.ev rfl) rfl) ?_
      intro a548 HF549; clear HF547
      refine gw_ev HF549 (want_none rfl) rfl (by decide) (op_assign rfl (HF549.ev rfl)) ?_
      intro a550 HF551; clear HF549
      refine gw_ev HF551 (want_none rfl) rfl (by decide) (op_assign rfl (HF551.ev rfl)) ?_
      intro a552 HF553; clear HF551
      refine wpList_nil ?_
      refine gw_nx (hK529 _ _ ?_)
      refine gw_seq fun K554 hK554 => ?_
      refine gw_seq fun K555 hK555 => ?_
      refine wp_region_lit ?_
      refine gw_ev HF553 (want_none rfl) rfl (by decide) (op_move rfl (HF553.ev rfl)) ?_
      intro a556 HF557; clear HF553
      refine gw_ev HF557 (want_none rfl) rfl (by decide) (op_nei rfl (HF557.ev rfl) (ev_c _ _)) ?_
      intro a558 HF559; clear HF557
      have HF560 := HF559.lit (b := false) (by decide)
      clear HF559
      refine gw_ev HF560 (want_none rfl) rfl (by decide) (op_move rfl (HF560.ev rfl)) ?_
      intro a561 HF562; clear HF560
      refine gw_ev HF562 (want_yes HF562 rfl rfl rfl rfl) rfl (by decide) (op_move rfl (HF562.ev rfl)) ?_
      intro a563 HF564; clear HF562
      refine gw_ev HF564 (want_yes HF564 rfl rfl rfl rfl) rfl (by decide) (op_len Try.underlying28 rfl (HF564.ev rfl)) ?_
      intro a565 HF566; clear HF564
      refine gw_ev HF566 (want_yes HF566 rfl rfl rfl rfl) rfl (by decide) (op_move rfl (HF566.ev rfl)) ?_
      intro a567 HF568; clear HF566
      refine gw_ev HF568 (want_yes HF568 rfl rfl rfl rfl) rfl (by decide) (op_lss rfl (HF568.ev rfl) (HF568.ev rfl)) ?_
      intro a569 HF570; clear HF568
      have HF571 := HF570.lit (b := false) (by rw [decide_eq_false_iff_not, List.length_take]; omega)
      clear HF570
      refine gw_ev HF571 (want_none rfl) rfl (by decide) (op_pick_f rfl (HF571.ev rfl) (HF571.ev rfl)) ?_
      intro a572 HF573; clear HF571
      refine gw_ev HF573 (want_none rfl) rfl (by decide) (op_move rfl (HF573.ev rfl)) ?_
      intro a574 HF575; clear HF573
      refine gw_ev HF575 (want_yes HF575 rfl rfl rfl rfl) rfl (by decide) (op_move rfl (HF575.ev rfl)) ?_
      intro a576 HF577; clear HF575
      refine gw_ev HF577 (want_yes HF577 rfl rfl rfl rfl) rfl (by decide) (op_len Try.underlying28 rfl (HF577.ev rfl)) ?_
      intro a578 HF579; clear HF577
      refine gw_ev HF579 (want_yes HF579 rfl rfl rfl rfl) rfl (by decide) (op_move rfl (HF579.ev rfl)) ?_
      intro a580 HF581; clear HF579
      refine gw_ev HF581 (want_yes HF581 rfl rfl rfl rfl) rfl (by decide) (op_len Try.underlying28 rfl (HF581.ev rfl)) ?_
      intro a582 HF583; clear HF581
      refine gw_ev HF583 (want_yes HF583 rfl rfl rfl rfl) rfl (by decide) (op_gtr rfl (HF583.ev rfl) (HF583.ev rfl)) ?_
      intro a584 HF585; clear HF583
      have HF586 := HF585.lit (b := false) (by rw [decide_eq_false_iff_not, List.length_take]; omega)
      clear HF585
      refine gw_ev HF586 (want_none rfl) rfl (by decide) (op_pick_f rfl (HF586.ev rfl) (HF586.ev rfl)) ?_
      intro a587 HF588; clear HF586
      refine gw_ev HF588 (want_none rfl) rfl (by decide) (op_move rfl (HF588.ev rfl)) ?_
      intro a589 HF590; clear HF588
      refine gw_ev HF590 (want_yes HF590 rfl rfl rfl rfl) rfl (by decide) (op_move rfl (HF590.ev rfl)) ?_
      intro a591 HF592; clear HF590
      refine gw_ev HF592 (want_yes HF592 rfl rfl rfl rfl) rfl (by decide) (op_move rfl (HF592.ev rfl)) ?_
      intro a593 HF594; clear HF592
      refine gw_ev HF594 (want_yes HF594 rfl rfl rfl rfl) rfl (by decide) (op_move rfl (HF594.ev rfl)) ?_
      intro a595 HF596; clear HF594
      refine gw_ev HF596 (want_yes HF596 rfl rfl rfl rfl) rfl (by decide) (op_len Try.underlying28 rfl (HF596.ev rfl)) ?_
      intro a597 HF598; clear HF596
      obtain ⟨hr599, hc600, hC601⟩ := cut_hi (P := Try.prog) (d := (Kd.int .u8)) (t := 28) (e := 5) Try.underlying28 gwsiz5 Aa ca all (row_cap (HO543.get 2 rfl)) (((all.take m).length) : Int) (by omega) (by omega)
      refine gw_ev HF598 (want_yes HF598 rfl rfl rfl rfl) rfl (by decide) (op_cut Try.underlying28 hr599 rfl (HF598.ev rfl) rfl (some_ev (HF598.ev rfl))) ?_
      intro a602 HF603; clear HF598
      refine gw_call HF603 (want_yes HF603 rfl rfl rfl rfl) rfl (by decide) (op_callL Try.func19 (by kernel_rfl) rfl rfl (ar_cons (HF603.ev rfl) (ar_cons (HF603.ev rfl) ar_nil))) (same_calls A532 c533 (all.take m) Aa ca (all.take (((all.take m).length) : Int).toNat) _ (Kd.R_reads' (HO543.get 0 rfl)).2.2 (row_cap (HO543.get 0 rfl)) (hC601 _ (Kd.R_reads' (HO543.get 2 rfl)).2.2) hc600 (by first | omega | (have h_ := hJ.sf; simp only [List.length_take]; omega))) ?_
      rintro e604 w605 ⟨rfl, hb606⟩
      refine ⟨_, rfl, fun a607 HF608 => ?_⟩
      have HO609 := HO543.after hb606
      clear HF603 HO543 hb606
      have HF611 := HF608.lit (b := true) (by rw [decide_eq_true_eq, Int.toNat_natCast, List.length_take, Nat.min_eq_left hm2])
      clear HF608
      refine gw_ev HF611 (want_yes HF611 rfl rfl rfl rfl) rfl (by decide) (op_not rfl (HF611.ev rfl)) ?_
      intro a612 HF613; clear HF611
      refine gw_ev HF613 (want_none rfl) rfl (by decide) (op_pick_f rfl (HF613.ev rfl) (HF613.ev rfl)) ?_
      intro a614 HF615; clear HF613
      refine wpList_nil ?_
      refine gw_nx (hK555 _ _ ?_)
      refine gw_cond HF615 rfl (fun hb616 => ?_) (fun hb616 => ?_)
      skip
      · cases hb616
      refine wp_skip ?_
      refine gw_nx (hK554 _ _ ?_)
      refine gw_seq fun K617 hK617 => ?_
      refine wp_region_lit ?_
      refine gw_ev HF615 (want_none rfl) rfl (by decide) (op_move rfl (HF615.ev rfl)) ?_
      intro a618 HF619; clear HF615
      refine gw_ev HF619 (want_none rfl) rfl (by decide) (op_len Try.underlying28 rfl (HF619.ev rfl)) ?_
      intro a620 HF621; clear HF619
      refine gw_ev HF621 (want_none rfl) rfl (by decide) (op_move rfl (HF621.ev rfl)) ?_
      intro a622 HF623; clear HF621
      refine gw_ev HF623 (want_none rfl) rfl (by decide) (op_move rfl (HF623.ev rfl)) ?_
      intro a624 HF625; clear HF623
      refine gw_ev HF625 (want_none rfl) rfl (by decide) (op_max rfl (HF625.ev rfl) (ev_c _ _)) ?_
      intro a626 HF627; clear HF625
      refine gw_ev HF627 (want_none rfl) rfl (by decide) (op_move rfl (HF627.ev rfl)) ?_
      intro a628 HF629; clear HF627
      refine gw_ev HF629 (want_none rfl) rfl (by decide) (op_len Try.underlying28 rfl (HF629.ev rfl)) ?_
      intro a630 HF631; clear HF629
      refine gw_ev HF631 (want_none rfl) rfl (by decide) (op_move rfl (HF631.ev rfl)) ?_
      intro a632 HF633; clear HF631
      refine gw_ev HF633 (want_none rfl) rfl (by decide) (op_sub rfl (HF633.ev rfl) (HF633.ev rfl) (by omega)) ?_
      intro a634 HF635; clear HF633
      refine gw_ev HF635 (want_none rfl) rfl (by decide) (op_min rfl (HF635.ev rfl) (HF635.ev rfl)) ?_
      intro a636 HF637; clear HF635
      refine gw_ev HF637 (want_none rfl) rfl (by decide) (op_add rfl (HF637.ev rfl) (HF637.ev rfl) (by omega)) ?_
      intro a638 HF639; clear HF637
      refine gw_ev HF639 (want_none rfl) rfl (by decide) (op_eqi rfl (HF639.ev rfl) (HF639.ev rfl)) ?_
      intro a640 HF641; clear HF639
      have HF642 := HF641.lit (b := true) (by rw [decide_eq_true_eq, List.length_take, Nat.min_eq_left hm2]; exact hm1)
      clear HF641
      refine gw_ev HF642 (want_none rfl) rfl (by decide) (op_assign rfl (HF642.ev rfl)) ?_
      intro a643 HF644; clear HF642
      refine wpList_nil ?_
      refine gw_nx (hK617 _ _ ?_)
      refine wp_ret ?_
      refine gw_ret1 HF644 rfl rfl ?_
      exact ⟨rfl, HO609.below⟩
end GVfsK_
export GVfsK_ (VfsKeeps_walk)
open Classical in
noncomputable def colloquylaw07_VfsKeeps.f (l0 : List (List Int)) (a1 : Int) (a2 : Int) (a3 : Int) : Option Bool := if (l0.length ≤ 9223372036854775807) then some true else none
theorem colloquylaw07_VfsKeeps.calls (A0 : Option Addr) (c0 : Nat) (l0 : List (List Int)) (a1 : Int) (a2 : Int) (a3 : Int) (r : Bool) (w : World) (hr0 : Kd.C (Kd.slice 5 (Kd.int .u8)) w A0 l0.length l0) (hc0 : l0.length ≤ c0) (h : colloquylaw07_VfsKeeps.f l0 a1 a2 a3 = some r) :
    Calls Try.prog 3 #[(.slice A0 l0.length c0), (.int .i64 a1), (.int .i64 a2), (.int .i64 a3)] w fun e w' => e = .returned (.bool r) ∧ Below w.heap.size w w' := by
  unfold colloquylaw07_VfsKeeps.f at h
  split at h
  · cases h; rename_i hh; exact VfsKeeps_walk A0 c0 l0 a1 a2 a3 w hr0 hc0 hh
  · cases h
end Go.Proofs.Ytkdahjnmldeklaa.PA
