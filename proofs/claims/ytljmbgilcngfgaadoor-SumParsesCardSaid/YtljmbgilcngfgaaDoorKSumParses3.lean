/- What this claim uses of this session's own texts, put together by a program: GParse PAx2 PAx69 PAx1 PAx68 HSumG HSumH HSumI HSumQ PAx83 HSumR HSumS. -/
import Derived.Test.YtljmbgilcngfgaaDoorKSumParses2
import Derived.Test.YtljmbgilcngfgaaDoorProg
import Derived.Test.YtljmbgilcngfgaaDoorRows
import Derived.Test.YtljmbgilcngfgaaDoorCards
import Derived.Test.YtljmbgilcngfgaaDoorTie
namespace Go.Proofs.YtljmbgilcngfgaaDoor.PA
open Go.RowKit Go.Proofs.YtljmbgilcngfgaaDoorW.PrintWords Go.Proofs.YtljmbgilcngfgaaDoorW.PrintLast Go.Proofs.YtljmbgilcngfgaaDoorW.PrintMore
set_option linter.unusedVariables false
set_option linter.unusedSimpArgs false
set_option maxRecDepth 100000
set_option maxHeartbeats 8000000
namespace GParse_
theorem parse_calls (s : ByteArray) (w : World) (hs : s.size ≤ 100000000) (hL : LaidW w) :
    Calls Tryd.prog 18 #[.string s] w fun e w' => ∃ A_ c_ S_, e = .returned (.tuple #[(.agg #[.string (outS s).1, .string (outS s).2.1, .slice A_ (outS s).2.2.length c_]), .int .i64 (codeP s), .int .i64 (parseP s).2]) ∧ Out w w' (fun _ => False) [Chunk.view KP S_ A_ (outS s).2.2.length c_ (outS s).2.2] := by
 have hpl := pcs_len s
 have hpe := pcs_le s
 refine gw_start (N := 98) (vs := [.string s]) Tryd.func18 rfl rfl (by simp) fun a HF HO => ?_
 replace HO : Own w w [] := HO
 refine gR fun K1 hK1 => ?_
 refine gw_new HF HO (want_none rfl) rfl (by decide) (op_alloc gwzer24 rfl) ?_
 intro g2 _ w4 H5 O6; clear HF HO
 have O7 : Own w w4 [Bk g2 [.string (⟨#[]⟩ : ByteArray), .string (⟨#[]⟩ : ByteArray), .slice none 0 0] 24] := O6
 clear O6
 refine Vc H5 fun _ H9 => ?_
 refine Vc H9 fun _ H11 => ?_
 refine gE hK1 ?_
 refine gR fun K12 hK12 => ?_
 clear H5 H9
 refine gw_new H11 O7 (want_none rfl) rfl (by decide) (op_alloc gwzer24 rfl) ?_
 intro g13 _ w15 H16 O17; clear H11 O7
 have O18 : Own w w15 [Bk g13 [.string (⟨#[]⟩ : ByteArray), .string (⟨#[]⟩ : ByteArray), .slice none 0 0] 24, Bk g2 [.string (⟨#[]⟩ : ByteArray), .string (⟨#[]⟩ : ByteArray), .slice none 0 0] 24] := O17
 clear O17
 obtain ⟨S20, O19⟩ := O18.sp_start
 clear O18
 refine gE hK12 ?_
 refine gR fun K21 hK21 => ?_
 refine Vm H16 fun _ H23 => ?_
 clear H16
 refine Wk H23 Tryd.func30 rfl (ar_cons (H23.ev rfl) (ar_cons (ev_c _ _) ar_nil)) (split_calls s _ (by omega) (hL.own O19)) ?_
 rintro e28 w29 ⟨A24, c25, S26, rfl, hb30⟩
 refine ⟨_, rfl, fun _ H32 => ?_⟩
 have O33 := O19.fresh hb30
 clear H23 O19 hb30
 refine Va H32 fun _ H36 => ?_
 refine gE hK21 ?_
 clear H32
 refine gw_joinS (fun a_ w_ => ∃ (AL : List ByteArray) (A6 : Option Addr) (c6 : Nat) (S6 : Nat → Prop), Fr 98 a_ [(6, .slice A6 AL.length c6), (2, .pointer (some ⟨g2, 0, none⟩)), (3, J 0), (4, J 0), (5, .pointer (some ⟨g13, 0, none⟩))] ∧ Own w w_ [Chunk.view Kd.string S6 A6 AL.length c6 AL, Chunk.sp w.heap.size S20 none 0 ([] : List PP), Bk g13 [.string (⟨#[]⟩ : ByteArray), .string (⟨#[]⟩ : ByteArray), .slice none 0 0] 24, Bk g2 [.string (⟨#[]⟩ : ByteArray), .string (⟨#[]⟩ : ByteArray), .slice none 0 0] 24] ∧ (AL = allL s)) ?_ ?_
 ·
  refine gR fun K37 hK37 => ?_
  refine Vm H36 fun _ H39 => ?_
  refine V H39 (op_len Tryd.underlying58 rfl (H39.ev rfl)) fun _ H41 => ?_
  refine V H41 (op_sub rfl (H41.ev rfl) (ev_c _ _) (by omega)) fun _ H43 => ?_
  refine Va H43 fun _ H45 => ?_
  refine gE hK37 ?_
  refine gR fun K46 hK46 => ?_
  refine Vm H45 fun _ H48 => ?_
  refine Vm H48 fun _ H50 => ?_
  clear H36 H39 H41 H43 H45 H48
  have O57 := O33.pin 0 rfl
  clear O33
  have O58 : Own w w29 [Chunk.viewAt w29 Kd.string S26 A24 ((pcs s).length) c25 (pcs s), Chunk.sp w.heap.size S20 none 0 ([] : List PP), Bk g13 [.string (⟨#[]⟩ : ByteArray), .string (⟨#[]⟩ : ByteArray), .slice none 0 0] 24, Bk g2 [.string (⟨#[]⟩ : ByteArray), .string (⟨#[]⟩ : ByteArray), .slice none 0 0] 24] := O57
  clear O57
  obtain ⟨ad51, cs54, hA52, hl55, hK56, hc53, _⟩ := Kd.F_get (viewAt_F (O58.get 0 rfl)) (⟨#[]⟩ : ByteArray) ((((pcs s).length) : Int) - 1) (by omega) (by omega)
  obtain rfl := str_openF hK56
  clear hl55
  refine V H50 (op_index Tryd.underlying58 gwsiz9 rfl (H50.ev rfl) (H50.ev rfl) hA52 (⟨by omega, by omega⟩)) fun _ H60 => ?_
  refine V H60 (op_load1 gwagg9 rfl (H60.ev rfl) (((pin_cells (O58.get 0 rfl) hA52 hc53) 0 _ rfl))) fun _ H62 => ?_
  refine V H62 (op_eqs rfl (H62.ev rfl) (ev_c _ _)) fun _ H64 => ?_
  refine gE hK46 ?_
  clear H50 H60 H62
  refine gw_cond H64 rfl (fun hb65 => ?_) (fun hb65 => ?_)
  ·
   have H66 := H64.subst_ (d := 22) (b := true) rfl hb65
   clear H64
   (try simp only [beq_iff_eq, beq_eq_false_iff_ne, ne_eq] at hb65)
   have hlast := hb65
   refine wp_region_lit ?_
   refine Vm H66 fun _ H68 => ?_
   refine Vm H68 fun _ H70 => ?_
   clear H66 H68
   obtain ⟨hr71, hc72, hC73⟩ := cut_hi (P := Tryd.prog) (d := Kd.string) (t := 58) (e := 9) Tryd.underlying58 gwsiz9 A24 c25 (pcs s) (viewAt_le (O58.get 0 rfl)) ((((pcs s).length) : Int) - 1) (by omega) (by omega)
   refine V H70 (op_cut Tryd.underlying58 hr71 rfl (H70.ev rfl) rfl (some_ev (H70.ev rfl))) fun _ H75 => ?_
   clear H70
   have O76 := O58.unpin 0 rfl
   clear O58
   have O77 : Own w w29 [Chunk.view Kd.string S26 A24 ((pcs s).length) c25 (pcs s), Chunk.sp w.heap.size S20 none 0 ([] : List PP), Bk g13 [.string (⟨#[]⟩ : ByteArray), .string (⟨#[]⟩ : ByteArray), .slice none 0 0] 24, Bk g2 [.string (⟨#[]⟩ : ByteArray), .string (⟨#[]⟩ : ByteArray), .slice none 0 0] 24] := O76
   clear O76
   have O78 := O77.view_cut 0 rfl (A' := A24) (n' := (((pcs s).take ((((pcs s).length) : Int) - 1).toNat).length)) (c' := c25) (ys := ((pcs s).take ((((pcs s).length) : Int) - 1).toNat)) hc72 hC73 (fun ad e => ⟨ad, e, rfl⟩)
   clear O77
   have O79 : Own w w29 [Chunk.view Kd.string S26 A24 (((pcs s).take ((((pcs s).length) : Int) - 1).toNat).length) c25 ((pcs s).take ((((pcs s).length) : Int) - 1).toNat), Chunk.sp w.heap.size S20 none 0 ([] : List PP), Bk g13 [.string (⟨#[]⟩ : ByteArray), .string (⟨#[]⟩ : ByteArray), .slice none 0 0] 24, Bk g2 [.string (⟨#[]⟩ : ByteArray), .string (⟨#[]⟩ : ByteArray), .slice none 0 0] 24] := O78
   clear O78
   refine Va H75 fun _ H81 => ?_
   clear H75
   refine wpList_nil ?_
   refine gw_nx ⟨((pcs s).take ((((pcs s).length) : Int) - 1).toNat), A24, c25, S26, (H81.pick (t := 6) rfl (H81.pick (t := 2) rfl (H81.pick (t := 3) rfl (H81.pick (t := 4) rfl (H81.pick (t := 5) rfl H81.nil))))), O79.sel [0, 1, 2, 3] (by decide), ?_⟩
   exact allL_yes s hlast
  have H82 := H64.subst_ (d := 22) (b := false) rfl hb65
  clear H64
  (try simp only [beq_iff_eq, beq_eq_false_iff_ne, ne_eq] at hb65)
  have hlast := hb65
  refine wp_skip ?_
  have O83 := O58.unpin 0 rfl
  clear O58
  have O84 : Own w w29 [Chunk.view Kd.string S26 A24 ((pcs s).length) c25 (pcs s), Chunk.sp w.heap.size S20 none 0 ([] : List PP), Bk g13 [.string (⟨#[]⟩ : ByteArray), .string (⟨#[]⟩ : ByteArray), .slice none 0 0] 24, Bk g2 [.string (⟨#[]⟩ : ByteArray), .string (⟨#[]⟩ : ByteArray), .slice none 0 0] 24] := O83
  clear O83
  refine gw_nx ⟨(pcs s), A24, c25, S26, (H82.pick (t := 6) rfl (H82.pick (t := 2) rfl (H82.pick (t := 3) rfl (H82.pick (t := 4) rfl (H82.pick (t := 5) rfl H82.nil))))), O84.sel [0, 1, 2, 3] (by decide), ?_⟩
  exact allL_no s hlast
 rintro _ w86 ⟨AL, A6, c6, S6, H87, O88, hAL⟩
 refine gR fun K89 hK89 => ?_
 refine Vc H87 fun _ H91 => ?_
 refine gE hK89 ?_
 refine gw_seq fun K92 hK92 => ?_
 refine gR fun K93 hK93 => ?_
 refine Vm H91 fun _ H95 => ?_
 refine V H95 (op_len Tryd.underlying58 rfl (H95.ev rfl)) fun _ H97 => ?_
 refine V H97 (op_move rfl (ev_c _ _)) fun _ H99 => ?_
 refine gE hK93 ?_
 clear H87 H91 H95 H97
 refine wp_block ?_
 have O100 := O88.row_nil Kd.string 9 w.heap.size
 clear O88
 have O101 : Own w w86 [Chunk.row Kd.string 9 w.heap.size (fun _ => False) (.slice none (([] : List ByteArray).length) 0) ([] : List ByteArray), Chunk.view Kd.string S6 A6 AL.length c6 AL, Chunk.sp w.heap.size S20 none 0 ([] : List PP), Bk g13 [.string (⟨#[]⟩ : ByteArray), .string (⟨#[]⟩ : ByteArray), .slice none 0 0] 24, Bk g2 [.string (⟨#[]⟩ : ByteArray), .string (⟨#[]⟩ : ByteArray), .slice none 0 0] 24] := O100
 clear O100
 have O102 := O101.row_view 0 rfl
 clear O101
 have O103 : Own w w86 [Chunk.view Kd.string (fun _ => False) none (([] : List ByteArray).length) 0 ([] : List ByteArray), Chunk.view Kd.string S6 A6 AL.length c6 AL, Chunk.sp w.heap.size S20 none 0 ([] : List PP), Bk g13 [.string (⟨#[]⟩ : ByteArray), .string (⟨#[]⟩ : ByteArray), .slice none 0 0] 24, Bk g2 [.string (⟨#[]⟩ : ByteArray), .string (⟨#[]⟩ : ByteArray), .slice none 0 0] 24] := O102
 clear O102
 have hal := allL_len s
 rw [← hAL] at hal
 refine gw_loop (fun m_ a_ w_ => ∃ (i : Int) (su : ByteArray) (bo : ByteArray) (ps : List PP) (A : Option Addr) (c : Nat) (S : Nat → Prop) (At : Option Addr) (ct : Nat) (St : Nat → Prop) (TL : List ByteArray), Fr 98 a_ [(28, J i), (8, .slice At TL.length ct), (6, .slice A6 AL.length c6), (2, .pointer (some ⟨g2, 0, none⟩)), (5, .pointer (some ⟨g13, 0, none⟩)), (26, .slice A6 AL.length c6), (27, J (AL.length : Int))] ∧ Own w w_ [Chunk.view Kd.string St At TL.length ct TL, Chunk.view Kd.string S6 A6 AL.length c6 AL, Chunk.sp w.heap.size S A c ps, Bk g13 [.string su, .string bo, .slice A ps.length c] 24, Bk g2 [.string (⟨#[]⟩ : ByteArray), .string (⟨#[]⟩ : ByteArray), .slice none 0 0] 24] ∧ (0 ≤ i ∧ i ≤ AL.length) ∧ ((ps.length : Int) + sumL ps ≤ i ∧ (Option.isNone At = true → i ≤ 2 + (ps.length : Int) + sumL ps)) ∧ (parsL (AL.drop i.toNat) i su bo ps (Option.isNone At) TL = parseP s) ∧ m_ = (AL.length - i.toNat)) ((AL.length - (0 : Int).toNat)) ?_ ?_
 ·
  refine ⟨0, _, _, ([] : List PP), none, 0, _, none, 0, _, ([] : List ByteArray), (H99.pick (t := 28) rfl (H99.pick (t := 8) rfl (H99.pick (t := 6) rfl (H99.pick (t := 2) rfl (H99.pick (t := 5) rfl (H99.pick (t := 26) rfl (H99.pick (t := 27) rfl H99.nil))))))), O103.sel [0, 1, 2, 3, 4] (by decide), ?_, ?_, ?_, rfl⟩
  ·
   omega
  ·
   exact ⟨by simp [sumL], fun _ => by simp [sumL]⟩
  show parsL (AL.drop 0) 0 eB eB [] true [] = parseP s; rw [List.drop_zero, hAL]; rfl
 rintro m105 _ w107 ⟨i, su, bo, ps, A, c, S, At, ct, St, TL, H108, O109, hi, hcnt, hP, hm110⟩
 have hts := ts_size (AL.getD i.toNat (⟨#[]⟩ : ByteArray)) (⟨#[10]⟩ : ByteArray)
 have hAs : (AL.getD i.toNat (⟨#[]⟩ : ByteArray)).size ≤ s.size := by rw [hAL]; exact allL_at s i
 refine gR fun K111 hK111 => ?_
 refine V H108 (op_lss rfl (H108.ev rfl) (H108.ev rfl)) fun _ H113 => ?_
 refine gE hK111 ?_
 refine gw_seq fun K114 hK114 => ?_
 clear H108
 refine gw_cond H113 rfl (fun hb115 => ?_) (fun hb115 => ?_)
 ·
  have H116 := H113.subst_ (d := 29) (b := true) rfl hb115
  clear H113
  (try simp only [decide_eq_true_eq] at hb115)
  refine gS hK114 ?_
  refine gw_seq fun K117 hK117 => ?_
  refine wp_block ?_
  refine gR fun K118 hK118 => ?_
  refine Vm H116 fun _ H120 => ?_
  clear H116
  have O127 := O109.pin 1 rfl
  clear O109
  have O128 : Own w w107 [Chunk.view Kd.string St At TL.length ct TL, Chunk.viewAt w107 Kd.string S6 A6 AL.length c6 AL, Chunk.sp w.heap.size S A c ps, Bk g13 [.string su, .string bo, .slice A ps.length c] 24, Bk g2 [.string (⟨#[]⟩ : ByteArray), .string (⟨#[]⟩ : ByteArray), .slice none 0 0] 24] := O127
  clear O127
  obtain ⟨ad121, cs124, hA122, hl125, hK126, hc123, _⟩ := Kd.F_get (viewAt_F (O128.get 1 rfl)) (⟨#[]⟩ : ByteArray) i (by omega) (by omega)
  obtain rfl := str_openF hK126
  clear hl125
  refine V H120 (op_index Tryd.underlying58 gwsiz9 rfl (H120.ev rfl) (H120.ev rfl) hA122 (⟨by omega, by omega⟩)) fun _ H130 => ?_
  refine V H130 (op_load1 gwagg9 rfl (H130.ev rfl) (((pin_cells (O128.get 1 rfl) hA122 hc123) 0 _ rfl))) fun _ H132 => ?_
  refine Va H132 fun _ H134 => ?_
  refine Va H134 fun _ H136 => ?_
  refine gE hK118 ?_
  refine gR fun K137 hK137 => ?_
  refine Vm H136 fun _ H139 => ?_
  clear H120 H130 H132 H134 H136
  refine Wk H139 Tryd.func31 rfl (ar_cons (H139.ev rfl) (ar_cons (ev_c _ _) ar_nil)) (cs_calls (AL.getD i.toNat (⟨#[]⟩ : ByteArray)) (⟨#[10]⟩ : ByteArray) (by omega) _) ?_
  rintro e140 w141 ⟨rfl, hb142⟩
  refine ⟨_, rfl, fun _ H144 => ?_⟩
  have O145 := O128.after hb142
  clear H139 O128 hb142
  refine Vm H144 fun _ H148 => ?_
  refine Vx H148 fun _ H150 => ?_
  refine Vx H150 fun _ H152 => ?_
  refine Va H152 fun _ H154 => ?_
  refine Va H154 fun _ H156 => ?_
  refine gE hK137 ?_
  refine gw_seq fun K157 hK157 => ?_
  clear H144 H148 H150 H152 H154
  refine wp_block ?_
  refine gR fun K158 hK158 => ?_
  refine Vm H156 fun _ H160 => ?_
  refine V H160 (op_not rfl (H160.ev rfl)) fun _ H162 => ?_
  refine Va H162 fun _ H164 => ?_
  refine gE hK158 ?_
  clear H156 H160 H162
  refine gw_cond H164 rfl (fun hb165 => ?_) (fun hb165 => ?_)
  ·
   have H166 := H164.subst_ (d := 57) (b := true) rfl hb165
   clear H164
   (try simp only [Bool.and_eq_true, Bool.and_eq_false_iff, Bool.not_and, Bool.or_eq_true, Bool.or_eq_false_iff, Bool.not_or, Bool.not_not, Bool.not_eq_true', Bool.not_eq_false', Bool.not_eq_true, Bool.not_eq_false] at hb165)
   have hok : hsB (AL.getD i.toNat (⟨#[]⟩ : ByteArray)) lfB = false := by have hb_ := hb165; revert hb_; cases hsB (AL.getD i.toNat (⟨#[]⟩ : ByteArray)) (⟨#[10]⟩ : ByteArray) <;> simp
   refine wp_skip ?_
   refine gw_blk ?_
   refine gw_nx (hK157 _ _ ?_)
   refine gR fun K167 hK167 => ?_
   refine Vm H166 fun _ H169 => ?_
   refine V H169 (op_not rfl (H169.ev rfl)) fun _ H171 => ?_
   clear H166 H169
   have H172 := H171.lit (b := true) (by rw [hok]; rfl)
   clear H171
   refine gE hK167 ?_
   refine gw_cond H172 rfl (fun hb173 => ?_) (fun hb173 => ?_)
   rotate_left
   ·
    cases hb173
   refine gR fun K174 hK174 => ?_
   refine V H172 (op_build (cells := #[.string (⟨#[]⟩ : ByteArray), .string (⟨#[]⟩ : ByteArray), .slice none 0 0]) rfl pt_nil (by kernel_rfl)) fun _ H176 => ?_
   refine Vm H176 fun _ H178 => ?_
   clear H172 H176
   refine gw_setn 4 H178 O145 rfl (want_none rfl) rfl (op_storen gwsiz24 rfl (H178.ev rfl) (H178.ev rfl) (O145.get 4 rfl) rfl (by simp) (by simp [Value.oneCell'])) ?_
   intro _ w181 H180 O182; clear H178 O145
   refine Vc H180 fun _ H184 => ?_
   refine Va H184 fun _ H186 => ?_
   refine gE hK174 ?_
   refine wp_ret ?_
   clear H180 H184
   refine gw_blr ?_
   refine gw_thr ?_
   refine gw_thr ?_
   refine gw_blr ?_
   refine gw_thr ?_
   have O187 := O182.unpin 1 rfl
   clear O182
   have O188 : Own w w181 [Chunk.view Kd.string St At TL.length ct TL, Chunk.view Kd.string S6 A6 AL.length c6 AL, Chunk.sp w.heap.size S A c ps, Bk g13 [.string su, .string bo, .slice A ps.length c] 24, Bk g2 [.string (⟨#[]⟩ : ByteArray), .string (⟨#[]⟩ : ByteArray), .slice none 0 0] 24] := O187
   clear O187
   refine gw_rets3 H186 rfl (rv_celln H186 rfl gwagg24 gwsiz24 (O188.get 4 rfl) rfl) (rv_tmp H186 rfl) (rv_tmp H186 rfl) ?_
   have hr : parseP s = (none, i) := by rw [← hP, drop_at AL i (by omega) (by omega)]; exact pl_bad hok
   have ho_ : outS s = (eB, eB, []) := by unfold outS; rw [hr]; rfl
   have hc_ : codeP s = 80 := by unfold codeP; rw [hr]; rfl
   have O189_1 := (O188.row_nil KP 46 w.heap.size).row_view 0 rfl
   rw [ho_, hc_, hr]
   exact ⟨none, 0, _, rfl, (O189_1.sel [0] (by decide)).out⟩
  have H190 := H164.subst_ (d := 57) (b := false) rfl hb165
  clear H164
  (try simp only [Bool.and_eq_true, Bool.and_eq_false_iff, Bool.not_and, Bool.or_eq_true, Bool.or_eq_false_iff, Bool.not_or, Bool.not_not, Bool.not_eq_true', Bool.not_eq_false', Bool.not_eq_true, Bool.not_eq_false] at hb165)
  have hok : hsB (AL.getD i.toNat (⟨#[]⟩ : ByteArray)) lfB = true := by have hb_ := hb165; revert hb_; cases hsB (AL.getD i.toNat (⟨#[]⟩ : ByteArray)) (⟨#[10]⟩ : ByteArray) <;> simp
  refine gR fun K191 hK191 => ?_
  refine Vm H190 fun _ H193 => ?_
  refine V H193 (op_eqi rfl (H193.ev rfl) (ev_c _ _)) fun _ H195 => ?_
  refine Va H195 fun _ H197 => ?_
  refine gE hK191 ?_
  clear H190 H193 H195
  refine gw_cond H197 rfl (fun hb198 => ?_) (fun hb198 => ?_)
  ·
   have H199 := H197.subst_ (d := 60) (b := true) rfl hb198
   clear H197
   (try simp only [decide_eq_true_eq] at hb198)
   have hi0 := hb198
   refine wp_region_lit ?_
   refine Vm H199 fun _ H201 => ?_
   refine Vf H201 (gwfld24_0 _ _) fun _ H203 => ?_
   clear H199 H201
   have O210 : Own w _ [(Chunk.all [Chunk.view Kd.string St At TL.length ct TL, Chunk.viewAt w107 Kd.string S6 A6 AL.length c6 AL, Chunk.sp w.heap.size S A c ps, Bk g2 [.string (⟨#[]⟩ : ByteArray), .string (⟨#[]⟩ : ByteArray), .slice none 0 0] 24]), Bk g13 [.string su, .string bo, .slice A ps.length c] 24] := Own.bundle (O145.sel [0, 1, 2, 4, 3] (by decide))
   refine Wk H203 Tryd.func32 rfl (ar_cons (H203.ev rfl) (ar_cons (ev_c _ _) (ar_cons (H203.ev rfl) ar_nil))) (named_0 w (Chunk.all [Chunk.view Kd.string St At TL.length ct TL, Chunk.viewAt w107 Kd.string S6 A6 AL.length c6 AL, Chunk.sp w.heap.size S A c ps, Bk g2 [.string (⟨#[]⟩ : ByteArray), .string (⟨#[]⟩ : ByteArray), .slice none 0 0] 24]) g13 (tsB (AL.getD i.toNat (⟨#[]⟩ : ByteArray)) (⟨#[10]⟩ : ByteArray)) (⟨#[84, 101, 115, 116, 32, 114, 117, 110, 32, 111, 102, 32]⟩ : ByteArray) su (.string bo) (.slice A ps.length c) _ (by omega) O210) ?_
   rintro e204 w205 ⟨rfl, hb206⟩
   refine ⟨_, rfl, fun _ H208 => ?_⟩
   have O209 : Own w w205 [Chunk.view Kd.string St At TL.length ct TL, Chunk.viewAt w107 Kd.string S6 A6 AL.length c6 AL, Chunk.sp w.heap.size S A c ps, Bk g2 [.string (⟨#[]⟩ : ByteArray), .string (⟨#[]⟩ : ByteArray), .slice none 0 0] 24, Bk g13 [.string (nmB (tsB (AL.getD i.toNat (⟨#[]⟩ : ByteArray)) (⟨#[10]⟩ : ByteArray)) (⟨#[84, 101, 115, 116, 32, 114, 117, 110, 32, 111, 102, 32]⟩ : ByteArray)), .string bo, .slice A ps.length c] 24] := Own.unbundle (hb206.sel [0, 1] (by decide))
   clear O210
   clear H203 O145 hb206
   refine Va H208 fun _ H213 => ?_
   clear H208
   refine wpList_nil ?_
   refine gw_blk ?_
   refine gw_nx (hK157 _ _ ?_)
   refine gR fun K214 hK214 => ?_
   refine Vm H213 fun _ H216 => ?_
   refine V H216 (op_not rfl (H216.ev rfl)) fun _ H218 => ?_
   refine gE hK214 ?_
   clear H213 H216
   refine gw_cond H218 rfl (fun hb219 => ?_) (fun hb219 => ?_)
   ·
    have H220 := H218.subst_ (d := 83) (b := true) rfl hb219
    clear H218
    (try simp only [Bool.and_eq_true, Bool.and_eq_false_iff, Bool.not_and, Bool.or_eq_true, Bool.or_eq_false_iff, Bool.not_or, Bool.not_not, Bool.not_eq_true', Bool.not_eq_false', Bool.not_eq_true, Bool.not_eq_false] at hb219)
    have hnm := hb219
    refine gR fun K221 hK221 => ?_
    refine V H220 (op_build (cells := #[.string (⟨#[]⟩ : ByteArray), .string (⟨#[]⟩ : ByteArray), .slice none 0 0]) rfl pt_nil (by kernel_rfl)) fun _ H223 => ?_
    refine Vm H223 fun _ H225 => ?_
    clear H220 H223
    refine gw_setn 3 H225 O209 rfl (want_none rfl) rfl (op_storen gwsiz24 rfl (H225.ev rfl) (H225.ev rfl) (O209.get 3 rfl) rfl (by simp) (by simp [Value.oneCell'])) ?_
    intro _ w228 H227 O229; clear H225 O209
    refine Vc H227 fun _ H231 => ?_
    refine Va H231 fun _ H233 => ?_
    refine gE hK221 ?_
    refine wp_ret ?_
    clear H227 H231
    refine gw_blr ?_
    refine gw_thr ?_
    refine gw_thr ?_
    refine gw_blr ?_
    refine gw_thr ?_
    have O234 := O229.unpin 1 rfl
    clear O229
    have O235 : Own w w228 [Chunk.view Kd.string St At TL.length ct TL, Chunk.view Kd.string S6 A6 AL.length c6 AL, Chunk.sp w.heap.size S A c ps, Bk g2 [.string (⟨#[]⟩ : ByteArray), .string (⟨#[]⟩ : ByteArray), .slice none 0 0] 24, Bk g13 [.string (nmB (tsB (AL.getD i.toNat (⟨#[]⟩ : ByteArray)) (⟨#[10]⟩ : ByteArray)) (⟨#[84, 101, 115, 116, 32, 114, 117, 110, 32, 111, 102, 32]⟩ : ByteArray)), .string bo, .slice A ps.length c] 24] := O234
    clear O234
    refine gw_rets3 H233 rfl (rv_celln H233 rfl gwagg24 gwsiz24 (O235.get 3 rfl) rfl) (rv_tmp H233 rfl) (rv_tmp H233 rfl) ?_
    have hr : parseP s = (none, i) := by rw [← hP, drop_at AL i (by omega) (by omega)]; exact pl_0x hok (by omega) hnm
    have ho_ : outS s = (eB, eB, []) := by unfold outS; rw [hr]; rfl
    have hc_ : codeP s = 80 := by unfold codeP; rw [hr]; rfl
    have O236_1 := (O235.row_nil KP 46 w.heap.size).row_view 0 rfl
    rw [ho_, hc_, hr]
    exact ⟨none, 0, _, rfl, (O236_1.sel [0] (by decide)).out⟩
   have H237 := H218.subst_ (d := 83) (b := false) rfl hb219
   clear H218
   (try simp only [Bool.and_eq_true, Bool.and_eq_false_iff, Bool.not_and, Bool.or_eq_true, Bool.or_eq_false_iff, Bool.not_or, Bool.not_not, Bool.not_eq_true', Bool.not_eq_false', Bool.not_eq_true, Bool.not_eq_false] at hb219)
   have hnm := hb219
   refine wp_skip ?_
   refine gw_blk ?_
   refine gw_nx (hK117 _ _ ?_)
   refine wp_region_lit ?_
   refine V H237 (op_add rfl (H237.ev rfl) (ev_c _ _) (by omega)) fun _ H239 => ?_
   refine Vm H239 fun _ H241 => ?_
   clear H237 H239
   refine wpList_nil ?_
   have O242 := O209.unpin 1 rfl
   clear O209
   have O243 : Own w w205 [Chunk.view Kd.string St At TL.length ct TL, Chunk.view Kd.string S6 A6 AL.length c6 AL, Chunk.sp w.heap.size S A c ps, Bk g2 [.string (⟨#[]⟩ : ByteArray), .string (⟨#[]⟩ : ByteArray), .slice none 0 0] 24, Bk g13 [.string (nmB (tsB (AL.getD i.toNat (⟨#[]⟩ : ByteArray)) (⟨#[10]⟩ : ByteArray)) (⟨#[84, 101, 115, 116, 32, 114, 117, 110, 32, 111, 102, 32]⟩ : ByteArray)), .string bo, .slice A ps.length c] 24] := O242
   clear O242
   refine gw_nx ⟨_, ?_, i + 1, (nmB (tsB (AL.getD i.toNat (⟨#[]⟩ : ByteArray)) (⟨#[10]⟩ : ByteArray)) (⟨#[84, 101, 115, 116, 32, 114, 117, 110, 32, 111, 102, 32]⟩ : ByteArray)), bo, ps, A, c, S, At, ct, St, TL, (H241.pick (t := 28) rfl (H241.pick (t := 8) rfl (H241.pick (t := 6) rfl (H241.pick (t := 2) rfl (H241.pick (t := 5) rfl (H241.pick (t := 26) rfl (H241.pick (t := 27) rfl H241.nil))))))), O243.sel [0, 1, 2, 4, 3] (by decide), ?_, ?_, ?_, rfl⟩
   ·
    rw [hm110]; omega
   ·
    omega
   ·
    exact ⟨by omega, fun _ => by omega⟩
   rw [← hP, drop_at AL i (by omega) (by omega)]; symm; exact pl_0 hok (by omega) hnm
  have H244 := H197.subst_ (d := 60) (b := false) rfl hb198
  clear H197
  (try simp only [decide_eq_false_iff_not] at hb198)
  have hi0 := hb198
  refine gR fun K245 hK245 => ?_
  refine Vm H244 fun _ H247 => ?_
  refine V H247 (op_eqi rfl (H247.ev rfl) (ev_c _ _)) fun _ H249 => ?_
  refine Va H249 fun _ H251 => ?_
  refine gE hK245 ?_
  clear H244 H247 H249
  refine gw_cond H251 rfl (fun hb252 => ?_) (fun hb252 => ?_)
  ·
   have H253 := H251.subst_ (d := 66) (b := true) rfl hb252
   clear H251
   (try simp only [decide_eq_true_eq] at hb252)
   have hi1 := hb252
   refine wp_region_lit ?_
   refine Vm H253 fun _ H255 => ?_
   refine Vf H255 (gwfld24_1 _ _) fun _ H257 => ?_
   clear H253 H255
   have O264 : Own w _ [(Chunk.all [Chunk.view Kd.string St At TL.length ct TL, Chunk.viewAt w107 Kd.string S6 A6 AL.length c6 AL, Chunk.sp w.heap.size S A c ps, Bk g2 [.string (⟨#[]⟩ : ByteArray), .string (⟨#[]⟩ : ByteArray), .slice none 0 0] 24]), Bk g13 [.string su, .string bo, .slice A ps.length c] 24] := Own.bundle (O145.sel [0, 1, 2, 4, 3] (by decide))
   refine Wk H257 Tryd.func32 rfl (ar_cons (H257.ev rfl) (ar_cons (ev_c _ _) (ar_cons (H257.ev rfl) ar_nil))) (named_1 w (Chunk.all [Chunk.view Kd.string St At TL.length ct TL, Chunk.viewAt w107 Kd.string S6 A6 AL.length c6 AL, Chunk.sp w.heap.size S A c ps, Bk g2 [.string (⟨#[]⟩ : ByteArray), .string (⟨#[]⟩ : ByteArray), .slice none 0 0] 24]) g13 (tsB (AL.getD i.toNat (⟨#[]⟩ : ByteArray)) (⟨#[10]⟩ : ByteArray)) (⟨#[66, 111, 97, 114, 100, 32]⟩ : ByteArray) bo (.string su) (.slice A ps.length c) _ (by omega) O264) ?_
   rintro e258 w259 ⟨rfl, hb260⟩
   refine ⟨_, rfl, fun _ H262 => ?_⟩
   have O263 : Own w w259 [Chunk.view Kd.string St At TL.length ct TL, Chunk.viewAt w107 Kd.string S6 A6 AL.length c6 AL, Chunk.sp w.heap.size S A c ps, Bk g2 [.string (⟨#[]⟩ : ByteArray), .string (⟨#[]⟩ : ByteArray), .slice none 0 0] 24, Bk g13 [.string su, .string (nmB (tsB (AL.getD i.toNat (⟨#[]⟩ : ByteArray)) (⟨#[10]⟩ : ByteArray)) (⟨#[66, 111, 97, 114, 100, 32]⟩ : ByteArray)), .slice A ps.length c] 24] := Own.unbundle (hb260.sel [0, 1] (by decide))
   clear O264
   clear H257 O145 hb260
   refine Va H262 fun _ H267 => ?_
   clear H262
   refine wpList_nil ?_
   refine gw_blk ?_
   refine gw_nx (hK157 _ _ ?_)
   refine gR fun K268 hK268 => ?_
   refine Vm H267 fun _ H270 => ?_
   refine V H270 (op_not rfl (H270.ev rfl)) fun _ H272 => ?_
   refine gE hK268 ?_
   clear H267 H270
   refine gw_cond H272 rfl (fun hb273 => ?_) (fun hb273 => ?_)
   ·
    have H274 := H272.subst_ (d := 83) (b := true) rfl hb273
    clear H272
    (try simp only [Bool.and_eq_true, Bool.and_eq_false_iff, Bool.not_and, Bool.or_eq_true, Bool.or_eq_false_iff, Bool.not_or, Bool.not_not, Bool.not_eq_true', Bool.not_eq_false', Bool.not_eq_true, Bool.not_eq_false] at hb273)
    have hnm := hb273
    refine gR fun K275 hK275 => ?_
    refine V H274 (op_build (cells := #[.string (⟨#[]⟩ : ByteArray), .string (⟨#[]⟩ : ByteArray), .slice none 0 0]) rfl pt_nil (by kernel_rfl)) fun _ H277 => ?_
    refine Vm H277 fun _ H279 => ?_
    clear H274 H277
    refine gw_setn 3 H279 O263 rfl (want_none rfl) rfl (op_storen gwsiz24 rfl (H279.ev rfl) (H279.ev rfl) (O263.get 3 rfl) rfl (by simp) (by simp [Value.oneCell'])) ?_
    intro _ w282 H281 O283; clear H279 O263
    refine Vc H281 fun _ H285 => ?_
    refine Va H285 fun _ H287 => ?_
    refine gE hK275 ?_
    refine wp_ret ?_
    clear H281 H285
    refine gw_blr ?_
    refine gw_thr ?_
    refine gw_thr ?_
    refine gw_blr ?_
    refine gw_thr ?_
    have O288 := O283.unpin 1 rfl
    clear O283
    have O289 : Own w w282 [Chunk.view Kd.string St At TL.length ct TL, Chunk.view Kd.string S6 A6 AL.length c6 AL, Chunk.sp w.heap.size S A c ps, Bk g2 [.string (⟨#[]⟩ : ByteArray), .string (⟨#[]⟩ : ByteArray), .slice none 0 0] 24, Bk g13 [.string su, .string (nmB (tsB (AL.getD i.toNat (⟨#[]⟩ : ByteArray)) (⟨#[10]⟩ : ByteArray)) (⟨#[66, 111, 97, 114, 100, 32]⟩ : ByteArray)), .slice A ps.length c] 24] := O288
    clear O288
    refine gw_rets3 H287 rfl (rv_celln H287 rfl gwagg24 gwsiz24 (O289.get 3 rfl) rfl) (rv_tmp H287 rfl) (rv_tmp H287 rfl) ?_
    have hr : parseP s = (none, i) := by rw [← hP, drop_at AL i (by omega) (by omega)]; exact pl_1x hok (by omega) hnm
    have ho_ : outS s = (eB, eB, []) := by unfold outS; rw [hr]; rfl
    have hc_ : codeP s = 80 := by unfold codeP; rw [hr]; rfl
    have O290_1 := (O289.row_nil KP 46 w.heap.size).row_view 0 rfl
    rw [ho_, hc_, hr]
    exact ⟨none, 0, _, rfl, (O290_1.sel [0] (by decide)).out⟩
   have H291 := H272.subst_ (d := 83) (b := false) rfl hb273
   clear H272
   (try simp only [Bool.and_eq_true, Bool.and_eq_false_iff, Bool.not_and, Bool.or_eq_true, Bool.or_eq_false_iff, Bool.not_or, Bool.not_not, Bool.not_eq_true', Bool.not_eq_false', Bool.not_eq_true, Bool.not_eq_false] at hb273)
   have hnm := hb273
   refine wp_skip ?_
   refine gw_blk ?_
   refine gw_nx (hK117 _ _ ?_)
   refine wp_region_lit ?_
   refine V H291 (op_add rfl (H291.ev rfl) (ev_c _ _) (by omega)) fun _ H293 => ?_
   refine Vm H293 fun _ H295 => ?_
   clear H291 H293
   refine wpList_nil ?_
   have O296 := O263.unpin 1 rfl
   clear O263
   have O297 : Own w w259 [Chunk.view Kd.string St At TL.length ct TL, Chunk.view Kd.string S6 A6 AL.length c6 AL, Chunk.sp w.heap.size S A c ps, Bk g2 [.string (⟨#[]⟩ : ByteArray), .string (⟨#[]⟩ : ByteArray), .slice none 0 0] 24, Bk g13 [.string su, .string (nmB (tsB (AL.getD i.toNat (⟨#[]⟩ : ByteArray)) (⟨#[10]⟩ : ByteArray)) (⟨#[66, 111, 97, 114, 100, 32]⟩ : ByteArray)), .slice A ps.length c] 24] := O296
   clear O296
   refine gw_nx ⟨_, ?_, i + 1, su, (nmB (tsB (AL.getD i.toNat (⟨#[]⟩ : ByteArray)) (⟨#[10]⟩ : ByteArray)) (⟨#[66, 111, 97, 114, 100, 32]⟩ : ByteArray)), ps, A, c, S, At, ct, St, TL, (H295.pick (t := 28) rfl (H295.pick (t := 8) rfl (H295.pick (t := 6) rfl (H295.pick (t := 2) rfl (H295.pick (t := 5) rfl (H295.pick (t := 26) rfl (H295.pick (t := 27) rfl H295.nil))))))), O297.sel [0, 1, 2, 4, 3] (by decide), ?_, ?_, ?_, rfl⟩
   ·
    rw [hm110]; omega
   ·
    omega
   ·
    exact ⟨by omega, fun _ => by omega⟩
   rw [← hP, drop_at AL i (by omega) (by omega)]; symm; exact pl_1 hok (by omega) hnm
  have H298 := H251.subst_ (d := 66) (b := false) rfl hb252
  clear H251
  (try simp only [decide_eq_false_iff_not] at hb252)
  have hi1 := hb252
  refine gR fun K299 hK299 => ?_
  refine Vm H298 fun _ H301 => ?_
  refine V H301 (op_bin_run (r := .bool (Option.isNone At)) rfl (H301.ev rfl) (ev_c _ _) (ssn_eq Tryd.underlying58)) fun _ H303 => ?_
  refine Vm H303 fun _ H305 => ?_
  clear H298 H301 H303
  refine gw_evG H305 rfl rfl rfl rfl (on_t _) rfl (by decide) (fun h_ => (op_move rfl (H305.ev rfl))) ?_
  intro _ H307; clear H305
  refine gw_callG H307 rfl rfl rfl rfl (on_t _) rfl (by decide) (fun h_ => (op_callL Tryd.func33 (by kernel_rfl) rfl rfl (ar_cons (ev_gv (H307.ev rfl) h_) (ar_cons (ev_c _ _) ar_nil)))) (fun h_ => hp_calls (tsB (AL.getD i.toNat (⟨#[]⟩ : ByteArray)) (⟨#[10]⟩ : ByteArray)) (⟨#[35]⟩ : ByteArray) _) ?_
  intro _ w310 hb311 H309
  have O312 := O145.after hb311; clear H307 O145 hb311
  refine gw_evG H309 rfl rfl rfl rfl (on_t _) rfl (by decide) (fun h_ => (op_not rfl (ev_gv (H309.ev rfl) h_))) ?_
  intro _ H314; clear H309
  refine V H314 (op_pick_and rfl (H314.ev rfl) (fun hp_ => (ev_gv (H314.ev rfl) hp_)) (ev_c _ _)) fun _ H316 => ?_
  refine Va H316 fun _ H318 => ?_
  refine gE hK299 ?_
  clear H314 H316
  refine gw_cond H318 rfl (fun hb319 => ?_) (fun hb319 => ?_)
  ·
   have H320 := H318.subst_ (d := 72) (b := true) rfl hb319
   clear H318
   (try simp only [Bool.and_eq_true, Bool.and_eq_false_iff, Bool.not_and, Bool.or_eq_true, Bool.or_eq_false_iff, Bool.not_or, Bool.not_not, Bool.not_eq_true', Bool.not_eq_false', Bool.not_eq_true, Bool.not_eq_false] at hb319)
   have hcl : (Option.isNone At && !(hpB (tsB (AL.getD i.toNat (⟨#[]⟩ : ByteArray)) (⟨#[10]⟩ : ByteArray)) hashB)) = true := by obtain ⟨h1_, h2_⟩ := hb319; rw [h1_, show hpB (tsB (AL.getD i.toNat (⟨#[]⟩ : ByteArray)) (⟨#[10]⟩ : ByteArray)) hashB = false from h2_]; rfl
   refine wp_region_lit ?_
   refine Vm H320 fun _ H322 => ?_
   clear H320
   have O332 : Own w _ [(Chunk.all [Chunk.view Kd.string St At TL.length ct TL, Chunk.viewAt w107 Kd.string S6 A6 AL.length c6 AL, Bk g2 [.string (⟨#[]⟩ : ByteArray), .string (⟨#[]⟩ : ByteArray), .slice none 0 0] 24]), Bk g13 [.string su, .string bo, .slice A ps.length c] 24, Chunk.sp w.heap.size S A c ps] := Own.bundle (O312.sel [0, 1, 4, 3, 2] (by decide))
   refine Wk H322 Tryd.func34 rfl (ar_cons (H322.ev rfl) (ar_cons (H322.ev rfl) ar_nil)) (line_own w (Chunk.all [Chunk.view Kd.string St At TL.length ct TL, Chunk.viewAt w107 Kd.string S6 A6 AL.length c6 AL, Bk g2 [.string (⟨#[]⟩ : ByteArray), .string (⟨#[]⟩ : ByteArray), .slice none 0 0] 24]) g13 su bo (tsB (AL.getD i.toNat (⟨#[]⟩ : ByteArray)) (⟨#[10]⟩ : ByteArray)) A c S ps _ (by omega) hL (by omega) O332) ?_
   rintro e326 w327 ⟨A323, c324, S325, rfl, hb328⟩
   refine ⟨_, rfl, fun _ H330 => ?_⟩
   have O331 : Own w w327 [Chunk.view Kd.string St At TL.length ct TL, Chunk.viewAt w107 Kd.string S6 A6 AL.length c6 AL, Bk g2 [.string (⟨#[]⟩ : ByteArray), .string (⟨#[]⟩ : ByteArray), .slice none 0 0] 24, Bk g13 [.string su, .string bo, .slice A323 ((lineS ps (tsB (AL.getD i.toNat (⟨#[]⟩ : ByteArray)) (⟨#[10]⟩ : ByteArray))).length) c324] 24, Chunk.sp w.heap.size S325 A323 c324 (lineS ps (tsB (AL.getD i.toNat (⟨#[]⟩ : ByteArray)) (⟨#[10]⟩ : ByteArray)))] := Own.unbundle (hb328.sel [0, 1, 2] (by decide))
   clear O332
   clear H322 O312 hb328
   refine Va H330 fun _ H335 => ?_
   clear H330
   refine wpList_nil ?_
   refine gw_blk ?_
   refine gw_nx (hK157 _ _ ?_)
   refine gR fun K336 hK336 => ?_
   refine Vm H335 fun _ H338 => ?_
   refine V H338 (op_not rfl (H338.ev rfl)) fun _ H340 => ?_
   refine gE hK336 ?_
   clear H335 H338
   refine gw_cond H340 rfl (fun hb341 => ?_) (fun hb341 => ?_)
   ·
    have H342 := H340.subst_ (d := 83) (b := true) rfl hb341
    clear H340
    (try simp only [Bool.and_eq_true, Bool.and_eq_false_iff, Bool.not_and, Bool.or_eq_true, Bool.or_eq_false_iff, Bool.not_or, Bool.not_not, Bool.not_eq_true', Bool.not_eq_false', Bool.not_eq_true, Bool.not_eq_false] at hb341)
    have hnm := hb341
    refine gR fun K343 hK343 => ?_
    refine V H342 (op_build (cells := #[.string (⟨#[]⟩ : ByteArray), .string (⟨#[]⟩ : ByteArray), .slice none 0 0]) rfl pt_nil (by kernel_rfl)) fun _ H345 => ?_
    refine Vm H345 fun _ H347 => ?_
    clear H342 H345
    refine gw_setn 2 H347 O331 rfl (want_none rfl) rfl (op_storen gwsiz24 rfl (H347.ev rfl) (H347.ev rfl) (O331.get 2 rfl) rfl (by simp) (by simp [Value.oneCell'])) ?_
    intro _ w350 H349 O351; clear H347 O331
    refine Vc H349 fun _ H353 => ?_
    refine Va H353 fun _ H355 => ?_
    refine gE hK343 ?_
    refine wp_ret ?_
    clear H349 H353
    refine gw_blr ?_
    refine gw_thr ?_
    refine gw_thr ?_
    refine gw_blr ?_
    refine gw_thr ?_
    have O356 := O351.unpin 1 rfl
    clear O351
    have O357 : Own w w350 [Chunk.view Kd.string St At TL.length ct TL, Chunk.view Kd.string S6 A6 AL.length c6 AL, Bk g2 [.string (⟨#[]⟩ : ByteArray), .string (⟨#[]⟩ : ByteArray), .slice none 0 0] 24, Bk g13 [.string su, .string bo, .slice A323 ((lineS ps (tsB (AL.getD i.toNat (⟨#[]⟩ : ByteArray)) (⟨#[10]⟩ : ByteArray))).length) c324] 24, Chunk.sp w.heap.size S325 A323 c324 (lineS ps (tsB (AL.getD i.toNat (⟨#[]⟩ : ByteArray)) (⟨#[10]⟩ : ByteArray)))] := O356
    clear O356
    refine gw_rets3 H355 rfl (rv_celln H355 rfl gwagg24 gwsiz24 (O357.get 2 rfl) rfl) (rv_tmp H355 rfl) (rv_tmp H355 rfl) ?_
    have hr : parseP s = (none, i) := by rw [← hP, drop_at AL i (by omega) (by omega)]; exact pl_lx hok (by omega) (by omega) hcl hnm
    have ho_ : outS s = (eB, eB, []) := by unfold outS; rw [hr]; rfl
    have hc_ : codeP s = 80 := by unfold codeP; rw [hr]; rfl
    have O358_1 := (O357.row_nil KP 46 w.heap.size).row_view 0 rfl
    rw [ho_, hc_, hr]
    exact ⟨none, 0, _, rfl, (O358_1.sel [0] (by decide)).out⟩
   have H359 := H340.subst_ (d := 83) (b := false) rfl hb341
   clear H340
   (try simp only [Bool.and_eq_true, Bool.and_eq_false_iff, Bool.not_and, Bool.or_eq_true, Bool.or_eq_false_iff, Bool.not_or, Bool.not_not, Bool.not_eq_true', Bool.not_eq_false', Bool.not_eq_true, Bool.not_eq_false] at hb341)
   have hnm := hb341
   refine wp_skip ?_
   refine gw_blk ?_
   refine gw_nx (hK117 _ _ ?_)
   refine wp_region_lit ?_
   refine V H359 (op_add rfl (H359.ev rfl) (ev_c _ _) (by omega)) fun _ H361 => ?_
   refine Vm H361 fun _ H363 => ?_
   clear H359 H361
   refine wpList_nil ?_
   have O364 := O331.unpin 1 rfl
   clear O331
   have O365 : Own w w327 [Chunk.view Kd.string St At TL.length ct TL, Chunk.view Kd.string S6 A6 AL.length c6 AL, Bk g2 [.string (⟨#[]⟩ : ByteArray), .string (⟨#[]⟩ : ByteArray), .slice none 0 0] 24, Bk g13 [.string su, .string bo, .slice A323 ((lineS ps (tsB (AL.getD i.toNat (⟨#[]⟩ : ByteArray)) (⟨#[10]⟩ : ByteArray))).length) c324] 24, Chunk.sp w.heap.size S325 A323 c324 (lineS ps (tsB (AL.getD i.toNat (⟨#[]⟩ : ByteArray)) (⟨#[10]⟩ : ByteArray)))] := O364
   clear O364
   refine gw_nx ⟨_, ?_, i + 1, su, bo, (lineS ps (tsB (AL.getD i.toNat (⟨#[]⟩ : ByteArray)) (⟨#[10]⟩ : ByteArray))), A323, c324, S325, At, ct, St, TL, (H363.pick (t := 28) rfl (H363.pick (t := 8) rfl (H363.pick (t := 6) rfl (H363.pick (t := 2) rfl (H363.pick (t := 5) rfl (H363.pick (t := 26) rfl (H363.pick (t := 27) rfl H363.nil))))))), O365.sel [0, 1, 4, 3, 2] (by decide), ?_, ?_, ?_, rfl⟩
   ·
    rw [hm110]; omega
   ·
    omega
   ·
    have h_ := line_count ps (tsB (AL.getD i.toNat (⟨#[]⟩ : ByteArray)) (⟨#[10]⟩ : ByteArray)) hnm; exact ⟨by omega, fun h2_ => by have h3_ := hcnt.2 h2_; omega⟩
   rw [← hP, drop_at AL i (by omega) (by omega)]; symm; exact pl_l hok (by omega) (by omega) hcl hnm
  have H366 := H318.subst_ (d := 72) (b := false) rfl hb319
  clear H318
  (try simp only [Bool.and_eq_true, Bool.and_eq_false_iff, Bool.not_and, Bool.or_eq_true, Bool.or_eq_false_iff, Bool.not_or, Bool.not_not, Bool.not_eq_true', Bool.not_eq_false', Bool.not_eq_true, Bool.not_eq_false] at hb319)
  have hcl : (Option.isNone At && !(hpB (tsB (AL.getD i.toNat (⟨#[]⟩ : ByteArray)) (⟨#[10]⟩ : ByteArray)) hashB)) = false := by have hb_ := hb319; revert hb_; cases Option.isNone At <;> cases hpB (tsB (AL.getD i.toNat (⟨#[]⟩ : ByteArray)) (⟨#[10]⟩ : ByteArray)) (⟨#[35]⟩ : ByteArray) <;> simp
  refine gw_seq fun K367 hK367 => ?_
  refine gR fun K368 hK368 => ?_
  refine Vm H366 fun _ H370 => ?_
  refine V H370 (op_bin_run (r := .bool (Option.isNone At)) rfl (H370.ev rfl) (ev_c _ _) (ssn_eq Tryd.underlying58)) fun _ H372 => ?_
  refine gE hK368 ?_
  clear H366 H370
  refine gw_cond H372 rfl (fun hb373 => ?_) (fun hb373 => ?_)
  ·
   have H374 := H372.subst_ (d := 39) (b := true) rfl hb373
   clear H372
   (try simp only [Bool.not_eq_true] at hb373)
   have hnil := hb373
   refine wp_region_lit ?_
   refine V H374 (op_loadn gwagg24 gwsiz24 rfl (H374.ev rfl) (O312.get 3 rfl) rfl rfl) fun _ H376 => ?_
   clear H374
   refine Wk H376 Tryd.func28 rfl (ar_cons (H376.ev rfl) ar_nil) (lines_calls su bo A c ps _ (sp_C (O312.get 2 rfl)).1 (sp_C (O312.get 2 rfl)).2 (by omega) (hL.own O312)) ?_
   rintro e380 w381 ⟨A377, c378, S379, rfl, hb382⟩
   refine ⟨_, rfl, fun _ H384 => ?_⟩
   have O385 := O312.fresh hb382
   have hbel386 := O312.below
   clear H376 O312 hb382
   have O387 := O385.lowrow 0 rfl (base' := w.heap.size) (Below.size hbel386)
   have hll := lines_len su bo ps
   have hcn := hcnt.2 hnil
   have hsm41 := some_of_C (Kd.R_reads' (O387.get 0 rfl)).2.2 (by omega)
   refine Vm H384 fun _ H389 => ?_
   clear H384
   obtain ⟨A390, c391, hr392, hc393, hC394, hA395, hN396⟩ := cut_loN (P := Tryd.prog) (d := Kd.string) (t := 58) (e := 9) Tryd.underlying58 gwsiz9 A377 c378 (linesL su bo ps) (row_cap (O387.get 0 rfl)) i (by omega) (by omega)
   refine V H389 (op_cut Tryd.underlying58 hr392 rfl (H389.ev rfl) (some_ev (H389.ev rfl)) rfl) fun _ H398 => ?_
   clear H389
   rw [hsm41] at hN396
   have O399 := O387.row_view 0 rfl
   clear O387
   have O400 : Own w w381 [Chunk.view Kd.string S379 A377 ((linesL su bo ps).length) c378 (linesL su bo ps), Chunk.view Kd.string St At TL.length ct TL, Chunk.viewAt w107 Kd.string S6 A6 AL.length c6 AL, Chunk.sp w.heap.size S A c ps, Bk g13 [.string su, .string bo, .slice A ps.length c] 24, Bk g2 [.string (⟨#[]⟩ : ByteArray), .string (⟨#[]⟩ : ByteArray), .slice none 0 0] 24] := O399
   clear O399
   have O401 := O400.view_cut 0 rfl (A' := A390) (n' := (((linesL su bo ps).drop i.toNat).length)) (c' := c391) (ys := ((linesL su bo ps).drop i.toNat)) hc393 hC394 hA395
   clear O400
   have O402 : Own w w381 [Chunk.view Kd.string S379 A390 (((linesL su bo ps).drop i.toNat).length) c391 ((linesL su bo ps).drop i.toNat), Chunk.view Kd.string St At TL.length ct TL, Chunk.viewAt w107 Kd.string S6 A6 AL.length c6 AL, Chunk.sp w.heap.size S A c ps, Bk g13 [.string su, .string bo, .slice A ps.length c] 24, Bk g2 [.string (⟨#[]⟩ : ByteArray), .string (⟨#[]⟩ : ByteArray), .slice none 0 0] 24] := O401
   clear O401
   refine Va H398 fun _ H404 => ?_
   refine gE hK367 ?_
   refine gR fun K405 hK405 => ?_
   refine Vm H404 fun _ H407 => ?_
   refine V H407 (op_len Tryd.underlying58 rfl (H407.ev rfl)) fun _ H409 => ?_
   refine V H409 (op_gtr rfl (H409.ev rfl) (ev_c _ _)) fun _ H411 => ?_
   refine Vm H411 fun _ H413 => ?_
   clear H398 H404 H407 H409 H411
   refine gw_evG H413 rfl rfl rfl rfl (on_t _) rfl (by decide) (fun h_ => (op_move rfl (H413.ev rfl))) ?_
   intro _ H415; clear H413
   have O425 := O402.pin 0 rfl
   clear O402
   have O426 : Own w w381 [Chunk.viewAt w381 Kd.string S379 A390 (((linesL su bo ps).drop i.toNat).length) c391 ((linesL su bo ps).drop i.toNat), Chunk.view Kd.string St At TL.length ct TL, Chunk.viewAt w107 Kd.string S6 A6 AL.length c6 AL, Chunk.sp w.heap.size S A c ps, Bk g13 [.string su, .string bo, .slice A ps.length c] 24, Bk g2 [.string (⟨#[]⟩ : ByteArray), .string (⟨#[]⟩ : ByteArray), .slice none 0 0] 24] := O425
   clear O425
   obtain ⟨ad419, cs422, hA420, hl423, hK424, hc421⟩ := F_getT (viewAt_F (O426.get 0 rfl)) (⟨#[]⟩ : ByteArray) 0 (⟨_, fun _ _ => rfl⟩)
   obtain rfl := str_openF hK424
   clear hl423
   refine gw_evG H415 rfl rfl rfl rfl (on_t _) rfl (by decide) (fun h_ => (op_index Tryd.underlying58 gwsiz9 rfl (ev_gv (H415.ev rfl) h_) (ev_c _ _) (hA420 ⟨by (try simp only [bxs_, ne_eq, bne_iff_ne, beq_iff_eq, bne_eq_false_iff_eq, beq_eq_false_iff_ne] at h_); omega, by (try simp only [bxs_, ne_eq, bne_iff_ne, beq_iff_eq, bne_eq_false_iff_eq, beq_eq_false_iff_ne] at h_); omega⟩) (⟨by (try simp only [bxs_, ne_eq, bne_iff_ne, beq_iff_eq, bne_eq_false_iff_eq, beq_eq_false_iff_ne] at h_); omega, by (try simp only [bxs_, ne_eq, bne_iff_ne, beq_iff_eq, bne_eq_false_iff_eq, beq_eq_false_iff_ne] at h_); omega⟩))) ?_
   intro _ H428; clear H415
   refine gw_evG H428 rfl rfl rfl rfl (on_t _) rfl (by decide) (fun h_ => (op_load1 gwagg9 rfl (ev_gv (H428.ev rfl) h_) (((pin_cells (O426.get 0 rfl) (hA420 ⟨by (try simp only [bxs_, ne_eq, bne_iff_ne, beq_iff_eq, bne_eq_false_iff_eq, beq_eq_false_iff_ne] at h_); omega, by (try simp only [bxs_, ne_eq, bne_iff_ne, beq_iff_eq, bne_eq_false_iff_eq, beq_eq_false_iff_ne] at h_); omega⟩) (hc421 ⟨by (try simp only [bxs_, ne_eq, bne_iff_ne, beq_iff_eq, bne_eq_false_iff_eq, beq_eq_false_iff_ne] at h_); omega, by (try simp only [bxs_, ne_eq, bne_iff_ne, beq_iff_eq, bne_eq_false_iff_eq, beq_eq_false_iff_ne] at h_); omega⟩)) 0 _ rfl)))) ?_
   intro _ H430; clear H428
   refine gw_evG H430 rfl rfl rfl rfl (on_t _) rfl (by decide) (fun h_ => (op_move rfl (H430.ev rfl))) ?_
   intro _ H432; clear H430
   refine gw_evG H432 rfl rfl rfl rfl (on_t _) rfl (by decide) (fun h_ => (op_eqs rfl (ev_gv (H432.ev rfl) h_) (ev_gv (H432.ev rfl) h_))) ?_
   intro _ H434; clear H432
   refine V H434 (op_pick_and rfl (H434.ev rfl) (fun hp_ => (ev_gv (H434.ev rfl) hp_)) (ev_c _ _)) fun _ H436 => ?_
   refine Va H436 fun _ H438 => ?_
   refine gE hK405 ?_
   refine gR fun K439 hK439 => ?_
   refine Vm H438 fun _ H441 => ?_
   refine gE hK439 ?_
   clear H434 H436 H438
   refine gw_cond H441 rfl (fun hb442 => ?_) (fun hb442 => ?_)
   ·
    have H443 := H441.subst_ (d := 54) (b := true) rfl hb442
    clear H441
    have hkb := hb442
    (try simp only [Bool.and_eq_true, Bool.and_eq_false_iff, decide_eq_true_eq, decide_eq_false_iff_not, Int.not_lt, beq_iff_eq, beq_eq_false_iff_ne, ne_eq] at hb442)
    have htl : (0 < (((linesL su bo ps).drop i.toNat).length : Int) ∧ ((linesL su bo ps).drop i.toNat).getD 0 eB = (tsB (AL.getD i.toNat (⟨#[]⟩ : ByteArray)) (⟨#[10]⟩ : ByteArray))) := by have hb_ := hb442; exact ⟨hb_.1, Pure.bytes_eq hb_.2⟩
    refine wp_region_lit ?_
    refine Vm H443 fun _ H445 => ?_
    clear H443
    obtain ⟨A446, c447, hr448, hc449, hC450, hA451, hN452⟩ := cut_loN (P := Tryd.prog) (d := Kd.string) (t := 58) (e := 9) Tryd.underlying58 gwsiz9 A390 c391 ((linesL su bo ps).drop i.toNat) (viewAt_le (O426.get 0 rfl)) 1 (by omega) (by omega)
    refine V H445 (op_cut Tryd.underlying58 hr448 rfl (H445.ev rfl) (some_ev (ev_c _ _)) rfl) fun _ H454 => ?_
    clear H445
    rw [hN396] at hN452
    have O455 := O426.unpin 0 rfl
    clear O426
    have O456 : Own w w381 [Chunk.view Kd.string S379 A390 (((linesL su bo ps).drop i.toNat).length) c391 ((linesL su bo ps).drop i.toNat), Chunk.view Kd.string St At TL.length ct TL, Chunk.viewAt w107 Kd.string S6 A6 AL.length c6 AL, Chunk.sp w.heap.size S A c ps, Bk g13 [.string su, .string bo, .slice A ps.length c] 24, Bk g2 [.string (⟨#[]⟩ : ByteArray), .string (⟨#[]⟩ : ByteArray), .slice none 0 0] 24] := O455
    clear O455
    have O457 := O456.view_cut 0 rfl (A' := A446) (n' := ((((linesL su bo ps).drop i.toNat).drop (1 : Int).toNat).length)) (c' := c447) (ys := (((linesL su bo ps).drop i.toNat).drop (1 : Int).toNat)) hc449 hC450 hA451
    clear O456
    have O458 : Own w w381 [Chunk.view Kd.string S379 A446 ((((linesL su bo ps).drop i.toNat).drop (1 : Int).toNat).length) c447 (((linesL su bo ps).drop i.toNat).drop (1 : Int).toNat), Chunk.view Kd.string St At TL.length ct TL, Chunk.viewAt w107 Kd.string S6 A6 AL.length c6 AL, Chunk.sp w.heap.size S A c ps, Bk g13 [.string su, .string bo, .slice A ps.length c] 24, Bk g2 [.string (⟨#[]⟩ : ByteArray), .string (⟨#[]⟩ : ByteArray), .slice none 0 0] 24] := O457
    clear O457
    refine Va H454 fun _ H460 => ?_
    clear H454
    refine wpList_nil ?_
    refine gw_blk ?_
    refine gw_nx (hK157 _ _ ?_)
    refine gR fun K461 hK461 => ?_
    refine Vm H460 fun _ H463 => ?_
    refine V H463 (op_not rfl (H463.ev rfl)) fun _ H465 => ?_
    clear H460 H463
    have H466 := H465.lit (b := false) (by rw [hkb]; rfl)
    clear H465
    refine gE hK461 ?_
    refine gw_cond H466 rfl (fun hb467 => ?_) (fun hb467 => ?_)
    ·
     cases hb467
    refine wp_skip ?_
    refine gw_blk ?_
    refine gw_nx (hK117 _ _ ?_)
    refine wp_region_lit ?_
    refine V H466 (op_add rfl (H466.ev rfl) (ev_c _ _) (by omega)) fun _ H469 => ?_
    refine Vm H469 fun _ H471 => ?_
    clear H466 H469
    refine wpList_nil ?_
    have O472 := O458.unpin 2 rfl
    clear O458
    have O473 : Own w w381 [Chunk.view Kd.string S379 A446 ((((linesL su bo ps).drop i.toNat).drop (1 : Int).toNat).length) c447 (((linesL su bo ps).drop i.toNat).drop (1 : Int).toNat), Chunk.view Kd.string St At TL.length ct TL, Chunk.view Kd.string S6 A6 AL.length c6 AL, Chunk.sp w.heap.size S A c ps, Bk g13 [.string su, .string bo, .slice A ps.length c] 24, Bk g2 [.string (⟨#[]⟩ : ByteArray), .string (⟨#[]⟩ : ByteArray), .slice none 0 0] 24] := O472
    clear O472
    refine gw_nx ⟨_, ?_, i + 1, su, bo, ps, A, c, S, A446, c447, S379, (((linesL su bo ps).drop i.toNat).drop (1 : Int).toNat), (H471.pick (t := 28) rfl (H471.pick (t := 8) rfl (H471.pick (t := 6) rfl (H471.pick (t := 2) rfl (H471.pick (t := 5) rfl (H471.pick (t := 26) rfl (H471.pick (t := 27) rfl H471.nil))))))), O473.sel [0, 2, 3, 4, 5] (by decide), ?_, ?_, ?_, rfl⟩
    ·
     rw [hm110]; omega
    ·
     omega
    ·
     exact ⟨by omega, fun h_ => by rw [hN452] at h_; cases h_⟩
    rw [← hP, drop_at AL i (by omega) (by omega)]; symm; rw [hN452]; exact pl_t ((linesL su bo ps).drop i.toNat) (by rw [if_pos hnil]) hok (by omega) (by omega) hcl htl
   have H474 := H441.subst_ (d := 54) (b := false) rfl hb442
   clear H441
   have hkb := hb442
   (try simp only [Bool.and_eq_true, Bool.and_eq_false_iff, decide_eq_true_eq, decide_eq_false_iff_not, Int.not_lt, beq_iff_eq, beq_eq_false_iff_ne, ne_eq] at hb442)
   have htl : ¬ (0 < (((linesL su bo ps).drop i.toNat).length : Int) ∧ ((linesL su bo ps).drop i.toNat).getD 0 eB = (tsB (AL.getD i.toNat (⟨#[]⟩ : ByteArray)) (⟨#[10]⟩ : ByteArray))) := by intro hc_; have hb_ := hb442; rcases hb_ with hb_ | hb_; omega; exact hb_ (by rw [← hc_.2]; rfl)
   refine wp_skip ?_
   refine gw_blk ?_
   refine gw_nx (hK157 _ _ ?_)
   refine gR fun K475 hK475 => ?_
   refine Vm H474 fun _ H477 => ?_
   refine V H477 (op_not rfl (H477.ev rfl)) fun _ H479 => ?_
   clear H474 H477
   have H480 := H479.lit (b := true) (by rw [hkb]; rfl)
   clear H479
   refine gE hK475 ?_
   refine gw_cond H480 rfl (fun hb481 => ?_) (fun hb481 => ?_)
   rotate_left
   ·
    cases hb481
   refine gR fun K482 hK482 => ?_
   refine V H480 (op_build (cells := #[.string (⟨#[]⟩ : ByteArray), .string (⟨#[]⟩ : ByteArray), .slice none 0 0]) rfl pt_nil (by kernel_rfl)) fun _ H484 => ?_
   refine Vm H484 fun _ H486 => ?_
   clear H480 H484
   refine gw_setn 5 H486 O426 rfl (want_none rfl) rfl (op_storen gwsiz24 rfl (H486.ev rfl) (H486.ev rfl) (O426.get 5 rfl) rfl (by simp) (by simp [Value.oneCell'])) ?_
   intro _ w489 H488 O490; clear H486 O426
   refine Vc H488 fun _ H492 => ?_
   refine Va H492 fun _ H494 => ?_
   refine gE hK482 ?_
   refine wp_ret ?_
   clear H488 H492
   refine gw_blr ?_
   refine gw_thr ?_
   refine gw_thr ?_
   refine gw_blr ?_
   refine gw_thr ?_
   have O495 := O490.unpin 0 rfl
   clear O490
   have O496 : Own w w489 [Chunk.view Kd.string S379 A390 (((linesL su bo ps).drop i.toNat).length) c391 ((linesL su bo ps).drop i.toNat), Chunk.view Kd.string St At TL.length ct TL, Chunk.viewAt w107 Kd.string S6 A6 AL.length c6 AL, Chunk.sp w.heap.size S A c ps, Bk g13 [.string su, .string bo, .slice A ps.length c] 24, Bk g2 [.string (⟨#[]⟩ : ByteArray), .string (⟨#[]⟩ : ByteArray), .slice none 0 0] 24] := O495
   clear O495
   have O497 := O496.unpin 2 rfl
   clear O496
   have O498 : Own w w489 [Chunk.view Kd.string S379 A390 (((linesL su bo ps).drop i.toNat).length) c391 ((linesL su bo ps).drop i.toNat), Chunk.view Kd.string St At TL.length ct TL, Chunk.view Kd.string S6 A6 AL.length c6 AL, Chunk.sp w.heap.size S A c ps, Bk g13 [.string su, .string bo, .slice A ps.length c] 24, Bk g2 [.string (⟨#[]⟩ : ByteArray), .string (⟨#[]⟩ : ByteArray), .slice none 0 0] 24] := O497
   clear O497
   refine gw_rets3 H494 rfl (rv_celln H494 rfl gwagg24 gwsiz24 (O498.get 5 rfl) rfl) (rv_tmp H494 rfl) (rv_tmp H494 rfl) ?_
   have hr : parseP s = (none, i) := by rw [← hP, drop_at AL i (by omega) (by omega)]; exact pl_tx ((linesL su bo ps).drop i.toNat) (by rw [if_pos hnil]) hok (by omega) (by omega) hcl htl
   have ho_ : outS s = (eB, eB, []) := by unfold outS; rw [hr]; rfl
   have hc_ : codeP s = 80 := by unfold codeP; rw [hr]; rfl
   have O499_1 := (O498.row_nil KP 46 w.heap.size).row_view 0 rfl
   rw [ho_, hc_, hr]
   exact ⟨none, 0, _, rfl, (O499_1.sel [0] (by decide)).out⟩
  have H500 := H372.subst_ (d := 39) (b := false) rfl hb373
  clear H372
  (try simp only [Bool.not_eq_true] at hb373)
  have hnil := hb373
  refine gS hK367 ?_
  refine gR fun K501 hK501 => ?_
  refine Vm H500 fun _ H503 => ?_
  refine V H503 (op_len Tryd.underlying58 rfl (H503.ev rfl)) fun _ H505 => ?_
  refine V H505 (op_gtr rfl (H505.ev rfl) (ev_c _ _)) fun _ H507 => ?_
  refine Vm H507 fun _ H509 => ?_
  clear H500 H503 H505 H507
  refine gw_evG H509 rfl rfl rfl rfl (on_t _) rfl (by decide) (fun h_ => (op_move rfl (H509.ev rfl))) ?_
  intro _ H511; clear H509
  have O521 := O312.pin 0 rfl
  clear O312
  have O522 : Own w w310 [Chunk.viewAt w310 Kd.string St At TL.length ct TL, Chunk.viewAt w107 Kd.string S6 A6 AL.length c6 AL, Chunk.sp w.heap.size S A c ps, Bk g13 [.string su, .string bo, .slice A ps.length c] 24, Bk g2 [.string (⟨#[]⟩ : ByteArray), .string (⟨#[]⟩ : ByteArray), .slice none 0 0] 24] := O521
  clear O521
  obtain ⟨ad515, cs518, hA516, hl519, hK520, hc517⟩ := F_getT (viewAt_F (O522.get 0 rfl)) (⟨#[]⟩ : ByteArray) 0 (⟨_, fun _ _ => rfl⟩)
  obtain rfl := str_openF hK520
  clear hl519
  refine gw_evG H511 rfl rfl rfl rfl (on_t _) rfl (by decide) (fun h_ => (op_index Tryd.underlying58 gwsiz9 rfl (ev_gv (H511.ev rfl) h_) (ev_c _ _) (hA516 ⟨by (try simp only [bxs_, ne_eq, bne_iff_ne, beq_iff_eq, bne_eq_false_iff_eq, beq_eq_false_iff_ne] at h_); omega, by (try simp only [bxs_, ne_eq, bne_iff_ne, beq_iff_eq, bne_eq_false_iff_eq, beq_eq_false_iff_ne] at h_); omega⟩) (⟨by (try simp only [bxs_, ne_eq, bne_iff_ne, beq_iff_eq, bne_eq_false_iff_eq, beq_eq_false_iff_ne] at h_); omega, by (try simp only [bxs_, ne_eq, bne_iff_ne, beq_iff_eq, bne_eq_false_iff_eq, beq_eq_false_iff_ne] at h_); omega⟩))) ?_
  intro _ H524; clear H511
  refine gw_evG H524 rfl rfl rfl rfl (on_t _) rfl (by decide) (fun h_ => (op_load1 gwagg9 rfl (ev_gv (H524.ev rfl) h_) (((pin_cells (O522.get 0 rfl) (hA516 ⟨by (try simp only [bxs_, ne_eq, bne_iff_ne, beq_iff_eq, bne_eq_false_iff_eq, beq_eq_false_iff_ne] at h_); omega, by (try simp only [bxs_, ne_eq, bne_iff_ne, beq_iff_eq, bne_eq_false_iff_eq, beq_eq_false_iff_ne] at h_); omega⟩) (hc517 ⟨by (try simp only [bxs_, ne_eq, bne_iff_ne, beq_iff_eq, bne_eq_false_iff_eq, beq_eq_false_iff_ne] at h_); omega, by (try simp only [bxs_, ne_eq, bne_iff_ne, beq_iff_eq, bne_eq_false_iff_eq, beq_eq_false_iff_ne] at h_); omega⟩)) 0 _ rfl)))) ?_
  intro _ H526; clear H524
  refine gw_evG H526 rfl rfl rfl rfl (on_t _) rfl (by decide) (fun h_ => (op_move rfl (H526.ev rfl))) ?_
  intro _ H528; clear H526
  refine gw_evG H528 rfl rfl rfl rfl (on_t _) rfl (by decide) (fun h_ => (op_eqs rfl (ev_gv (H528.ev rfl) h_) (ev_gv (H528.ev rfl) h_))) ?_
  intro _ H530; clear H528
  refine V H530 (op_pick_and rfl (H530.ev rfl) (fun hp_ => (ev_gv (H530.ev rfl) hp_)) (ev_c _ _)) fun _ H532 => ?_
  refine Va H532 fun _ H534 => ?_
  refine gE hK501 ?_
  refine gR fun K535 hK535 => ?_
  refine Vm H534 fun _ H537 => ?_
  refine gE hK535 ?_
  clear H530 H532 H534
  refine gw_cond H537 rfl (fun hb538 => ?_) (fun hb538 => ?_)
  ·
   have H539 := H537.subst_ (d := 54) (b := true) rfl hb538
   clear H537
   have hkb := hb538
   (try simp only [Bool.and_eq_true, Bool.and_eq_false_iff, decide_eq_true_eq, decide_eq_false_iff_not, Int.not_lt, beq_iff_eq, beq_eq_false_iff_ne, ne_eq] at hb538)
   have htl : (0 < (TL.length : Int) ∧ TL.getD 0 eB = (tsB (AL.getD i.toNat (⟨#[]⟩ : ByteArray)) (⟨#[10]⟩ : ByteArray))) := by have hb_ := hb538; exact ⟨hb_.1, Pure.bytes_eq hb_.2⟩
   refine wp_region_lit ?_
   refine Vm H539 fun _ H541 => ?_
   clear H539
   obtain ⟨A542, c543, hr544, hc545, hC546, hA547, hN548⟩ := cut_loN (P := Tryd.prog) (d := Kd.string) (t := 58) (e := 9) Tryd.underlying58 gwsiz9 At ct TL (viewAt_le (O522.get 0 rfl)) 1 (by omega) (by omega)
   refine V H541 (op_cut Tryd.underlying58 hr544 rfl (H541.ev rfl) (some_ev (ev_c _ _)) rfl) fun _ H550 => ?_
   clear H541
   rw [hnil] at hN548
   have O551 := O522.unpin 0 rfl
   clear O522
   have O552 : Own w w310 [Chunk.view Kd.string St At TL.length ct TL, Chunk.viewAt w107 Kd.string S6 A6 AL.length c6 AL, Chunk.sp w.heap.size S A c ps, Bk g13 [.string su, .string bo, .slice A ps.length c] 24, Bk g2 [.string (⟨#[]⟩ : ByteArray), .string (⟨#[]⟩ : ByteArray), .slice none 0 0] 24] := O551
   clear O551
   have O553 := O552.view_cut 0 rfl (A' := A542) (n' := ((TL.drop (1 : Int).toNat).length)) (c' := c543) (ys := (TL.drop (1 : Int).toNat)) hc545 hC546 hA547
   clear O552
   have O554 : Own w w310 [Chunk.view Kd.string St A542 ((TL.drop (1 : Int).toNat).length) c543 (TL.drop (1 : Int).toNat), Chunk.viewAt w107 Kd.string S6 A6 AL.length c6 AL, Chunk.sp w.heap.size S A c ps, Bk g13 [.string su, .string bo, .slice A ps.length c] 24, Bk g2 [.string (⟨#[]⟩ : ByteArray), .string (⟨#[]⟩ : ByteArray), .slice none 0 0] 24] := O553
   clear O553
   refine Va H550 fun _ H556 => ?_
   clear H550
   refine wpList_nil ?_
   refine gw_blk ?_
   refine gw_nx (hK157 _ _ ?_)
   refine gR fun K557 hK557 => ?_
   refine Vm H556 fun _ H559 => ?_
   refine V H559 (op_not rfl (H559.ev rfl)) fun _ H561 => ?_
   clear H556 H559
   have H562 := H561.lit (b := false) (by rw [hkb]; rfl)
   clear H561
   refine gE hK557 ?_
   refine gw_cond H562 rfl (fun hb563 => ?_) (fun hb563 => ?_)
   ·
    cases hb563
   refine wp_skip ?_
   refine gw_blk ?_
   refine gw_nx (hK117 _ _ ?_)
   refine wp_region_lit ?_
   refine V H562 (op_add rfl (H562.ev rfl) (ev_c _ _) (by omega)) fun _ H565 => ?_
   refine Vm H565 fun _ H567 => ?_
   clear H562 H565
   refine wpList_nil ?_
   have O568 := O554.unpin 1 rfl
   clear O554
   have O569 : Own w w310 [Chunk.view Kd.string St A542 ((TL.drop (1 : Int).toNat).length) c543 (TL.drop (1 : Int).toNat), Chunk.view Kd.string S6 A6 AL.length c6 AL, Chunk.sp w.heap.size S A c ps, Bk g13 [.string su, .string bo, .slice A ps.length c] 24, Bk g2 [.string (⟨#[]⟩ : ByteArray), .string (⟨#[]⟩ : ByteArray), .slice none 0 0] 24] := O568
   clear O568
   refine gw_nx ⟨_, ?_, i + 1, su, bo, ps, A, c, S, A542, c543, St, (TL.drop (1 : Int).toNat), (H567.pick (t := 28) rfl (H567.pick (t := 8) rfl (H567.pick (t := 6) rfl (H567.pick (t := 2) rfl (H567.pick (t := 5) rfl (H567.pick (t := 26) rfl (H567.pick (t := 27) rfl H567.nil))))))), O569.sel [0, 1, 2, 3, 4] (by decide), ?_, ?_, ?_, rfl⟩
   ·
    rw [hm110]; omega
   ·
    omega
   ·
    exact ⟨by omega, fun h_ => by rw [hN548] at h_; cases h_⟩
   rw [← hP, drop_at AL i (by omega) (by omega)]; symm; rw [hN548]; exact pl_t TL (by rw [hnil]; rfl) hok (by omega) (by omega) hcl htl
  have H570 := H537.subst_ (d := 54) (b := false) rfl hb538
  clear H537
  have hkb := hb538
  (try simp only [Bool.and_eq_true, Bool.and_eq_false_iff, decide_eq_true_eq, decide_eq_false_iff_not, Int.not_lt, beq_iff_eq, beq_eq_false_iff_ne, ne_eq] at hb538)
  have htl : ¬ (0 < (TL.length : Int) ∧ TL.getD 0 eB = (tsB (AL.getD i.toNat (⟨#[]⟩ : ByteArray)) (⟨#[10]⟩ : ByteArray))) := by intro hc_; have hb_ := hb538; rcases hb_ with hb_ | hb_; omega; exact hb_ (by rw [← hc_.2]; rfl)
  refine wp_skip ?_
  refine gw_blk ?_
  refine gw_nx (hK157 _ _ ?_)
  refine gR fun K571 hK571 => ?_
  refine Vm H570 fun _ H573 => ?_
  refine V H573 (op_not rfl (H573.ev rfl)) fun _ H575 => ?_
  clear H570 H573
  have H576 := H575.lit (b := true) (by rw [hkb]; rfl)
  clear H575
  refine gE hK571 ?_
  refine gw_cond H576 rfl (fun hb577 => ?_) (fun hb577 => ?_)
  rotate_left
  ·
   cases hb577
  refine gR fun K578 hK578 => ?_
  refine V H576 (op_build (cells := #[.string (⟨#[]⟩ : ByteArray), .string (⟨#[]⟩ : ByteArray), .slice none 0 0]) rfl pt_nil (by kernel_rfl)) fun _ H580 => ?_
  refine Vm H580 fun _ H582 => ?_
  clear H576 H580
  refine gw_setn 4 H582 O522 rfl (want_none rfl) rfl (op_storen gwsiz24 rfl (H582.ev rfl) (H582.ev rfl) (O522.get 4 rfl) rfl (by simp) (by simp [Value.oneCell'])) ?_
  intro _ w585 H584 O586; clear H582 O522
  refine Vc H584 fun _ H588 => ?_
  refine Va H588 fun _ H590 => ?_
  refine gE hK578 ?_
  refine wp_ret ?_
  clear H584 H588
  refine gw_blr ?_
  refine gw_thr ?_
  refine gw_thr ?_
  refine gw_blr ?_
  refine gw_thr ?_
  have O591 := O586.unpin 0 rfl
  clear O586
  have O592 : Own w w585 [Chunk.view Kd.string St At TL.length ct TL, Chunk.viewAt w107 Kd.string S6 A6 AL.length c6 AL, Chunk.sp w.heap.size S A c ps, Bk g13 [.string su, .string bo, .slice A ps.length c] 24, Bk g2 [.string (⟨#[]⟩ : ByteArray), .string (⟨#[]⟩ : ByteArray), .slice none 0 0] 24] := O591
  clear O591
  have O593 := O592.unpin 1 rfl
  clear O592
  have O594 : Own w w585 [Chunk.view Kd.string St At TL.length ct TL, Chunk.view Kd.string S6 A6 AL.length c6 AL, Chunk.sp w.heap.size S A c ps, Bk g13 [.string su, .string bo, .slice A ps.length c] 24, Bk g2 [.string (⟨#[]⟩ : ByteArray), .string (⟨#[]⟩ : ByteArray), .slice none 0 0] 24] := O593
  clear O593
  refine gw_rets3 H590 rfl (rv_celln H590 rfl gwagg24 gwsiz24 (O594.get 4 rfl) rfl) (rv_tmp H590 rfl) (rv_tmp H590 rfl) ?_
  have hr : parseP s = (none, i) := by rw [← hP, drop_at AL i (by omega) (by omega)]; exact pl_tx TL (by rw [hnil]; rfl) hok (by omega) (by omega) hcl htl
  have ho_ : outS s = (eB, eB, []) := by unfold outS; rw [hr]; rfl
  have hc_ : codeP s = 80 := by unfold codeP; rw [hr]; rfl
  have O595_1 := (O594.row_nil KP 46 w.heap.size).row_view 0 rfl
  rw [ho_, hc_, hr]
  exact ⟨none, 0, _, rfl, (O595_1.sel [0] (by decide)).out⟩
 have H596 := H113.subst_ (d := 29) (b := false) rfl hb115
 clear H113
 (try simp only [decide_eq_false_iff_not, Int.not_lt] at hb115)
 refine wp_exit ?_
 refine gw_thx ?_
 refine gw_thx ?_
 refine gw_in ?_
 refine gw_nx (hK92 _ _ ?_)
 refine gw_seq fun K597 hK597 => ?_
 refine gR fun K598 hK598 => ?_
 refine Vm H596 fun _ H600 => ?_
 refine V H600 (op_bin_run (r := .bool (Option.isNone At)) rfl (H600.ev rfl) (ev_c _ _) (ssn_eq Tryd.underlying58)) fun _ H602 => ?_
 refine Vm H602 fun _ H604 => ?_
 clear H596 H600 H602
 refine gw_evG H604 rfl rfl rfl rfl (on_f _) rfl (by decide) (fun h_ => (op_move rfl (H604.ev rfl))) ?_
 intro _ H606; clear H604
 refine gw_evG H606 rfl rfl rfl rfl (on_f _) rfl (by decide) (fun h_ => (op_len Tryd.underlying58 rfl (ev_gv (H606.ev rfl) h_))) ?_
 intro _ H608; clear H606
 refine gw_evG H608 rfl rfl rfl rfl (on_f _) rfl (by decide) (fun h_ => (op_gtr rfl (ev_gv (H608.ev rfl) h_) (ev_c _ _))) ?_
 intro _ H610; clear H608
 refine V H610 (op_pick_or rfl (H610.ev rfl) (ev_c _ _) (fun hp_ => (ev_gv (H610.ev rfl) (not_t hp_)))) fun _ H612 => ?_
 refine gE hK598 ?_
 clear H610
 refine gw_cond H612 rfl (fun hb613 => ?_) (fun hb613 => ?_)
 ·
  have H614 := H612.subst_ (d := 93) (b := true) rfl hb613
  clear H612
  (try simp only [Bool.or_eq_true, Bool.or_eq_false_iff, decide_eq_true_eq, decide_eq_false_iff_not, Int.not_lt] at hb613)
  have hend : (Option.isNone At || decide (0 < (TL.length : Int))) = true := by have hb_ := hb613; revert hb_; cases Option.isNone At <;> simp
  refine gR fun K615 hK615 => ?_
  refine V H614 (op_build (cells := #[.string (⟨#[]⟩ : ByteArray), .string (⟨#[]⟩ : ByteArray), .slice none 0 0]) rfl pt_nil (by kernel_rfl)) fun _ H617 => ?_
  refine Vm H617 fun _ H619 => ?_
  refine V H619 (op_len Tryd.underlying58 rfl (H619.ev rfl)) fun _ H621 => ?_
  clear H614 H617 H619
  refine gw_setn 4 H621 O109 rfl (want_none rfl) rfl (op_storen gwsiz24 rfl (H621.ev rfl) (H621.ev rfl) (O109.get 4 rfl) rfl (by simp) (by simp [Value.oneCell'])) ?_
  intro _ w624 H623 O625; clear H621 O109
  refine Vc H623 fun _ H627 => ?_
  refine Va H627 fun _ H629 => ?_
  refine gE hK615 ?_
  refine wp_ret ?_
  clear H623 H627
  refine gw_thr ?_
  refine gw_rets3 H629 rfl (rv_celln H629 rfl gwagg24 gwsiz24 (O625.get 4 rfl) rfl) (rv_tmp H629 rfl) (rv_tmp H629 rfl) ?_
  have hr : parseP s = (none, (AL.length : Int)) := by rw [← hP, List.drop_eq_nil_of_le (by omega)]; unfold parsL; rw [if_pos hend]; exact congrArg (Prod.mk none) (by omega)
  have ho_ : outS s = (eB, eB, []) := by unfold outS; rw [hr]; rfl
  have hc_ : codeP s = 80 := by unfold codeP; rw [hr]; rfl
  have O630_1 := (O625.row_nil KP 46 w.heap.size).row_view 0 rfl
  rw [ho_, hc_, hr]
  exact ⟨none, 0, _, rfl, (O630_1.sel [0] (by decide)).out⟩
 have H631 := H612.subst_ (d := 93) (b := false) rfl hb613
 clear H612
 (try simp only [Bool.or_eq_true, Bool.or_eq_false_iff, decide_eq_true_eq, decide_eq_false_iff_not, Int.not_lt] at hb613)
 have hend : ¬ (Option.isNone At || decide (0 < (TL.length : Int))) = true := by have hb_ := hb613; revert hb_; cases Option.isNone At <;> simp
 refine gS hK597 ?_
 refine gR fun K632 hK632 => ?_
 refine V H631 (op_loadn gwagg24 gwsiz24 rfl (H631.ev rfl) (O109.get 3 rfl) rfl rfl) fun _ H634 => ?_
 clear H631
 refine gw_setn 4 H634 O109 rfl (want_none rfl) rfl (op_storen gwsiz24 rfl (H634.ev rfl) (H634.ev rfl) (O109.get 4 rfl) rfl (by simp) (by simp [Value.oneCell'])) ?_
 intro _ w637 H636 O638; clear H634 O109
 refine Vc H636 fun _ H640 => ?_
 refine Vc H640 fun _ H642 => ?_
 refine gE hK632 ?_
 refine wp_ret ?_
 clear H636 H640
 refine gw_rets3 H642 rfl (rv_celln H642 rfl gwagg24 gwsiz24 (O638.get 4 rfl) rfl) (rv_tmp H642 rfl) (rv_tmp H642 rfl) ?_
 have hr : parseP s = (some (su, bo, ps), 0) := by rw [← hP, List.drop_eq_nil_of_le (by omega)]; unfold parsL; rw [if_neg hend]
 have ho_ : outS s = (su, bo, ps) := by unfold outS; rw [hr]; rfl
 have hc_ : codeP s = 0 := by unfold codeP; rw [hr]; rfl
 have O643_1 := O638.sp_view (i := 2) rfl
 rw [ho_, hc_, hr]
 exact ⟨_, _, _, rfl, (O643_1.sel [2] (by decide)).out⟩
end GParse_
export GParse_ (parse_calls)
section
attribute [local go_sem] max2_int min2_int max_two min_two max_three min_three max_four min_four   -- for this text's walks alone
def colloquylaw20_of.l0 : Nat → List (S46) → Int → Int → ByteArray → ByteArray → List (S53) → Option (ByteArray × ByteArray × (List (S53)))
  | 0, _, _, _, _, _, _ => none
  | k + 1, x12, x13, x14, x104000, x104001, x104002 => if x14 < x13 then (if 0 ≤ x14 then (if x14 < (x12.length : Int) then (if x104002.length < 3518437208883 then (colloquylaw20_of.l0 k x12 x13 (wrap64 (x14 + 1)) x104000 x104001 (x104002 ++ [(⟨(rd_T46 x12 x14).f0, (rd_T46 x12 x14).f1⟩ : S53)])) else (none)) else (none)) else (none)) else (some (x104000, x104001, x104002))
def colloquylaw20_of.f (k : Nat) (a0_0 : ByteArray) (a0_1 : ByteArray) (l0_2 : List (S46)) : Option (ByteArray × ByteArray × (List (S53))) := colloquylaw20_of.l0 k l0_2 (l0_2.length : Int) 0 a0_0 a0_1 ([] : List (S53))
theorem colloquylaw20_of.mono_l : ∀ k, (∀ y0 y1 y2 y3 y4 y5, LeO (colloquylaw20_of.l0 k y0 y1 y2 y3 y4 y5) (colloquylaw20_of.l0 (k + 1) y0 y1 y2 y3 y4 y5))
  | 0 => fun _ _ _ _ _ _ r h => by simp [colloquylaw20_of.l0] at h
  | k + 1 => by
    have ih0 := colloquylaw20_of.mono_l k
    · intro y0 y1 y2 y3 y4 y5
      unfold colloquylaw20_of.l0
      repeat' first
      | (with_reducible exact ih0 _ _ _ _ _ _)
      | (with_reducible exact LeO.refl _)
      | (with_reducible exact LeO.none _)
      | (with_reducible refine LeO.ite ?_ ?_)
      | (with_reducible refine LeO.bind ?_ (fun _ => ?_))
      | exact ih0 _ _ _ _ _ _
      | exact LeO.none _
      | refine LeO.ite ?_ ?_
      | refine LeO.bind ?_ (fun _ => ?_)
theorem colloquylaw20_of.mono : ∀ a0 a1 a2 k, LeO (colloquylaw20_of.f k a0 a1 a2) (colloquylaw20_of.f (k + 1) a0 a1 a2) := by
  intro a0 a1 a2 k
  have ih0 := colloquylaw20_of.mono_l k
  unfold colloquylaw20_of.f
  repeat' first
      | (with_reducible exact ih0 _ _ _ _ _ _)
      | (with_reducible exact LeO.refl _)
      | (with_reducible exact LeO.none _)
      | (with_reducible refine LeO.ite ?_ ?_)
      | (with_reducible refine LeO.bind ?_ (fun _ => ?_))
      | exact ih0 _ _ _ _ _ _
      | exact LeO.none _
      | refine LeO.ite ?_ ?_
      | refine LeO.bind ?_ (fun _ => ?_)
theorem colloquylaw20_of.calls (k : Nat) (a0_0 : ByteArray) (a0_1 : ByteArray) (P0_2_ : Nat → Prop) (A0_2 : Option Addr) (c0_2 : Nat) (l0_2 : List (S46)) (r1 : ByteArray) (r2 : ByteArray) (r3 : List (S53)) (w : World) (hs0_2 : Kd.V k46 46 w w.heap.size (fun k_ => P0_2_ k_) (.slice A0_2 l0_2.length c0_2) l0_2) (h : colloquylaw20_of.f k a0_0 a0_1 l0_2 = some (r1, r2, r3)) :
    Calls Tryd.prog 11 #[.agg #[.string a0_0, .string a0_1, .slice A0_2 l0_2.length c0_2]] w fun e w' => ∃ v2_ : Value, e = .returned (.agg #[.string r1, .string r2, v2_]) ∧ Kd.N k53 53 w' w.heap.size (fun k_ => (P0_2_ k_ ∨ w.heap.size ≤ k_)) v2_ r3 ∧ Below w.heap.size w w' := by
  have hu24 := Tryd.underlying24
  have hu29 := Tryd.underlying29
  have hu46 := Tryd.underlying46
  have hu53 := Tryd.underlying53
  have HO0_2 := Aside0.mk (show Kd.V k46 46 w w.heap.size (fun k_ => (P0_2_ k_ ∨ w.heap.size ≤ k_)) (.slice A0_2 l0_2.length c0_2) l0_2 from Kd.V_mono hs0_2 (fun k_ hk => .inl hk))
  have HB := Aside0.mk (Below.refl w.heap.size w)
  have H : (colloquylaw20_of.l0 k l0_2 (l0_2.length : Int) 0 a0_0 a0_1 ([] : List (S53))) = some (r1, r2, r3) := h
  clear h
  have H' := Aside0.mk H
  clear H
  go_enter Tryd.func11, Tryd.ntmps11
  go_wp2_with (first | ((with_reducible refine gate_dst (N := 1) rfl ?_); refine box_event ?hg (N := 1) ?hd (cs := #[.string a0_0, .string a0_1, .slice A0_2 l0_2.length c0_2]) (t := 24) ?hr ?_; (case hd => rfl); (case hg => rfl); (case hr => first | (go_simp; done) | (go_simp; rfl)); intro gb101 hg w2 hbox hb; have n0_ := Aside0.mk (Kd.V_below (Kd.V_elderB (by (with_reducible repeat (first | apply Kd.V_alloc | apply Kd.V_drewN | apply Kd.V_drew)); exact HO0_2.out) gb101 (Nat.le_of_eq hg.symm)) hb); have n1_ := Aside0.mk (below_step (by repeat (first | (with_reducible first | exact HB.out | apply below_alloc | apply pw_below_drewN | apply below_drew1) | exact HB.out)) hb); have n2_ := Aside0.mk (hbox); have n3_ := Aside0.mk ((by rw [hg]; exact (below_size (by repeat (first | (with_reducible first | exact HB.out | apply below_alloc | apply pw_below_drewN | apply below_drew1) | exact HB.out))) : w.heap.size ≤ gb101)); have n4_ := Aside0.mk ((by rw [hg]; exact (below_size (by repeat (first | (with_reducible first | exact HB.out | apply below_alloc | apply pw_below_drewN | apply below_drew1) | exact HB.out))) : w.heap.size ≤ gb101)); clear HO0_2; clear HB; have HO0_2 := n0_; have HB := n1_; have BK101 := n2_; have GW101 := n3_; have GE101 := n4_; clear n0_ n1_ n2_ n3_ n4_; clear hb hbox hg) | ((with_reducible refine gate_dst (N := 2) rfl ?_); refine box_event ?hg (N := 2) ?hd (cs := #[.string (⟨#[]⟩ : ByteArray), .string (⟨#[]⟩ : ByteArray), .slice none 0 0]) (t := 29) ?hr ?_; (case hd => rfl); (case hg => rfl); (case hr => first | (go_simp; done) | (go_simp; rfl)); intro gb102 hg w3 hbox hb; have n0_ := Aside0.mk (Kd.V_below (Kd.V_elderB (by (with_reducible repeat (first | apply Kd.V_alloc | apply Kd.V_drewN | apply Kd.V_drew)); exact HO0_2.out) gb102 (Nat.le_of_eq hg.symm)) hb); have n1_ := Aside0.mk (blk_below (g := gb101) (o := .cells #[.string a0_0, .string a0_1, .slice A0_2 l0_2.length c0_2] 24 (0, 0)) (by (with_reducible repeat (first | refine blk_drewN ?_ _ | refine blk_drew ?_ | refine blk_alloc ?_ _)); exact BK101.out) hb); have n2_ := Aside0.mk (below_step (by repeat (first | (with_reducible first | exact HB.out | apply below_alloc | apply pw_below_drewN | apply below_drew1 | refine below_set ?_ GE101.out) | exact HB.out)) hb); have n3_ := Aside0.mk (hbox); have n4_ := Aside0.mk ((by rw [hg]; exact (below_size (by repeat (first | (with_reducible first | exact HB.out | apply below_alloc | apply pw_below_drewN | apply below_drew1 | refine below_set ?_ GE101.out) | exact HB.out))) : w.heap.size ≤ gb102)); have n5_ := Aside0.mk ((by rw [hg]; exact (below_size (by repeat (first | (with_reducible first | exact HB.out | apply below_alloc | apply pw_below_drewN | apply below_drew1 | refine below_set ?_ GE101.out) | exact HB.out))) : w.heap.size ≤ gb102)); have n6_ := Aside0.mk ((by rw [hg]; exact Nat.ne_of_lt (blk_lt (g := gb101) (o := .cells #[.string a0_0, .string a0_1, .slice A0_2 l0_2.length c0_2] 24 (0, 0)) (by (with_reducible repeat (first | refine blk_drewN ?_ _ | refine blk_drew ?_ | refine blk_alloc ?_ _)); exact BK101.out)) : gb101 ≠ gb102)); have n7_ := Aside0.mk ((by rw [hg]; exact Nat.ne_of_gt (blk_lt (g := gb101) (o := .cells #[.string a0_0, .string a0_1, .slice A0_2 l0_2.length c0_2] 24 (0, 0)) (by (with_reducible repeat (first | refine blk_drewN ?_ _ | refine blk_drew ?_ | refine blk_alloc ?_ _)); exact BK101.out)) : gb102 ≠ gb101)); clear HO0_2; clear BK101; clear HB; have HO0_2 := n0_; have BK101 := n1_; have HB := n2_; have BK102 := n3_; have GW102 := n4_; have GE102 := n5_; have NB101_102 := n6_; have NB102_101 := n7_; clear n0_ n1_ n2_ n3_ n4_ n5_ n6_ n7_; clear hb hbox hg; have hnb4 := NB101_102.out; have hnc4 := NB102_101.out; have hcz5_0 : w3.cell? ⟨gb101, 0, none⟩ = some (.string a0_0) := (blk_cell BK101.out 0).trans rfl; have hcz5_1 : w3.cell? ⟨gb101, 1, none⟩ = some (.string a0_1) := (blk_cell BK101.out 1).trans rfl; have hcz5_2 : w3.cell? ⟨gb101, 2, none⟩ = some (.slice A0_2 l0_2.length c0_2) := (blk_cell BK101.out 2).trans rfl; have hfz5_0 := blk_frozen BK101.out 0; have hfz5_1 := blk_frozen BK101.out 1; have hfz5_2 := blk_frozen BK101.out 2) | ((with_reducible refine gate_dst (N := 3) rfl ?_); refine box_event ?hg (N := 3) ?hd (cs := #[.string (⟨#[]⟩ : ByteArray), .string (⟨#[]⟩ : ByteArray), .slice none 0 0]) (t := 29) ?hr ?_; (case hd => rfl); (case hg => rfl); (case hr => first | (go_simp; done) | (go_simp; rfl)); intro gb103 hg w6 hbox hb; have n0_ := Aside0.mk (Kd.V_below (Kd.V_elderB (by (with_reducible repeat (first | apply Kd.V_alloc | apply Kd.V_drewN | apply Kd.V_drew)); exact HO0_2.out) gb103 (Nat.le_of_eq hg.symm)) hb); have n1_ := Aside0.mk (blk_below (g := gb101) (o := .cells #[.string a0_0, .string a0_1, .slice A0_2 l0_2.length c0_2] 24 (0, 0)) (by (with_reducible repeat (first | refine blk_drewN ?_ _ | refine blk_drew ?_ | refine blk_alloc ?_ _)); exact BK101.out) hb); have n2_ := Aside0.mk (blk_below (g := gb102) (o := .cells #[.string (⟨#[]⟩ : ByteArray), .string (⟨#[]⟩ : ByteArray), .slice none 0 0] 29 (0, 0)) (by (with_reducible repeat (first | refine blk_drewN ?_ _ | refine blk_drew ?_ | refine blk_alloc ?_ _)); exact BK102.out) hb); have n3_ := Aside0.mk (below_step (by repeat (first | (with_reducible first | exact HB.out | apply below_alloc | apply pw_below_drewN | apply below_drew1 | refine below_set ?_ GE101.out | refine below_set ?_ GE102.out) | exact HB.out)) hb); have n4_ := Aside0.mk (hbox); have n5_ := Aside0.mk ((by rw [hg]; exact (below_size (by repeat (first | (with_reducible first | exact HB.out | apply below_alloc | apply pw_below_drewN | apply below_drew1 | refine below_set ?_ GE101.out | refine below_set ?_ GE102.out) | exact HB.out))) : w.heap.size ≤ gb103)); have n6_ := Aside0.mk ((by rw [hg]; exact (below_size (by repeat (first | (with_reducible first | exact HB.out | apply below_alloc | apply pw_below_drewN | apply below_drew1 | refine below_set ?_ GE101.out | refine below_set ?_ GE102.out) | exact HB.out))) : w.heap.size ≤ gb103)); have n7_ := Aside0.mk ((by rw [hg]; exact Nat.ne_of_lt (blk_lt (g := gb101) (o := .cells #[.string a0_0, .string a0_1, .slice A0_2 l0_2.length c0_2] 24 (0, 0)) (by (with_reducible repeat (first | refine blk_drewN ?_ _ | refine blk_drew ?_ | refine blk_alloc ?_ _)); exact BK101.out)) : gb101 ≠ gb103)); have n8_ := Aside0.mk ((by rw [hg]; exact Nat.ne_of_gt (blk_lt (g := gb101) (o := .cells #[.string a0_0, .string a0_1, .slice A0_2 l0_2.length c0_2] 24 (0, 0)) (by (with_reducible repeat (first | refine blk_drewN ?_ _ | refine blk_drew ?_ | refine blk_alloc ?_ _)); exact BK101.out)) : gb103 ≠ gb101)); have n9_ := Aside0.mk ((by rw [hg]; exact Nat.ne_of_lt (blk_lt (g := gb102) (o := .cells #[.string (⟨#[]⟩ : ByteArray), .string (⟨#[]⟩ : ByteArray), .slice none 0 0] 29 (0, 0)) (by (with_reducible repeat (first | refine blk_drewN ?_ _ | refine blk_drew ?_ | refine blk_alloc ?_ _)); exact BK102.out)) : gb102 ≠ gb103)); have n10_ := Aside0.mk ((by rw [hg]; exact Nat.ne_of_gt (blk_lt (g := gb102) (o := .cells #[.string (⟨#[]⟩ : ByteArray), .string (⟨#[]⟩ : ByteArray), .slice none 0 0] 29 (0, 0)) (by (with_reducible repeat (first | refine blk_drewN ?_ _ | refine blk_drew ?_ | refine blk_alloc ?_ _)); exact BK102.out)) : gb103 ≠ gb102)); clear HO0_2; clear BK101; clear BK102; clear HB; have HO0_2 := n0_; have BK101 := n1_; have BK102 := n2_; have HB := n3_; have BK103 := n4_; have GW103 := n5_; have GE103 := n6_; have NB101_103 := n7_; have NB103_101 := n8_; have NB102_103 := n9_; have NB103_102 := n10_; clear n0_ n1_ n2_ n3_ n4_ n5_ n6_ n7_ n8_ n9_ n10_; clear hb hbox hg; have hnb7 := NB103_101.out; have hnc7 := NB101_103.out; have hnb8 := NB103_102.out; have hnc8 := NB102_103.out; have hcz9_0 : w6.cell? ⟨gb103, 0, none⟩ = some (.string (⟨#[]⟩ : ByteArray)) := (blk_cell BK103.out 0).trans rfl; have hcz9_1 : w6.cell? ⟨gb103, 1, none⟩ = some (.string (⟨#[]⟩ : ByteArray)) := (blk_cell BK103.out 1).trans rfl; have hcz9_2 : w6.cell? ⟨gb103, 2, none⟩ = some (.slice none 0 0) := (blk_cell BK103.out 2).trans rfl; have hfz9_0 := blk_frozen BK103.out 0; have hfz9_1 := blk_frozen BK103.out 1; have hfz9_2 := blk_frozen BK103.out 2; have hcz10_0 : w6.cell? ⟨gb101, 0, none⟩ = some (.string a0_0) := (blk_cell BK101.out 0).trans rfl; have hcz10_1 : w6.cell? ⟨gb101, 1, none⟩ = some (.string a0_1) := (blk_cell BK101.out 1).trans rfl; have hcz10_2 : w6.cell? ⟨gb101, 2, none⟩ = some (.slice A0_2 l0_2.length c0_2) := (blk_cell BK101.out 2).trans rfl; have hfz10_0 := blk_frozen BK101.out 0; have hfz10_1 := blk_frozen BK101.out 1; have hfz10_2 := blk_frozen BK101.out 2))
  go_loopg [14] k (fun kq v14 w' => ∃ (x14_1 : Int) (x104002_1 : List (S53)) (u104002 : Value), v14 = .int .i64 x14_1 ∧ Aside0 (colloquylaw20_of.l0 kq l0_2 (l0_2.length : Int) x14_1 a0_0 a0_1 x104002_1 = some (r1, r2, r3)) ∧ Aside0 (kq ≤ k) ∧ Aside0 (Kd.V k46 46 w' w.heap.size (fun k_ => (P0_2_ k_ ∨ w.heap.size ≤ k_) ∧ some k_ ≠ (u104002 : Value).ownBlock ∧ k_ ≠ gb101 ∧ k_ ≠ gb102 ∧ k_ ≠ gb103) (.slice A0_2 l0_2.length c0_2) l0_2) ∧ Aside0 (Kd.V k46 46 w' w.heap.size (fun k_ => (P0_2_ k_ ∨ w.heap.size ≤ k_) ∧ some k_ ≠ (u104002 : Value).ownBlock ∧ k_ ≠ gb101 ∧ k_ ≠ gb102 ∧ k_ ≠ gb103) (.slice A0_2 l0_2.length c0_2) l0_2) ∧ Aside0 (Kd.N k53 53 w' w.heap.size (fun k_ => (P0_2_ k_ ∨ w.heap.size ≤ k_) ∧ k_ ≠ gb101 ∧ k_ ≠ gb102 ∧ k_ ≠ gb103) u104002 x104002_1) ∧ Aside0 (w'.heap[gb101]? = some (.cells #[.string a0_0, .string a0_1, (.slice A0_2 l0_2.length c0_2)] 24 (0, 0))) ∧ Aside0 (w'.heap[gb102]? = some (.cells #[.string (⟨#[]⟩ : ByteArray), .string (⟨#[]⟩ : ByteArray), (.slice none 0 0)] 29 (0, 0))) ∧ Aside0 (w'.heap[gb103]? = some (.cells #[.string a0_0, .string a0_1, u104002] 29 (0, 0))) ∧ Aside0 (Below w.heap.size w w'))
  case atStart => exact ⟨(0), (([] : List (S53))), (.slice none 0 0), (by first | rfl | (simp; done) | (simp [*]; done)), H', ⟨Nat.le_refl _⟩, ⟨by (with_reducible repeat (first | apply Kd.V_alloc | apply Kd.V_drewN | apply Kd.V_drew)); exact Kd.V_mono (Kd.V_far (p := ⟨gb103, 2, none⟩) (Kd.V_far (p := ⟨gb103, 1, none⟩) (Kd.V_far (p := ⟨gb103, 0, none⟩) (Kd.V_mono HO0_2.out (fun k_ hk => (⟨hk, hk.2⟩ : _ ∧ k_ ≠ gb103))) (fun _ hk => hk.2) (.string a0_0)) (fun _ hk => hk.2) (.string a0_1)) (fun _ hk => hk.2) (.slice none 0 0)) (fun _ hk => ⟨hk.1.1.1.1, ⟨(by simp [Value.ownBlock]), ⟨hk.1.1.1.2, ⟨hk.1.1.2, hk.1.2⟩⟩⟩⟩)⟩, ⟨by (with_reducible repeat (first | apply Kd.V_alloc | apply Kd.V_drewN | apply Kd.V_drew)); exact Kd.V_mono (Kd.V_far (p := ⟨gb103, 2, none⟩) (Kd.V_far (p := ⟨gb103, 1, none⟩) (Kd.V_far (p := ⟨gb103, 0, none⟩) (Kd.V_mono HO0_2.out (fun k_ hk => (⟨hk, hk.2⟩ : _ ∧ k_ ≠ gb103))) (fun _ hk => hk.2) (.string a0_0)) (fun _ hk => hk.2) (.string a0_1)) (fun _ hk => hk.2) (.slice none 0 0)) (fun _ hk => ⟨hk.1.1.1.1, ⟨(by simp [Value.ownBlock]), ⟨hk.1.1.1.2, ⟨hk.1.1.2, hk.1.2⟩⟩⟩⟩)⟩, ⟨by first | exact Kd.S_nil _ _ _ _ _ | exact Kd.N_nil _ _ _ _ _ | exact Kd.V_nil _ _ _ _ _ | exact Kd.Q_nil _ _ _ _ _ | exact Kd.R_nil _ _ _ _ _⟩, ⟨by (with_reducible repeat (first | refine blk_drewN ?_ _ | refine blk_drew ?_ | refine blk_alloc ?_ _)); refine blk_far ?_ NB101_103.out _; (with_reducible repeat (first | refine blk_drewN ?_ _ | refine blk_drew ?_ | refine blk_alloc ?_ _)); refine blk_far ?_ NB101_103.out _; (with_reducible repeat (first | refine blk_drewN ?_ _ | refine blk_drew ?_ | refine blk_alloc ?_ _)); refine blk_far ?_ NB101_103.out _; (with_reducible repeat (first | refine blk_drewN ?_ _ | refine blk_drew ?_ | refine blk_alloc ?_ _)); exact BK101.out⟩, ⟨by (with_reducible repeat (first | refine blk_drewN ?_ _ | refine blk_drew ?_ | refine blk_alloc ?_ _)); refine blk_far ?_ NB102_103.out _; (with_reducible repeat (first | refine blk_drewN ?_ _ | refine blk_drew ?_ | refine blk_alloc ?_ _)); refine blk_far ?_ NB102_103.out _; (with_reducible repeat (first | refine blk_drewN ?_ _ | refine blk_drew ?_ | refine blk_alloc ?_ _)); refine blk_far ?_ NB102_103.out _; (with_reducible repeat (first | refine blk_drewN ?_ _ | refine blk_drew ?_ | refine blk_alloc ?_ _)); exact BK102.out⟩, ⟨by (with_reducible repeat (first | refine blk_drewN ?_ _ | refine blk_drew ?_ | refine blk_alloc ?_ _)); refine blk_put (cs := #[.string a0_0, .string a0_1, .slice none 0 0]) ?_ 2 _ rfl; (with_reducible repeat (first | refine blk_drewN ?_ _ | refine blk_drew ?_ | refine blk_alloc ?_ _)); refine blk_put (cs := #[.string a0_0, .string (⟨#[]⟩ : ByteArray), .slice none 0 0]) ?_ 1 _ rfl; (with_reducible repeat (first | refine blk_drewN ?_ _ | refine blk_drew ?_ | refine blk_alloc ?_ _)); refine blk_put (cs := #[.string (⟨#[]⟩ : ByteArray), .string (⟨#[]⟩ : ByteArray), .slice none 0 0]) ?_ 0 _ rfl; (with_reducible repeat (first | refine blk_drewN ?_ _ | refine blk_drew ?_ | refine blk_alloc ?_ _)); exact BK103.out⟩, ⟨by repeat (first | (with_reducible first | exact HB.out | apply below_alloc | apply pw_below_drewN | apply below_drew1 | refine below_set ?_ GE101.out | refine below_set ?_ GE102.out | refine below_set ?_ GE103.out) | exact HB.out)⟩⟩
  case round =>
    clear H'
    try clear c1
    try clear p2
    try clear c4
    try clear c7
    try clear c8
    try clear hcz10_0
    try clear hcz10_1
    try clear hcz10_2
    try clear hcz5_0
    try clear hcz5_1
    try clear hcz5_2
    try clear hcz9_0
    try clear hcz9_1
    try clear hcz9_2
    try clear hfz10_0
    try clear hfz10_1
    try clear hfz10_2
    try clear hfz5_0
    try clear hfz5_1
    try clear hfz5_2
    try clear hfz9_0
    try clear hfz9_1
    try clear hfz9_2
    obtain ⟨x14_1, x104002_1, u104002, rfl, HA, HK1, HO_12, HO_102002, HO_104002, BK101, BK102, BK103, HB⟩ := hrel
    cases gk with
    | zero => exact absurd HA.out (by simp [colloquylaw20_of.l0])
    | succ k1 =>
      have H := HA.out
      clear HA
      simp only [colloquylaw20_of.l0] at H
      by_cases c11 : x14_1 < (l0_2.length : Int)
      · rw [if_pos c11] at H
        have c11b0 : decide (x14_1 < (l0_2.length : Int)) = true := decide_eq_true c11
        clear c11
        by_cases c12 : 0 ≤ x14_1
        · rw [if_pos c12] at H
          have c12b0 : decide (0 ≤ x14_1) = true := decide_eq_true c12
          clear c12
          by_cases c13 : x14_1 < (l0_2.length : Int)
          · rw [if_pos c13] at H
            have c13b0 : decide (x14_1 < (l0_2.length : Int)) = true := decide_eq_true c13
            clear c13
            by_cases c14 : x104002_1.length < 3518437208883
            · rw [if_pos c14] at H
              have LMc14 := Aside0.mk c14
              clear c14
              obtain ⟨y106, hy106⟩ : ∃ y_ : List (S53), y_ = (x104002_1 ++ [(⟨(rd_T46 l0_2 x14_1).f0, (rd_T46 l0_2 x14_1).f1⟩ : S53)]) := ⟨_, rfl⟩
              replace H : (colloquylaw20_of.l0 k1 l0_2 (l0_2.length : Int) (wrap64 (x14_1 + 1)) a0_0 a0_1 y106) = some (r1, r2, r3) := by first | (rw [hy106]; with_reducible exact H) | (have H2_ := (Option.bind_some _ _).symm.trans H; rw [hy106]; with_reducible exact H2_) | (have H2_ := (Option.bind_some _ _).symm.trans H; with_reducible exact H2_) | with_reducible exact H | (rw [hy106]; exact H) | exact H
              have Ny106 := Aside0.mk hy106
              clear hy106
              have H' := Aside0.mk H
              clear H
              have p104 : 0 ≤ (x14_1 : Int) := of_decide_eq_true (by first | (with_reducible assumption) | assumption)
              have q104 : x14_1 < (l0_2.length : Int) := of_decide_eq_true (by first | (with_reducible assumption) | assumption)
              obtain ⟨ad104, A104_1, c104_1, e104, hx104_0, hx104_1, hl104_1, hi104_1⟩ := at_T46 (Kd.V_reads' HO_12.out).2.2 x14_1 p104 q104
              cases e104
              obtain ⟨ce104, hce104, hMe104, hcc104⟩ := Kd.V_get HO_12.out z46 x14_1 p104 (by first | exact q104 | exact of_decide_eq_true (by first | (with_reducible assumption) | assumption) | (have e_ := (Kd.V_reads' HO_12.out).1; omega))
              obtain ⟨ua104_1, uc104_1, rfl, ul104_1, ge104_1⟩ := k46_openF hMe104
              have hv104_1 := hcc104 1 _ rfl
              rw [add_field _ _ 1 (by omega)] at hv104_1
              replace hv104_1 := Option.some.inj (hv104_1.symm.trans hx104_1)
              injection hv104_1 with hva_ hvn_ hvc_
              rw [hva_] at ge104_1
              rw [hvc_] at ul104_1
              have HL104_1 := Aside0.mk (show Kd.V k49 49 _ w.heap.size _ _ ((rd_T46 l0_2 x14_1).f1) from Kd.V_mk ul104_1 ge104_1)
              clear hva_ hvn_ hvc_ ge104_1 ul104_1
              clear hcc104 hce104
              have HR104_1 := Aside0.mk hi104_1
              have HC104_1 := Aside0.mk hl104_1
              clear hi104_1 hl104_1
              replace p104 := eq_true p104
              replace q104 := eq_true q104
              go_wp2_with (first | ((with_reducible refine gate_dst (N := 5) rfl ?_); refine box_event ?hg (N := 5) ?hd (cs := #[.string (⟨#[]⟩ : ByteArray), .slice none 0 0]) (t := 46) ?hr ?_; (case hd => rfl); (case hg => rfl); (case hr => first | (go_simp; done) | (go_simp; rfl)); intro gb105 hg w15 hbox hb; have n0_ := Aside0.mk (Kd.V_below (Kd.V_elderB (by (with_reducible repeat (first | apply Kd.V_alloc | apply Kd.V_drewN | apply Kd.V_drew)); exact HO_12.out) gb105 (Nat.le_of_eq hg.symm)) hb); have n1_ := Aside0.mk (Kd.V_below (Kd.V_elderB (by (with_reducible repeat (first | apply Kd.V_alloc | apply Kd.V_drewN | apply Kd.V_drew)); exact HO_102002.out) gb105 (Nat.le_of_eq hg.symm)) hb); have n2_ := Aside0.mk (Kd.N_below (Kd.N_elderB (by (with_reducible repeat (first | apply Kd.N_alloc | apply Kd.N_drewN | apply Kd.N_drew)); exact HO_104002.out) gb105 (Nat.le_of_eq hg.symm)) hb); have n3_ := Aside0.mk (Kd.V_below (Kd.V_elderB (by (with_reducible repeat (first | apply Kd.V_alloc | apply Kd.V_drewN | apply Kd.V_drew)); exact HL104_1.out) gb105 (Nat.le_of_eq hg.symm)) hb); have n4_ := Aside0.mk (blk_below (g := gb101) (o := .cells #[.string a0_0, .string a0_1, .slice (some ad104) l0_2.length c0_2] 24 (0, 0)) (by (with_reducible repeat (first | refine blk_drewN ?_ _ | refine blk_drew ?_ | refine blk_alloc ?_ _)); exact BK101.out) hb); have n5_ := Aside0.mk (blk_below (g := gb102) (o := .cells #[.string (⟨#[]⟩ : ByteArray), .string (⟨#[]⟩ : ByteArray), .slice none 0 0] 29 (0, 0)) (by (with_reducible repeat (first | refine blk_drewN ?_ _ | refine blk_drew ?_ | refine blk_alloc ?_ _)); exact BK102.out) hb); have n6_ := Aside0.mk (blk_below (g := gb103) (o := .cells #[.string a0_0, .string a0_1, u104002] 29 (0, 0)) (by (with_reducible repeat (first | refine blk_drewN ?_ _ | refine blk_drew ?_ | refine blk_alloc ?_ _)); exact BK103.out) hb); have n7_ := Aside0.mk (Kd.C_below (by repeat (first | (with_reducible exact HR104_1.out) | (with_reducible refine Kd.C_alloc ?_ _) | (with_reducible refine Kd.C_drewN ?_ _) | (with_reducible refine Kd.C_drew ?_) | exact HR104_1.out)) hb); have n8_ := Aside0.mk (below_step (by repeat (first | (with_reducible first | exact HB.out | apply below_alloc | apply pw_below_drewN | apply below_drew1 | refine below_set ?_ GE101.out | refine below_set ?_ GE102.out | refine below_set ?_ GE103.out) | exact HB.out)) hb); have n9_ := Aside0.mk (hbox); have n10_ := Aside0.mk ((by rw [hg]; exact (below_size (by repeat (first | (with_reducible first | exact HB.out | apply below_alloc | apply pw_below_drewN | apply below_drew1 | refine below_set ?_ GE101.out | refine below_set ?_ GE102.out | refine below_set ?_ GE103.out) | exact HB.out))) : w.heap.size ≤ gb105)); have n11_ := Aside0.mk ((by rw [hg]; exact (below_size (by repeat (first | (with_reducible first | exact HB.out | apply below_alloc | apply pw_below_drewN | apply below_drew1 | refine below_set ?_ GE101.out | refine below_set ?_ GE102.out | refine below_set ?_ GE103.out) | exact HB.out))) : w.heap.size ≤ gb105)); have n12_ := Aside0.mk ((by rw [hg]; exact Nat.ne_of_lt (blk_lt (g := gb101) (o := .cells #[.string a0_0, .string a0_1, .slice (some ad104) l0_2.length c0_2] 24 (0, 0)) (by (with_reducible repeat (first | refine blk_drewN ?_ _ | refine blk_drew ?_ | refine blk_alloc ?_ _)); exact BK101.out)) : gb101 ≠ gb105)); have n13_ := Aside0.mk ((by rw [hg]; exact Nat.ne_of_gt (blk_lt (g := gb101) (o := .cells #[.string a0_0, .string a0_1, .slice (some ad104) l0_2.length c0_2] 24 (0, 0)) (by (with_reducible repeat (first | refine blk_drewN ?_ _ | refine blk_drew ?_ | refine blk_alloc ?_ _)); exact BK101.out)) : gb105 ≠ gb101)); have n14_ := Aside0.mk ((by rw [hg]; exact Nat.ne_of_lt (blk_lt (g := gb102) (o := .cells #[.string (⟨#[]⟩ : ByteArray), .string (⟨#[]⟩ : ByteArray), .slice none 0 0] 29 (0, 0)) (by (with_reducible repeat (first | refine blk_drewN ?_ _ | refine blk_drew ?_ | refine blk_alloc ?_ _)); exact BK102.out)) : gb102 ≠ gb105)); have n15_ := Aside0.mk ((by rw [hg]; exact Nat.ne_of_gt (blk_lt (g := gb102) (o := .cells #[.string (⟨#[]⟩ : ByteArray), .string (⟨#[]⟩ : ByteArray), .slice none 0 0] 29 (0, 0)) (by (with_reducible repeat (first | refine blk_drewN ?_ _ | refine blk_drew ?_ | refine blk_alloc ?_ _)); exact BK102.out)) : gb105 ≠ gb102)); have n16_ := Aside0.mk ((by rw [hg]; exact Nat.ne_of_lt (blk_lt (g := gb103) (o := .cells #[.string a0_0, .string a0_1, u104002] 29 (0, 0)) (by (with_reducible repeat (first | refine blk_drewN ?_ _ | refine blk_drew ?_ | refine blk_alloc ?_ _)); exact BK103.out)) : gb103 ≠ gb105)); have n17_ := Aside0.mk ((by rw [hg]; exact Nat.ne_of_gt (blk_lt (g := gb103) (o := .cells #[.string a0_0, .string a0_1, u104002] 29 (0, 0)) (by (with_reducible repeat (first | refine blk_drewN ?_ _ | refine blk_drew ?_ | refine blk_alloc ?_ _)); exact BK103.out)) : gb105 ≠ gb103)); clear HO_12; clear HO_102002; clear HO_104002; clear HL104_1; clear BK101; clear BK102; clear BK103; clear HR104_1; clear HB; have HO_12 := n0_; have HO_102002 := n1_; have HO_104002 := n2_; have HL104_1 := n3_; have BK101 := n4_; have BK102 := n5_; have BK103 := n6_; have HR104_1 := n7_; have HB := n8_; have BK105 := n9_; have GW105 := n10_; have GE105 := n11_; have NB101_105 := n12_; have NB105_101 := n13_; have NB102_105 := n14_; have NB105_102 := n15_; have NB103_105 := n16_; have NB105_103 := n17_; clear n0_ n1_ n2_ n3_ n4_ n5_ n6_ n7_ n8_ n9_ n10_ n11_ n12_ n13_ n14_ n15_ n16_ n17_; clear hb hbox hg; have hnb16 := NB105_101.out; have hnc16 := NB101_105.out; have hnb17 := NB105_102.out; have hnc17 := NB102_105.out; have hnb18 := NB105_103.out; have hnc18 := NB103_105.out; have hcz19_0 : w15.cell? ⟨gb105, 0, none⟩ = some (.string (⟨#[]⟩ : ByteArray)) := (blk_cell BK105.out 0).trans rfl; have hcz19_1 : w15.cell? ⟨gb105, 1, none⟩ = some (.slice none 0 0) := (blk_cell BK105.out 1).trans rfl; have hfz19_0 := blk_frozen BK105.out 0; have hfz19_1 := blk_frozen BK105.out 1) | ((with_reducible refine gate_store (t := 46) (p := 5) rfl ?_); refine store_event (t := 46) (p := 5) (v := ?vo_w20) (w1 := ((w15.setCell ⟨gb105, 0, none⟩ (.string ((rd_T46 l0_2 x14_1).f0))).setCell ⟨gb105, 1, none⟩ (.slice A104_1 ((rd_T46 l0_2 x14_1).f1).length c104_1))) ?hg ?ho ?hn ?hr ?_; (case ho => rfl); (case hg => rfl); (case hn => rfl); (case hr => first | (go_simp; done) | (go_simp; rfl)); intro w20 hw; have n0_ : Aside0 (Kd.V k46 46 w20 w.heap.size (fun k_ => (P0_2_ k_ ∨ w.heap.size ≤ k_) ∧ some k_ ≠ (u104002 : Value).ownBlock ∧ k_ ≠ gb101 ∧ k_ ≠ gb102 ∧ k_ ≠ gb103 ∧ k_ ≠ gb105) (.slice (some ad104) l0_2.length c0_2) l0_2) := ⟨(by rw [hw]; exact (by (with_reducible repeat (first | apply Kd.V_alloc | apply Kd.V_drewN | apply Kd.V_drew)); exact Kd.V_mono (Kd.V_far (p := ⟨gb105, 1, none⟩) (Kd.V_far (p := ⟨gb105, 0, none⟩) (Kd.V_mono HO_12.out (fun k_ hk => (⟨hk, hk.2⟩ : _ ∧ k_ ≠ gb105))) (fun _ hk => hk.2) (.string ((rd_T46 l0_2 x14_1).f0))) (fun _ hk => hk.2) (.slice A104_1 ((rd_T46 l0_2 x14_1).f1).length c104_1)) (fun _ hk => ⟨hk.1.1.1, ⟨hk.1.1.2.1, ⟨hk.1.1.2.2.1, ⟨hk.1.1.2.2.2.1, ⟨hk.1.1.2.2.2.2, hk.1.2⟩⟩⟩⟩⟩)))⟩; have n1_ : Aside0 (Kd.V k46 46 w20 w.heap.size (fun k_ => (P0_2_ k_ ∨ w.heap.size ≤ k_) ∧ some k_ ≠ (u104002 : Value).ownBlock ∧ k_ ≠ gb101 ∧ k_ ≠ gb102 ∧ k_ ≠ gb103 ∧ k_ ≠ gb105) (.slice (some ad104) l0_2.length c0_2) l0_2) := ⟨(by rw [hw]; exact (by (with_reducible repeat (first | apply Kd.V_alloc | apply Kd.V_drewN | apply Kd.V_drew)); exact Kd.V_mono (Kd.V_far (p := ⟨gb105, 1, none⟩) (Kd.V_far (p := ⟨gb105, 0, none⟩) (Kd.V_mono HO_102002.out (fun k_ hk => (⟨hk, hk.2⟩ : _ ∧ k_ ≠ gb105))) (fun _ hk => hk.2) (.string ((rd_T46 l0_2 x14_1).f0))) (fun _ hk => hk.2) (.slice A104_1 ((rd_T46 l0_2 x14_1).f1).length c104_1)) (fun _ hk => ⟨hk.1.1.1, ⟨hk.1.1.2.1, ⟨hk.1.1.2.2.1, ⟨hk.1.1.2.2.2.1, ⟨hk.1.1.2.2.2.2, hk.1.2⟩⟩⟩⟩⟩)))⟩; have n2_ : Aside0 (Kd.N k53 53 w20 w.heap.size (fun k_ => (P0_2_ k_ ∨ w.heap.size ≤ k_) ∧ k_ ≠ gb101 ∧ k_ ≠ gb102 ∧ k_ ≠ gb103 ∧ k_ ≠ gb105) u104002 x104002_1) := ⟨(by rw [hw]; exact (by (with_reducible repeat (first | apply Kd.N_alloc | apply Kd.N_drewN | apply Kd.N_drew)); exact Kd.N_mono (Kd.N_far (p := ⟨gb105, 1, none⟩) (Kd.N_far (p := ⟨gb105, 0, none⟩) (Kd.N_mono HO_104002.out (fun k_ hk => (⟨hk, hk.2⟩ : _ ∧ k_ ≠ gb105))) (fun _ hk => hk.2) (.string ((rd_T46 l0_2 x14_1).f0))) (fun _ hk => hk.2) (.slice A104_1 ((rd_T46 l0_2 x14_1).f1).length c104_1)) (fun _ hk => ⟨hk.1.1.1, ⟨hk.1.1.2.1, ⟨hk.1.1.2.2.1, ⟨hk.1.1.2.2.2, hk.1.2⟩⟩⟩⟩)))⟩; have n3_ : Aside0 (Kd.V k49 49 w20 w.heap.size (fun k_ => (P0_2_ k_ ∨ w.heap.size ≤ k_) ∧ some k_ ≠ (u104002 : Value).ownBlock ∧ k_ ≠ gb101 ∧ k_ ≠ gb102 ∧ k_ ≠ gb103 ∧ k_ ≠ gb105) (.slice A104_1 ((rd_T46 l0_2 x14_1).f1).length c104_1) ((rd_T46 l0_2 x14_1).f1)) := ⟨(by rw [hw]; exact (by (with_reducible repeat (first | apply Kd.V_alloc | apply Kd.V_drewN | apply Kd.V_drew)); exact Kd.V_mono (Kd.V_far (p := ⟨gb105, 1, none⟩) (Kd.V_far (p := ⟨gb105, 0, none⟩) (Kd.V_mono HL104_1.out (fun k_ hk => (⟨hk, hk.2⟩ : _ ∧ k_ ≠ gb105))) (fun _ hk => hk.2) (.string ((rd_T46 l0_2 x14_1).f0))) (fun _ hk => hk.2) (.slice A104_1 ((rd_T46 l0_2 x14_1).f1).length c104_1)) (fun _ hk => ⟨hk.1.1.1, ⟨hk.1.1.2.1, ⟨hk.1.1.2.2.1, ⟨hk.1.1.2.2.2.1, ⟨hk.1.1.2.2.2.2, hk.1.2⟩⟩⟩⟩⟩)))⟩; have n4_ : Aside0 (w20.heap[gb101]? = some (.cells #[.string a0_0, .string a0_1, .slice (some ad104) l0_2.length c0_2] 24 (0, 0))) := ⟨(by rw [hw]; exact (by (with_reducible repeat (first | refine blk_drewN ?_ _ | refine blk_drew ?_ | refine blk_alloc ?_ _)); refine blk_far ?_ NB101_105.out _; (with_reducible repeat (first | refine blk_drewN ?_ _ | refine blk_drew ?_ | refine blk_alloc ?_ _)); refine blk_far ?_ NB101_105.out _; (with_reducible repeat (first | refine blk_drewN ?_ _ | refine blk_drew ?_ | refine blk_alloc ?_ _)); exact BK101.out))⟩; have n5_ : Aside0 (w20.heap[gb102]? = some (.cells #[.string (⟨#[]⟩ : ByteArray), .string (⟨#[]⟩ : ByteArray), .slice none 0 0] 29 (0, 0))) := ⟨(by rw [hw]; exact (by (with_reducible repeat (first | refine blk_drewN ?_ _ | refine blk_drew ?_ | refine blk_alloc ?_ _)); refine blk_far ?_ NB102_105.out _; (with_reducible repeat (first | refine blk_drewN ?_ _ | refine blk_drew ?_ | refine blk_alloc ?_ _)); refine blk_far ?_ NB102_105.out _; (with_reducible repeat (first | refine blk_drewN ?_ _ | refine blk_drew ?_ | refine blk_alloc ?_ _)); exact BK102.out))⟩; have n6_ : Aside0 (w20.heap[gb103]? = some (.cells #[.string a0_0, .string a0_1, u104002] 29 (0, 0))) := ⟨(by rw [hw]; exact (by (with_reducible repeat (first | refine blk_drewN ?_ _ | refine blk_drew ?_ | refine blk_alloc ?_ _)); refine blk_far ?_ NB103_105.out _; (with_reducible repeat (first | refine blk_drewN ?_ _ | refine blk_drew ?_ | refine blk_alloc ?_ _)); refine blk_far ?_ NB103_105.out _; (with_reducible repeat (first | refine blk_drewN ?_ _ | refine blk_drew ?_ | refine blk_alloc ?_ _)); exact BK103.out))⟩; have n7_ : Aside0 (w20.heap[gb105]? = some (.cells #[.string ((rd_T46 l0_2 x14_1).f0), .slice A104_1 ((rd_T46 l0_2 x14_1).f1).length c104_1] 46 (0, 0))) := ⟨(by rw [hw]; exact (by (with_reducible repeat (first | refine blk_drewN ?_ _ | refine blk_drew ?_ | refine blk_alloc ?_ _)); refine blk_put (cs := #[.string ((rd_T46 l0_2 x14_1).f0), .slice none 0 0]) ?_ 1 _ rfl; (with_reducible repeat (first | refine blk_drewN ?_ _ | refine blk_drew ?_ | refine blk_alloc ?_ _)); refine blk_put (cs := #[.string (⟨#[]⟩ : ByteArray), .slice none 0 0]) ?_ 0 _ rfl; (with_reducible repeat (first | refine blk_drewN ?_ _ | refine blk_drew ?_ | refine blk_alloc ?_ _)); exact BK105.out))⟩; have n8_ : Aside0 (Below w.heap.size w w20) := ⟨(by rw [hw]; exact (by repeat (first | (with_reducible first | exact HB.out | apply below_alloc | apply pw_below_drewN | apply below_drew1 | refine below_set ?_ GE101.out | refine below_set ?_ GE102.out | refine below_set ?_ GE103.out | refine below_set ?_ GE105.out) | exact HB.out)))⟩; clear hw; clear HO_12; clear HO_102002; clear HO_104002; clear HL104_1; clear BK101; clear BK102; clear BK103; clear BK105; clear HB; have HO_12 := n0_; have HO_102002 := n1_; have HO_104002 := n2_; have HL104_1 := n3_; have BK101 := n4_; have BK102 := n5_; have BK103 := n6_; have BK105 := n7_; have HB := n8_; clear n0_ n1_ n2_ n3_ n4_ n5_ n6_ n7_ n8_; have hnb21 := NB103_101.out; have hnc21 := NB101_103.out; have hnb22 := NB103_102.out; have hnc22 := NB102_103.out; have hcz23_0 : w20.cell? ⟨gb103, 0, none⟩ = some (.string a0_0) := (blk_cell BK103.out 0).trans rfl; have hcz23_1 : w20.cell? ⟨gb103, 1, none⟩ = some (.string a0_1) := (blk_cell BK103.out 1).trans rfl; have hcz23_2 : w20.cell? ⟨gb103, 2, none⟩ = some (u104002) := (blk_cell BK103.out 2).trans rfl; have hfz23_0 := blk_frozen BK103.out 0; have hfz23_1 := blk_frozen BK103.out 1; have hfz23_2 := blk_frozen BK103.out 2; have hcz24_0 : w20.cell? ⟨gb105, 0, none⟩ = some (.string ((rd_T46 l0_2 x14_1).f0)) := (blk_cell BK105.out 0).trans rfl; have hcz24_1 : w20.cell? ⟨gb105, 1, none⟩ = some (.slice A104_1 ((rd_T46 l0_2 x14_1).f1).length c104_1) := (blk_cell BK105.out 1).trans rfl; have hfz24_0 := blk_frozen BK105.out 0; have hfz24_1 := blk_frozen BK105.out 1) | ((with_reducible refine gate_builtin (b := .append) (xs := #[.tmp 19, .tmp 25]) rfl ?_); at_builtin; refine Kd.N_append k53 (w0 := w) w.heap.size rfl (.tmp 19) (.tmp 25) 27 53 (.agg #[(.string ⟨#[]⟩), (.slice none 0 0)]) 40 rfl Tryd.underlying27 info53 rfl (by decide) (by omega) u104002 x104002_1 (⟨(rd_T46 l0_2 x14_1).f0, (rd_T46 l0_2 x14_1).f1⟩ : S53) [.string ((rd_T46 l0_2 x14_1).f0), .slice A104_1 ((rd_T46 l0_2 x14_1).f1).length c104_1] (fun k_ => (P0_2_ k_ ∨ w.heap.size ≤ k_) ∧ k_ ≠ gb101 ∧ k_ ≠ gb102 ∧ k_ ≠ gb103 ∧ k_ ≠ gb105) (fun k_ => ((fun k_ => (P0_2_ k_ ∨ w.heap.size ≤ k_) ∧ k_ ≠ gb101 ∧ k_ ≠ gb102 ∧ k_ ≠ gb103 ∧ k_ ≠ gb105)) k_ ∧ some k_ ≠ (u104002 : Value).ownBlock) rfl rfl ?aP (fun _ hk => hk) ?aF ?aO ?aB ?aS ?aL ?_; (case aP => exact (k53_mkF _ _ (⟨(rd_T46 l0_2 x14_1).f0, (rd_T46 l0_2 x14_1).f1⟩ : S53) (Kd.V_reads' (Kd.V_mono (ok' := (fun k_ => ((fun k_ => (P0_2_ k_ ∨ w.heap.size ≤ k_) ∧ k_ ≠ gb101 ∧ k_ ≠ gb102 ∧ k_ ≠ gb103 ∧ k_ ≠ gb105)) k_ ∧ some k_ ≠ (u104002 : Value).ownBlock)) (HL104_1.out) (fun k_ hk => ⟨⟨hk.1, ⟨hk.2.2.1, ⟨hk.2.2.2.1, ⟨hk.2.2.2.2.1, hk.2.2.2.2.2⟩⟩⟩⟩, hk.2.1⟩))).2.1 (Kd.V_F (Kd.V_mono (ok' := (fun k_ => ((fun k_ => (P0_2_ k_ ∨ w.heap.size ≤ k_) ∧ k_ ≠ gb101 ∧ k_ ≠ gb102 ∧ k_ ≠ gb103 ∧ k_ ≠ gb105)) k_ ∧ some k_ ≠ (u104002 : Value).ownBlock)) (HL104_1.out) (fun k_ hk => ⟨⟨hk.1, ⟨hk.2.2.1, ⟨hk.2.2.2.1, ⟨hk.2.2.2.2.1, hk.2.2.2.2.2⟩⟩⟩⟩, hk.2.1⟩))))); (case aB => exact (by repeat (first | (with_reducible first | exact HB.out | apply below_alloc | apply pw_below_drewN | apply below_drew1 | refine below_set ?_ GE101.out | refine below_set ?_ GE102.out | refine below_set ?_ GE103.out | refine below_set ?_ GE105.out) | exact HB.out))); (case aF => exact (fun k_ hk => ⟨(.inr (Nat.le_trans (below_size (by repeat (first | (with_reducible first | exact HB.out | apply below_alloc | apply pw_below_drewN | apply below_drew1 | refine below_set ?_ GE101.out | refine below_set ?_ GE102.out | refine below_set ?_ GE103.out | refine below_set ?_ GE105.out) | exact HB.out))) hk)), Kd.freshB (g := gb101) (o := .cells #[.string a0_0, .string a0_1, .slice (some ad104) l0_2.length c0_2] 24 (0, 0)) (by (with_reducible repeat (first | refine blk_drewN ?_ _ | refine blk_drew ?_ | refine blk_alloc ?_ _)); exact BK101.out) k_ hk, Kd.freshB (g := gb102) (o := .cells #[.string (⟨#[]⟩ : ByteArray), .string (⟨#[]⟩ : ByteArray), .slice none 0 0] 29 (0, 0)) (by (with_reducible repeat (first | refine blk_drewN ?_ _ | refine blk_drew ?_ | refine blk_alloc ?_ _)); exact BK102.out) k_ hk, Kd.freshB (g := gb103) (o := .cells #[.string a0_0, .string a0_1, u104002] 29 (0, 0)) (by (with_reducible repeat (first | refine blk_drewN ?_ _ | refine blk_drew ?_ | refine blk_alloc ?_ _)); exact BK103.out) k_ hk, Kd.freshB (g := gb105) (o := .cells #[.string ((rd_T46 l0_2 x14_1).f0), .slice A104_1 ((rd_T46 l0_2 x14_1).f1).length c104_1] 46 (0, 0)) (by (with_reducible repeat (first | refine blk_drewN ?_ _ | refine blk_drew ?_ | refine blk_alloc ?_ _)); exact BK105.out) k_ hk⟩)); (case aO => exact (by (with_reducible repeat (first | apply Kd.N_alloc | apply Kd.N_drewN | apply Kd.N_drew)); exact HO_104002.out)); (case aS => exact (below_size (by repeat (first | (with_reducible first | exact HB.out | apply below_alloc | apply pw_below_drewN | apply below_drew1 | refine below_set ?_ GE101.out | refine below_set ?_ GE102.out | refine below_set ?_ GE103.out | refine below_set ?_ GE105.out) | exact HB.out)))); (case aL => have := LMc14.out; omega); intro v107 w25 ho hb hg hat; rw [← Ny106.out] at ho; have n0_ := Aside0.mk (Kd.V_afterv (ok := (fun k_ => (P0_2_ k_ ∨ w.heap.size ≤ k_) ∧ k_ ≠ gb101 ∧ k_ ≠ gb102 ∧ k_ ≠ gb103 ∧ k_ ≠ gb105)) (by (with_reducible repeat (first | apply Kd.V_alloc | apply Kd.V_drewN | apply Kd.V_drew)); exact Kd.V_mono HO_12.out (fun _ hk => ⟨⟨hk.1, ⟨hk.2.2.1, ⟨hk.2.2.2.1, ⟨hk.2.2.2.2.1, hk.2.2.2.2.2⟩⟩⟩⟩, hk.2.1⟩)) hg hat); have n1_ := Aside0.mk (Kd.V_afterv (ok := (fun k_ => (P0_2_ k_ ∨ w.heap.size ≤ k_) ∧ k_ ≠ gb101 ∧ k_ ≠ gb102 ∧ k_ ≠ gb103 ∧ k_ ≠ gb105)) (by (with_reducible repeat (first | apply Kd.V_alloc | apply Kd.V_drewN | apply Kd.V_drew)); exact Kd.V_mono HO_102002.out (fun _ hk => ⟨⟨hk.1, ⟨hk.2.2.1, ⟨hk.2.2.2.1, ⟨hk.2.2.2.2.1, hk.2.2.2.2.2⟩⟩⟩⟩, hk.2.1⟩)) hg hat); have n2_ := Aside0.mk (blk_grown (g := gb101) (o := .cells #[.string a0_0, .string a0_1, .slice (some ad104) l0_2.length c0_2] 24 (0, 0)) (by (with_reducible repeat (first | refine blk_drewN ?_ _ | refine blk_drew ?_ | refine blk_alloc ?_ _)); exact BK101.out) hg (Kd.N_ne HO_104002.out BK101.out (by decide))); have n3_ := Aside0.mk (blk_grown (g := gb102) (o := .cells #[.string (⟨#[]⟩ : ByteArray), .string (⟨#[]⟩ : ByteArray), .slice none 0 0] 29 (0, 0)) (by (with_reducible repeat (first | refine blk_drewN ?_ _ | refine blk_drew ?_ | refine blk_alloc ?_ _)); exact BK102.out) hg (Kd.N_ne HO_104002.out BK102.out (by decide))); have n4_ := Aside0.mk (blk_grown (g := gb103) (o := .cells #[.string a0_0, .string a0_1, u104002] 29 (0, 0)) (by (with_reducible repeat (first | refine blk_drewN ?_ _ | refine blk_drew ?_ | refine blk_alloc ?_ _)); exact BK103.out) hg (Kd.N_ne HO_104002.out BK103.out (by decide))); have n5_ := Aside0.mk (Kd.V_afterv (ok := (fun k_ => (P0_2_ k_ ∨ w.heap.size ≤ k_) ∧ k_ ≠ gb101 ∧ k_ ≠ gb102 ∧ k_ ≠ gb103 ∧ k_ ≠ gb105)) (by (with_reducible repeat (first | apply Kd.V_alloc | apply Kd.V_drewN | apply Kd.V_drew)); exact Kd.V_mono HL104_1.out (fun _ hk => ⟨⟨hk.1, ⟨hk.2.2.1, ⟨hk.2.2.2.1, ⟨hk.2.2.2.2.1, hk.2.2.2.2.2⟩⟩⟩⟩, hk.2.1⟩)) hg hat); have n6_ := Aside0.mk (blk_grown (g := gb105) (o := .cells #[.string ((rd_T46 l0_2 x14_1).f0), .slice A104_1 ((rd_T46 l0_2 x14_1).f1).length c104_1] 46 (0, 0)) (by (with_reducible repeat (first | refine blk_drewN ?_ _ | refine blk_drew ?_ | refine blk_alloc ?_ _)); exact BK105.out) hg (Kd.N_ne HO_104002.out BK105.out (by decide))); have n7_ := Aside0.mk (hb); have n8_ := Aside0.mk (ho); clear HO_12; clear HO_102002; clear BK101; clear BK102; clear BK103; clear HL104_1; clear BK105; clear HB; clear HO_104002; have HO_12 := n0_; have HO_102002 := n1_; have BK101 := n2_; have BK102 := n3_; have BK103 := n4_; have HL104_1 := n5_; have BK105 := n6_; have HB := n7_; have HO108 := n8_; clear n0_ n1_ n2_ n3_ n4_ n5_ n6_ n7_ n8_; clear ho hb hg hat; obtain ⟨Ao26, co26, eo26⟩ := Kd.N_slice HO108.out; subst eo26; have hcz27_0 : w25.cell? ⟨gb103, 0, none⟩ = some (.string a0_0) := (blk_cell BK103.out 0).trans rfl; have hcz27_1 : w25.cell? ⟨gb103, 1, none⟩ = some (.string a0_1) := (blk_cell BK103.out 1).trans rfl; have hcz27_2 : w25.cell? ⟨gb103, 2, none⟩ = some (u104002) := (blk_cell BK103.out 2).trans rfl; have hfz27_0 := blk_frozen BK103.out 0; have hfz27_1 := blk_frozen BK103.out 1; have hfz27_2 := blk_frozen BK103.out 2))
              go_roundg k1
              case measure => have := HK1.out; omega
              case rel => exact ⟨(wrap64 (x14_1 + 1)), (y106), (.slice Ao26 y106.length co26), (by first | rfl | (simp; done) | (simp [*]; done)), H', ⟨by have := HK1.out; omega⟩, ⟨by (with_reducible repeat (first | apply Kd.V_alloc | apply Kd.V_drewN | apply Kd.V_drew)); exact Kd.V_mono (Kd.V_far (p := ⟨gb103, 2, none⟩) (Kd.V_mono HO_12.out (fun k_ hk => (⟨hk, hk.1.2.2.2.1⟩ : _ ∧ k_ ≠ gb103))) (fun _ hk => hk.2) (.slice Ao26 y106.length co26)) (fun _ hk => ⟨hk.1.1.1, ⟨hk.1.2, ⟨hk.1.1.2.1, ⟨hk.1.1.2.2.1, hk.1.1.2.2.2.1⟩⟩⟩⟩)⟩, ⟨by (with_reducible repeat (first | apply Kd.V_alloc | apply Kd.V_drewN | apply Kd.V_drew)); exact Kd.V_mono (Kd.V_far (p := ⟨gb103, 2, none⟩) (Kd.V_mono HO_102002.out (fun k_ hk => (⟨hk, hk.1.2.2.2.1⟩ : _ ∧ k_ ≠ gb103))) (fun _ hk => hk.2) (.slice Ao26 y106.length co26)) (fun _ hk => ⟨hk.1.1.1, ⟨hk.1.2, ⟨hk.1.1.2.1, ⟨hk.1.1.2.2.1, hk.1.1.2.2.2.1⟩⟩⟩⟩)⟩, ⟨by (with_reducible repeat (first | apply Kd.N_alloc | apply Kd.N_drewN | apply Kd.N_drew)); exact Kd.N_mono (Kd.N_far (p := ⟨gb103, 2, none⟩) (Kd.N_mono HO108.out (fun k_ hk => (⟨hk, hk.2.2.2.1⟩ : _ ∧ k_ ≠ gb103))) (fun _ hk => hk.2) (.slice Ao26 y106.length co26)) (fun _ hk => ⟨hk.1.1, ⟨hk.1.2.1, ⟨hk.1.2.2.1, hk.1.2.2.2.1⟩⟩⟩)⟩, ⟨by (with_reducible repeat (first | refine blk_drewN ?_ _ | refine blk_drew ?_ | refine blk_alloc ?_ _)); refine blk_far ?_ NB101_103.out _; (with_reducible repeat (first | refine blk_drewN ?_ _ | refine blk_drew ?_ | refine blk_alloc ?_ _)); exact BK101.out⟩, ⟨by (with_reducible repeat (first | refine blk_drewN ?_ _ | refine blk_drew ?_ | refine blk_alloc ?_ _)); refine blk_far ?_ NB102_103.out _; (with_reducible repeat (first | refine blk_drewN ?_ _ | refine blk_drew ?_ | refine blk_alloc ?_ _)); exact BK102.out⟩, ⟨by (with_reducible repeat (first | refine blk_drewN ?_ _ | refine blk_drew ?_ | refine blk_alloc ?_ _)); refine blk_put (cs := #[.string a0_0, .string a0_1, u104002]) ?_ 2 _ rfl; (with_reducible repeat (first | refine blk_drewN ?_ _ | refine blk_drew ?_ | refine blk_alloc ?_ _)); exact BK103.out⟩, ⟨by repeat (first | (with_reducible first | exact HB.out | apply below_alloc | apply pw_below_drewN | apply below_drew1 | refine below_set ?_ GE101.out | refine below_set ?_ GE102.out | refine below_set ?_ GE103.out | refine below_set ?_ GE105.out) | exact HB.out)⟩⟩
            · rw [if_neg c14] at H
              exact absurd H (by simp)
          · rw [if_neg c13] at H
            exact absurd H (by simp)
        · rw [if_neg c12] at H
          exact absurd H (by simp)
      · rw [if_neg c11] at H
        have c11b0 : decide (x14_1 < (l0_2.length : Int)) = false := decide_eq_false c11
        clear c11
        simp only [Option.some.injEq, Prod.mk.injEq] at H
        obtain ⟨rfl, rfl, rfl⟩ := H
        have hnb28 := NB103_101.out
        have hnc28 := NB101_103.out
        have hnb29 := NB103_102.out
        have hnc29 := NB102_103.out
        have hcz30_0 : wr.cell? ⟨gb103, 0, none⟩ = some (.string a0_0) := (blk_cell BK103.out 0).trans rfl
        have hcz30_1 : wr.cell? ⟨gb103, 1, none⟩ = some (.string a0_1) := (blk_cell BK103.out 1).trans rfl
        have hcz30_2 : wr.cell? ⟨gb103, 2, none⟩ = some (u104002) := (blk_cell BK103.out 2).trans rfl
        have hfz30_0 := blk_frozen BK103.out 0
        have hfz30_1 := blk_frozen BK103.out 1
        have hfz30_2 := blk_frozen BK103.out 2
        have hnb31 := NB102_101.out
        have hnc31 := NB101_102.out
        have hcz32_0 : wr.cell? ⟨gb102, 0, none⟩ = some (.string (⟨#[]⟩ : ByteArray)) := (blk_cell BK102.out 0).trans rfl
        have hcz32_1 : wr.cell? ⟨gb102, 1, none⟩ = some (.string (⟨#[]⟩ : ByteArray)) := (blk_cell BK102.out 1).trans rfl
        have hcz32_2 : wr.cell? ⟨gb102, 2, none⟩ = some (.slice none 0 0) := (blk_cell BK102.out 2).trans rfl
        have hfz32_0 := blk_frozen BK102.out 0
        have hfz32_1 := blk_frozen BK102.out 1
        have hfz32_2 := blk_frozen BK102.out 2
        obtain ⟨Ao33, co33, eo33⟩ := Kd.N_slice HO_104002.out
        subst eo33
        go_wp2
        refine bodyPost_ret (results_cell_row rfl _ _ gb102 29 #[.string a0_0, .string a0_1, .slice Ao33 x104002_1.length co33] (0, 0) _ rfl (by (with_reducible repeat (first | refine blk_drewN ?_ _ | refine blk_drew ?_ | refine blk_alloc ?_ _)); refine blk_put (cs := #[.string a0_0, .string a0_1, .slice none 0 0]) ?_ 2 _ rfl; (with_reducible repeat (first | refine blk_drewN ?_ _ | refine blk_drew ?_ | refine blk_alloc ?_ _)); refine blk_put (cs := #[.string a0_0, .string (⟨#[]⟩ : ByteArray), .slice none 0 0]) ?_ 1 _ rfl; (with_reducible repeat (first | refine blk_drewN ?_ _ | refine blk_drew ?_ | refine blk_alloc ?_ _)); refine blk_put (cs := #[.string (⟨#[]⟩ : ByteArray), .string (⟨#[]⟩ : ByteArray), .slice none 0 0]) ?_ 0 _ rfl; (with_reducible repeat (first | refine blk_drewN ?_ _ | refine blk_drew ?_ | refine blk_alloc ?_ _)); exact BK102.out) Tryd.underlying29 rfl (by kernel_rfl)) rfl ?_
        exact ⟨_, by first | rfl | (simp [errW_none, errW_some] <;> rfl) | (simp [*, errW_none, errW_some] <;> rfl), by (with_reducible repeat (first | apply Kd.N_alloc | apply Kd.N_drewN | apply Kd.N_drew)); exact Kd.N_mono (Kd.N_far (p := ⟨gb102, 2, none⟩) (Kd.N_far (p := ⟨gb102, 1, none⟩) (Kd.N_far (p := ⟨gb102, 0, none⟩) (Kd.N_mono HO_104002.out (fun k_ hk => (⟨hk, hk.2.2.1⟩ : _ ∧ k_ ≠ gb102))) (fun _ hk => hk.2) (.string a0_0)) (fun _ hk => hk.2) (.string a0_1)) (fun _ hk => hk.2) (.slice Ao33 x104002_1.length co33)) (fun _ hk => hk.1.1), by repeat (first | (with_reducible first | exact HB.out | apply below_alloc | apply pw_below_drewN | apply below_drew1 | refine below_set ?_ GE101.out | refine below_set ?_ GE102.out | refine below_set ?_ GE103.out) | exact HB.out)⟩
end
section
attribute [local go_sem] max2_int min2_int max_two min_two max_three min_three max_four min_four   -- for this text's walks alone
def colloquylaw20_first.f  : Option (ByteArray × ByteArray × (List (S46))) := some ((⟨#[115]⟩ : ByteArray), (⟨#[98]⟩ : ByteArray), (([(⟨(⟨#[103]⟩ : ByteArray), (([(⟨(⟨#[116]⟩ : ByteArray), 1⟩ : S49)] : List (S49)))⟩ : S46)] : List (S46))))
theorem colloquylaw20_first.calls  (r1 : ByteArray) (r2 : ByteArray) (r3 : List (S46)) (w : World) (h : colloquylaw20_first.f  = some (r1, r2, r3)) :
    Calls Tryd.prog 21 #[] w fun e w' => ∃ v2_ : Value, e = .returned (.agg #[.string r1, .string r2, v2_]) ∧ Kd.N k46 46 w' w.heap.size (fun k_ => (w.heap.size ≤ k_)) v2_ r3 ∧ Below w.heap.size w w' := by
  have hu24 := Tryd.underlying24
  have hu49 := Tryd.underlying49
  have hu46 := Tryd.underlying46
  have HB := Aside0.mk (Below.refl w.heap.size w)
  have H : (some ((⟨#[115]⟩ : ByteArray), (⟨#[98]⟩ : ByteArray), (([(⟨(⟨#[103]⟩ : ByteArray), (([(⟨(⟨#[116]⟩ : ByteArray), 1⟩ : S49)] : List (S49)))⟩ : S46)] : List (S46))))) = some (r1, r2, r3) := h
  clear h
  obtain ⟨y196, hy196⟩ : ∃ y_ : List (S49), y_ = (([(⟨(⟨#[116]⟩ : ByteArray), 1⟩ : S49)] : List (S49))) := ⟨_, rfl⟩
  replace H : (some ((⟨#[115]⟩ : ByteArray), (⟨#[98]⟩ : ByteArray), (([(⟨(⟨#[103]⟩ : ByteArray), y196⟩ : S46)] : List (S46))))) = some (r1, r2, r3) := by first | (rw [hy196]; with_reducible exact H) | (have H2_ := (Option.bind_some _ _).symm.trans H; rw [hy196]; with_reducible exact H2_) | (have H2_ := (Option.bind_some _ _).symm.trans H; with_reducible exact H2_) | with_reducible exact H | (rw [hy196]; exact H) | exact H
  have Ny196 := Aside0.mk hy196
  clear hy196
  obtain ⟨y199, hy199⟩ : ∃ y_ : List (S46), y_ = (([(⟨(⟨#[103]⟩ : ByteArray), y196⟩ : S46)] : List (S46))) := ⟨_, rfl⟩
  replace H : (some ((⟨#[115]⟩ : ByteArray), (⟨#[98]⟩ : ByteArray), y199)) = some (r1, r2, r3) := by first | (rw [hy199]; with_reducible exact H) | (have H2_ := (Option.bind_some _ _).symm.trans H; rw [hy199]; with_reducible exact H2_) | (have H2_ := (Option.bind_some _ _).symm.trans H; with_reducible exact H2_) | with_reducible exact H | (rw [hy199]; exact H) | exact H
  have Ny199 := Aside0.mk hy199
  clear hy199
  simp only [Option.some.injEq, Prod.mk.injEq] at H
  obtain ⟨rfl, rfl, rfl⟩ := H
  go_enter Tryd.func21, Tryd.ntmps21
  go_wp2_with (first | ((with_reducible refine gate_dst (N := 0) rfl ?_); refine box_event ?hg (N := 0) ?hd (cs := #[.string (⟨#[]⟩ : ByteArray), .string (⟨#[]⟩ : ByteArray), .slice none 0 0]) (t := 24) ?hr ?_; (case hd => rfl); (case hg => rfl); (case hr => first | (go_simp; done) | (go_simp; rfl)); intro gb195 hg w1 hbox hb; have n0_ := Aside0.mk (below_step (by repeat (first | (with_reducible first | exact HB.out | apply below_alloc | apply pw_below_drewN | apply below_drew1) | exact HB.out)) hb); have n1_ := Aside0.mk (hbox); have n2_ := Aside0.mk ((by rw [hg]; exact (below_size (by repeat (first | (with_reducible first | exact HB.out | apply below_alloc | apply pw_below_drewN | apply below_drew1) | exact HB.out))) : w.heap.size ≤ gb195)); have n3_ := Aside0.mk ((by rw [hg]; exact (below_size (by repeat (first | (with_reducible first | exact HB.out | apply below_alloc | apply pw_below_drewN | apply below_drew1) | exact HB.out))) : w.heap.size ≤ gb195)); clear HB; have HB := n0_; have BK195 := n1_; have GW195 := n2_; have GE195 := n3_; clear n0_ n1_ n2_ n3_; clear hb hbox hg) | ((with_reducible refine gate_dst (N := 2) rfl ?_); refine Kd.R_lit k49 _ 49 ?hg (N := 2) ?hd (xs := ([(⟨(⟨#[116]⟩ : ByteArray), 1⟩ : S49)] : List (S49))) (inner := [.string (⟨#[116]⟩ : ByteArray), .int .i64 1]) (ok := fun _ => True) (okp := fun _ => True) ?hr ?hp (fun _ hk => hk) trivial (Below.refl _ _) (Nat.le_refl _) (by simp) ?_; (case hd => rfl); (case hg => rfl); (case hr => first | (go_simp; done) | (go_simp; rfl)); (case hp => exact (Reps.c2 (show Kd.M k49 _ _ _ (⟨(⟨#[116]⟩ : ByteArray), 1⟩ : S49) [.string (⟨#[116]⟩ : ByteArray), .int .i64 1] from (k49_mkM _ _ _ (⟨(⟨#[116]⟩ : ByteArray), 1⟩ : S49) )) (Reps.none _ _))); intro v197 w2 ho3 hb hg_ hnew_; clear hg_ hnew_; (first | rw [← Ny196.out] at ho3 | (simp only [Int.reduceToNat] at ho3; rw [← Ny196.out] at ho3)); have n0_ := Aside0.mk (Kd.R_lower (Kd.R_newM (M := fun k_ => (w.heap.size ≤ k_)) ho3 (below_size (by repeat (first | (with_reducible first | exact HB.out | apply below_alloc | apply pw_below_drewN | apply below_drew1 | refine below_set ?_ GE195.out) | exact HB.out))) (fun k_ h_ => h_)) (below_size (by repeat (first | (with_reducible first | exact HB.out | apply below_alloc | apply pw_below_drewN | apply below_drew1 | refine below_set ?_ GE195.out) | exact HB.out)))); have n1_ := Aside0.mk (blk_below (g := gb195) (o := .cells #[.string (⟨#[]⟩ : ByteArray), .string (⟨#[]⟩ : ByteArray), .slice none 0 0] 24 (0, 0)) (by (with_reducible repeat (first | refine blk_drewN ?_ _ | refine blk_drew ?_ | refine blk_alloc ?_ _)); exact BK195.out) hb); have n2_ := Aside0.mk (below_step (by repeat (first | (with_reducible first | exact HB.out | apply below_alloc | apply pw_below_drewN | apply below_drew1 | refine below_set ?_ GE195.out) | exact HB.out)) hb); clear BK195; clear HB; have HO198 := n0_; have BK195 := n1_; have HB := n2_; clear n0_ n1_ n2_; clear hb ho3; obtain ⟨Ao4, co4, eo4⟩ := Kd.R_slice HO198.out; subst eo4) | ((with_reducible refine gate_dst (N := 4) rfl ?_); refine Kd.N_lit k46 _ 46 ?hg (N' := 4) ?hd (xs := ([(⟨(⟨#[103]⟩ : ByteArray), y196⟩ : S46)] : List (S46))) (inner := [.string (⟨#[103]⟩ : ByteArray), .slice Ao4 y196.length co4]) (ok := (fun k_ => (w.heap.size ≤ k_) ∧ k_ ≠ gb195)) (okp := (fun k_ => (w.heap.size ≤ k_) ∧ k_ ≠ gb195)) ?hr ?hp (fun _ hk => hk) ((show ∀ k_, w2.heap.size ≤ k_ → (fun k_ => (w.heap.size ≤ k_) ∧ k_ ≠ gb195) k_ from fun k_ hk => ⟨(Nat.le_trans (below_size (by repeat (first | (with_reducible first | exact HB.out | apply below_alloc | apply pw_below_drewN | apply below_drew1 | refine below_set ?_ GE195.out) | exact HB.out))) hk), Kd.freshB (g := gb195) (o := .cells #[.string (⟨#[]⟩ : ByteArray), .string (⟨#[]⟩ : ByteArray), .slice none 0 0] 24 (0, 0)) (by (with_reducible repeat (first | refine blk_drewN ?_ _ | refine blk_drew ?_ | refine blk_alloc ?_ _)); exact BK195.out) k_ hk⟩) _ (Nat.le_refl _)) (Below.refl _ _) (Nat.le_refl _) (by simp) ?_; (case hd => rfl); (case hg => rfl); (case hr => first | (go_simp; done) | (go_simp; rfl)); (case hp => exact (Reps.c2 (show Kd.FK k46 _ _ (⟨(⟨#[103]⟩ : ByteArray), y196⟩ : S46) [.string (⟨#[103]⟩ : ByteArray), .slice Ao4 y196.length co4] from (k46_mkF _ _ (⟨(⟨#[103]⟩ : ByteArray), y196⟩ : S46) (Kd.R_reads' (Kd.R_mono (ok' := (fun k_ => (w.heap.size ≤ k_) ∧ k_ ≠ gb195)) (Kd.R_types (HO198.out) BK195.out (by decide)) (fun k_ hk => ⟨hk.1.1, hk.2⟩))).2.1 (Kd.R_F (Kd.R_mono (ok' := (fun k_ => (w.heap.size ≤ k_) ∧ k_ ≠ gb195)) (Kd.R_types (HO198.out) BK195.out (by decide)) (fun k_ hk => ⟨hk.1.1, hk.2⟩))))) (Reps.none _ _))); intro v200 w5 ho6 hb hg_ hnew_; clear hg_ hnew_; (first | rw [← Ny199.out] at ho6 | (simp only [Int.reduceToNat] at ho6; rw [← Ny199.out] at ho6)); have n0_ := Aside0.mk (Kd.N_lower ho6 (below_size (by repeat (first | (with_reducible first | exact HB.out | apply below_alloc | apply pw_below_drewN | apply below_drew1 | refine below_set ?_ GE195.out) | exact HB.out)))); have n1_ := Aside0.mk (blk_below (g := gb195) (o := .cells #[.string (⟨#[]⟩ : ByteArray), .string (⟨#[]⟩ : ByteArray), .slice none 0 0] 24 (0, 0)) (by (with_reducible repeat (first | refine blk_drewN ?_ _ | refine blk_drew ?_ | refine blk_alloc ?_ _)); exact BK195.out) hb); have n2_ := Aside0.mk (below_step (by repeat (first | (with_reducible first | exact HB.out | apply below_alloc | apply pw_below_drewN | apply below_drew1 | refine below_set ?_ GE195.out) | exact HB.out)) hb); clear BK195; clear HB; clear HO198; have HO201 := n0_; have BK195 := n1_; have HB := n2_; clear n0_ n1_ n2_; clear hb ho6; obtain ⟨Ao7, co7, eo7⟩ := Kd.N_slice HO201.out; subst eo7; have hcz8_0 : w5.cell? ⟨gb195, 0, none⟩ = some (.string (⟨#[]⟩ : ByteArray)) := (blk_cell BK195.out 0).trans rfl; have hcz8_1 : w5.cell? ⟨gb195, 1, none⟩ = some (.string (⟨#[]⟩ : ByteArray)) := (blk_cell BK195.out 1).trans rfl; have hcz8_2 : w5.cell? ⟨gb195, 2, none⟩ = some (.slice none 0 0) := (blk_cell BK195.out 2).trans rfl; have hfz8_0 := blk_frozen BK195.out 0; have hfz8_1 := blk_frozen BK195.out 1; have hfz8_2 := blk_frozen BK195.out 2))
  refine bodyPost_ret (results_cell_row rfl _ _ gb195 24 #[.string (⟨#[115]⟩ : ByteArray), .string (⟨#[98]⟩ : ByteArray), .slice Ao7 y199.length co7] (0, 0) _ rfl (by (with_reducible repeat (first | refine blk_drewN ?_ _ | refine blk_drew ?_ | refine blk_alloc ?_ _)); refine blk_put (cs := #[.string (⟨#[115]⟩ : ByteArray), .string (⟨#[98]⟩ : ByteArray), .slice none 0 0]) ?_ 2 _ rfl; (with_reducible repeat (first | refine blk_drewN ?_ _ | refine blk_drew ?_ | refine blk_alloc ?_ _)); refine blk_put (cs := #[.string (⟨#[115]⟩ : ByteArray), .string (⟨#[]⟩ : ByteArray), .slice none 0 0]) ?_ 1 _ rfl; (with_reducible repeat (first | refine blk_drewN ?_ _ | refine blk_drew ?_ | refine blk_alloc ?_ _)); refine blk_put (cs := #[.string (⟨#[]⟩ : ByteArray), .string (⟨#[]⟩ : ByteArray), .slice none 0 0]) ?_ 0 _ rfl; (with_reducible repeat (first | refine blk_drewN ?_ _ | refine blk_drew ?_ | refine blk_alloc ?_ _)); exact BK195.out) Tryd.underlying24 rfl (by kernel_rfl)) rfl ?_
  exact ⟨_, by first | rfl | (simp [errW_none, errW_some] <;> rfl) | (simp [*, errW_none, errW_some] <;> rfl), by (with_reducible repeat (first | apply Kd.N_alloc | apply Kd.N_drewN | apply Kd.N_drew)); exact Kd.N_mono (Kd.N_far (p := ⟨gb195, 2, none⟩) (Kd.N_far (p := ⟨gb195, 1, none⟩) (Kd.N_far (p := ⟨gb195, 0, none⟩) (Kd.N_mono HO201.out (fun k_ hk => (⟨hk, hk.2⟩ : _ ∧ k_ ≠ gb195))) (fun _ hk => hk.2) (.string (⟨#[115]⟩ : ByteArray))) (fun _ hk => hk.2) (.string (⟨#[98]⟩ : ByteArray))) (fun _ hk => hk.2) (.slice Ao7 y199.length co7)) (fun _ hk => hk.1.1), by repeat (first | (with_reducible first | exact HB.out | apply below_alloc | apply pw_below_drewN | apply below_drew1 | refine below_set ?_ GE195.out) | exact HB.out)⟩
end
section
attribute [local go_sem] max2_int min2_int max_two min_two max_three min_three max_four min_four   -- for this text's walks alone
theorem eqA49 (d : Nat) (w : World) (x0 y0 : ByteArray) (x1 y1 : Int) :
    (Op.equalIn (d + 2) 49 (.agg #[.string x0, .int .i64 x1]) (.agg #[.string y0, .int .i64 y1])).run Tryd.prog w = .ok (x0.toList == y0.toList && (x1 == y1)) w := by
  refine eqA_of Tryd.underlying49 (by kernel_rfl) ?_
  refine eqf_cons (by rfl) (by go_simp; rfl) (by go_simp; rfl) (by go_simp) ?_
  exact eqf_last (by rfl) (by go_simp; rfl) (by go_simp; rfl) (by go_simp)
end
section
attribute [local go_sem] max2_int min2_int max_two min_two max_three min_three max_four min_four   -- for this text's walks alone
attribute [local go_sem high] eqA49
mutual
def colloquyref20_Same.j0 : Nat → Bool → ByteArray → ByteArray → List (S53) → ByteArray → ByteArray → List (S53) → Option (Bool)
  | 0, _, _, _, _, _, _, _ => none
  | k + 1, x27, x185000, x185001, x185002, x186000, x186001, x186002 => if x27 = true then (some false) else (colloquyref20_Same.l0 k 0 x185000 x185001 x185002 x186000 x186001 x186002)
def colloquyref20_Same.l0 : Nat → Int → ByteArray → ByteArray → List (S53) → ByteArray → ByteArray → List (S53) → Option (Bool)
  | 0, _, _, _, _, _, _, _ => none
  | k + 1, x5, x185000, x185001, x185002, x186000, x186001, x186002 => if x5 < (x185002.length : Int) then (if 0 ≤ x5 then (if x5 < (x186002.length : Int) then (if ((rd_T53 x185002 x5).f0).toList = ((rd_T53 x186002 x5).f0).toList then (colloquyref20_Same.j2 k x5 ((((rd_T53 x185002 x5).f1).length : Int) != (((rd_T53 x186002 x5).f1).length : Int)) x185000 x185001 x185002 x186000 x186001 x186002) else (colloquyref20_Same.j2 k x5 true x185000 x185001 x185002 x186000 x186001 x186002)) else (none)) else (none)) else (some true)
def colloquyref20_Same.j2 : Nat → Int → Bool → ByteArray → ByteArray → List (S53) → ByteArray → ByteArray → List (S53) → Option (Bool)
  | 0, _, _, _, _, _, _, _, _ => none
  | k + 1, x5, x64, x185000, x185001, x185002, x186000, x186001, x186002 => if x64 = true then (some false) else (colloquyref20_Same.l1 k x5 0 x185000 x185001 x185002 x186000 x186001 x186002)
def colloquyref20_Same.l1 : Nat → Int → Int → ByteArray → ByteArray → List (S53) → ByteArray → ByteArray → List (S53) → Option (Bool)
  | 0, _, _, _, _, _, _, _, _ => none
  | k + 1, x5, x6, x185000, x185001, x185002, x186000, x186001, x186002 => if 0 ≤ x5 then (if x5 < (x185002.length : Int) then (if x6 < (((rd_T53 x185002 x5).f1).length : Int) then (if 0 ≤ x6 then (if x5 < (x186002.length : Int) then (if x6 < (((rd_T53 x186002 x5).f1).length : Int) then (if (!((((rd_T49 ((rd_T53 x185002 x5).f1) x6).f0).toList) == (((rd_T49 ((rd_T53 x186002 x5).f1) x6).f0).toList)) || (!(((rd_T49 ((rd_T53 x185002 x5).f1) x6).f1) == ((rd_T49 ((rd_T53 x186002 x5).f1) x6).f1)))) = true then (some false) else (colloquyref20_Same.l1 k x5 (wrap64 (x6 + 1)) x185000 x185001 x185002 x186000 x186001 x186002)) else (none)) else (none)) else (none)) else (colloquyref20_Same.l0 k (wrap64 (x5 + 1)) x185000 x185001 x185002 x186000 x186001 x186002)) else (none)) else (none)
end
def colloquyref20_Same.f (k : Nat) (a0_0 : ByteArray) (a0_1 : ByteArray) (l0_2 : List (S53)) (a1_0 : ByteArray) (a1_1 : ByteArray) (l1_2 : List (S53)) : Option (Bool) := if a0_0.toList = a1_0.toList then (if a0_1.toList = a1_1.toList then (colloquyref20_Same.j0 k ((l0_2.length : Int) != (l1_2.length : Int)) a0_0 a0_1 l0_2 a1_0 a1_1 l1_2) else (colloquyref20_Same.j0 k true a0_0 a0_1 l0_2 a1_0 a1_1 l1_2)) else (colloquyref20_Same.j0 k true a0_0 a0_1 l0_2 a1_0 a1_1 l1_2)
theorem colloquyref20_Same.mono_l : ∀ k, (∀ y0 y1 y2 y3 y4 y5 y6, LeO (colloquyref20_Same.j0 k y0 y1 y2 y3 y4 y5 y6) (colloquyref20_Same.j0 (k + 1) y0 y1 y2 y3 y4 y5 y6)) ∧ (∀ y0 y1 y2 y3 y4 y5 y6, LeO (colloquyref20_Same.l0 k y0 y1 y2 y3 y4 y5 y6) (colloquyref20_Same.l0 (k + 1) y0 y1 y2 y3 y4 y5 y6)) ∧ (∀ y0 y1 y2 y3 y4 y5 y6 y7, LeO (colloquyref20_Same.j2 k y0 y1 y2 y3 y4 y5 y6 y7) (colloquyref20_Same.j2 (k + 1) y0 y1 y2 y3 y4 y5 y6 y7)) ∧ (∀ y0 y1 y2 y3 y4 y5 y6 y7, LeO (colloquyref20_Same.l1 k y0 y1 y2 y3 y4 y5 y6 y7) (colloquyref20_Same.l1 (k + 1) y0 y1 y2 y3 y4 y5 y6 y7))
  | 0 => ⟨fun _ _ _ _ _ _ _ r h => by simp [colloquyref20_Same.j0] at h, fun _ _ _ _ _ _ _ r h => by simp [colloquyref20_Same.l0] at h, fun _ _ _ _ _ _ _ _ r h => by simp [colloquyref20_Same.j2] at h, fun _ _ _ _ _ _ _ _ r h => by simp [colloquyref20_Same.l1] at h⟩
  | k + 1 => by
    obtain ⟨ih0, ih1, ih2, ih3⟩ := colloquyref20_Same.mono_l k
    refine ⟨?_, ?_, ?_, ?_⟩
    · intro y0 y1 y2 y3 y4 y5 y6
      unfold colloquyref20_Same.j0
      repeat' first
      | (with_reducible exact ih0 _ _ _ _ _ _ _)
      | (with_reducible exact ih1 _ _ _ _ _ _ _)
      | (with_reducible exact ih2 _ _ _ _ _ _ _ _)
      | (with_reducible exact ih3 _ _ _ _ _ _ _ _)
      | (with_reducible exact LeO.refl _)
      | (with_reducible exact LeO.none _)
      | (with_reducible refine LeO.ite ?_ ?_)
      | (with_reducible refine LeO.bind ?_ (fun _ => ?_))
      | exact ih0 _ _ _ _ _ _ _
      | exact ih1 _ _ _ _ _ _ _
      | exact ih2 _ _ _ _ _ _ _ _
      | exact ih3 _ _ _ _ _ _ _ _
      | exact LeO.none _
      | refine LeO.ite ?_ ?_
      | refine LeO.bind ?_ (fun _ => ?_)
    · intro y0 y1 y2 y3 y4 y5 y6
      unfold colloquyref20_Same.l0
      repeat' first
      | (with_reducible exact ih0 _ _ _ _ _ _ _)
      | (with_reducible exact ih1 _ _ _ _ _ _ _)
      | (with_reducible exact ih2 _ _ _ _ _ _ _ _)
      | (with_reducible exact ih3 _ _ _ _ _ _ _ _)
      | (with_reducible exact LeO.refl _)
      | (with_reducible exact LeO.none _)
      | (with_reducible refine LeO.ite ?_ ?_)
      | (with_reducible refine LeO.bind ?_ (fun _ => ?_))
      | exact ih0 _ _ _ _ _ _ _
      | exact ih1 _ _ _ _ _ _ _
      | exact ih2 _ _ _ _ _ _ _ _
      | exact ih3 _ _ _ _ _ _ _ _
      | exact LeO.none _
      | refine LeO.ite ?_ ?_
      | refine LeO.bind ?_ (fun _ => ?_)
    · intro y0 y1 y2 y3 y4 y5 y6 y7
      unfold colloquyref20_Same.j2
      repeat' first
      | (with_reducible exact ih0 _ _ _ _ _ _ _)
      | (with_reducible exact ih1 _ _ _ _ _ _ _)
      | (with_reducible exact ih2 _ _ _ _ _ _ _ _)
      | (with_reducible exact ih3 _ _ _ _ _ _ _ _)
      | (with_reducible exact LeO.refl _)
      | (with_reducible exact LeO.none _)
      | (with_reducible refine LeO.ite ?_ ?_)
      | (with_reducible refine LeO.bind ?_ (fun _ => ?_))
      | exact ih0 _ _ _ _ _ _ _
      | exact ih1 _ _ _ _ _ _ _
      | exact ih2 _ _ _ _ _ _ _ _
      | exact ih3 _ _ _ _ _ _ _ _
      | exact LeO.none _
      | refine LeO.ite ?_ ?_
      | refine LeO.bind ?_ (fun _ => ?_)
    · intro y0 y1 y2 y3 y4 y5 y6 y7
      unfold colloquyref20_Same.l1
      repeat' first
      | (with_reducible exact ih0 _ _ _ _ _ _ _)
      | (with_reducible exact ih1 _ _ _ _ _ _ _)
      | (with_reducible exact ih2 _ _ _ _ _ _ _ _)
      | (with_reducible exact ih3 _ _ _ _ _ _ _ _)
      | (with_reducible exact LeO.refl _)
      | (with_reducible exact LeO.none _)
      | (with_reducible refine LeO.ite ?_ ?_)
      | (with_reducible refine LeO.bind ?_ (fun _ => ?_))
      | exact ih0 _ _ _ _ _ _ _
      | exact ih1 _ _ _ _ _ _ _
      | exact ih2 _ _ _ _ _ _ _ _
      | exact ih3 _ _ _ _ _ _ _ _
      | exact LeO.none _
      | refine LeO.ite ?_ ?_
      | refine LeO.bind ?_ (fun _ => ?_)
theorem colloquyref20_Same.mono : ∀ a0 a1 a2 a3 a4 a5 k, LeO (colloquyref20_Same.f k a0 a1 a2 a3 a4 a5) (colloquyref20_Same.f (k + 1) a0 a1 a2 a3 a4 a5) := by
  intro a0 a1 a2 a3 a4 a5 k
  obtain ⟨ih0, ih1, ih2, ih3⟩ := colloquyref20_Same.mono_l k
  unfold colloquyref20_Same.f
  repeat' first
      | (with_reducible exact ih0 _ _ _ _ _ _ _)
      | (with_reducible exact ih1 _ _ _ _ _ _ _)
      | (with_reducible exact ih2 _ _ _ _ _ _ _ _)
      | (with_reducible exact ih3 _ _ _ _ _ _ _ _)
      | (with_reducible exact LeO.refl _)
      | (with_reducible exact LeO.none _)
      | (with_reducible refine LeO.ite ?_ ?_)
      | (with_reducible refine LeO.bind ?_ (fun _ => ?_))
      | exact ih0 _ _ _ _ _ _ _
      | exact ih1 _ _ _ _ _ _ _
      | exact ih2 _ _ _ _ _ _ _ _
      | exact ih3 _ _ _ _ _ _ _ _
      | exact LeO.none _
      | refine LeO.ite ?_ ?_
      | refine LeO.bind ?_ (fun _ => ?_)
theorem colloquyref20_Same.calls (k : Nat) (a0_0 : ByteArray) (a0_1 : ByteArray) (A0_2 : Option Addr) (c0_2 : Nat) (l0_2 : List (S53)) (a1_0 : ByteArray) (a1_1 : ByteArray) (A1_2 : Option Addr) (c1_2 : Nat) (l1_2 : List (S53)) (r : Bool) (w : World) (hr0_2 : Kd.C k53 w A0_2 l0_2.length l0_2) (hc0_2 : l0_2.length ≤ c0_2) (hr1_2 : Kd.C k53 w A1_2 l1_2.length l1_2) (hc1_2 : l1_2.length ≤ c1_2) (h : colloquyref20_Same.f k a0_0 a0_1 l0_2 a1_0 a1_1 l1_2 = some r) :
    Calls Tryd.prog 20 #[.agg #[.string a0_0, .string a0_1, .slice A0_2 l0_2.length c0_2], .agg #[.string a1_0, .string a1_1, .slice A1_2 l1_2.length c1_2]] w fun e w' => e = .returned (.bool r) ∧ Below w.heap.size w w' := by
  have hu29 := Tryd.underlying29
  have hu49 := Tryd.underlying49
  have HR0_2 := Aside0.mk hr0_2
  have HC0_2 := Aside0.mk hc0_2
  clear hr0_2 hc0_2
  have HR1_2 := Aside0.mk hr1_2
  have HC1_2 := Aside0.mk hc1_2
  clear hr1_2 hc1_2
  have HB := Aside0.mk (Below.refl w.heap.size w)
  have H : (if a0_0.toList = a1_0.toList then (if a0_1.toList = a1_1.toList then (colloquyref20_Same.j0 k ((l0_2.length : Int) != (l1_2.length : Int)) a0_0 a0_1 l0_2 a1_0 a1_1 l1_2) else (colloquyref20_Same.j0 k true a0_0 a0_1 l0_2 a1_0 a1_1 l1_2)) else (colloquyref20_Same.j0 k true a0_0 a0_1 l0_2 a1_0 a1_1 l1_2)) = some r := h
  clear h
  have HC3 := Aside0.mk H
  clear H
  go_enter Tryd.func20, Tryd.ntmps20
  go_upto_region 1 with (first | ((with_reducible refine gate_dst (N := 2) rfl ?_); (try (refine gate_guard (by rfl) ?_; dsimp only)); refine box_event ?hg (N := 2) ?hd (cs := #[.string a0_0, .string a0_1, .slice A0_2 l0_2.length c0_2]) (t := 29) ?hr ?_; (case hd => rfl); (case hg => rfl); (case hr => first | (go_simp; done) | (go_simp; rfl)); intro gb184 hg w4 hbox hb; have n0_ := Aside0.mk (below_step (by repeat (first | (with_reducible first | exact HB.out | apply below_alloc | apply pw_below_drewN | apply below_drew1) | exact HB.out)) hb); have n1_ := Aside0.mk (hbox); have n2_ := Aside0.mk ((by rw [hg]; exact (below_size (by repeat (first | (with_reducible first | exact HB.out | apply below_alloc | apply pw_below_drewN | apply below_drew1) | exact HB.out))) : w.heap.size ≤ gb184)); have n3_ := Aside0.mk ((by rw [hg]; exact (below_size (by repeat (first | (with_reducible first | exact HB.out | apply below_alloc | apply pw_below_drewN | apply below_drew1) | exact HB.out))) : w.heap.size ≤ gb184)); clear HB; have HB := n0_; have BK184 := n1_; have GW184 := n2_; have GE184 := n3_; clear n0_ n1_ n2_ n3_; clear hb hbox hg) | ((with_reducible refine gate_dst (N := 3) rfl ?_); (try (refine gate_guard (by rfl) ?_; dsimp only)); refine box_event ?hg (N := 3) ?hd (cs := #[.string a1_0, .string a1_1, .slice A1_2 l1_2.length c1_2]) (t := 29) ?hr ?_; (case hd => rfl); (case hg => rfl); (case hr => first | (go_simp; done) | (go_simp; rfl)); intro gb185 hg w5 hbox hb; have n0_ := Aside0.mk (blk_below (g := gb184) (o := .cells #[.string a0_0, .string a0_1, .slice A0_2 l0_2.length c0_2] 29 (0, 0)) (by (with_reducible repeat (first | refine blk_drewN ?_ _ | refine blk_drew ?_ | refine blk_alloc ?_ _)); exact BK184.out) hb); have n1_ := Aside0.mk (below_step (by repeat (first | (with_reducible first | exact HB.out | apply below_alloc | apply pw_below_drewN | apply below_drew1 | refine below_set ?_ GE184.out) | exact HB.out)) hb); have n2_ := Aside0.mk (hbox); have n3_ := Aside0.mk ((by rw [hg]; exact (below_size (by repeat (first | (with_reducible first | exact HB.out | apply below_alloc | apply pw_below_drewN | apply below_drew1 | refine below_set ?_ GE184.out) | exact HB.out))) : w.heap.size ≤ gb185)); have n4_ := Aside0.mk ((by rw [hg]; exact (below_size (by repeat (first | (with_reducible first | exact HB.out | apply below_alloc | apply pw_below_drewN | apply below_drew1 | refine below_set ?_ GE184.out) | exact HB.out))) : w.heap.size ≤ gb185)); have n5_ := Aside0.mk ((by rw [hg]; exact Nat.ne_of_lt (blk_lt (g := gb184) (o := .cells #[.string a0_0, .string a0_1, .slice A0_2 l0_2.length c0_2] 29 (0, 0)) (by (with_reducible repeat (first | refine blk_drewN ?_ _ | refine blk_drew ?_ | refine blk_alloc ?_ _)); exact BK184.out)) : gb184 ≠ gb185)); have n6_ := Aside0.mk ((by rw [hg]; exact Nat.ne_of_gt (blk_lt (g := gb184) (o := .cells #[.string a0_0, .string a0_1, .slice A0_2 l0_2.length c0_2] 29 (0, 0)) (by (with_reducible repeat (first | refine blk_drewN ?_ _ | refine blk_drew ?_ | refine blk_alloc ?_ _)); exact BK184.out)) : gb185 ≠ gb184)); clear BK184; clear HB; have BK184 := n0_; have HB := n1_; have BK185 := n2_; have GW185 := n3_; have GE185 := n4_; have NB184_185 := n5_; have NB185_184 := n6_; clear n0_ n1_ n2_ n3_ n4_ n5_ n6_; clear hb hbox hg))
  repeat (go_quiet (first | ((with_reducible refine gate_dst (N := 2) rfl ?_); (try (refine gate_guard (by rfl) ?_; dsimp only)); refine box_event ?hg (N := 2) ?hd (cs := #[.string a0_0, .string a0_1, .slice A0_2 l0_2.length c0_2]) (t := 29) ?hr ?_; (case hd => rfl); (case hg => rfl); (case hr => first | (go_simp; done) | (go_simp; rfl)); intro gb184 hg w4 hbox hb; have n0_ := Aside0.mk (below_step (by repeat (first | (with_reducible first | exact HB.out | apply below_alloc | apply pw_below_drewN | apply below_drew1) | exact HB.out)) hb); have n1_ := Aside0.mk (hbox); have n2_ := Aside0.mk ((by rw [hg]; exact (below_size (by repeat (first | (with_reducible first | exact HB.out | apply below_alloc | apply pw_below_drewN | apply below_drew1) | exact HB.out))) : w.heap.size ≤ gb184)); have n3_ := Aside0.mk ((by rw [hg]; exact (below_size (by repeat (first | (with_reducible first | exact HB.out | apply below_alloc | apply pw_below_drewN | apply below_drew1) | exact HB.out))) : w.heap.size ≤ gb184)); clear HB; have HB := n0_; have BK184 := n1_; have GW184 := n2_; have GE184 := n3_; clear n0_ n1_ n2_ n3_; clear hb hbox hg) | ((with_reducible refine gate_dst (N := 3) rfl ?_); (try (refine gate_guard (by rfl) ?_; dsimp only)); refine box_event ?hg (N := 3) ?hd (cs := #[.string a1_0, .string a1_1, .slice A1_2 l1_2.length c1_2]) (t := 29) ?hr ?_; (case hd => rfl); (case hg => rfl); (case hr => first | (go_simp; done) | (go_simp; rfl)); intro gb185 hg w5 hbox hb; have n0_ := Aside0.mk (blk_below (g := gb184) (o := .cells #[.string a0_0, .string a0_1, .slice A0_2 l0_2.length c0_2] 29 (0, 0)) (by (with_reducible repeat (first | refine blk_drewN ?_ _ | refine blk_drew ?_ | refine blk_alloc ?_ _)); exact BK184.out) hb); have n1_ := Aside0.mk (below_step (by repeat (first | (with_reducible first | exact HB.out | apply below_alloc | apply pw_below_drewN | apply below_drew1 | refine below_set ?_ GE184.out) | exact HB.out)) hb); have n2_ := Aside0.mk (hbox); have n3_ := Aside0.mk ((by rw [hg]; exact (below_size (by repeat (first | (with_reducible first | exact HB.out | apply below_alloc | apply pw_below_drewN | apply below_drew1 | refine below_set ?_ GE184.out) | exact HB.out))) : w.heap.size ≤ gb185)); have n4_ := Aside0.mk ((by rw [hg]; exact (below_size (by repeat (first | (with_reducible first | exact HB.out | apply below_alloc | apply pw_below_drewN | apply below_drew1 | refine below_set ?_ GE184.out) | exact HB.out))) : w.heap.size ≤ gb185)); have n5_ := Aside0.mk ((by rw [hg]; exact Nat.ne_of_lt (blk_lt (g := gb184) (o := .cells #[.string a0_0, .string a0_1, .slice A0_2 l0_2.length c0_2] 29 (0, 0)) (by (with_reducible repeat (first | refine blk_drewN ?_ _ | refine blk_drew ?_ | refine blk_alloc ?_ _)); exact BK184.out)) : gb184 ≠ gb185)); have n6_ := Aside0.mk ((by rw [hg]; exact Nat.ne_of_gt (blk_lt (g := gb184) (o := .cells #[.string a0_0, .string a0_1, .slice A0_2 l0_2.length c0_2] 29 (0, 0)) (by (with_reducible repeat (first | refine blk_drewN ?_ _ | refine blk_drew ?_ | refine blk_alloc ?_ _)); exact BK184.out)) : gb185 ≠ gb184)); clear BK184; clear HB; have BK184 := n0_; have HB := n1_; have BK185 := n2_; have GW185 := n3_; have GE185 := n4_; have NB184_185 := n5_; have NB185_184 := n6_; clear n0_ n1_ n2_ n3_ n4_ n5_ n6_; clear hb hbox hg)); go_upto_region 1 with (first | ((with_reducible refine gate_dst (N := 2) rfl ?_); (try (refine gate_guard (by rfl) ?_; dsimp only)); refine box_event ?hg (N := 2) ?hd (cs := #[.string a0_0, .string a0_1, .slice A0_2 l0_2.length c0_2]) (t := 29) ?hr ?_; (case hd => rfl); (case hg => rfl); (case hr => first | (go_simp; done) | (go_simp; rfl)); intro gb184 hg w4 hbox hb; have n0_ := Aside0.mk (below_step (by repeat (first | (with_reducible first | exact HB.out | apply below_alloc | apply pw_below_drewN | apply below_drew1) | exact HB.out)) hb); have n1_ := Aside0.mk (hbox); have n2_ := Aside0.mk ((by rw [hg]; exact (below_size (by repeat (first | (with_reducible first | exact HB.out | apply below_alloc | apply pw_below_drewN | apply below_drew1) | exact HB.out))) : w.heap.size ≤ gb184)); have n3_ := Aside0.mk ((by rw [hg]; exact (below_size (by repeat (first | (with_reducible first | exact HB.out | apply below_alloc | apply pw_below_drewN | apply below_drew1) | exact HB.out))) : w.heap.size ≤ gb184)); clear HB; have HB := n0_; have BK184 := n1_; have GW184 := n2_; have GE184 := n3_; clear n0_ n1_ n2_ n3_; clear hb hbox hg) | ((with_reducible refine gate_dst (N := 3) rfl ?_); (try (refine gate_guard (by rfl) ?_; dsimp only)); refine box_event ?hg (N := 3) ?hd (cs := #[.string a1_0, .string a1_1, .slice A1_2 l1_2.length c1_2]) (t := 29) ?hr ?_; (case hd => rfl); (case hg => rfl); (case hr => first | (go_simp; done) | (go_simp; rfl)); intro gb185 hg w5 hbox hb; have n0_ := Aside0.mk (blk_below (g := gb184) (o := .cells #[.string a0_0, .string a0_1, .slice A0_2 l0_2.length c0_2] 29 (0, 0)) (by (with_reducible repeat (first | refine blk_drewN ?_ _ | refine blk_drew ?_ | refine blk_alloc ?_ _)); exact BK184.out) hb); have n1_ := Aside0.mk (below_step (by repeat (first | (with_reducible first | exact HB.out | apply below_alloc | apply pw_below_drewN | apply below_drew1 | refine below_set ?_ GE184.out) | exact HB.out)) hb); have n2_ := Aside0.mk (hbox); have n3_ := Aside0.mk ((by rw [hg]; exact (below_size (by repeat (first | (with_reducible first | exact HB.out | apply below_alloc | apply pw_below_drewN | apply below_drew1 | refine below_set ?_ GE184.out) | exact HB.out))) : w.heap.size ≤ gb185)); have n4_ := Aside0.mk ((by rw [hg]; exact (below_size (by repeat (first | (with_reducible first | exact HB.out | apply below_alloc | apply pw_below_drewN | apply below_drew1 | refine below_set ?_ GE184.out) | exact HB.out))) : w.heap.size ≤ gb185)); have n5_ := Aside0.mk ((by rw [hg]; exact Nat.ne_of_lt (blk_lt (g := gb184) (o := .cells #[.string a0_0, .string a0_1, .slice A0_2 l0_2.length c0_2] 29 (0, 0)) (by (with_reducible repeat (first | refine blk_drewN ?_ _ | refine blk_drew ?_ | refine blk_alloc ?_ _)); exact BK184.out)) : gb184 ≠ gb185)); have n6_ := Aside0.mk ((by rw [hg]; exact Nat.ne_of_gt (blk_lt (g := gb184) (o := .cells #[.string a0_0, .string a0_1, .slice A0_2 l0_2.length c0_2] 29 (0, 0)) (by (with_reducible repeat (first | refine blk_drewN ?_ _ | refine blk_drew ?_ | refine blk_alloc ?_ _)); exact BK184.out)) : gb185 ≠ gb184)); clear BK184; clear HB; have BK184 := n0_; have HB := n1_; have BK185 := n2_; have GW185 := n3_; have GE185 := n4_; have NB184_185 := n5_; have NB185_184 := n6_; clear n0_ n1_ n2_ n3_ n4_ n5_ n6_; clear hb hbox hg)))
  (try simp only [Act.put, List.setIfInBounds_toArray, List.set_cons_zero, List.set_cons_succ])
  go_cut [27] (fun v27 wc => ∃ (kq : Nat) (x27_2 : Bool), v27 = .bool x27_2 ∧ Aside0 (colloquyref20_Same.j0 kq x27_2 a0_0 a0_1 l0_2 a1_0 a1_1 l1_2 = some r) ∧ Aside0 (kq ≤ k) ∧ Aside0 (wc.heap[gb184]? = some (.cells #[.string a0_0, .string a0_1, (.slice A0_2 l0_2.length c0_2)] 29 (0, 0))) ∧ Aside0 (wc.heap[gb185]? = some (.cells #[.string a1_0, .string a1_1, (.slice A1_2 l1_2.length c1_2)] 29 (0, 0))) ∧ Aside0 (Below w.heap.size w wc))
  case first =>
    have H := HC3.out
    clear HC3
    by_cases c6 : a0_0.toList = a1_0.toList
    · rw [if_pos c6] at H
      have c6b0 : (a0_0.toList == a1_0.toList) = true := beq_iff_eq.mpr c6
      have c6b1 : (a0_0.toList != a1_0.toList) = false := bne_eq_false_iff_eq.mpr c6
      clear c6
      (first | rw [c6b0] | rw [c6b1] | (simp only [i64_w, i32_w]; rw [c6b0]) | skip)
      by_cases c7 : a0_1.toList = a1_1.toList
      · rw [if_pos c7] at H
        have c7b0 : (a0_1.toList == a1_1.toList) = true := beq_iff_eq.mpr c7
        have c7b1 : (a0_1.toList != a1_1.toList) = false := bne_eq_false_iff_eq.mpr c7
        clear c7
        have H' := Aside0.mk H
        clear H
        have hnb8 := NB184_185.out
        have hnc8 := NB185_184.out
        have hcz9_0 : w5.cell? ⟨gb184, 0, none⟩ = some (.string a0_0) := (blk_cell BK184.out 0).trans rfl
        have hcz9_1 : w5.cell? ⟨gb184, 1, none⟩ = some (.string a0_1) := (blk_cell BK184.out 1).trans rfl
        have hcz9_2 : w5.cell? ⟨gb184, 2, none⟩ = some (.slice A0_2 l0_2.length c0_2) := (blk_cell BK184.out 2).trans rfl
        have hfz9_0 := blk_frozen BK184.out 0
        have hfz9_1 := blk_frozen BK184.out 1
        have hfz9_2 := blk_frozen BK184.out 2
        have hcz10_0 : w5.cell? ⟨gb185, 0, none⟩ = some (.string a1_0) := (blk_cell BK185.out 0).trans rfl
        have hcz10_1 : w5.cell? ⟨gb185, 1, none⟩ = some (.string a1_1) := (blk_cell BK185.out 1).trans rfl
        have hcz10_2 : w5.cell? ⟨gb185, 2, none⟩ = some (.slice A1_2 l1_2.length c1_2) := (blk_cell BK185.out 2).trans rfl
        have hfz10_0 := blk_frozen BK185.out 0
        have hfz10_1 := blk_frozen BK185.out 1
        have hfz10_2 := blk_frozen BK185.out 2
        go_wp2
        repeat (go_quiet (fail); try go_wp2)
        go_meet
        case rel => exact ⟨_, (((l0_2.length : Int) != (l1_2.length : Int))), (by first | rfl | (simp; done) | (simp [*]; done)), H', ⟨by first | omega | exact Nat.le_refl _⟩, ⟨by (with_reducible repeat (first | refine blk_drewN ?_ _ | refine blk_drew ?_ | refine blk_alloc ?_ _)); exact BK184.out⟩, ⟨by (with_reducible repeat (first | refine blk_drewN ?_ _ | refine blk_drew ?_ | refine blk_alloc ?_ _)); exact BK185.out⟩, ⟨by repeat (first | (with_reducible first | exact HB.out | apply below_alloc | apply pw_below_drewN | apply below_drew1 | refine below_set ?_ GE184.out | refine below_set ?_ GE185.out) | exact HB.out)⟩⟩
      · rw [if_neg c7] at H
        have c7b0 : (a0_1.toList == a1_1.toList) = false := beq_eq_false_iff_ne.mpr c7
        have c7b1 : (a0_1.toList != a1_1.toList) = true := bne_iff_ne.mpr c7
        have H' := Aside0.mk H
        clear H
        have hnb11 := NB184_185.out
        have hnc11 := NB185_184.out
        have hcz12_0 : w5.cell? ⟨gb184, 0, none⟩ = some (.string a0_0) := (blk_cell BK184.out 0).trans rfl
        have hcz12_1 : w5.cell? ⟨gb184, 1, none⟩ = some (.string a0_1) := (blk_cell BK184.out 1).trans rfl
        have hcz12_2 : w5.cell? ⟨gb184, 2, none⟩ = some (.slice A0_2 l0_2.length c0_2) := (blk_cell BK184.out 2).trans rfl
        have hfz12_0 := blk_frozen BK184.out 0
        have hfz12_1 := blk_frozen BK184.out 1
        have hfz12_2 := blk_frozen BK184.out 2
        have hcz13_0 : w5.cell? ⟨gb185, 0, none⟩ = some (.string a1_0) := (blk_cell BK185.out 0).trans rfl
        have hcz13_1 : w5.cell? ⟨gb185, 1, none⟩ = some (.string a1_1) := (blk_cell BK185.out 1).trans rfl
        have hcz13_2 : w5.cell? ⟨gb185, 2, none⟩ = some (.slice A1_2 l1_2.length c1_2) := (blk_cell BK185.out 2).trans rfl
        have hfz13_0 := blk_frozen BK185.out 0
        have hfz13_1 := blk_frozen BK185.out 1
        have hfz13_2 := blk_frozen BK185.out 2
        go_wp2
        repeat (go_quiet (fail); try go_wp2)
        go_meet
        case rel => exact ⟨_, (true), (by first | rfl | (simp; done) | (simp [*]; done)), H', ⟨by first | omega | exact Nat.le_refl _⟩, ⟨by (with_reducible repeat (first | refine blk_drewN ?_ _ | refine blk_drew ?_ | refine blk_alloc ?_ _)); exact BK184.out⟩, ⟨by (with_reducible repeat (first | refine blk_drewN ?_ _ | refine blk_drew ?_ | refine blk_alloc ?_ _)); exact BK185.out⟩, ⟨by repeat (first | (with_reducible first | exact HB.out | apply below_alloc | apply pw_below_drewN | apply below_drew1 | refine below_set ?_ GE184.out | refine below_set ?_ GE185.out) | exact HB.out)⟩⟩
    · rw [if_neg c6] at H
      have c6b0 : (a0_0.toList == a1_0.toList) = false := beq_eq_false_iff_ne.mpr c6
      have c6b1 : (a0_0.toList != a1_0.toList) = true := bne_iff_ne.mpr c6
      (first | rw [c6b0] | rw [c6b1] | (simp only [i64_w, i32_w]; rw [c6b0]) | skip)
      have H' := Aside0.mk H
      clear H
      have hnb14 := NB184_185.out
      have hnc14 := NB185_184.out
      have hcz15_0 : w5.cell? ⟨gb184, 0, none⟩ = some (.string a0_0) := (blk_cell BK184.out 0).trans rfl
      have hcz15_1 : w5.cell? ⟨gb184, 1, none⟩ = some (.string a0_1) := (blk_cell BK184.out 1).trans rfl
      have hcz15_2 : w5.cell? ⟨gb184, 2, none⟩ = some (.slice A0_2 l0_2.length c0_2) := (blk_cell BK184.out 2).trans rfl
      have hfz15_0 := blk_frozen BK184.out 0
      have hfz15_1 := blk_frozen BK184.out 1
      have hfz15_2 := blk_frozen BK184.out 2
      have hcz16_0 : w5.cell? ⟨gb185, 0, none⟩ = some (.string a1_0) := (blk_cell BK185.out 0).trans rfl
      have hcz16_1 : w5.cell? ⟨gb185, 1, none⟩ = some (.string a1_1) := (blk_cell BK185.out 1).trans rfl
      have hcz16_2 : w5.cell? ⟨gb185, 2, none⟩ = some (.slice A1_2 l1_2.length c1_2) := (blk_cell BK185.out 2).trans rfl
      have hfz16_0 := blk_frozen BK185.out 0
      have hfz16_1 := blk_frozen BK185.out 1
      have hfz16_2 := blk_frozen BK185.out 2
      go_wp2
      repeat (go_quiet (fail); try go_wp2)
      go_meet
      case rel => exact ⟨_, (true), (by first | rfl | (simp; done) | (simp [*]; done)), H', ⟨by first | omega | exact Nat.le_refl _⟩, ⟨by (with_reducible repeat (first | refine blk_drewN ?_ _ | refine blk_drew ?_ | refine blk_alloc ?_ _)); exact BK184.out⟩, ⟨by (with_reducible repeat (first | refine blk_drewN ?_ _ | refine blk_drew ?_ | refine blk_alloc ?_ _)); exact BK185.out⟩, ⟨by repeat (first | (with_reducible first | exact HB.out | apply below_alloc | apply pw_below_drewN | apply below_drew1 | refine below_set ?_ GE184.out | refine below_set ?_ GE185.out) | exact HB.out)⟩⟩
  case rest =>
    clear HC3
    try clear c1
    try clear c2
    try clear p2
    try clear c6
    try clear c6b0
    try clear c6b1
    try clear c7
    try clear c7b0
    try clear c7b1
    try clear c8
    try clear c11
    try clear c14
    try clear hcz10_0
    try clear hcz10_1
    try clear hcz10_2
    try clear hcz12_0
    try clear hcz12_1
    try clear hcz12_2
    try clear hcz13_0
    try clear hcz13_1
    try clear hcz13_2
    try clear hcz15_0
    try clear hcz15_1
    try clear hcz15_2
    try clear hcz16_0
    try clear hcz16_1
    try clear hcz16_2
    try clear hcz9_0
    try clear hcz9_1
    try clear hcz9_2
    try clear hfz10_0
    try clear hfz10_1
    try clear hfz10_2
    try clear hfz12_0
    try clear hfz12_1
    try clear hfz12_2
    try clear hfz13_0
    try clear hfz13_1
    try clear hfz13_2
    try clear hfz15_0
    try clear hfz15_1
    try clear hfz15_2
    try clear hfz16_0
    try clear hfz16_1
    try clear hfz16_2
    try clear hfz9_0
    try clear hfz9_1
    try clear hfz9_2
    obtain ⟨kq, x27_2, rfl, HA, HJ2, BK184, BK185, HB⟩ := hcut
    cases kq with
    | zero => exact absurd HA.out (by simp [colloquyref20_Same.j0])
    | succ kj2 =>
      have H := HA.out
      clear HA
      simp only [colloquyref20_Same.j0] at H
      by_cases c17 : x27_2 = true
      · subst c17
        have H1 : (some false) = some r := by rw [if_pos rfl] at H; exact H
        clear H
        have H := H1
        clear H1
        obtain rfl := Option.some.inj H
        go_wp2
        repeat (go_quiet (fail); try go_wp2)
        go_ret
        exact ⟨by first | rfl | (simp [errW_none, errW_some] <;> rfl) | (simp [*, errW_none, errW_some] <;> rfl), by repeat (first | (with_reducible first | exact HB.out | apply below_alloc | apply pw_below_drewN | apply below_drew1 | refine below_set ?_ GE184.out | refine below_set ?_ GE185.out) | exact HB.out)⟩
      · replace c17 := Bool.eq_false_iff.mpr c17
        subst c17
        have H1 : (colloquyref20_Same.l0 kj2 0 a0_0 a0_1 l0_2 a1_0 a1_1 l1_2) = some r := by rw [if_neg (show ¬ (false = true) by decide)] at H; exact H
        clear H
        have H := H1
        clear H1
        have H' := Aside0.mk H
        clear H
        go_wp2
        repeat (go_quiet (fail); try go_wp2)
        go_loopg [5] kj2 (fun kq v5 w' => ∃ (x5_2 : Int), v5 = .int .i64 x5_2 ∧ Aside0 (colloquyref20_Same.l0 kq x5_2 a0_0 a0_1 l0_2 a1_0 a1_1 l1_2 = some r) ∧ Aside0 (kq ≤ kj2) ∧ Aside0 (w'.heap[gb184]? = some (.cells #[.string a0_0, .string a0_1, (.slice A0_2 l0_2.length c0_2)] 29 (0, 0))) ∧ Aside0 (w'.heap[gb185]? = some (.cells #[.string a1_0, .string a1_1, (.slice A1_2 l1_2.length c1_2)] 29 (0, 0))) ∧ Aside0 (Below w.heap.size w w'))
        case atStart => exact ⟨(0), (by first | rfl | (simp; done) | (simp [*]; done)), H', ⟨Nat.le_refl _⟩, ⟨by (with_reducible repeat (first | refine blk_drewN ?_ _ | refine blk_drew ?_ | refine blk_alloc ?_ _)); exact BK184.out⟩, ⟨by (with_reducible repeat (first | refine blk_drewN ?_ _ | refine blk_drew ?_ | refine blk_alloc ?_ _)); exact BK185.out⟩, ⟨by repeat (first | (with_reducible first | exact HB.out | apply below_alloc | apply pw_below_drewN | apply below_drew1 | refine below_set ?_ GE184.out | refine below_set ?_ GE185.out) | exact HB.out)⟩⟩
        case round =>
          clear H'
          try clear c1
          try clear c2
          try clear p2
          try clear c6
          try clear c6b0
          try clear c6b1
          try clear c7
          try clear c7b0
          try clear c7b1
          try clear c8
          try clear c11
          try clear c14
          try clear c17
          try clear hcz10_0
          try clear hcz10_1
          try clear hcz10_2
          try clear hcz12_0
          try clear hcz12_1
          try clear hcz12_2
          try clear hcz13_0
          try clear hcz13_1
          try clear hcz13_2
          try clear hcz15_0
          try clear hcz15_1
          try clear hcz15_2
          try clear hcz16_0
          try clear hcz16_1
          try clear hcz16_2
          try clear hcz9_0
          try clear hcz9_1
          try clear hcz9_2
          try clear hfz10_0
          try clear hfz10_1
          try clear hfz10_2
          try clear hfz12_0
          try clear hfz12_1
          try clear hfz12_2
          try clear hfz13_0
          try clear hfz13_1
          try clear hfz13_2
          try clear hfz15_0
          try clear hfz15_1
          try clear hfz15_2
          try clear hfz16_0
          try clear hfz16_1
          try clear hfz16_2
          try clear hfz9_0
          try clear hfz9_1
          try clear hfz9_2
          try clear p2
          obtain ⟨x5_2, rfl, HA, HK2, BK184, BK185, HB⟩ := hrel
          cases gk with
          | zero => exact absurd HA.out (by simp [colloquyref20_Same.l0])
          | succ k2 =>
            have H := HA.out
            clear HA
            simp only [colloquyref20_Same.l0] at H
            by_cases c18 : x5_2 < (l0_2.length : Int)
            · rw [if_pos c18] at H
              have c18b0 : decide (x5_2 < (l0_2.length : Int)) = true := decide_eq_true c18
              clear c18
              have HC19 := Aside0.mk H
              clear H
              have hnb20 := NB184_185.out
              have hnc20 := NB185_184.out
              have hcz21_0 : wr.cell? ⟨gb184, 0, none⟩ = some (.string a0_0) := (blk_cell BK184.out 0).trans rfl
              have hcz21_1 : wr.cell? ⟨gb184, 1, none⟩ = some (.string a0_1) := (blk_cell BK184.out 1).trans rfl
              have hcz21_2 : wr.cell? ⟨gb184, 2, none⟩ = some (.slice A0_2 l0_2.length c0_2) := (blk_cell BK184.out 2).trans rfl
              have hfz21_0 := blk_frozen BK184.out 0
              have hfz21_1 := blk_frozen BK184.out 1
              have hfz21_2 := blk_frozen BK184.out 2
              go_upto_region 6 with (fail)
              repeat (go_quiet (fail); go_upto_region 6 with (fail))
              go_cut [64] (fun v64 wc => ∃ (kq : Nat) (x64_18 : Bool), v64 = .bool x64_18 ∧ Aside0 (colloquyref20_Same.j2 kq x5_2 x64_18 a0_0 a0_1 l0_2 a1_0 a1_1 l1_2 = some r) ∧ Aside0 (kq ≤ k2) ∧ Aside0 (wc.heap[gb184]? = some (.cells #[.string a0_0, .string a0_1, (.slice A0_2 l0_2.length c0_2)] 29 (0, 0))) ∧ Aside0 (wc.heap[gb185]? = some (.cells #[.string a1_0, .string a1_1, (.slice A1_2 l1_2.length c1_2)] 29 (0, 0))) ∧ Aside0 (Below w.heap.size w wc))
              case first =>
                have H := HC19.out
                clear HC19
                by_cases c22 : 0 ≤ x5_2
                · rw [if_pos c22] at H
                  have c22b0 : decide (0 ≤ x5_2) = true := decide_eq_true c22
                  clear c22
                  (first | rw [c22b0] | rw [c22b1] | (simp only [i64_w, i32_w]; rw [c22b0]) | skip)
                  by_cases c23 : x5_2 < (l1_2.length : Int)
                  · rw [if_pos c23] at H
                    have c23b0 : decide (x5_2 < (l1_2.length : Int)) = true := decide_eq_true c23
                    clear c23
                    by_cases c24 : ((rd_T53 l0_2 x5_2).f0).toList = ((rd_T53 l1_2 x5_2).f0).toList
                    · rw [if_pos c24] at H
                      have c24b0 : (((rd_T53 l0_2 x5_2).f0).toList == ((rd_T53 l1_2 x5_2).f0).toList) = true := beq_iff_eq.mpr c24
                      have c24b1 : (((rd_T53 l0_2 x5_2).f0).toList != ((rd_T53 l1_2 x5_2).f0).toList) = false := bne_eq_false_iff_eq.mpr c24
                      clear c24
                      have H' := Aside0.mk H
                      clear H
                      have hnb25 := NB184_185.out
                      have hnc25 := NB185_184.out
                      have hcz26_0 : wr.cell? ⟨gb184, 0, none⟩ = some (.string a0_0) := (blk_cell BK184.out 0).trans rfl
                      have hcz26_1 : wr.cell? ⟨gb184, 1, none⟩ = some (.string a0_1) := (blk_cell BK184.out 1).trans rfl
                      have hcz26_2 : wr.cell? ⟨gb184, 2, none⟩ = some (.slice A0_2 l0_2.length c0_2) := (blk_cell BK184.out 2).trans rfl
                      have hfz26_0 := blk_frozen BK184.out 0
                      have hfz26_1 := blk_frozen BK184.out 1
                      have hfz26_2 := blk_frozen BK184.out 2
                      have p186 : 0 ≤ (x5_2 : Int) := of_decide_eq_true (by first | (with_reducible assumption) | assumption)
                      have q186 : x5_2 < (l0_2.length : Int) := of_decide_eq_true (by first | (with_reducible assumption) | assumption)
                      obtain ⟨ad186, A186_1, c186_1, e186, hx186_0, hx186_1, hl186_1, hi186_1⟩ := at_T53 HR0_2.out x5_2 p186 q186
                      cases e186
                      replace hx186_0 := (HB.out.cell (World.block_lt_of_cell? w _ hx186_0)).trans hx186_0
                      replace hx186_1 := (HB.out.cell (World.block_lt_of_cell? w _ hx186_1)).trans hx186_1
                      have HR186_1 := Aside0.mk hi186_1
                      have HC186_1 := Aside0.mk hl186_1
                      clear hi186_1 hl186_1
                      replace p186 := eq_true p186
                      replace q186 := eq_true q186
                      have hcz27_0 : wr.cell? ⟨gb185, 0, none⟩ = some (.string a1_0) := (blk_cell BK185.out 0).trans rfl
                      have hcz27_1 : wr.cell? ⟨gb185, 1, none⟩ = some (.string a1_1) := (blk_cell BK185.out 1).trans rfl
                      have hcz27_2 : wr.cell? ⟨gb185, 2, none⟩ = some (.slice A1_2 l1_2.length c1_2) := (blk_cell BK185.out 2).trans rfl
                      have hfz27_0 := blk_frozen BK185.out 0
                      have hfz27_1 := blk_frozen BK185.out 1
                      have hfz27_2 := blk_frozen BK185.out 2
                      have p187 : 0 ≤ (x5_2 : Int) := of_decide_eq_true (by first | (with_reducible assumption) | assumption)
                      have q187 : x5_2 < (l1_2.length : Int) := of_decide_eq_true (by first | (with_reducible assumption) | assumption)
                      obtain ⟨ad187, A187_1, c187_1, e187, hx187_0, hx187_1, hl187_1, hi187_1⟩ := at_T53 HR1_2.out x5_2 p187 q187
                      cases e187
                      replace hx187_0 := (HB.out.cell (World.block_lt_of_cell? w _ hx187_0)).trans hx187_0
                      replace hx187_1 := (HB.out.cell (World.block_lt_of_cell? w _ hx187_1)).trans hx187_1
                      have HR187_1 := Aside0.mk hi187_1
                      have HC187_1 := Aside0.mk hl187_1
                      clear hi187_1 hl187_1
                      replace p187 := eq_true p187
                      replace q187 := eq_true q187
                      have p188 : 0 ≤ (x5_2 : Int) := of_decide_eq_true (by first | (with_reducible assumption) | assumption)
                      have q188 : x5_2 < (l0_2.length : Int) := of_decide_eq_true (by first | (with_reducible assumption) | assumption)
                      obtain ⟨ad188, A188_1, c188_1, e188, hx188_0, hx188_1, hl188_1, hi188_1⟩ := at_T53 HR0_2.out x5_2 p188 q188
                      obtain rfl : ad186 = ad188 := (by injection e188)
                      replace hx188_0 := (HB.out.cell (World.block_lt_of_cell? w _ hx188_0)).trans hx188_0
                      replace hx188_1 := (HB.out.cell (World.block_lt_of_cell? w _ hx188_1)).trans hx188_1
                      have HR188_1 := Aside0.mk hi188_1
                      have HC188_1 := Aside0.mk hl188_1
                      clear hi188_1 hl188_1
                      replace p188 := eq_true p188
                      replace q188 := eq_true q188
                      have ea_ := Option.some.inj (hx186_1.symm.trans hx188_1)
                      injection ea_ with ea_ en_ ec_
                      subst ea_
                      subst ec_
                      clear en_
                      have p189 : 0 ≤ (x5_2 : Int) := of_decide_eq_true (by first | (with_reducible assumption) | assumption)
                      have q189 : x5_2 < (l1_2.length : Int) := of_decide_eq_true (by first | (with_reducible assumption) | assumption)
                      obtain ⟨ad189, A189_1, c189_1, e189, hx189_0, hx189_1, hl189_1, hi189_1⟩ := at_T53 HR1_2.out x5_2 p189 q189
                      obtain rfl : ad187 = ad189 := (by injection e189)
                      replace hx189_0 := (HB.out.cell (World.block_lt_of_cell? w _ hx189_0)).trans hx189_0
                      replace hx189_1 := (HB.out.cell (World.block_lt_of_cell? w _ hx189_1)).trans hx189_1
                      have HR189_1 := Aside0.mk hi189_1
                      have HC189_1 := Aside0.mk hl189_1
                      clear hi189_1 hl189_1
                      replace p189 := eq_true p189
                      replace q189 := eq_true q189
                      have ea_ := Option.some.inj (hx187_1.symm.trans hx189_1)
                      injection ea_ with ea_ en_ ec_
                      subst ea_
                      subst ec_
                      clear en_
                      go_wp2
                      repeat (go_quiet (fail); try go_wp2)
                      go_meet
                      case rel => exact ⟨_, (((((rd_T53 l0_2 x5_2).f1).length : Int) != (((rd_T53 l1_2 x5_2).f1).length : Int))), (by first | rfl | (simp; done) | (simp [*]; done)), H', ⟨by have := HJ2.out; have := HK2.out; first | omega | exact Nat.le_refl _⟩, ⟨by (with_reducible repeat (first | refine blk_drewN ?_ _ | refine blk_drew ?_ | refine blk_alloc ?_ _)); exact BK184.out⟩, ⟨by (with_reducible repeat (first | refine blk_drewN ?_ _ | refine blk_drew ?_ | refine blk_alloc ?_ _)); exact BK185.out⟩, ⟨by repeat (first | (with_reducible first | exact HB.out | apply below_alloc | apply pw_below_drewN | apply below_drew1 | refine below_set ?_ GE184.out | refine below_set ?_ GE185.out) | exact HB.out)⟩⟩
                    · rw [if_neg c24] at H
                      have c24b0 : (((rd_T53 l0_2 x5_2).f0).toList == ((rd_T53 l1_2 x5_2).f0).toList) = false := beq_eq_false_iff_ne.mpr c24
                      have c24b1 : (((rd_T53 l0_2 x5_2).f0).toList != ((rd_T53 l1_2 x5_2).f0).toList) = true := bne_iff_ne.mpr c24
                      have H' := Aside0.mk H
                      clear H
                      have hnb28 := NB184_185.out
                      have hnc28 := NB185_184.out
                      have hcz29_0 : wr.cell? ⟨gb184, 0, none⟩ = some (.string a0_0) := (blk_cell BK184.out 0).trans rfl
                      have hcz29_1 : wr.cell? ⟨gb184, 1, none⟩ = some (.string a0_1) := (blk_cell BK184.out 1).trans rfl
                      have hcz29_2 : wr.cell? ⟨gb184, 2, none⟩ = some (.slice A0_2 l0_2.length c0_2) := (blk_cell BK184.out 2).trans rfl
                      have hfz29_0 := blk_frozen BK184.out 0
                      have hfz29_1 := blk_frozen BK184.out 1
                      have hfz29_2 := blk_frozen BK184.out 2
                      have p186 : 0 ≤ (x5_2 : Int) := of_decide_eq_true (by first | (with_reducible assumption) | assumption)
                      have q186 : x5_2 < (l0_2.length : Int) := of_decide_eq_true (by first | (with_reducible assumption) | assumption)
                      obtain ⟨ad186, A186_1, c186_1, e186, hx186_0, hx186_1, hl186_1, hi186_1⟩ := at_T53 HR0_2.out x5_2 p186 q186
                      cases e186
                      replace hx186_0 := (HB.out.cell (World.block_lt_of_cell? w _ hx186_0)).trans hx186_0
                      replace hx186_1 := (HB.out.cell (World.block_lt_of_cell? w _ hx186_1)).trans hx186_1
                      have HR186_1 := Aside0.mk hi186_1
                      have HC186_1 := Aside0.mk hl186_1
                      clear hi186_1 hl186_1
                      replace p186 := eq_true p186
                      replace q186 := eq_true q186
                      have hcz30_0 : wr.cell? ⟨gb185, 0, none⟩ = some (.string a1_0) := (blk_cell BK185.out 0).trans rfl
                      have hcz30_1 : wr.cell? ⟨gb185, 1, none⟩ = some (.string a1_1) := (blk_cell BK185.out 1).trans rfl
                      have hcz30_2 : wr.cell? ⟨gb185, 2, none⟩ = some (.slice A1_2 l1_2.length c1_2) := (blk_cell BK185.out 2).trans rfl
                      have hfz30_0 := blk_frozen BK185.out 0
                      have hfz30_1 := blk_frozen BK185.out 1
                      have hfz30_2 := blk_frozen BK185.out 2
                      have p187 : 0 ≤ (x5_2 : Int) := of_decide_eq_true (by first | (with_reducible assumption) | assumption)
                      have q187 : x5_2 < (l1_2.length : Int) := of_decide_eq_true (by first | (with_reducible assumption) | assumption)
                      obtain ⟨ad187, A187_1, c187_1, e187, hx187_0, hx187_1, hl187_1, hi187_1⟩ := at_T53 HR1_2.out x5_2 p187 q187
                      cases e187
                      replace hx187_0 := (HB.out.cell (World.block_lt_of_cell? w _ hx187_0)).trans hx187_0
                      replace hx187_1 := (HB.out.cell (World.block_lt_of_cell? w _ hx187_1)).trans hx187_1
                      have HR187_1 := Aside0.mk hi187_1
                      have HC187_1 := Aside0.mk hl187_1
                      clear hi187_1 hl187_1
                      replace p187 := eq_true p187
                      replace q187 := eq_true q187
                      go_wp2
                      repeat (go_quiet (fail); try go_wp2)
                      go_meet
                      case rel => exact ⟨_, (true), (by first | rfl | (simp; done) | (simp [*]; done)), H', ⟨by have := HJ2.out; have := HK2.out; first | omega | exact Nat.le_refl _⟩, ⟨by (with_reducible repeat (first | refine blk_drewN ?_ _ | refine blk_drew ?_ | refine blk_alloc ?_ _)); exact BK184.out⟩, ⟨by (with_reducible repeat (first | refine blk_drewN ?_ _ | refine blk_drew ?_ | refine blk_alloc ?_ _)); exact BK185.out⟩, ⟨by repeat (first | (with_reducible first | exact HB.out | apply below_alloc | apply pw_below_drewN | apply below_drew1 | refine below_set ?_ GE184.out | refine below_set ?_ GE185.out) | exact HB.out)⟩⟩
                  · rw [if_neg c23] at H
                    exact absurd H (by simp)
                · rw [if_neg c22] at H
                  exact absurd H (by simp)
              case rest =>
                clear HC19
                try clear c1
                try clear p1
                try clear q1
                try clear hx1
                try clear c2
                try clear p2
                try clear c6
                try clear c6b0
                try clear c6b1
                try clear c7
                try clear c7b0
                try clear c7b1
                try clear c8
                try clear c11
                try clear c14
                try clear c17
                try clear c18
                try clear c18b0
                try clear p18
                try clear q18
                try clear hx18
                try clear c20
                try clear c22
                try clear c22b0
                try clear c22b1
                try clear c23
                try clear c23b0
                try clear c24
                try clear c24b0
                try clear c24b1
                try clear c25
                try clear c28
                try clear hcz10_0
                try clear hcz10_1
                try clear hcz10_2
                try clear hcz12_0
                try clear hcz12_1
                try clear hcz12_2
                try clear hcz13_0
                try clear hcz13_1
                try clear hcz13_2
                try clear hcz15_0
                try clear hcz15_1
                try clear hcz15_2
                try clear hcz16_0
                try clear hcz16_1
                try clear hcz16_2
                try clear hcz21_0
                try clear hcz21_1
                try clear hcz21_2
                try clear hcz26_0
                try clear hcz26_1
                try clear hcz26_2
                try clear hcz27_0
                try clear hcz27_1
                try clear hcz27_2
                try clear hcz29_0
                try clear hcz29_1
                try clear hcz29_2
                try clear hcz30_0
                try clear hcz30_1
                try clear hcz30_2
                try clear hcz9_0
                try clear hcz9_1
                try clear hcz9_2
                try clear hfz10_0
                try clear hfz10_1
                try clear hfz10_2
                try clear hfz12_0
                try clear hfz12_1
                try clear hfz12_2
                try clear hfz13_0
                try clear hfz13_1
                try clear hfz13_2
                try clear hfz15_0
                try clear hfz15_1
                try clear hfz15_2
                try clear hfz16_0
                try clear hfz16_1
                try clear hfz16_2
                try clear hfz21_0
                try clear hfz21_1
                try clear hfz21_2
                try clear hfz26_0
                try clear hfz26_1
                try clear hfz26_2
                try clear hfz27_0
                try clear hfz27_1
                try clear hfz27_2
                try clear hfz29_0
                try clear hfz29_1
                try clear hfz29_2
                try clear hfz30_0
                try clear hfz30_1
                try clear hfz30_2
                try clear hfz9_0
                try clear hfz9_1
                try clear hfz9_2
                try clear hx186_0
                try clear hx186_1
                try clear hx187_0
                try clear hx187_1
                try clear hx188_0
                try clear hx188_1
                try clear hx189_0
                try clear hx189_1
                try clear p186
                try clear p187
                try clear p188
                try clear p189
                try clear p2
                try clear q186
                try clear q187
                try clear q188
                try clear q189
                obtain ⟨kq, x64_18, rfl, HA, HJ18, BK184, BK185, HB⟩ := hcut
                cases kq with
                | zero => exact absurd HA.out (by simp [colloquyref20_Same.j2])
                | succ kj18 =>
                  have H := HA.out
                  clear HA
                  simp only [colloquyref20_Same.j2] at H
                  by_cases c31 : x64_18 = true
                  · subst c31
                    have H1 : (some false) = some r := by rw [if_pos rfl] at H; exact H
                    clear H
                    have H := H1
                    clear H1
                    obtain rfl := Option.some.inj H
                    go_wp2
                    repeat (go_quiet (fail); try go_wp2)
                    go_ret
                    exact ⟨by first | rfl | (simp [errW_none, errW_some] <;> rfl) | (simp [*, errW_none, errW_some] <;> rfl), by repeat (first | (with_reducible first | exact HB.out | apply below_alloc | apply pw_below_drewN | apply below_drew1 | refine below_set ?_ GE184.out | refine below_set ?_ GE185.out) | exact HB.out)⟩
                  · replace c31 := Bool.eq_false_iff.mpr c31
                    subst c31
                    have H1 : (colloquyref20_Same.l1 kj18 x5_2 0 a0_0 a0_1 l0_2 a1_0 a1_1 l1_2) = some r := by rw [if_neg (show ¬ (false = true) by decide)] at H; exact H
                    clear H
                    have H := H1
                    clear H1
                    have H' := Aside0.mk H
                    clear H
                    go_wp2
                    repeat (go_quiet (fail); try go_wp2)
                    go_loopg [6] kj18 (fun kq v6 w' => ∃ (x6_4 : Int), v6 = .int .i64 x6_4 ∧ Aside0 (colloquyref20_Same.l1 kq x5_2 x6_4 a0_0 a0_1 l0_2 a1_0 a1_1 l1_2 = some r) ∧ Aside0 (kq ≤ kj18) ∧ Aside0 (w'.heap[gb184]? = some (.cells #[.string a0_0, .string a0_1, (.slice A0_2 l0_2.length c0_2)] 29 (0, 0))) ∧ Aside0 (w'.heap[gb185]? = some (.cells #[.string a1_0, .string a1_1, (.slice A1_2 l1_2.length c1_2)] 29 (0, 0))) ∧ Aside0 (Below w.heap.size w w'))
                    case atStart => exact ⟨(0), (by first | rfl | (simp; done) | (simp [*]; done)), H', ⟨Nat.le_refl _⟩, ⟨by (with_reducible repeat (first | refine blk_drewN ?_ _ | refine blk_drew ?_ | refine blk_alloc ?_ _)); exact BK184.out⟩, ⟨by (with_reducible repeat (first | refine blk_drewN ?_ _ | refine blk_drew ?_ | refine blk_alloc ?_ _)); exact BK185.out⟩, ⟨by repeat (first | (with_reducible first | exact HB.out | apply below_alloc | apply pw_below_drewN | apply below_drew1 | refine below_set ?_ GE184.out | refine below_set ?_ GE185.out) | exact HB.out)⟩⟩
                    case round =>
                      clear H'
                      try clear c1
                      try clear p1
                      try clear q1
                      try clear hx1
                      try clear c2
                      try clear p2
                      try clear c3
                      try clear c6
                      try clear c6b0
                      try clear c6b1
                      try clear c7
                      try clear c7b0
                      try clear c7b1
                      try clear c8
                      try clear c11
                      try clear c14
                      try clear c17
                      try clear c18
                      try clear c18b0
                      try clear p18
                      try clear q18
                      try clear hx18
                      try clear c20
                      try clear c22
                      try clear c22b0
                      try clear c22b1
                      try clear c23
                      try clear c23b0
                      try clear c24
                      try clear c24b0
                      try clear c24b1
                      try clear c25
                      try clear c28
                      try clear c31
                      try clear hcz10_0
                      try clear hcz10_1
                      try clear hcz10_2
                      try clear hcz12_0
                      try clear hcz12_1
                      try clear hcz12_2
                      try clear hcz13_0
                      try clear hcz13_1
                      try clear hcz13_2
                      try clear hcz15_0
                      try clear hcz15_1
                      try clear hcz15_2
                      try clear hcz16_0
                      try clear hcz16_1
                      try clear hcz16_2
                      try clear hcz21_0
                      try clear hcz21_1
                      try clear hcz21_2
                      try clear hcz26_0
                      try clear hcz26_1
                      try clear hcz26_2
                      try clear hcz27_0
                      try clear hcz27_1
                      try clear hcz27_2
                      try clear hcz29_0
                      try clear hcz29_1
                      try clear hcz29_2
                      try clear hcz30_0
                      try clear hcz30_1
                      try clear hcz30_2
                      try clear hcz9_0
                      try clear hcz9_1
                      try clear hcz9_2
                      try clear hfz10_0
                      try clear hfz10_1
                      try clear hfz10_2
                      try clear hfz12_0
                      try clear hfz12_1
                      try clear hfz12_2
                      try clear hfz13_0
                      try clear hfz13_1
                      try clear hfz13_2
                      try clear hfz15_0
                      try clear hfz15_1
                      try clear hfz15_2
                      try clear hfz16_0
                      try clear hfz16_1
                      try clear hfz16_2
                      try clear hfz21_0
                      try clear hfz21_1
                      try clear hfz21_2
                      try clear hfz26_0
                      try clear hfz26_1
                      try clear hfz26_2
                      try clear hfz27_0
                      try clear hfz27_1
                      try clear hfz27_2
                      try clear hfz29_0
                      try clear hfz29_1
                      try clear hfz29_2
                      try clear hfz30_0
                      try clear hfz30_1
                      try clear hfz30_2
                      try clear hfz9_0
                      try clear hfz9_1
                      try clear hfz9_2
                      try clear hx186_0
                      try clear hx186_1
                      try clear hx187_0
                      try clear hx187_1
                      try clear hx188_0
                      try clear hx188_1
                      try clear hx189_0
                      try clear hx189_1
                      try clear p1
                      try clear p18
                      try clear p186
                      try clear p187
                      try clear p188
                      try clear p189
                      try clear p2
                      try clear q1
                      try clear q18
                      try clear q186
                      try clear q187
                      try clear q188
                      try clear q189
                      obtain ⟨x6_4, rfl, HA, HK4, BK184, BK185, HB⟩ := hrel
                      cases gk with
                      | zero => exact absurd HA.out (by simp [colloquyref20_Same.l1])
                      | succ k4 =>
                        have H := HA.out
                        clear HA
                        simp only [colloquyref20_Same.l1] at H
                        by_cases c32 : 0 ≤ x5_2
                        · rw [if_pos c32] at H
                          have c32b0 : decide (0 ≤ x5_2) = true := decide_eq_true c32
                          clear c32
                          by_cases c33 : x5_2 < (l0_2.length : Int)
                          · rw [if_pos c33] at H
                            have c33b0 : decide (x5_2 < (l0_2.length : Int)) = true := decide_eq_true c33
                            clear c33
                            by_cases c34 : x6_4 < (((rd_T53 l0_2 x5_2).f1).length : Int)
                            · rw [if_pos c34] at H
                              have c34b0 : decide (x6_4 < (((rd_T53 l0_2 x5_2).f1).length : Int)) = true := decide_eq_true c34
                              clear c34
                              by_cases c35 : 0 ≤ x6_4
                              · rw [if_pos c35] at H
                                have c35b0 : decide (0 ≤ x6_4) = true := decide_eq_true c35
                                clear c35
                                by_cases c36 : x5_2 < (l1_2.length : Int)
                                · rw [if_pos c36] at H
                                  have c36b0 : decide (x5_2 < (l1_2.length : Int)) = true := decide_eq_true c36
                                  clear c36
                                  by_cases c37 : x6_4 < (((rd_T53 l1_2 x5_2).f1).length : Int)
                                  · rw [if_pos c37] at H
                                    have c37b0 : decide (x6_4 < (((rd_T53 l1_2 x5_2).f1).length : Int)) = true := decide_eq_true c37
                                    clear c37
                                    by_cases c38 : (!((((rd_T49 ((rd_T53 l0_2 x5_2).f1) x6_4).f0).toList) == (((rd_T49 ((rd_T53 l1_2 x5_2).f1) x6_4).f0).toList)) || (!(((rd_T49 ((rd_T53 l0_2 x5_2).f1) x6_4).f1) == ((rd_T49 ((rd_T53 l1_2 x5_2).f1) x6_4).f1)))) = true
                                    · rw [if_pos c38] at H
                                      have c38b0 : (!((((rd_T49 ((rd_T53 l0_2 x5_2).f1) x6_4).f0).toList) == (((rd_T49 ((rd_T53 l1_2 x5_2).f1) x6_4).f0).toList)) || (!(((rd_T49 ((rd_T53 l0_2 x5_2).f1) x6_4).f1) == ((rd_T49 ((rd_T53 l1_2 x5_2).f1) x6_4).f1)))) = true := c38
                                      clear c38
                                      obtain rfl := Option.some.inj H
                                      have hnb39 := NB184_185.out
                                      have hnc39 := NB185_184.out
                                      have hcz40_0 : wr.cell? ⟨gb184, 0, none⟩ = some (.string a0_0) := (blk_cell BK184.out 0).trans rfl
                                      have hcz40_1 : wr.cell? ⟨gb184, 1, none⟩ = some (.string a0_1) := (blk_cell BK184.out 1).trans rfl
                                      have hcz40_2 : wr.cell? ⟨gb184, 2, none⟩ = some (.slice A0_2 l0_2.length c0_2) := (blk_cell BK184.out 2).trans rfl
                                      have hfz40_0 := blk_frozen BK184.out 0
                                      have hfz40_1 := blk_frozen BK184.out 1
                                      have hfz40_2 := blk_frozen BK184.out 2
                                      have p190 : 0 ≤ (x5_2 : Int) := of_decide_eq_true (by first | (with_reducible assumption) | assumption)
                                      have q190 : x5_2 < (l0_2.length : Int) := of_decide_eq_true (by first | (with_reducible assumption) | assumption)
                                      obtain ⟨ad190, A190_1, c190_1, e190, hx190_0, hx190_1, hl190_1, hi190_1⟩ := at_T53 HR0_2.out x5_2 p190 q190
                                      cases e190
                                      replace hx190_0 := (HB.out.cell (World.block_lt_of_cell? w _ hx190_0)).trans hx190_0
                                      replace hx190_1 := (HB.out.cell (World.block_lt_of_cell? w _ hx190_1)).trans hx190_1
                                      have HR190_1 := Aside0.mk hi190_1
                                      have HC190_1 := Aside0.mk hl190_1
                                      clear hi190_1 hl190_1
                                      replace p190 := eq_true p190
                                      replace q190 := eq_true q190
                                      have p191 : 0 ≤ (x5_2 : Int) := of_decide_eq_true (by first | (with_reducible assumption) | assumption)
                                      have q191 : x5_2 < (l0_2.length : Int) := of_decide_eq_true (by first | (with_reducible assumption) | assumption)
                                      obtain ⟨ad191, A191_1, c191_1, e191, hx191_0, hx191_1, hl191_1, hi191_1⟩ := at_T53 HR0_2.out x5_2 p191 q191
                                      obtain rfl : ad190 = ad191 := (by injection e191)
                                      replace hx191_0 := (HB.out.cell (World.block_lt_of_cell? w _ hx191_0)).trans hx191_0
                                      replace hx191_1 := (HB.out.cell (World.block_lt_of_cell? w _ hx191_1)).trans hx191_1
                                      have HR191_1 := Aside0.mk hi191_1
                                      have HC191_1 := Aside0.mk hl191_1
                                      clear hi191_1 hl191_1
                                      replace p191 := eq_true p191
                                      replace q191 := eq_true q191
                                      have ea_ := Option.some.inj (hx190_1.symm.trans hx191_1)
                                      injection ea_ with ea_ en_ ec_
                                      subst ea_
                                      subst ec_
                                      clear en_
                                      have p192 : 0 ≤ (x6_4 : Int) := of_decide_eq_true (by first | (with_reducible assumption) | assumption)
                                      have q192 : x6_4 < (((rd_T53 l0_2 x5_2).f1).length : Int) := of_decide_eq_true (by first | (with_reducible assumption) | assumption)
                                      obtain ⟨ad192, e192, hx192_0, hx192_1⟩ := at_T49 HR191_1.out x6_4 p192 q192
                                      cases e192
                                      replace hx192_0 := (HB.out.cell (World.block_lt_of_cell? w _ hx192_0)).trans hx192_0
                                      replace hx192_1 := (HB.out.cell (World.block_lt_of_cell? w _ hx192_1)).trans hx192_1
                                      replace p192 := eq_true p192
                                      replace q192 := eq_true q192
                                      have hcz41_0 : wr.cell? ⟨gb185, 0, none⟩ = some (.string a1_0) := (blk_cell BK185.out 0).trans rfl
                                      have hcz41_1 : wr.cell? ⟨gb185, 1, none⟩ = some (.string a1_1) := (blk_cell BK185.out 1).trans rfl
                                      have hcz41_2 : wr.cell? ⟨gb185, 2, none⟩ = some (.slice A1_2 l1_2.length c1_2) := (blk_cell BK185.out 2).trans rfl
                                      have hfz41_0 := blk_frozen BK185.out 0
                                      have hfz41_1 := blk_frozen BK185.out 1
                                      have hfz41_2 := blk_frozen BK185.out 2
                                      have p193 : 0 ≤ (x5_2 : Int) := of_decide_eq_true (by first | (with_reducible assumption) | assumption)
                                      have q193 : x5_2 < (l1_2.length : Int) := of_decide_eq_true (by first | (with_reducible assumption) | assumption)
                                      obtain ⟨ad193, A193_1, c193_1, e193, hx193_0, hx193_1, hl193_1, hi193_1⟩ := at_T53 HR1_2.out x5_2 p193 q193
                                      cases e193
                                      replace hx193_0 := (HB.out.cell (World.block_lt_of_cell? w _ hx193_0)).trans hx193_0
                                      replace hx193_1 := (HB.out.cell (World.block_lt_of_cell? w _ hx193_1)).trans hx193_1
                                      have HR193_1 := Aside0.mk hi193_1
                                      have HC193_1 := Aside0.mk hl193_1
                                      clear hi193_1 hl193_1
                                      replace p193 := eq_true p193
                                      replace q193 := eq_true q193
                                      have p194 : 0 ≤ (x6_4 : Int) := of_decide_eq_true (by first | (with_reducible assumption) | assumption)
                                      have q194 : x6_4 < (((rd_T53 l1_2 x5_2).f1).length : Int) := of_decide_eq_true (by first | (with_reducible assumption) | assumption)
                                      obtain ⟨ad194, e194, hx194_0, hx194_1⟩ := at_T49 HR193_1.out x6_4 p194 q194
                                      cases e194
                                      replace hx194_0 := (HB.out.cell (World.block_lt_of_cell? w _ hx194_0)).trans hx194_0
                                      replace hx194_1 := (HB.out.cell (World.block_lt_of_cell? w _ hx194_1)).trans hx194_1
                                      replace p194 := eq_true p194
                                      replace q194 := eq_true q194
                                      go_wp2
                                      repeat (go_quiet (fail); try go_wp2)
                                      go_ret
                                      exact ⟨by first | rfl | (simp [errW_none, errW_some] <;> rfl) | (simp [*, errW_none, errW_some] <;> rfl), by repeat (first | (with_reducible first | exact HB.out | apply below_alloc | apply pw_below_drewN | apply below_drew1 | refine below_set ?_ GE184.out | refine below_set ?_ GE185.out) | exact HB.out)⟩
                                    · rw [if_neg c38] at H
                                      have c38b0 : (!((((rd_T49 ((rd_T53 l0_2 x5_2).f1) x6_4).f0).toList) == (((rd_T49 ((rd_T53 l1_2 x5_2).f1) x6_4).f0).toList)) || (!(((rd_T49 ((rd_T53 l0_2 x5_2).f1) x6_4).f1) == ((rd_T49 ((rd_T53 l1_2 x5_2).f1) x6_4).f1)))) = false := by simpa using c38
                                      clear c38
                                      have H' := Aside0.mk H
                                      clear H
                                      have hnb42 := NB184_185.out
                                      have hnc42 := NB185_184.out
                                      have hcz43_0 : wr.cell? ⟨gb184, 0, none⟩ = some (.string a0_0) := (blk_cell BK184.out 0).trans rfl
                                      have hcz43_1 : wr.cell? ⟨gb184, 1, none⟩ = some (.string a0_1) := (blk_cell BK184.out 1).trans rfl
                                      have hcz43_2 : wr.cell? ⟨gb184, 2, none⟩ = some (.slice A0_2 l0_2.length c0_2) := (blk_cell BK184.out 2).trans rfl
                                      have hfz43_0 := blk_frozen BK184.out 0
                                      have hfz43_1 := blk_frozen BK184.out 1
                                      have hfz43_2 := blk_frozen BK184.out 2
                                      have p190 : 0 ≤ (x5_2 : Int) := of_decide_eq_true (by first | (with_reducible assumption) | assumption)
                                      have q190 : x5_2 < (l0_2.length : Int) := of_decide_eq_true (by first | (with_reducible assumption) | assumption)
                                      obtain ⟨ad190, A190_1, c190_1, e190, hx190_0, hx190_1, hl190_1, hi190_1⟩ := at_T53 HR0_2.out x5_2 p190 q190
                                      cases e190
                                      replace hx190_0 := (HB.out.cell (World.block_lt_of_cell? w _ hx190_0)).trans hx190_0
                                      replace hx190_1 := (HB.out.cell (World.block_lt_of_cell? w _ hx190_1)).trans hx190_1
                                      have HR190_1 := Aside0.mk hi190_1
                                      have HC190_1 := Aside0.mk hl190_1
                                      clear hi190_1 hl190_1
                                      replace p190 := eq_true p190
                                      replace q190 := eq_true q190
                                      have p191 : 0 ≤ (x5_2 : Int) := of_decide_eq_true (by first | (with_reducible assumption) | assumption)
                                      have q191 : x5_2 < (l0_2.length : Int) := of_decide_eq_true (by first | (with_reducible assumption) | assumption)
                                      obtain ⟨ad191, A191_1, c191_1, e191, hx191_0, hx191_1, hl191_1, hi191_1⟩ := at_T53 HR0_2.out x5_2 p191 q191
                                      obtain rfl : ad190 = ad191 := (by injection e191)
                                      replace hx191_0 := (HB.out.cell (World.block_lt_of_cell? w _ hx191_0)).trans hx191_0
                                      replace hx191_1 := (HB.out.cell (World.block_lt_of_cell? w _ hx191_1)).trans hx191_1
                                      have HR191_1 := Aside0.mk hi191_1
                                      have HC191_1 := Aside0.mk hl191_1
                                      clear hi191_1 hl191_1
                                      replace p191 := eq_true p191
                                      replace q191 := eq_true q191
                                      have ea_ := Option.some.inj (hx190_1.symm.trans hx191_1)
                                      injection ea_ with ea_ en_ ec_
                                      subst ea_
                                      subst ec_
                                      clear en_
                                      have p192 : 0 ≤ (x6_4 : Int) := of_decide_eq_true (by first | (with_reducible assumption) | assumption)
                                      have q192 : x6_4 < (((rd_T53 l0_2 x5_2).f1).length : Int) := of_decide_eq_true (by first | (with_reducible assumption) | assumption)
                                      obtain ⟨ad192, e192, hx192_0, hx192_1⟩ := at_T49 HR191_1.out x6_4 p192 q192
                                      cases e192
                                      replace hx192_0 := (HB.out.cell (World.block_lt_of_cell? w _ hx192_0)).trans hx192_0
                                      replace hx192_1 := (HB.out.cell (World.block_lt_of_cell? w _ hx192_1)).trans hx192_1
                                      replace p192 := eq_true p192
                                      replace q192 := eq_true q192
                                      have hcz44_0 : wr.cell? ⟨gb185, 0, none⟩ = some (.string a1_0) := (blk_cell BK185.out 0).trans rfl
                                      have hcz44_1 : wr.cell? ⟨gb185, 1, none⟩ = some (.string a1_1) := (blk_cell BK185.out 1).trans rfl
                                      have hcz44_2 : wr.cell? ⟨gb185, 2, none⟩ = some (.slice A1_2 l1_2.length c1_2) := (blk_cell BK185.out 2).trans rfl
                                      have hfz44_0 := blk_frozen BK185.out 0
                                      have hfz44_1 := blk_frozen BK185.out 1
                                      have hfz44_2 := blk_frozen BK185.out 2
                                      have p193 : 0 ≤ (x5_2 : Int) := of_decide_eq_true (by first | (with_reducible assumption) | assumption)
                                      have q193 : x5_2 < (l1_2.length : Int) := of_decide_eq_true (by first | (with_reducible assumption) | assumption)
                                      obtain ⟨ad193, A193_1, c193_1, e193, hx193_0, hx193_1, hl193_1, hi193_1⟩ := at_T53 HR1_2.out x5_2 p193 q193
                                      cases e193
                                      replace hx193_0 := (HB.out.cell (World.block_lt_of_cell? w _ hx193_0)).trans hx193_0
                                      replace hx193_1 := (HB.out.cell (World.block_lt_of_cell? w _ hx193_1)).trans hx193_1
                                      have HR193_1 := Aside0.mk hi193_1
                                      have HC193_1 := Aside0.mk hl193_1
                                      clear hi193_1 hl193_1
                                      replace p193 := eq_true p193
                                      replace q193 := eq_true q193
                                      have p194 : 0 ≤ (x6_4 : Int) := of_decide_eq_true (by first | (with_reducible assumption) | assumption)
                                      have q194 : x6_4 < (((rd_T53 l1_2 x5_2).f1).length : Int) := of_decide_eq_true (by first | (with_reducible assumption) | assumption)
                                      obtain ⟨ad194, e194, hx194_0, hx194_1⟩ := at_T49 HR193_1.out x6_4 p194 q194
                                      cases e194
                                      replace hx194_0 := (HB.out.cell (World.block_lt_of_cell? w _ hx194_0)).trans hx194_0
                                      replace hx194_1 := (HB.out.cell (World.block_lt_of_cell? w _ hx194_1)).trans hx194_1
                                      replace p194 := eq_true p194
                                      replace q194 := eq_true q194
                                      go_wp2
                                      repeat (go_quiet (fail); try go_wp2)
                                      go_roundg k4
                                      case measure => have := HJ2.out; have := HK2.out; have := HJ18.out; have := HK4.out; omega
                                      case rel => exact ⟨(wrap64 (x6_4 + 1)), (by first | rfl | (simp; done) | (simp [*]; done)), H', ⟨by have := HJ2.out; have := HK2.out; have := HJ18.out; have := HK4.out; omega⟩, ⟨by (with_reducible repeat (first | refine blk_drewN ?_ _ | refine blk_drew ?_ | refine blk_alloc ?_ _)); exact BK184.out⟩, ⟨by (with_reducible repeat (first | refine blk_drewN ?_ _ | refine blk_drew ?_ | refine blk_alloc ?_ _)); exact BK185.out⟩, ⟨by repeat (first | (with_reducible first | exact HB.out | apply below_alloc | apply pw_below_drewN | apply below_drew1 | refine below_set ?_ GE184.out | refine below_set ?_ GE185.out) | exact HB.out)⟩⟩
                                  · rw [if_neg c37] at H
                                    exact absurd H (by simp)
                                · rw [if_neg c36] at H
                                  exact absurd H (by simp)
                              · rw [if_neg c35] at H
                                exact absurd H (by simp)
                            · rw [if_neg c34] at H
                              have c34b0 : decide (x6_4 < (((rd_T53 l0_2 x5_2).f1).length : Int)) = false := decide_eq_false c34
                              clear c34
                              have H' := Aside0.mk H
                              clear H
                              have hnb45 := NB184_185.out
                              have hnc45 := NB185_184.out
                              have hcz46_0 : wr.cell? ⟨gb184, 0, none⟩ = some (.string a0_0) := (blk_cell BK184.out 0).trans rfl
                              have hcz46_1 : wr.cell? ⟨gb184, 1, none⟩ = some (.string a0_1) := (blk_cell BK184.out 1).trans rfl
                              have hcz46_2 : wr.cell? ⟨gb184, 2, none⟩ = some (.slice A0_2 l0_2.length c0_2) := (blk_cell BK184.out 2).trans rfl
                              have hfz46_0 := blk_frozen BK184.out 0
                              have hfz46_1 := blk_frozen BK184.out 1
                              have hfz46_2 := blk_frozen BK184.out 2
                              have p190 : 0 ≤ (x5_2 : Int) := of_decide_eq_true (by first | (with_reducible assumption) | assumption)
                              have q190 : x5_2 < (l0_2.length : Int) := of_decide_eq_true (by first | (with_reducible assumption) | assumption)
                              obtain ⟨ad190, A190_1, c190_1, e190, hx190_0, hx190_1, hl190_1, hi190_1⟩ := at_T53 HR0_2.out x5_2 p190 q190
                              cases e190
                              replace hx190_0 := (HB.out.cell (World.block_lt_of_cell? w _ hx190_0)).trans hx190_0
                              replace hx190_1 := (HB.out.cell (World.block_lt_of_cell? w _ hx190_1)).trans hx190_1
                              have HR190_1 := Aside0.mk hi190_1
                              have HC190_1 := Aside0.mk hl190_1
                              clear hi190_1 hl190_1
                              replace p190 := eq_true p190
                              replace q190 := eq_true q190
                              go_wp2
                              repeat (go_quiet (fail); try go_wp2)
                              go_roundg k4
                              case measure => have := HJ2.out; have := HK2.out; have := HJ18.out; have := HK4.out; omega
                              case rel => exact ⟨(wrap64 (x5_2 + 1)), (by first | rfl | (simp; done) | (simp [*]; done)), H', ⟨by have := HJ2.out; have := HK2.out; have := HJ18.out; have := HK4.out; omega⟩, ⟨by (with_reducible repeat (first | refine blk_drewN ?_ _ | refine blk_drew ?_ | refine blk_alloc ?_ _)); exact BK184.out⟩, ⟨by (with_reducible repeat (first | refine blk_drewN ?_ _ | refine blk_drew ?_ | refine blk_alloc ?_ _)); exact BK185.out⟩, ⟨by repeat (first | (with_reducible first | exact HB.out | apply below_alloc | apply pw_below_drewN | apply below_drew1 | refine below_set ?_ GE184.out | refine below_set ?_ GE185.out) | exact HB.out)⟩⟩
                          · rw [if_neg c33] at H
                            exact absurd H (by simp)
                        · rw [if_neg c32] at H
                          exact absurd H (by simp)
            · rw [if_neg c18] at H
              have c18b0 : decide (x5_2 < (l0_2.length : Int)) = false := decide_eq_false c18
              clear c18
              obtain rfl := Option.some.inj H
              have hnb47 := NB184_185.out
              have hnc47 := NB185_184.out
              have hcz48_0 : wr.cell? ⟨gb184, 0, none⟩ = some (.string a0_0) := (blk_cell BK184.out 0).trans rfl
              have hcz48_1 : wr.cell? ⟨gb184, 1, none⟩ = some (.string a0_1) := (blk_cell BK184.out 1).trans rfl
              have hcz48_2 : wr.cell? ⟨gb184, 2, none⟩ = some (.slice A0_2 l0_2.length c0_2) := (blk_cell BK184.out 2).trans rfl
              have hfz48_0 := blk_frozen BK184.out 0
              have hfz48_1 := blk_frozen BK184.out 1
              have hfz48_2 := blk_frozen BK184.out 2
              go_wp2
              repeat (go_quiet (fail); try go_wp2)
              go_ret
              exact ⟨by first | rfl | (simp [errW_none, errW_some] <;> rfl) | (simp [*, errW_none, errW_some] <;> rfl), by repeat (first | (with_reducible first | exact HB.out | apply below_alloc | apply pw_below_drewN | apply below_drew1 | refine below_set ?_ GE184.out | refine below_set ?_ GE185.out) | exact HB.out)⟩
end
section
theorem of_l0 (su bo : ByteArray) (ps : List PP) (hs : szP ps) : ∀ (suf pre : List PP), pre ++ suf = ps → Ev (fun k => colloquylaw20_of.l0 k ps (ps.length : Int) (pre.length : Int) su bo (pre.map cv)) (su, bo, ps.map cv)
  | [], pre, h => by
    rw [List.append_nil] at h
    subst h
    exact Ev.step (f := fun _ => some (su, bo, pre.map cv)) (fun k => by rw [colloquylaw20_of.l0, if_neg (by omega)]) (Ev.now _)
  | p :: suf, pre, h => by
    subst h
    have hl : pre.length + 1 ≤ 3518437208883 := by have h_ := hs.1; simp at h_; omega
    have ih := of_l0 su bo (pre ++ p :: suf) hs suf (pre ++ [p]) (by rw [← app1])
    refine Ev.step (fun k => ?_) ih
    rw [colloquylaw20_of.l0, if_pos (ltA _ _ _), if_pos (by omega), if_pos (ltA _ _ _), if_pos (by rw [List.length_map]; omega), rdP, wr1 pre p (by omega), List.map_append]
    rfl
theorem of_ev (su bo : ByteArray) (ps : List PP) (hs : szP ps) : Ev (fun k => colloquylaw20_of.f k su bo ps) (su, bo, ps.map cv) := of_l0 su bo ps hs ps [] rfl
theorem same_l1 (su bo : ByteArray) (pre suf : List PP) (p : PP) (hl : pre.length < 9223372036854775807) (hb : Ev (fun k => colloquyref20_Same.l0 k ((pre ++ [p]).length : Int) su bo ((pre ++ p :: suf).map cv) su bo ((pre ++ p :: suf).map cv)) true) : ∀ (rsuf rpre : List RS), rpre ++ rsuf = p.f1 → p.f1.length ≤ 9223372036854775807 → Ev (fun k => colloquyref20_Same.l1 k (pre.length : Int) (rpre.length : Int) su bo ((pre ++ p :: suf).map cv) su bo ((pre ++ p :: suf).map cv)) true
  | [], rpre, h, _ => by
    rw [List.append_nil] at h
    refine Ev.step (fun k => ?_) hb
    rw [colloquyref20_Same.l1, if_pos (by omega), if_pos (ltQ _ _ _), rdQ, if_neg (by show ¬ (rpre.length : Int) < (p.f1.length : Int); rw [h]; omega), wr1 pre p hl]
  | r :: rs, rpre, h, hm => by
    have ih := same_l1 su bo pre suf p hl hb rs (rpre ++ [r]) (by rw [← app1]; exact h) hm
    have hlt : (rpre.length : Int) < ((cv p).f1.length : Int) := by show (rpre.length : Int) < (p.f1.length : Int); rw [← h]; exact ltA _ _ _
    have hlt2 : rpre.length < 9223372036854775807 := by have : (rpre.length : Int) < (p.f1.length : Int) := hlt; omega
    refine Ev.step (fun k => ?_) ih
    rw [colloquyref20_Same.l1, if_pos (by omega), if_pos (ltQ _ _ _), rdQ, if_pos hlt, if_pos (by omega), if_pos (ltQ _ _ _), if_pos hlt, if_neg (by simp), wr1 rpre r hlt2]
theorem same_l0 (su bo : ByteArray) (ps : List PP) (hs : szP ps) : ∀ suf pre, pre ++ suf = ps → Ev (fun k => colloquyref20_Same.l0 k (pre.length : Int) su bo (ps.map cv) su bo (ps.map cv)) true
  | [], pre, h => by
    subst h
    exact Ev.step (f := fun _ => some true) (fun k => by rw [colloquyref20_Same.l0, if_neg (nltQ _)]) (Ev.now _)
  | p :: suf, pre, h => by
    have ih := same_l0 su bo ps hs suf (pre ++ [p]) (by rw [← app1]; exact h)
    subst h
    have hl : pre.length < 9223372036854775807 := by have h_ := hs.1; simp at h_; omega
    have h1 := same_l1 su bo pre suf p hl ih p.f1 [] rfl (by have := hs.2 p (by simp); omega)
    refine Ev.step (f := fun k => colloquyref20_Same.j2 k (pre.length : Int) false su bo ((pre ++ p :: suf).map cv) su bo ((pre ++ p :: suf).map cv)) (fun k => ?_) (Ev.step (fun k => ?_) h1)
    · rw [colloquyref20_Same.l0, if_pos (ltQ _ _ _), if_pos (by omega), if_pos (ltQ _ _ _), rdQ, if_pos rfl]
      congr 1
      exact bne_self_eq_false _
    · rw [colloquyref20_Same.j2, if_neg (by decide)]
      rfl
theorem same_ev (su bo : ByteArray) (ps : List PP) (hs : szP ps) : Ev (fun k => colloquyref20_Same.f k su bo (ps.map cv) su bo (ps.map cv)) true := by
  refine Ev.congr (f := fun k => colloquyref20_Same.j0 k false su bo (ps.map cv) su bo (ps.map cv)) (fun k => ?_) (Ev.step (fun k => ?_) (same_l0 su bo ps hs ps [] rfl))
  · rw [colloquyref20_Same.f, if_pos rfl, if_pos rfl]
    congr 1
    exact bne_self_eq_false _
  · rw [colloquyref20_Same.j0, if_neg (by decide)]
    rfl
section
variable {w0 w w1 : World} {R : Chunk} {A A2 : Option Addr} {c c2 : Nat} {su bo : ByteArray} {ps : List PP} {S : Nat → Prop}
theorem right_calls (A : Option Addr) (c : Nat) (su bo : ByteArray) (ps : List PP) (w : World) (hz : szP ps) (hr : Kd.C KP w A ps.length ps) (hc : ps.length ≤ c) : Calls Tryd.prog 14 #[.agg #[.string su, .string bo, .slice A ps.length c]] w fun e w' => e = .returned (.bool (rightS su bo ps)) ∧ Below w.heap.size w w' := by
  obtain ⟨k, hk⟩ := right_ev su bo ps hz
  exact sum_Right.calls k su bo A c ps _ w hr hc (hk k (Nat.le_refl _))
theorem same_calls (A A2 : Option Addr) (c c2 : Nat) (su bo : ByteArray) (ps : List PP) (w : World) (hz : szP ps) (hr : Kd.C KQ w A (ps.map cv).length (ps.map cv)) (hc : (ps.map cv).length ≤ c) (hr2 : Kd.C KQ w A2 (ps.map cv).length (ps.map cv)) (hc2 : (ps.map cv).length ≤ c2) : Calls Tryd.prog 20 #[.agg #[.string su, .string bo, .slice A (ps.map cv).length c], .agg #[.string su, .string bo, .slice A2 (ps.map cv).length c2]] w fun e w' => e = .returned (.bool true) ∧ Below w.heap.size w w' := by
  obtain ⟨k, hk⟩ := same_ev su bo ps hz
  exact colloquyref20_Same.calls k su bo A c (ps.map cv) su bo A2 c2 (ps.map cv) _ w hr hc hr2 hc2 (hk k (Nat.le_refl _))
theorem of_frz (w0 w w1 : World) (R : Chunk) (S : Nat → Prop) (A : Option Addr) (c : Nat) (su bo : ByteArray) (ps : List PP) (hz : szP ps) (hb1 : Below w0.heap.size w0 w1) (hF : Kd.F KP w1 (okF w0 S) A ps.length ps) (hc : ps.length ≤ c) (HO : Own w0 w [R, Chunk.frz w1 S]) : Calls Tryd.prog 11 #[.agg #[.string su, .string bo, .slice A ps.length c]] w fun e w' => ∃ (A2 : Option Addr) (c2 : Nat) (w2 : World) (S2 : Nat → Prop), e = .returned (.agg #[.string su, .string bo, .slice A2 (ps.map cv).length c2]) ∧ Own w0 w' [R, Chunk.frz w2 S2] ∧ Below w0.heap.size w0 w2 ∧ Kd.F KP w2 (okF w0 S2) A ps.length ps ∧ Kd.F KQ w2 (okF w0 S2) A2 (ps.map cv).length (ps.map cv) ∧ (ps.map cv).length ≤ c2 := by
  obtain ⟨k, hk⟩ := of_ev su bo ps hz
  have hF2 := frz_F HO (i := 1) rfl hb1 hF
  refine (colloquylaw20_of.calls k su bo _ A c ps _ _ _ w (Kd.V_mk hc hF2) (hk k (Nat.le_refl _))).mono ?_
  rintro e w' ⟨v, rfl, hN, hb⟩
  obtain ⟨A2, c2, rfl⟩ := Kd.N_slice hN
  exact ⟨A2, c2, w', _, rfl, frz_grow HO 1 rfl hb, (HO.after hb).below, Kd.F_mono (Kd.F_below hF2 hb) (fun k hk => hk.elim .inl fun h => .inr (.inl h)), Kd.F_mono (Kd.F_bound (Kd.N_F hN)) (fun k hk => hk.1.elim (fun h => h.elim .inl fun h => .inr (.inl h)) fun h => .inr (.inr ⟨h, hk.2⟩)), (Kd.N_reads' hN).2.1⟩
abbrev firstL : List PP := [⟨⟨#[103]⟩, [⟨⟨#[116]⟩, 1⟩]⟩]
theorem first_frz (w0 w : World) (R : Chunk) (HO : Own w0 w [R]) : Calls Tryd.prog 21 #[] w fun e w' => ∃ (A2 : Option Addr) (c2 : Nat) (w1 : World) (S : Nat → Prop), e = .returned (.agg #[.string ⟨#[115]⟩, .string ⟨#[98]⟩, .slice A2 firstL.length c2]) ∧ Own w0 w' [Chunk.frz w1 S, R] ∧ Below w0.heap.size w0 w1 ∧ Kd.F KP w1 (okF w0 S) A2 firstL.length firstL ∧ firstL.length ≤ c2 := by
  refine (colloquylaw20_first.calls _ _ _ w rfl).mono ?_
  rintro e w' ⟨v, rfl, hN, hb⟩
  obtain ⟨A2, c2, rfl⟩ := Kd.N_slice hN
  exact ⟨A2, c2, w', _, rfl, frz_new HO hb, (HO.after hb).below, Kd.F_mono (Kd.F_bound (Kd.N_F hN)) (fun k hk => .inr ⟨hk.1, hk.2⟩), (Kd.N_reads' hN).2.1⟩
theorem parse_frz (w0 w : World) (R : Chunk) (s : ByteArray) (hs : s.size ≤ 100000000) (hL : LaidW w0) (HO : Own w0 w [R]) : Calls Tryd.prog 18 #[.string s] w fun e w' => ∃ (A2 : Option Addr) (c2 : Nat) (w1 : World) (S : Nat → Prop), e = .returned (.tuple #[.agg #[.string (outS s).1, .string (outS s).2.1, .slice A2 (outS s).2.2.length c2], .int .i64 (codeP s), .int .i64 (parseP s).2]) ∧ Own w0 w' [Chunk.frz w1 S, R] ∧ Below w0.heap.size w0 w1 ∧ Kd.F KP w1 (okF w0 S) A2 (outS s).2.2.length (outS s).2.2 ∧ (outS s).2.2.length ≤ c2 := by
  refine (parse_calls s w hs (hL.own HO)).mono ?_
  rintro e w' ⟨A2, c2, S, rfl, ho⟩
  have h1 := HO.fresh ho
  obtain ⟨h2, h3, h4, h5⟩ := frz_view h1 0 rfl
  exact ⟨A2, c2, w', S, rfl, h2, h5, h3, h4⟩
end
section
theorem told_yes {s su bo : ByteArray} {l : List PP} (h : parseP s = (some (su, bo, l), 0)) : outS s = (su, bo, l) ∧ codeP s = 0 ∧ (parseP s).2 = 0 := by
  unfold outS codeP
  rw [h]
  exact ⟨rfl, rfl, rfl⟩
theorem told_no {s : ByteArray} {i : Int} (h : parseP s = (none, i)) : outS s = (eB, eB, []) ∧ codeP s = 80 ∧ (parseP s).2 = i := by
  unfold outS codeP
  rw [h]
  exact ⟨rfl, rfl, rfl⟩
theorem parse_told (w0 w : World) (R : Chunk) (s su bo : ByteArray) (l : List PP) (code at_ : Int) (h : outS s = (su, bo, l) ∧ codeP s = code ∧ (parseP s).2 = at_) (hs : s.size ≤ 100000000) (hL : LaidW w0) (HO : Own w0 w [R]) : Calls Tryd.prog 18 #[.string s] w fun e w' => ∃ (A2 : Option Addr) (c2 : Nat) (w1 : World) (S : Nat → Prop), e = .returned (.tuple #[.agg #[.string su, .string bo, .slice A2 l.length c2], .int .i64 code, .int .i64 at_]) ∧ Own w0 w' [Chunk.frz w1 S, R] ∧ Below w0.heap.size w0 w1 ∧ Kd.F KP w1 (okF w0 S) A2 l.length l ∧ l.length ≤ c2 := by
  have := parse_frz w0 w R s hs hL HO
  rw [h.1, h.2.1, h.2.2] at this
  exact this
end
theorem firstL_sz : szP firstL := ⟨by decide, by decide⟩
theorem dec_one : Lib.decDigits 1 = [49] := by rw [Lib.decDigits, dif_pos (by decide)]; rfl
abbrev sB : ByteArray := ⟨#[115]⟩
abbrev bB : ByteArray := ⟨#[98]⟩
abbrev oneB : ByteArray := ⟨#[84, 101, 115, 116, 32, 114, 117, 110, 32, 111, 102, 32, 115, 10, 66, 111, 97, 114, 100, 32, 98, 10, 103, 114, 111, 117, 112, 32, 103, 10, 80, 65, 83, 83, 58, 32, 116, 10, 35, 32, 80, 65, 83, 83, 32, 49, 10, 35, 32, 101, 110, 100, 10]⟩
theorem right_one : rightS sB bB firstL = true := by decide +kernel
theorem tots_one : totsL firstL 8 = [(⟨#[35, 32]⟩ : ByteArray) ++ vtB 1 ++ (⟨#[32]⟩ : ByteArray) ++ itB (totL firstL 1)] := rfl
theorem it_one : itB (totL firstL 1) = ⟨#[49]⟩ := by
  show itB 1 = _
  unfold itB Lib.itoa
  rw [if_neg (by decide), show (1 : Int).toNat = 1 from rfl, dec_one]
theorem text_one : textL sB bB firstL = oneB := by
  unfold textL linesL
  rw [if_pos right_one, tots_one, it_one]
  decide +kernel
end
theorem bt_L (s : ByteArray) (i : Int) (h0 : 0 ≤ i) (h1 : i < s.size) : ∃ b, s.data.toList[i.toNat]? = some b ∧ bt s i = (b.toNat : Int) := by
  have hlt : i.toNat < s.size := by omega
  refine ⟨s[i.toNat]'hlt, ?_, (bt_at s i hlt).symm⟩
  rw [Array.getElem?_toList]
  exact Array.getElem?_eq_getElem hlt
theorem pl_end {i : Int} {su bo : ByteArray} {ps : List PP} {b : Bool} {TL : List ByteArray} : parsL [] i su bo ps b TL = (if (b || decide (0 < (TL.length : Int))) = true then (none, i) else (some (su, bo, ps), 0)) := by rw [parsL]
theorem hs_no10 {s : ByteArray} (h : (10 : UInt8) ∉ s.data.toList) : hsB s lfB = false := by
  cases e : hsB s lfB with
  | false => rfl
  | true =>
    exfalso
    unfold hsB Lib.hasSuffix at e
    obtain ⟨t, ht⟩ := List.isSuffixOf_iff_suffix.1 e
    exact h (by rw [← ht]; exact List.mem_append_right _ (List.mem_singleton.2 rfl))
theorem pcs_more : ∀ (ls : List ByteArray) (r : ByteArray), (∀ x ∈ ls, (10 : UInt8) ∉ x.data.toList) → pcs (catL ls ++ r) = ls.map (· ++ lfB) ++ pcs r
  | [], r, _ => by
    rw [show catL [] = eB from rfl, eB_cat]
    rfl
  | x :: ls, r, h => by
    have e : catL (x :: ls) ++ r = (x ++ lfB) ++ (catL ls ++ r) := by
      show ((x ++ lfB) ++ catL ls) ++ r = _
      rw [ByteArray.append_assoc]
    rw [e, pcs_hit x _ (h x (List.mem_cons_self ..)), pcs_more ls r fun y hy => h y (List.mem_cons_of_mem _ hy)]
    rfl
theorem take_len_append {α : Type} (xs ys : List α) (n : Nat) (h : n = xs.length) : (xs ++ ys).take n = xs := by rw [h, List.take_left]
section
theorem index_at : ∀ (s sub : List UInt8), 0 ≤ Lib.index s sub → s = s.take (Lib.index s sub).toNat ++ sub ++ s.drop ((Lib.index s sub).toNat + sub.length)
  | [], sub, h => by
    unfold Lib.index at h ⊢
    by_cases he : sub.isEmpty = true
    · rw [if_pos he]
      have : sub = [] := List.isEmpty_iff.1 he
      subst this
      rfl
    · rw [if_neg he] at h; exact absurd h (by decide)
  | b :: l, sub, h => by
    unfold Lib.index at h ⊢
    by_cases hp : sub.isPrefixOf (b :: l) = true
    · rw [if_pos hp]
      obtain ⟨t, ht⟩ := List.isPrefixOf_iff_prefix.1 hp
      show b :: l = [] ++ sub ++ List.drop (0 + sub.length) (b :: l)
      rw [← ht, Nat.zero_add, List.drop_left, List.nil_append]
    · rw [if_neg hp] at h ⊢
      by_cases hi : (Lib.index l sub == -1) = true
      · rw [if_pos hi] at h; exact absurd h (by decide)
      · rw [if_neg hi] at h ⊢
        have hge := Lib.index_ge l sub
        have hne : Lib.index l sub ≠ -1 := by simpa using hi
        have ih := index_at l sub (by omega)
        rw [show (Lib.index l sub + 1).toNat = (Lib.index l sub).toNat + 1 by omega, List.take_succ_cons, show (Lib.index l sub).toNat + 1 + sub.length = (Lib.index l sub).toNat + sub.length + 1 by omega, List.drop_succ_cons, List.cons_append, List.cons_append, ← ih]
theorem cut_spec (l p : ByteArray) (h : cuO l p = true) : l = cuA l p ++ p ++ cuB l p := by
  have h2 : 0 ≤ Lib.index l.data.toList p.data.toList := by
    unfold cuO Lib.cut at h
    split at h
    · assumption
    · cases h
  apply bext
  rw [dcat, dcat]
  unfold cuA cuB Lib.cut
  rw [if_pos h2]
  exact index_at _ _ h2
theorem hp_spec (l p : ByteArray) (h : hpB l p = true) : l = p ++ tpB l p := by
  unfold hpB Lib.hasPrefix at h
  obtain ⟨t, ht⟩ := List.isPrefixOf_iff_prefix.1 h
  apply bext
  rw [dcat]
  unfold tpB Lib.trimPrefix Lib.hasPrefix
  rw [if_pos h, ← ht]
  show _ = _ ++ (List.drop p.data.toList.length (p.data.toList ++ t))
  rw [List.drop_left]
theorem vpF_spec (s : ByteArray) : ∀ (xs : List ByteArray) (i : Int), vpF xs i s = -1 ∨ ∃ j : Nat, j < xs.length ∧ vpF xs i s = i + j ∧ s.toList = (xs.getD j eB).toList
  | [], i => .inl rfl
  | x :: xs, i => by
    unfold vpF
    by_cases h : s.toList = x.toList
    · rw [if_pos h]
      exact .inr ⟨0, Nat.succ_pos _, by simp, h⟩
    · rw [if_neg h]
      rcases vpF_spec s xs (i + 1) with h2 | ⟨j, h1, h2, h3⟩
      · exact .inl h2
      · exact .inr ⟨j + 1, by rw [List.length_cons]; omega, by rw [h2]; omega, h3⟩
theorem words_vt : ∀ j : Nat, j < 8 → wordsL.getD j eB = vtB (j : Int) := by
  intro j hj
  have : j = 0 ∨ j = 1 ∨ j = 2 ∨ j = 3 ∨ j = 4 ∨ j = 5 ∨ j = 6 ∨ j = 7 := by omega
  rcases this with rfl | rfl | rfl | rfl | rfl | rfl | rfl | rfl <;> rfl
theorem vp_spec (s : ByteArray) (h : vpB s ≠ 0) : (1 ≤ vpB s ∧ vpB s ≤ 7) ∧ s = vtB (vpB s) := by
  unfold vpB at h ⊢
  rcases vpF_spec s wordsL 0 with h1 | ⟨j, h1, h2, h3⟩
  · rw [h1] at h; exact absurd rfl h
  · have hj : j < 8 := h1
    rw [h2, Int.zero_add] at h ⊢
    have hm : mx (j : Int) 0 = (j : Int) := by unfold mx; split <;> omega
    rw [hm] at h ⊢
    exact ⟨by omega, by rw [← words_vt j hj]; exact Pure.bytes_eq h3⟩
theorem word_iff (l : ByteArray) (v : Int) (hv : 1 ≤ v ∧ v ≤ 7) : (nmO l (vtB v ++ sepB) = true ↔ (cuO l sepB = true ∧ vpB (cuA l sepB) = v ∧ (readN (cuB l sepB)).2 = true)) ∧ (nmO l (vtB v ++ sepB) = true → nmB l (vtB v ++ sepB) = (readN (cuB l sepB)).1) := by
  have fwd : nmO l (vtB v ++ sepB) = true → (cuO l sepB = true ∧ vpB (cuA l sepB) = v ∧ (readN (cuB l sepB)).2 = true) ∧ nmB l (vtB v ++ sepB) = (readN (cuB l sepB)).1 := by
    intro h
    unfold nmO at h
    rw [Bool.and_eq_true] at h
    have hl := hp_spec l _ h.1
    generalize ht : tpB l (vtB v ++ sepB) = r at hl h
    obtain ⟨h1, h2, h3⟩ := cut_app (vtB v) r (vt_no58 v)
    rw [← hl] at h1 h2 h3
    rw [h1, h2, h3]
    exact ⟨⟨rfl, vp_vt v hv, h.2⟩, by unfold nmB; rw [ht]⟩
  refine ⟨⟨fun h => (fwd h).1, fun h => ?_⟩, fun h => (fwd h).2⟩
  obtain ⟨h1, h2, h3⟩ := h
  have hl := cut_spec l sepB h1
  have hw := (vp_spec (cuA l sepB) (by omega)).2
  rw [h2] at hw
  unfold nmO
  rw [hl, hw] 
  have e : ∀ r : ByteArray, hpB (vtB v ++ sepB ++ r) (vtB v ++ sepB) = true ∧ tpB (vtB v ++ sepB ++ r) (vtB v ++ sepB) = r := fun r => ⟨hp_app _ _, tp_app _ _⟩
  rw [(e _).1, (e _).2, h3]
  rfl
noncomputable def resF (l : ByteArray) : Nat → Int → RS × Bool
  | 0, _ => (⟨eB, 0⟩, false)
  | d + 1, v => if nmO l (vtB v ++ sepB) = true then (⟨nmB l (vtB v ++ sepB), v⟩, true) else resF l d (v + 1)
noncomputable def resC (l : ByteArray) : Bool := cuO l sepB && !decide (vpB (cuA l sepB) = 0) && (readN (cuB l sepB)).2
theorem resF_no (l : ByteArray) : ∀ (d : Nat) (v : Int), (∀ u, v ≤ u → u < v + d → nmO l (vtB u ++ sepB) = false) → resF l d v = (⟨eB, 0⟩, false)
  | 0, _, _ => rfl
  | d + 1, v, h => by
    unfold resF
    rw [if_neg (by rw [h v (by omega) (by omega)]; decide)]
    exact resF_no l d (v + 1) fun u h1 h2 => h u (by omega) (by omega)
theorem resF_step {l : ByteArray} {d : Nat} {v : Int} (h : nmO l (vtB v ++ sepB) = false) : resF l (d + 1) v = resF l d (v + 1) := by
  rw [resF, if_neg (by rw [h]; decide)]
theorem resF_yes (l : ByteArray) (v0 : Int) (h0 : nmO l (vtB v0 ++ sepB) = true) : ∀ (d : Nat) (v : Int), v ≤ v0 → v0 < v + d → (∀ u, v ≤ u → u < v0 → nmO l (vtB u ++ sepB) = false) → resF l d v = (⟨nmB l (vtB v0 ++ sepB), v0⟩, true)
  | 0, v, h1, h2, _ => by omega
  | d + 1, v, h1, h2, h => by
    unfold resF
    by_cases e : v = v0
    · rw [e, if_pos h0]
    · rw [if_neg (by rw [h v (by omega) (by omega)]; decide)]
      exact resF_yes l v0 h0 d (v + 1) (by omega) (by omega) fun u h3 h4 => h u (by omega) h4
theorem res_is (l : ByteArray) : resF l 7 1 = if resC l = true then (⟨(readN (cuB l sepB)).1, vpB (cuA l sepB)⟩, true) else (⟨eB, 0⟩, false) := by
  by_cases h : resC l = true
  · rw [if_pos h]
    unfold resC at h
    rw [Bool.and_eq_true, Bool.and_eq_true] at h
    obtain ⟨⟨h1, h2⟩, h3⟩ := h
    have hne : vpB (cuA l sepB) ≠ 0 := by simpa using h2
    have hv := (vp_spec _ hne).1
    have w := word_iff l (vpB (cuA l sepB)) hv
    have hO := w.1.2 ⟨h1, rfl, h3⟩
    rw [resF_yes l (vpB (cuA l sepB)) hO 7 1 (by omega) (by omega) fun u h4 h5 => ?_, w.2 hO]
    cases e : nmO l (vtB u ++ sepB) with
    | false => rfl
    | true => have := ((word_iff l u (by omega)).1.1 e).2.1; omega
  · rw [if_neg h]
    refine resF_no l 7 1 fun u h4 h5 => ?_
    cases e : nmO l (vtB u ++ sepB) with
    | false => rfl
    | true =>
      obtain ⟨h1, h2, h3⟩ := (word_iff l u (by omega)).1.1 e
      exfalso
      apply h
      unfold resC
      rw [h1, h3, decide_eq_false (by omega)]
      rfl
theorem grp_no (l : ByteArray) (h : hpB l grpB = true) : resC l = false := by
  cases e : resC l with
  | false => rfl
  | true =>
    exfalso
    unfold resC at e
    rw [Bool.and_eq_true, Bool.and_eq_true] at e
    obtain ⟨⟨h1, h2⟩, h3⟩ := e
    have hne : vpB (cuA l sepB) ≠ 0 := by simpa using h2
    obtain ⟨hv, hw⟩ := vp_spec _ hne
    obtain ⟨b, t, hb, hb1, _⟩ := vt_head _ hv
    have hl := cut_spec l sepB h1
    rw [hw] at hl
    have hd : l.data.toList = b :: (t ++ (sepB.data.toList ++ (cuB l sepB).data.toList)) := by
      have e3 := congrArg (fun s : ByteArray => s.data.toList) hl
      rw [dcat, dcat, hb] at e3
      exact e3.trans (by simp)
    rw [hp_ne hd (c := 103) (t := [114, 111, 117, 112, 32]) rfl (fun e => hb1 e.symm)] at h
    cases h
theorem hash_no (l : ByteArray) (h : hpB l hashB = true) : resC l = false ∧ hpB l grpB = false := by
  have hl := hp_spec l hashB h
  have hd : l.data.toList = 35 :: (tpB l hashB).data.toList := by
    have := congrArg (fun s : ByteArray => s.data.toList) hl
    rw [dcat] at this
    exact this
  refine ⟨?_, hp_ne hd (c := 103) (t := [114, 111, 117, 112, 32]) rfl (by decide)⟩
  cases e : resC l with
  | false => rfl
  | true =>
    exfalso
    unfold resC at e
    rw [Bool.and_eq_true, Bool.and_eq_true] at e
    obtain ⟨⟨h1, h2⟩, h3⟩ := e
    have hne : vpB (cuA l sepB) ≠ 0 := by simpa using h2
    obtain ⟨hv, hw⟩ := vp_spec _ hne
    obtain ⟨b, t, hb, _, hb2⟩ := vt_head _ hv
    have h4 := cut_spec l sepB h1
    rw [hw] at h4
    have hd2 : l.data.toList = b :: (t ++ (sepB.data.toList ++ (cuB l sepB).data.toList)) := by
      have e3 := congrArg (fun s : ByteArray => s.data.toList) h4
      rw [dcat, dcat, hb] at e3
      exact e3.trans (by simp)
    rw [hd] at hd2
    injection hd2 with h5 _
    exact hb2 h5.symm
theorem resO_is (ps : List PP) (l : ByteArray) : resO ps l = (resC l && !ps.isEmpty) := rfl
theorem step_grp (ps : List PP) (l : ByteArray) (h : nmO l grpB = true) : lineO ps l = true ∧ lineS ps l = ps ++ [⟨nmB l grpB, []⟩] := by
  have hp : hpB l grpB = true := by unfold nmO at h; rw [Bool.and_eq_true] at h; exact h.1
  unfold lineO lineS
  rw [if_pos hp, if_pos hp]
  exact ⟨h, rfl⟩
theorem step_res (ps : List PP) (l : ByteArray) (h : nmO l grpB = false) : lineO ps l = ((resF l 7 1).2 && !ps.isEmpty) ∧ (lineO ps l = true → lineS ps l = addL ps (resF l 7 1).1) := by
  rw [res_is]
  by_cases hp : hpB l grpB = true
  · have hr := grp_no l hp
    unfold lineO
    rw [if_pos hp, h, hr]
    exact ⟨rfl, fun e => by cases e⟩
  · unfold lineO lineS
    rw [if_neg hp, if_neg hp, resO_is]
    cases hr : resC l with
    | false => exact ⟨rfl, fun e => by cases e⟩
    | true =>
      rw [if_pos rfl, Bool.true_and]
      exact ⟨rfl, fun e => by rw [if_pos e]⟩
noncomputable def bodyF : List ByteArray → Int → List PP → List PP × Int
  | [], i, ps => (ps, i)
  | l :: ls, i, ps => if lineO ps l = true then bodyF ls (i + 1) (lineS ps l) else (ps, i)
theorem bodyF_b : ∀ (ls : List ByteArray) (i : Int) (ps : List PP), i = 2 + (ps.length : Int) + sumL ps → i ≤ (bodyF ls i ps).2 ∧ (bodyF ls i ps).2 ≤ i + ls.length ∧ (bodyF ls i ps).2 = 2 + ((bodyF ls i ps).1.length : Int) + sumL (bodyF ls i ps).1
  | [], i, ps, h => by unfold bodyF; exact ⟨by omega, by simp, h⟩
  | l :: ls, i, ps, h => by
    unfold bodyF
    by_cases hl : lineO ps l = true
    · rw [if_pos hl]
      have hc := line_count ps l hl
      have ih := bodyF_b ls (i + 1) (lineS ps l) (by omega)
      rw [List.length_cons]
      exact ⟨by omega, by omega, ih.2.2⟩
    · rw [if_neg hl]
      exact ⟨by simp, by simp; omega, h⟩
noncomputable def cmpF : List ByteArray → List ByteArray → Int → Option Int
  | [], _, _ => none
  | l :: ls, T, i => if 0 < (T.length : Int) ∧ T.getD 0 eB = l then cmpF ls (T.drop 1) (i + 1) else some i
noncomputable def refP (LS : List ByteArray) (en : Bool) : Option (ByteArray × ByteArray × List PP) × Int :=
  if LS.length < 1 then (none, 0) else
  if nmO (LS.getD 0 eB) w1B = false then (none, 0) else
  if LS.length < 2 then (none, 1) else
  if nmO (LS.getD 1 eB) w2B = false then (none, 1) else
  if (bodyF (LS.drop 2) 2 []).2 = (LS.length : Int) then (none, (LS.length : Int)) else
  match cmpF (LS.drop (bodyF (LS.drop 2) 2 []).2.toNat) ((linesL (nmB (LS.getD 0 eB) w1B) (nmB (LS.getD 1 eB) w2B) (bodyF (LS.drop 2) 2 []).1).drop (bodyF (LS.drop 2) 2 []).2.toNat) (bodyF (LS.drop 2) 2 []).2 with
  | some i => (none, i)
  | none => if (LS.length < (linesL (nmB (LS.getD 0 eB) w1B) (nmB (LS.getD 1 eB) w2B) (bodyF (LS.drop 2) 2 []).1).length) ∨ en = false then (none, (LS.length : Int)) else (some (nmB (LS.getD 0 eB) w1B, nmB (LS.getD 1 eB) w2B, (bodyF (LS.drop 2) 2 []).1), 0)
section
variable {su bo : ByteArray} {X : List ByteArray}
theorem pl_cmp (ps : List PP) : ∀ (ls T : List ByteArray) (i : Int), 2 ≤ i → parsL (ls.map (· ++ lfB) ++ X) i su bo ps false T = match cmpF ls T i with
    | some j => (none, j)
    | none => parsL X (i + ls.length) su bo ps false (T.drop ls.length)
  | [], T, i, _ => by simp [cmpF]
  | l :: ls, T, i, hi => by
    show parsL ((l ++ lfB) :: (ls.map (· ++ lfB) ++ X)) i su bo ps false T = _
    unfold cmpF
    by_cases h : 0 < (T.length : Int) ∧ T.getD 0 eB = l
    · rw [if_pos h, pl_t T (by rw [if_neg (by decide)]) (hs_app l) (by omega) (by omega) rfl (by rw [ts_app]; exact h), pl_cmp ps ls (T.drop 1) (i + 1) (by omega)]
      rw [show i + 1 + (ls.length : Int) = i + ((l :: ls).length : Int) by rw [List.length_cons]; omega, List.drop_drop, show 1 + ls.length = (l :: ls).length by rw [List.length_cons]; omega]
    · rw [if_neg h, pl_tx T (by rw [if_neg (by decide)]) (hs_app l) (by omega) (by omega) rfl (by rw [ts_app]; exact h)]
theorem tail_at (su bo : ByteArray) (ps : List PP) : (linesL su bo ps).drop (2 + (ps.length : Int) + sumL ps).toNat = totsL ps 8 ++ [endB] := by
  unfold linesL
  have hb := body_len su bo ps
  rw [show (2 + (ps.length : Int) + (sumL ps : Int)).toNat = (bodyL su bo ps).length by omega, List.append_assoc, List.drop_left]
theorem hash_of {x : ByteArray} {l : List UInt8} (h : x.data.toList = 35 :: l) : hpB x hashB = true := by
  unfold hpB Lib.hasPrefix
  rw [h]
  rfl
theorem pl_body : ∀ (ls : List ByteArray) (i : Int) (ps : List PP), i = 2 + (ps.length : Int) + sumL ps → parsL (ls.map (· ++ lfB) ++ X) i su bo ps true [] =
    if (bodyF ls i ps).2 = i + ls.length then parsL X (i + ls.length) su bo (bodyF ls i ps).1 true [] else
    match cmpF (ls.drop ((bodyF ls i ps).2 - i).toNat) ((linesL su bo (bodyF ls i ps).1).drop (bodyF ls i ps).2.toNat) (bodyF ls i ps).2 with
    | some j => (none, j)
    | none => parsL X (i + ls.length) su bo (bodyF ls i ps).1 false ((linesL su bo (bodyF ls i ps).1).drop (i + ls.length).toNat)
  | [], i, ps, h => by
    unfold bodyF
    rw [if_pos (by simp)]
    simp
  | l :: ls, i, ps, h => by
    have e : i + ((l :: ls).length : Int) = i + 1 + (ls.length : Int) := by rw [List.length_cons]; omega
    show parsL ((l ++ lfB) :: (ls.map (· ++ lfB) ++ X)) i su bo ps true [] = _
    by_cases hl : lineO ps l = true
    · have hh : hpB l hashB = false := by
        cases hx : hpB l hashB with
        | false => rfl
        | true =>
          obtain ⟨h1, h2⟩ := hash_no l hx
          unfold lineO at hl
          rw [if_neg (by rw [h2]; decide), resO_is, h1] at hl
          cases hl
      have hc := line_count ps l hl
      have hb := bodyF_b ls (i + 1) (lineS ps l) (by omega)
      have eb : bodyF (l :: ls) i ps = bodyF ls (i + 1) (lineS ps l) := by rw [bodyF, if_pos hl]
      rw [pl_l (hs_app l) (by omega) (by omega) (by rw [ts_app, hh]; rfl) (by rw [ts_app]; exact hl), ts_app, pl_body ls (i + 1) (lineS ps l) (by omega), eb, e]
      have ed : (l :: ls).drop ((bodyF ls (i + 1) (lineS ps l)).2 - i).toNat = ls.drop ((bodyF ls (i + 1) (lineS ps l)).2 - (i + 1)).toNat := by
        rw [show ((bodyF ls (i + 1) (lineS ps l)).2 - i).toNat = ((bodyF ls (i + 1) (lineS ps l)).2 - (i + 1)).toNat + 1 by omega, List.drop_succ_cons]
      rw [ed]
    · have eb : bodyF (l :: ls) i ps = (ps, i) := by rw [bodyF, if_neg hl]
      rw [eb]
      dsimp only
      rw [if_neg (by rw [e]; omega), Int.sub_self]
      show _ = match cmpF (l :: ls) ((linesL su bo ps).drop i.toNat) i with
        | some j => (none, j)
        | none => parsL X (i + ((l :: ls).length : Int)) su bo ps false ((linesL su bo ps).drop (i + ((l :: ls).length : Int)).toNat)
      have hT : (linesL su bo ps).drop i.toNat = totsL ps 8 ++ [endB] := by rw [h]; exact tail_at su bo ps
      by_cases hh : hpB l hashB = true
      · unfold cmpF
        by_cases hm : 0 < (((linesL su bo ps).drop i.toNat).length : Int) ∧ ((linesL su bo ps).drop i.toNat).getD 0 eB = l
        · rw [if_pos hm, pl_t ((linesL su bo ps).drop i.toNat) (by rw [if_pos rfl]) (hs_app l) (by omega) (by omega) (by rw [ts_app, hh]; rfl) (by rw [ts_app]; exact hm), pl_cmp ps ls _ (i + 1) (by omega), e, List.drop_drop, List.drop_drop]
          rw [show i.toNat + 1 + ls.length = (i + 1 + (ls.length : Int)).toNat by omega]
        · rw [if_neg hm, pl_tx ((linesL su bo ps).drop i.toNat) (by rw [if_pos rfl]) (hs_app l) (by omega) (by omega) (by rw [ts_app, hh]; rfl) (by rw [ts_app]; exact hm)]
      · have hh' : hpB l hashB = false := Bool.eq_false_iff.2 hh
        rw [pl_lx (hs_app l) (by omega) (by omega) (by rw [ts_app, hh']; rfl) (by rw [ts_app]; exact Bool.eq_false_iff.2 hl)]
        unfold cmpF
        rw [if_neg]
        rw [hT]
        rintro ⟨_, h2⟩
        cases hx : totsL ps 8 ++ [endB] with
        | nil => simp at hx
        | cons x xs =>
          rw [hx] at h2
          obtain ⟨t, ht⟩ := tail_head ps x (by rw [hx]; exact List.mem_cons_self ..)
          have h3 : x = l := h2
          rw [← h3] at hh
          exact hh (hash_of ht)
end
def remL (rem : ByteArray) : List ByteArray := if rem = eB then [] else [rem]
theorem pl_rem {rem : ByteArray} (hr : (10 : UInt8) ∉ rem.data.toList) (i : Int) (su bo : ByteArray) (ps : List PP) (b : Bool) (TL : List ByteArray) : parsL (remL rem) i su bo ps b TL = if b = true ∨ 0 < TL.length ∨ rem ≠ eB then (none, i) else (some (su, bo, ps), 0) := by
  unfold remL
  by_cases h : rem = eB
  · rw [if_pos h, pl_end]
    by_cases h2 : (b || decide (0 < (TL.length : Int))) = true
    · rw [if_pos h2, if_pos]
      rw [Bool.or_eq_true, decide_eq_true_eq] at h2
      rcases h2 with h2 | h2
      · exact .inl h2
      · exact .inr (.inl (by omega))
    · rw [if_neg h2, if_neg]
      rintro (h3 | h3 | h3)
      · exact h2 (by rw [h3]; rfl)
      · exact h2 (by rw [decide_eq_true (show 0 < (TL.length : Int) by omega), Bool.or_true])
      · exact h3 h
  · rw [if_neg h, pl_bad (hs_no10 hr), if_pos (.inr (.inr h))]
theorem ref_is (LS : List ByteArray) (rem : ByteArray) (hr : (10 : UInt8) ∉ rem.data.toList) : parsL (LS.map (· ++ lfB) ++ remL rem) 0 eB eB [] true [] = refP LS (decide (rem = eB)) := by
  unfold refP
  cases LS with
  | nil =>
    rw [if_pos (by simp)]
    show parsL (remL rem) 0 eB eB [] true [] = _
    rw [pl_rem hr, if_pos (.inl rfl)]
  | cons a r1 =>
    rw [if_neg (by simp)]
    show parsL ((a ++ lfB) :: (r1.map (· ++ lfB) ++ remL rem)) 0 eB eB [] true [] = _
    have ga : (a :: r1).getD 0 eB = a := rfl
    rw [ga]
    by_cases h1 : nmO a w1B = true
    · rw [if_neg (by rw [h1]; decide), pl_0 (hs_app a) rfl (by rw [ts_app]; exact h1), ts_app]
      cases r1 with
      | nil =>
        rw [if_pos (by simp)]
        show parsL (remL rem) (0 + 1) (nmB a w1B) eB [] true [] = _
        rw [pl_rem hr, if_pos (.inl rfl)]
        rfl
      | cons b r2 =>
        rw [if_neg (by simp)]
        have gb : (a :: b :: r2).getD 1 eB = b := rfl
        rw [gb]
        show parsL ((b ++ lfB) :: (r2.map (· ++ lfB) ++ remL rem)) (0 + 1) (nmB a w1B) eB [] true [] = _
        by_cases h2 : nmO b w2B = true
        · rw [if_neg (by rw [h2]; decide), pl_1 (hs_app b) (by decide) (by rw [ts_app]; exact h2), ts_app]
          show parsL (r2.map (· ++ lfB) ++ remL rem) 2 (nmB a w1B) (nmB b w2B) [] true [] = _
          have hb := bodyF_b r2 2 [] (by simp [sumL])
          have ed : (a :: b :: r2).drop 2 = r2 := rfl
          have el : ((a :: b :: r2).length : Int) = 2 + (r2.length : Int) := by rw [List.length_cons, List.length_cons]; omega
          rw [pl_body r2 2 [] (by simp [sumL]), ed, el]
          generalize hq : bodyF r2 2 [] = q at hb
          by_cases h3 : q.2 = 2 + (r2.length : Int)
          · rw [if_pos h3, if_pos h3, pl_rem hr, if_pos (.inl rfl)]
          · rw [if_neg h3, if_neg h3]
            have ed2 : (a :: b :: r2).drop q.2.toNat = r2.drop (q.2 - 2).toNat := by
              rw [show q.2.toNat = (q.2 - 2).toNat + 2 by omega]
              rfl
            rw [ed2]
            cases hc : cmpF (r2.drop (q.2 - 2).toNat) ((linesL (nmB a w1B) (nmB b w2B) q.1).drop q.2.toNat) q.2 with
            | some j => rfl
            | none =>
              dsimp only
              rw [pl_rem hr]
              by_cases h4 : (a :: b :: r2).length < (linesL (nmB a w1B) (nmB b w2B) q.1).length ∨ decide (rem = eB) = false
              · rw [if_pos h4, if_pos]
                rcases h4 with h4 | h4
                · refine .inr (.inl ?_)
                  rw [List.length_drop]
                  omega
                · exact .inr (.inr (of_decide_eq_false h4))
              · rw [if_neg h4, if_neg]
                rintro (h5 | h5 | h5)
                · cases h5
                · rw [List.length_drop] at h5
                  exact h4 (.inl (by omega))
                · exact h4 (.inr (decide_eq_false h5))
        · rw [if_pos (Bool.eq_false_iff.2 h2), pl_1x (hs_app b) (by decide) (by rw [ts_app]; exact Bool.eq_false_iff.2 h2)]
          rfl
    · rw [if_pos (Bool.eq_false_iff.2 h1), pl_0x (hs_app a) rfl (by rw [ts_app]; exact Bool.eq_false_iff.2 h1)]
theorem split_text : ∀ (n : Nat) (s : ByteArray), s.data.toList.length = n → ∃ LS rem, s = catL LS ++ rem ∧ (∀ x ∈ LS, (10 : UInt8) ∉ x.data.toList) ∧ (10 : UInt8) ∉ rem.data.toList := by
  intro n
  induction n using Nat.strongRecOn with
  | ind n ih =>
    intro s hs
    by_cases h : (10 : UInt8) ∈ s.data.toList
    · have key : ∀ l : List UInt8, (10 : UInt8) ∈ l → ∃ a b : List UInt8, (10 : UInt8) ∉ a ∧ l = (a ++ [10]) ++ b := by
        intro l
        induction l with
        | nil => intro h; cases h
        | cons c l ih2 =>
          intro h
          by_cases hc : c = 10
          · exact ⟨[], l, by simp, by rw [hc]; rfl⟩
          · obtain ⟨a, b, ha, he⟩ := ih2 ((List.mem_cons.1 h).resolve_left (fun e => hc e.symm))
            exact ⟨c :: a, b, by simp [ha, Ne.symm hc], by rw [he]; rfl⟩
      obtain ⟨a, b, ha, he⟩ := key _ h
      have hlen := congrArg List.length he
      rw [List.length_append, List.length_append, List.length_singleton] at hlen
      obtain ⟨LS, rem, h1, h2, h3⟩ := ih b.length (by omega) ⟨b.toArray⟩ (by simp)
      refine ⟨⟨a.toArray⟩ :: LS, rem, ?_, fun x hx => ?_, h3⟩
      · have e2 : s = (⟨a.toArray⟩ ++ lfB) ++ ⟨b.toArray⟩ := bext (by rw [dcat, dcat]; simpa using he)
        rw [e2, h1]
        show _ = ((⟨a.toArray⟩ ++ lfB) ++ catL LS) ++ rem
        rw [ByteArray.append_assoc (c := rem)]
      · rcases List.mem_cons.1 hx with rfl | hx
        · simpa using ha
        · exact h2 x hx
    · exact ⟨[], s, (eB_cat s).symm, (fun x hx => by cases hx), h⟩
theorem allL_split (LS : List ByteArray) (rem : ByteArray) (h : ∀ x ∈ LS, (10 : UInt8) ∉ x.data.toList) (hr : (10 : UInt8) ∉ rem.data.toList) : allL (catL LS ++ rem) = LS.map (· ++ lfB) ++ remL rem := by
  unfold allL remL
  rw [pcs_more LS rem h, pcs_no rem hr]
  have hg : (LS.map (· ++ lfB) ++ [rem]).getD ((LS.map (· ++ lfB) ++ [rem]).length - 1) eB = rem := by
    rw [List.getD_eq_getElem?_getD, List.getElem?_append_right (by simp)]
    simp
  rw [hg]
  by_cases he : rem = eB
  · rw [if_pos he, if_pos he, List.append_nil]
    exact take_len_append _ _ _ (by simp)
  · rw [if_neg he, if_neg he]
theorem parse_ref (LS : List ByteArray) (rem : ByteArray) (h : ∀ x ∈ LS, (10 : UInt8) ∉ x.data.toList) (hr : (10 : UInt8) ∉ rem.data.toList) : parseP (catL LS ++ rem) = refP LS (decide (rem = eB)) := by
  unfold parseP
  rw [allL_split LS rem h hr]
  exact ref_is LS rem hr
end
section
attribute [local go_sem] max2_int min2_int max_two min_two max_three min_three max_four min_four   -- for this text's walks alone
def colloquyref20_Cut.l0 : Nat → ByteArray → List ByteArray → Int → Int → Option (List ByteArray × Bool)
  | 0, _, _, _, _ => none
  | k + 1, x0, x4, x5, x6 => if x6 < (x0.size : Int) then (if 0 ≤ x6 then (if (bt x0 x6) = 10 then (if 0 ≤ x5 then (if x5 ≤ x6 then (if x6 ≤ (x0.size : Int) then (if x4.length < 8796093022208 then (colloquyref20_Cut.l0 k x0 (x4 ++ [x0.extract (x5 : Int).toNat (x6 : Int).toNat]) (wrap64 (x6 + 1)) (wrap64 (x6 + 1))) else (none)) else (none)) else (none)) else (none)) else (colloquyref20_Cut.l0 k x0 x4 x5 (wrap64 (x6 + 1)))) else (none)) else (if x5 < (x0.size : Int) then (if 0 ≤ x5 then (if x5 ≤ (x0.size : Int) then (if x4.length < 8796093022208 then (some ((x4 ++ [x0.extract (x5 : Int).toNat x0.size]), false)) else (none)) else (none)) else (none)) else (some (x4, true)))
def colloquyref20_Cut.f (k : Nat) (a0 : ByteArray) : Option (List ByteArray × Bool) := colloquyref20_Cut.l0 k a0 (([] : List ByteArray)) 0 0
theorem colloquyref20_Cut.mono_l : ∀ k, (∀ y0 y1 y2 y3, LeO (colloquyref20_Cut.l0 k y0 y1 y2 y3) (colloquyref20_Cut.l0 (k + 1) y0 y1 y2 y3))
  | 0 => fun _ _ _ _ r h => by simp [colloquyref20_Cut.l0] at h
  | k + 1 => by
    have ih0 := colloquyref20_Cut.mono_l k
    · intro y0 y1 y2 y3
      unfold colloquyref20_Cut.l0
      repeat' first
      | (with_reducible exact ih0 _ _ _ _)
      | (with_reducible exact LeO.refl _)
      | (with_reducible exact LeO.none _)
      | (with_reducible refine LeO.ite ?_ ?_)
      | (with_reducible refine LeO.bind ?_ (fun _ => ?_))
      | exact ih0 _ _ _ _
      | exact LeO.none _
      | refine LeO.ite ?_ ?_
      | refine LeO.bind ?_ (fun _ => ?_)
theorem colloquyref20_Cut.mono : ∀ a0 k, LeO (colloquyref20_Cut.f k a0) (colloquyref20_Cut.f (k + 1) a0) := by
  intro a0 k
  have ih0 := colloquyref20_Cut.mono_l k
  unfold colloquyref20_Cut.f
  repeat' first
      | (with_reducible exact ih0 _ _ _ _)
      | (with_reducible exact LeO.refl _)
      | (with_reducible exact LeO.none _)
      | (with_reducible refine LeO.ite ?_ ?_)
      | (with_reducible refine LeO.bind ?_ (fun _ => ?_))
      | exact ih0 _ _ _ _
      | exact LeO.none _
      | refine LeO.ite ?_ ?_
      | refine LeO.bind ?_ (fun _ => ?_)
theorem colloquyref20_Cut.calls (k : Nat) (a0 : ByteArray) (r1 : List ByteArray) (r2 : Bool) (w : World) (h : colloquyref20_Cut.f k a0 = some (r1, r2)) :
    Calls Tryd.prog 35 #[.string a0] w fun e w' => ∃ v0_ : Value, e = .returned (.tuple #[v0_, .bool r2]) ∧ Kd.R Kd.string 9 w' w.heap.size (fun _ => True) v0_ r1 ∧ Below w.heap.size w w' := by
  have HB := Aside0.mk (Below.refl w.heap.size w)
  have H : (colloquyref20_Cut.l0 k a0 (([] : List ByteArray)) 0 0) = some (r1, r2) := h
  clear h
  obtain ⟨y281, hy281⟩ : ∃ y_ : List ByteArray, y_ = (([] : List ByteArray)) := ⟨_, rfl⟩
  replace H : (colloquyref20_Cut.l0 k a0 y281 0 0) = some (r1, r2) := by first | (rw [hy281]; with_reducible exact H) | (have H2_ := (Option.bind_some _ _).symm.trans H; rw [hy281]; with_reducible exact H2_) | (have H2_ := (Option.bind_some _ _).symm.trans H; with_reducible exact H2_) | with_reducible exact H | (rw [hy281]; exact H) | exact H
  have Ny281 := Aside0.mk hy281
  clear hy281
  have H' := Aside0.mk H
  clear H
  go_enter Tryd.func35, Tryd.ntmps35
  go_wp2_with (first | ((with_reducible refine gate_dst (N := 7) rfl ?_); refine Kd.R_lit Kd.string _ 9 ?hg (N := 7) ?hd (xs := ([] : List ByteArray)) (inner := []) (ok := fun _ => True) (okp := fun _ => True) ?hr ?hp (fun _ hk => hk) trivial (Below.refl _ _) (Nat.le_refl _) (by simp) ?_; (case hd => rfl); (case hg => rfl); (case hr => first | (go_simp; done) | (go_simp; rfl)); (case hp => exact (Reps.none _ _)); intro v282 w2 ho3 hb hg_ hnew_; clear hg_ hnew_; (first | rw [← Ny281.out] at ho3 | (simp only [Int.reduceToNat] at ho3; rw [← Ny281.out] at ho3)); have n0_ := Aside0.mk (Kd.R_lower ho3 (below_size (by repeat (first | (with_reducible first | exact HB.out | apply below_alloc | apply pw_below_drewN | apply below_drew1) | exact HB.out)))); have n1_ := Aside0.mk (below_step (by repeat (first | (with_reducible first | exact HB.out | apply below_alloc | apply pw_below_drewN | apply below_drew1) | exact HB.out)) hb); clear HB; have HO283 := n0_; have HB := n1_; clear n0_ n1_; clear hb ho3))
  go_loopg [4, 5, 6] k (fun kq v4 v5 v6 w' => ∃ (x4_1 : List ByteArray) (x5_1 : Int) (x6_1 : Int), v5 = .int .i64 x5_1 ∧ v6 = .int .i64 x6_1 ∧ Aside0 (colloquyref20_Cut.l0 kq a0 x4_1 x5_1 x6_1 = some (r1, r2)) ∧ Aside0 (kq ≤ k) ∧ Aside0 (Kd.R Kd.string 9 w' w.heap.size (fun _ => True) v4 x4_1) ∧ Aside0 (Below w.heap.size w w'))
  case atStart => exact ⟨(y281), (0), (0), (by first | rfl | (simp; done) | (simp [*]; done)), (by first | rfl | (simp; done) | (simp [*]; done)), H', ⟨Nat.le_refl _⟩, ⟨by (with_reducible repeat (first | apply Kd.R_alloc | apply Kd.R_drewN | apply Kd.R_drew)); exact HO283.out⟩, ⟨by repeat (first | (with_reducible first | exact HB.out | apply below_alloc | apply pw_below_drewN | apply below_drew1) | exact HB.out)⟩⟩
  case round =>
    clear H'
    try clear p2
    try clear c3
    obtain ⟨x4_1, x5_1, x6_1, rfl, rfl, HA, HK1, HO_4, HB⟩ := hrel
    cases gk with
    | zero => exact absurd HA.out (by simp [colloquyref20_Cut.l0])
    | succ k1 =>
      have H := HA.out
      clear HA
      simp only [colloquyref20_Cut.l0] at H
      by_cases c4 : x6_1 < (a0.size : Int)
      · rw [if_pos c4] at H
        have c4b0 : decide (x6_1 < (a0.size : Int)) = true := decide_eq_true c4
        clear c4
        by_cases c5 : 0 ≤ x6_1
        · rw [if_pos c5] at H
          have c5b0 : decide (0 ≤ x6_1) = true := decide_eq_true c5
          clear c5
          by_cases c7 : (bt a0 x6_1) = 10
          · rw [if_pos c7] at H
            have c7b0 : ((bt a0 x6_1) == 10) = true := beq_iff_eq.mpr c7
            have c7b1 : ((bt a0 x6_1) != 10) = false := bne_eq_false_iff_eq.mpr c7
            clear c7
            by_cases c8 : 0 ≤ x5_1
            · rw [if_pos c8] at H
              have c8b0 := eq_true c8
              have c8b1 : decide (0 ≤ x5_1) = true := decide_eq_true c8
              clear c8
              by_cases c9 : x5_1 ≤ x6_1
              · rw [if_pos c9] at H
                have c9b0 := eq_true c9
                have c9b1 : decide (x5_1 ≤ x6_1) = true := decide_eq_true c9
                clear c9
                by_cases c10 : x6_1 ≤ (a0.size : Int)
                · rw [if_pos c10] at H
                  have c10b0 := eq_true c10
                  have c10b1 : decide (x6_1 ≤ (a0.size : Int)) = true := decide_eq_true c10
                  clear c10
                  by_cases c11 : x4_1.length < 8796093022208
                  · rw [if_pos c11] at H
                    have LMc11 := Aside0.mk c11
                    clear c11
                    obtain ⟨y284, hy284⟩ : ∃ y_ : List ByteArray, y_ = (x4_1 ++ [a0.extract (x5_1 : Int).toNat (x6_1 : Int).toNat]) := ⟨_, rfl⟩
                    replace H : (colloquyref20_Cut.l0 k1 a0 y284 (wrap64 (x6_1 + 1)) (wrap64 (x6_1 + 1))) = some (r1, r2) := by first | (rw [hy284]; with_reducible exact H) | (have H2_ := (Option.bind_some _ _).symm.trans H; rw [hy284]; with_reducible exact H2_) | (have H2_ := (Option.bind_some _ _).symm.trans H; with_reducible exact H2_) | with_reducible exact H | (rw [hy284]; exact H) | exact H
                    have Ny284 := Aside0.mk hy284
                    clear hy284
                    have H' := Aside0.mk H
                    clear H
                    have p6 : 0 ≤ (x6_1 : Int) := of_decide_eq_true (by first | (with_reducible assumption) | assumption)
                    have q6 : x6_1 < (a0.size : Int) := of_decide_eq_true (by first | (with_reducible assumption) | assumption)
                    have hx6 := bt_at a0 x6_1
                    replace p6 := eq_true p6
                    replace q6 := eq_true q6
                    go_wp2_with (first | ((with_reducible refine gate_builtin (b := .append) (xs := #[.tmp 18, .tmp 23]) rfl ?_); at_builtin; refine Kd.R_append Kd.string (w0 := w) w.heap.size rfl (.tmp 18) (.tmp 23) 58 9 (.string ⟨#[]⟩) 16 rfl Tryd.underlying58 info9 rfl (by decide) (by omega) u4 x4_1 (a0.extract (x5_1 : Int).toNat (x6_1 : Int).toNat) [.string (a0.extract (x5_1 : Int).toNat (x6_1 : Int).toNat)] (fun _ => True) (fun _ => False) rfl rfl ?aP (fun _ hk => hk.elim) ?aF ?aO ?aB ?aS ?aL ?_; (case aP => exact rfl); (case aB => exact (by repeat (first | (with_reducible first | exact HB.out | apply below_alloc | apply pw_below_drewN | apply below_drew1) | exact HB.out))); (case aF => exact (fun _ _ => trivial)); (case aO => exact (by (with_reducible repeat (first | apply Kd.R_alloc | apply Kd.R_drewN | apply Kd.R_drew)); exact HO_4.out)); (case aS => exact (below_size (by repeat (first | (with_reducible first | exact HB.out | apply below_alloc | apply pw_below_drewN | apply below_drew1) | exact HB.out)))); (case aL => have := LMc11.out; omega); intro v285 w12 ho hb hg hat; rw [← Ny284.out] at ho; have n0_ := Aside0.mk (hb); have n1_ := Aside0.mk (ho); clear HB; clear HO_4; have HB := n0_; have HO286 := n1_; clear n0_ n1_; clear ho hb hg hat))
                    go_roundg k1
                    case measure => have := HK1.out; omega
                    case rel => exact ⟨(y284), (wrap64 (x6_1 + 1)), (wrap64 (x6_1 + 1)), (by first | rfl | (simp; done) | (simp [*]; done)), (by first | rfl | (simp; done) | (simp [*]; done)), H', ⟨by have := HK1.out; omega⟩, ⟨by (with_reducible repeat (first | apply Kd.R_alloc | apply Kd.R_drewN | apply Kd.R_drew)); exact HO286.out⟩, ⟨by repeat (first | (with_reducible first | exact HB.out | apply below_alloc | apply pw_below_drewN | apply below_drew1) | exact HB.out)⟩⟩
                  · rw [if_neg c11] at H
                    exact absurd H (by simp)
                · rw [if_neg c10] at H
                  exact absurd H (by simp)
              · rw [if_neg c9] at H
                exact absurd H (by simp)
            · rw [if_neg c8] at H
              exact absurd H (by simp)
          · rw [if_neg c7] at H
            have c7b0 : ((bt a0 x6_1) == 10) = false := beq_eq_false_iff_ne.mpr c7
            have c7b1 : ((bt a0 x6_1) != 10) = true := bne_iff_ne.mpr c7
            have H' := Aside0.mk H
            clear H
            have p6 : 0 ≤ (x6_1 : Int) := of_decide_eq_true (by first | (with_reducible assumption) | assumption)
            have q6 : x6_1 < (a0.size : Int) := of_decide_eq_true (by first | (with_reducible assumption) | assumption)
            have hx6 := bt_at a0 x6_1
            replace p6 := eq_true p6
            replace q6 := eq_true q6
            go_wp2
            go_roundg k1
            case measure => have := HK1.out; omega
            case rel => exact ⟨(x4_1), (x5_1), (wrap64 (x6_1 + 1)), (by first | rfl | (simp; done) | (simp [*]; done)), (by first | rfl | (simp; done) | (simp [*]; done)), H', ⟨by have := HK1.out; omega⟩, ⟨by (with_reducible repeat (first | apply Kd.R_alloc | apply Kd.R_drewN | apply Kd.R_drew)); exact HO_4.out⟩, ⟨by repeat (first | (with_reducible first | exact HB.out | apply below_alloc | apply pw_below_drewN | apply below_drew1) | exact HB.out)⟩⟩
        · rw [if_neg c5] at H
          exact absurd H (by simp)
      · rw [if_neg c4] at H
        have c4b0 : decide (x6_1 < (a0.size : Int)) = false := decide_eq_false c4
        clear c4
        by_cases c13 : x5_1 < (a0.size : Int)
        · rw [if_pos c13] at H
          have c13b0 : decide (x5_1 < (a0.size : Int)) = true := decide_eq_true c13
          clear c13
          by_cases c14 : 0 ≤ x5_1
          · rw [if_pos c14] at H
            have c14b0 := eq_true c14
            have c14b1 : decide (0 ≤ x5_1) = true := decide_eq_true c14
            clear c14
            by_cases c15 : x5_1 ≤ (a0.size : Int)
            · rw [if_pos c15] at H
              have c15b0 := eq_true c15
              have c15b1 : decide (x5_1 ≤ (a0.size : Int)) = true := decide_eq_true c15
              clear c15
              by_cases c16 : x4_1.length < 8796093022208
              · rw [if_pos c16] at H
                have LMc16 := Aside0.mk c16
                clear c16
                obtain ⟨y287, hy287⟩ : ∃ y_ : List ByteArray, y_ = (x4_1 ++ [a0.extract (x5_1 : Int).toNat a0.size]) := ⟨_, rfl⟩
                replace H : (some (y287, false)) = some (r1, r2) := by first | (rw [hy287]; with_reducible exact H) | (have H2_ := (Option.bind_some _ _).symm.trans H; rw [hy287]; with_reducible exact H2_) | (have H2_ := (Option.bind_some _ _).symm.trans H; with_reducible exact H2_) | with_reducible exact H | (rw [hy287]; exact H) | exact H
                have Ny287 := Aside0.mk hy287
                clear hy287
                simp only [Option.some.injEq, Prod.mk.injEq] at H
                obtain ⟨rfl, rfl⟩ := H
                go_wp2_with (first | ((with_reducible refine gate_builtin (b := .append) (xs := #[.tmp 31, .tmp 35]) rfl ?_); at_builtin; refine Kd.R_append Kd.string (w0 := w) w.heap.size rfl (.tmp 31) (.tmp 35) 58 9 (.string ⟨#[]⟩) 16 rfl Tryd.underlying58 info9 rfl (by decide) (by omega) u4 x4_1 (a0.extract (x5_1 : Int).toNat a0.size) [.string (a0.extract (x5_1 : Int).toNat a0.size)] (fun _ => True) (fun _ => False) rfl rfl ?aP (fun _ hk => hk.elim) ?aF ?aO ?aB ?aS ?aL ?_; (case aP => exact rfl); (case aB => exact (by repeat (first | (with_reducible first | exact HB.out | apply below_alloc | apply pw_below_drewN | apply below_drew1) | exact HB.out))); (case aF => exact (fun _ _ => trivial)); (case aO => exact (by (with_reducible repeat (first | apply Kd.R_alloc | apply Kd.R_drewN | apply Kd.R_drew)); exact HO_4.out)); (case aS => exact (below_size (by repeat (first | (with_reducible first | exact HB.out | apply below_alloc | apply pw_below_drewN | apply below_drew1) | exact HB.out)))); (case aL => have := LMc16.out; omega); intro v288 w17 ho hb hg hat; rw [← Ny287.out] at ho; have n0_ := Aside0.mk (hb); have n1_ := Aside0.mk (ho); clear HB; clear HO_4; have HB := n0_; have HO289 := n1_; clear n0_ n1_; clear ho hb hg hat))
                go_ret2
                exact ⟨_, by first | rfl | (simp [errW_none, errW_some] <;> rfl) | (simp [*, errW_none, errW_some] <;> rfl), by (with_reducible repeat (first | apply Kd.R_alloc | apply Kd.R_drewN | apply Kd.R_drew)); exact HO289.out, by repeat (first | (with_reducible first | exact HB.out | apply below_alloc | apply pw_below_drewN | apply below_drew1) | exact HB.out)⟩
              · rw [if_neg c16] at H
                exact absurd H (by simp)
            · rw [if_neg c15] at H
              exact absurd H (by simp)
          · rw [if_neg c14] at H
            exact absurd H (by simp)
        · rw [if_neg c13] at H
          have c13b0 : decide (x5_1 < (a0.size : Int)) = false := decide_eq_false c13
          clear c13
          simp only [Option.some.injEq, Prod.mk.injEq] at H
          obtain ⟨rfl, rfl⟩ := H
          go_wp2
          go_ret2
          exact ⟨_, by first | rfl | (simp [errW_none, errW_some] <;> rfl) | (simp [*, errW_none, errW_some] <;> rfl), by (with_reducible repeat (first | apply Kd.R_alloc | apply Kd.R_drewN | apply Kd.R_drew)); exact HO_4.out, by repeat (first | (with_reducible first | exact HB.out | apply below_alloc | apply pw_below_drewN | apply below_drew1) | exact HB.out)⟩
end
theorem rread_ev (s : ByteArray) (hs : s.size ≤ 140737488351232) : Ev (fun k => colloquyref02_Read.f k s) (readN s) := by
  obtain ⟨v, h1, h2⟩ := Pure.same_read s hs s.size 0 [] (by omega) (by omega) (by simp)
  have e : v = readN s := Pure.ev_one h1 (read_ev s hs)
  rw [← e]
  exact h2
theorem rrd_calls (s : ByteArray) (hs : s.size ≤ 140737488351232) (w : World) : Calls Tryd.prog 55 #[.string s] w fun e w' => e = .returned (.tuple #[.string (readN s).1, .bool (readN s).2]) ∧ Below w.heap.size w w' := by
  obtain ⟨k, hk⟩ := rread_ev s hs
  exact colloquyref02_Read.calls k s _ _ w (hk k (Nat.le_refl _))
theorem rvt_calls (v : Int) (w : World) : Calls Tryd.prog 45 #[.int .i64 v] w fun e w' => e = .returned (.string (vtB v)) ∧ Below w.heap.size w w' := (colloquyref18_Text.calls v _ w (rt_eq v)).mono fun e w' h => ⟨h.1, Drawn0.below h.2⟩
def behB (l p : ByteArray) : ByteArray := if hpB l p = true then tpB l p else eB
theorem hp_short {l p : ByteArray} (h : l.size < p.size) : hpB l p = false := by
  cases e : hpB l p with
  | false => rfl
  | true =>
    have := congrArg ByteArray.size (hp_spec l p e)
    rw [size_cat] at this
    omega
theorem hp_cut {l p : ByteArray} (h : (l.extract 0 p.size).toList = p.toList) : hpB l p = true := by
  have e := congrArg (fun s : ByteArray => s.data.toList) (Pure.bytes_eq h)
  rw [Lib.extract_from_zero] at e
  unfold hpB Lib.hasPrefix
  exact List.isPrefixOf_iff_prefix.2 ⟨l.data.toList.drop p.size, by rw [← e]; exact List.take_append_drop ..⟩
theorem hp_cut_no {l p : ByteArray} (h : ¬ (l.extract 0 p.size).toList = p.toList) : hpB l p = false := by
  cases e : hpB l p with
  | false => rfl
  | true =>
    exfalso
    apply h
    have hl := hp_spec l p e
    have : l.extract 0 p.size = p := by
      apply bext
      rw [Lib.extract_from_zero, hl, dcat]
      exact List.take_left' Array.length_toList
    rw [this]
theorem tp_cut {l p : ByteArray} (h : hpB l p = true) : l.extract p.size l.size = tpB l p := by
  have hl := hp_spec l p h
  apply bext
  rw [Lib.extract_to_end]
  conv => lhs; rw [hl, dcat]
  exact List.drop_left' Array.length_toList
noncomputable def rnm (l p : ByteArray) : ByteArray × Bool := if hpB l p = true then readN (tpB l p) else (eB, false)
theorem rnm_O (l p : ByteArray) : (rnm l p).2 = nmO l p := by
  unfold rnm nmO
  cases h : hpB l p <;> rfl
theorem rnm_B {l p : ByteArray} (h : nmO l p = true) : (rnm l p).1 = nmB l p := by
  unfold nmO at h
  rw [Bool.and_eq_true] at h
  unfold rnm nmB
  rw [if_pos h.1]
theorem bt_of {s : ByteArray} {i : Nat} {b : UInt8} (h : s.data.toList[i]? = some b) : bt s (i : Int) = (b.toNat : Int) ∧ i < s.size := by
  have hlt : i < s.data.toList.length := (List.getElem?_eq_some_iff.1 h).1
  have hs : i < s.size := by rw [Array.length_toList] at hlt; exact hlt
  obtain ⟨c, hc, hv⟩ := bt_L s (i : Int) (by omega) (by omega)
  rw [Int.toNat_natCast, h] at hc
  rw [← Option.some.inj hc] at hv
  exact ⟨hv, hs⟩
theorem cut_in (s : ByteArray) (out : List ByteArray) (hs : s.size ≤ 1000000000) (P R : List UInt8) (from_ : Int) (v : List ByteArray × Bool) : ∀ (y x : List UInt8), s.data.toList = P ++ (x ++ y) ++ R → (10 : UInt8) ∉ y → Ev (fun k => colloquyref20_Cut.l0 k s out from_ ((P.length + x.length + y.length : Nat) : Int)) v → Ev (fun k => colloquyref20_Cut.l0 k s out from_ ((P.length + x.length : Nat) : Int)) v
  | [], x, _, _, h => h
  | b :: y, x, hd, hy, h => by
    have hb : s.data.toList[P.length + x.length]? = some b := by
      rw [hd, List.append_assoc, List.append_assoc, List.getElem?_append_right (by omega), List.getElem?_append_right (by omega)]
      rw [show P.length + x.length - P.length - x.length = 0 by omega]
      rfl
    obtain ⟨h1, h2⟩ := bt_of hb
    have ih := cut_in s out hs P R from_ v y (x ++ [b]) (by rw [hd]; simp) (fun h => hy (List.mem_cons_of_mem _ h)) (by
      rw [List.length_append, List.length_singleton]
      rw [List.length_cons] at h
      rw [show P.length + (x.length + 1) + y.length = P.length + x.length + (y.length + 1) by omega]
      exact h)
    rw [List.length_append, List.length_singleton] at ih
    refine Ev.step (fun k => ?_) ih
    have hne : ¬ bt s ((P.length + x.length : Nat) : Int) = 10 := by
      rw [h1]
      intro e
      have : b = 10 := UInt8.toNat_inj.1 (show b.toNat = 10 by omega)
      exact hy (by rw [this]; exact List.mem_cons_self ..)
    rw [colloquyref20_Cut.l0, if_pos (by omega), if_pos (by omega), if_neg hne, Pure.wrap_id (by omega) (by omega)]
    rw [show (((P.length + x.length : Nat) : Int) + 1) = ((P.length + (x.length + 1) : Nat) : Int) by omega]
theorem cut_lines (rem : ByteArray) (hr : (10 : UInt8) ∉ rem.data.toList) (s : ByteArray) (hs : s.size ≤ 1000000000) : ∀ (LS pre : List ByteArray), s = catL pre ++ (catL LS ++ rem) → (∀ x ∈ LS, (10 : UInt8) ∉ x.data.toList) → Ev (fun k => colloquyref20_Cut.l0 k s pre ((catL pre).size : Int) ((catL pre).size : Int)) (pre ++ LS ++ remL rem, decide (rem = eB))
  | [], pre, he, _ => by
    have hz := congrArg ByteArray.size he
    rw [size_cat, show catL [] = eB from rfl, eB_cat] at hz
    have hd : s.data.toList = (catL pre).data.toList ++ ([] ++ rem.data.toList) ++ [] := by
      rw [he, show catL [] = eB from rfl, eB_cat, dcat]
      simp
    have hpl : (catL pre).data.toList.length = (catL pre).size := Array.length_toList
    have hrl : rem.data.toList.length = rem.size := Array.length_toList
    have hcount : pre.length ≤ (catL pre).size := by
      clear he hz hd hpl
      induction pre with
      | nil => exact Nat.zero_le _
      | cons x xs ih =>
        show xs.length + 1 ≤ ((x ++ lfB) ++ catL xs).size
        rw [size_cat, size_cat]
        have : lfB.size = 1 := rfl
        omega
    have h := cut_in s pre hs (catL pre).data.toList [] ((catL pre).size : Int) (pre ++ [] ++ remL rem, decide (rem = eB)) rem.data.toList [] hd hr
    rw [List.length_nil, hpl, hrl, Nat.add_zero] at h
    refine h ?_
    by_cases e : rem = eB
    · refine Ev.step (f := fun _ => some (pre ++ [] ++ remL rem, decide (rem = eB))) (fun k => ?_) (Ev.now _)
      have z : rem.size = 0 := by rw [e]; rfl
      rw [colloquyref20_Cut.l0, if_neg (by omega), if_neg (by omega)]
      unfold remL
      rw [if_pos e, decide_eq_true e, List.append_nil, List.append_nil]
    · refine Ev.step (f := fun _ => some (pre ++ [] ++ remL rem, decide (rem = eB))) (fun k => ?_) (Ev.now _)
      have z : 0 < rem.size := by
        rcases Nat.eq_zero_or_pos rem.size with z | z
        · exfalso
          apply e
          apply bext
          have : rem.data.toList.length = 0 := by rw [hrl, z]
          exact (List.length_eq_zero_iff.1 this).trans rfl
        · exact z
      rw [colloquyref20_Cut.l0, if_neg (by omega), if_pos (by omega), if_pos (by omega), if_pos (by omega), if_pos (by omega)]
      unfold remL
      rw [if_neg e, decide_eq_false e, List.append_nil]
      congr 3
      congr 1
      apply bext
      rw [Int.toNat_natCast, Lib.extract_to_end, hd, List.nil_append, List.append_nil]
      exact List.drop_left' hpl
  | x :: LS, pre, he, h => by
    have hx := h x (List.mem_cons_self ..)
    have e2 : s = catL (pre ++ [x]) ++ (catL LS ++ rem) := by
      have : ∀ (l : List ByteArray), catL (l ++ [x]) = catL l ++ (x ++ lfB) := by
        intro l
        induction l with
        | nil =>
          show (x ++ lfB) ++ eB = eB ++ (x ++ lfB)
          rw [eB_cat]
          apply bext
          rw [dcat]
          simp
        | cons y ys ih =>
          show (y ++ lfB) ++ catL (ys ++ [x]) = ((y ++ lfB) ++ catL ys) ++ (x ++ lfB)
          rw [ih, ByteArray.append_assoc (a := y ++ lfB)]
      rw [this, he]
      show catL pre ++ (((x ++ lfB) ++ catL LS) ++ rem) = _
      simp only [ByteArray.append_assoc]
    have hz := congrArg ByteArray.size he
    rw [size_cat, size_cat] at hz
    have hz2 : (catL (x :: LS)).size = x.size + 1 + (catL LS).size := by
      show ((x ++ lfB) ++ catL LS).size = _
      rw [size_cat, size_cat]
      rfl
    have ih := cut_lines rem hr s hs LS (pre ++ [x]) e2 fun y hy => h y (List.mem_cons_of_mem _ hy)
    have hcp : (catL (pre ++ [x])).size = (catL pre).size + x.size + 1 := by
      have h1 := congrArg ByteArray.size e2
      rw [size_cat, size_cat] at h1
      omega
    have hd : s.data.toList = (catL pre).data.toList ++ ([] ++ x.data.toList) ++ (10 :: ((catL LS).data.toList ++ rem.data.toList)) := by
      rw [he, dcat]
      show _ ++ (((x ++ lfB) ++ catL LS) ++ rem).data.toList = _
      rw [dcat, dcat, dcat]
      simp
    have hpl : (catL pre).data.toList.length = (catL pre).size := Array.length_toList
    have hxl : x.data.toList.length = x.size := Array.length_toList
    have hcount : pre.length ≤ (catL pre).size := by
      clear he e2 hz hz2 ih hcp hd hpl
      induction pre with
      | nil => exact Nat.zero_le _
      | cons x xs ih =>
        show xs.length + 1 ≤ ((x ++ lfB) ++ catL xs).size
        rw [size_cat, size_cat]
        have : lfB.size = 1 := rfl
        omega
    have hb : s.data.toList[(catL pre).size + x.size]? = some 10 := by
      rw [hd, List.nil_append, List.getElem?_append_right (by rw [List.length_append]; omega), List.length_append, hpl, hxl, Nat.sub_self]
      rfl
    obtain ⟨h1, h2⟩ := bt_of hb
    have hin := cut_in s pre hs (catL pre).data.toList _ ((catL pre).size : Int) (pre ++ (x :: LS) ++ remL rem, decide (rem = eB)) x.data.toList [] hd hx
    rw [List.length_nil, hpl, hxl, Nat.add_zero] at hin
    refine hin ?_
    rw [← app1] at ih
    refine Ev.step (fun k => ?_) ih
    have ex : s.extract (catL pre).size ((catL pre).size + x.size) = x := by
      apply bext
      have h3 : (s.extract (catL pre).size ((catL pre).size + x.size)).data.toList = (s.data.toList.take ((catL pre).size + x.size)).drop (catL pre).size := by
        rw [ByteArray.data_extract, Array.toList_extract, List.extract_eq_take_drop, List.drop_take]
      rw [h3, hd, List.nil_append, List.take_left' (by rw [List.length_append]; omega)]
      exact List.drop_left' hpl
    rw [colloquyref20_Cut.l0, if_pos (by omega), if_pos (by omega), if_pos (by rw [h1]; rfl), if_pos (by omega), if_pos (by omega), if_pos (by omega), if_pos (by omega), Pure.wrap_id (by omega) (by omega), Int.toNat_natCast, Int.toNat_natCast, ex]
    rw [show (((catL pre).size + x.size : Nat) : Int) + 1 = ((catL (pre ++ [x])).size : Int) by omega]
theorem rcut_ev (LS : List ByteArray) (rem : ByteArray) (h : ∀ x ∈ LS, (10 : UInt8) ∉ x.data.toList) (hr : (10 : UInt8) ∉ rem.data.toList) (hs : (catL LS ++ rem).size ≤ 1000000000) : Ev (fun k => colloquyref20_Cut.f k (catL LS ++ rem)) (LS ++ remL rem, decide (rem = eB)) :=
  cut_lines rem hr (catL LS ++ rem) hs LS [] (by rw [show catL [] = eB from rfl, eB_cat]) h
theorem rcut_calls (LS : List ByteArray) (rem : ByteArray) (w : World) (h : ∀ x ∈ LS, (10 : UInt8) ∉ x.data.toList) (hr : (10 : UInt8) ∉ rem.data.toList) (hs : (catL LS ++ rem).size ≤ 1000000000) : Calls Tryd.prog 35 #[.string (catL LS ++ rem)] w fun e w' => ∃ A c S, e = .returned (.tuple #[.slice A (LS ++ remL rem).length c, .bool (decide (rem = eB))]) ∧ Out w w' (fun _ => False) [Chunk.view Kd.string S A (LS ++ remL rem).length c (LS ++ remL rem)] := by
  obtain ⟨k, hk⟩ := rcut_ev LS rem h hr hs
  refine (colloquyref20_Cut.calls k _ _ _ w (hk k (Nat.le_refl _))).mono ?_
  rintro e w' ⟨v, rfl, hR, hb⟩
  obtain ⟨A, c, rfl⟩ := Kd.R_slice hR
  exact ⟨A, c, _, rfl, (((Own.start w).fresh (Out.row hR hb)).row_view 0 rfl).out⟩
theorem rlines_calls (A : Option Addr) (c : Nat) (su bo : ByteArray) (ps : List PP) (w : World) (hz : szP ps) (hsm : ps.length + sumL ps ≤ 1000000000) (hr : Kd.C KQ w A (ps.map cv).length (ps.map cv)) (hc : (ps.map cv).length ≤ c) : Calls Tryd.prog 29 #[.agg #[.string su, .string bo, .slice A (ps.map cv).length c]] w fun e w' => ∃ A2 c2 S, e = .returned (.slice A2 (linesL su bo ps).length c2) ∧ Out w w' (fun _ => False) [Chunk.view Kd.string S A2 (linesL su bo ps).length c2 (linesL su bo ps)] := by
  obtain ⟨k, hk⟩ := lines_ev su bo ps hz hsm
  refine (colloquyref20_Lines.calls k su bo A c (ps.map cv) _ w hr hc (hk k (Nat.le_refl _))).mono ?_
  rintro e w' ⟨v, rfl, hR, hb⟩
  obtain ⟨A2, c2, rfl⟩ := Kd.R_slice hR
  exact ⟨A2, c2, _, rfl, (((Own.start w).fresh (Out.row hR hb)).row_view 0 rfl).out⟩
theorem lines_count (LS : List ByteArray) (rem : ByteArray) : LS.length ≤ (catL LS ++ rem).size := by
  rw [size_cat]
  induction LS with
  | nil => exact Nat.zero_le _
  | cons x xs ih =>
    show xs.length + 1 ≤ ((x ++ lfB) ++ catL xs).size + rem.size
    rw [size_cat, size_cat]
    have : lfB.size = 1 := rfl
    omega
theorem szP_few (ps : List PP) (h : ps.length + sumL ps ≤ 1000000000) : szP ps := ⟨by omega, fun p hp => by have := part_le ps p hp; omega⟩
theorem ref_few (LS : List ByteArray) (en : Bool) : ∀ R i, refP LS en = (some R, i) → R.2.2.length + sumL R.2.2 ≤ LS.length := by
  intro R i h
  unfold refP at h
  split at h
  · cases h
  split at h
  · cases h
  split at h
  · cases h
  split at h
  · cases h
  split at h
  · cases h
  rename_i h1 h2 h3 h4 h5
  have hb := bodyF_b (LS.drop 2) 2 [] (by simp [sumL])
  rw [List.length_drop] at hb
  split at h
  · cases h
  · split at h
    · cases h
    · injection h with h6 _
      injection h6 with h6
      rw [← h6]
      show (bodyF (LS.drop 2) 2 []).1.length + sumL (bodyF (LS.drop 2) 2 []).1 ≤ LS.length
      omega
section
theorem C_cv {w : World} {A : Option Addr} {n : Nat} {ps : List PP} (h : Kd.C KP w A n ps) : Kd.C KQ w A n (ps.map cv) := by
  refine ⟨by rw [List.length_map]; exact h.1, h.2.1, fun hn => ?_⟩
  obtain ⟨ad, hA, hc⟩ := h.2.2 hn
  refine ⟨ad, hA, fun j q hj => ?_⟩
  rw [List.getElem?_map] at hj
  obtain ⟨p, hp, rfl⟩ := Option.map_eq_some_iff.1 hj
  exact hc j p hp
theorem F_cv {w : World} {ok : Nat → Prop} {A : Option Addr} {n : Nat} {ps : List PP} (h : Kd.F KP w ok A n ps) : Kd.F KQ w ok A n (ps.map cv) := Kd.F_imp h fun _ => C_cv
def spLq (base : Nat) (X : SmX) : List Chunk := [Chunk.row kW 53 base X.Sr (.slice X.A X.W.length X.c) X.W, Chunk.dn base X.Sd X.Wd X.qs, Chunk.row KR 49 base X.Sl (.slice X.A2 X.xs.length X.c2) X.xs]
def Chunk.spq (base : Nat) (S : Nat → Prop) (A : Option Addr) (c : Nat) (ps : List PP) : Chunk :=
  ⟨S, fun w => ∃ X : SmX, (X.A = A ∧ X.c = c ∧ X.ps = ps) ∧ X.ok ∧ S = (Chunk.all (spLq base X)).S ∧ (Chunk.all (spLq base X)).P w, fun h hm => by
    obtain ⟨X, h1, h0, h2, h3⟩ := h
    exact ⟨X, h1, h0, h2, (Chunk.all _).move h3 (fun k hk => hm k (h2 ▸ hk))⟩⟩
theorem spLq_rel {base : Nat} {X : SmX} {w : World} (h : (Chunk.all (spLq base X)).P w) : dnP w base (Chunk.all (spLq base X)).S X.W X.ps := by
  have h2 : dnP w base X.Sd X.Wd X.qs := all_P h 1 rfl
  have h3 : KR.R 49 w base X.Sl (.slice X.A2 X.xs.length X.c2) X.xs := all_P h 2 rfl
  have e2 : dnP w base (Chunk.all (spLq base X)).S X.Wd X.qs := ⟨h2.1, fun j x p hx hp => (h2.2 j x p hx hp).mono fun k hk => all_mem (i := 1) rfl hk⟩
  unfold SmX.W SmX.ps
  cases hl : X.lg with
  | none =>
    show dnP w base _ (X.Wd ++ []) (X.qs ++ [])
    rw [List.append_nil, List.append_nil]
    exact e2
  | some g => exact e2.snoc ⟨rfl, rfl, Kd.R_mono h3 fun k hk => all_mem (i := 2) rfl hk⟩
theorem spLq_F {base : Nat} {X : SmX} {w : World} (h : (Chunk.all (spLq base X)).P w) : X.W.length = X.ps.length ∧ X.ps.length ≤ X.c ∧ Kd.F KP w (Chunk.all (spLq base X)).S X.A X.ps.length X.ps ∧ ∀ ad, X.A = some ad → (Chunk.all (spLq base X)).S ad.block := by
  have h1 : kW.R 53 w base X.Sr (.slice X.A X.W.length X.c) X.W := all_P h 0 rfl
  have hd := spLq_rel h
  obtain ⟨hn, hc, hC⟩ := Kd.R_reads' h1
  have h1b := Kd.R_mono (Kd.R_bound h1) (ok' := fun k => X.Sr k ∧ k < w.heap.size) fun k hk => ⟨hk.1, hk.2.2.1⟩
  refine ⟨hd.1, by rw [← hd.1]; exact hc, fun W' hW => ?_, fun ad e => all_mem (i := 0) rfl (row_in h1 e)⟩
  rw [← hd.1]
  exact parts_C (Kd.R_reads' (Kd.R_move h1b fun k hk => hW k (all_mem (i := 0) rfl hk.1) hk.2)).2.2 (base := base) (S := fun k => (Chunk.all (spLq base X)).S k ∧ k < w.heap.size) ⟨hd.1, fun j x p hx hp => ((hd.2 j x p hx hp).bound).move fun k hk => hW k hk.1 hk.2⟩
section
variable {w0 w w' : World} {L : List Chunk} {base g c i : Nat} {A : Option Addr} {S : Nat → Prop} {su bo : ByteArray} {ps : List PP}
theorem Own.spq_open (h : Own w0 w (Chunk.spq base S A c ps :: L)) : ∃ X : SmX, (X.A = A ∧ X.c = c ∧ X.ps = ps) ∧ X.ok ∧ X.W.length = ps.length ∧ Own w0 w (spLq base X ++ L) := by
  obtain ⟨X, h1, h0, h2, h3⟩ := h.get 0 rfl
  refine ⟨X, h1, h0, by rw [← h1.2.2]; exact (spLq_F h3).1, Own.unbundle (h.calls (cs := []) (c' := Chunk.all (spLq base X)) 0 rfl (Out.one (Out.refl w _) h3 fun k hk => ?_))⟩
  have hS : S k := by rw [h2]; exact hk
  exact ⟨.inl hS, (h.lt 0 rfl hS).2⟩
theorem Own.spq_close {X : SmX} (h : Own w0 w (spLq base X ++ L)) (h0 : X.ok) : Own w0 w (Chunk.spq base (Chunk.all (spLq base X)).S X.A X.c X.ps :: L) := by
  have hb := Own.bundle h
  exact hb.calls (cs := []) (c' := Chunk.spq base (Chunk.all (spLq base X)).S X.A X.c X.ps) 0 rfl (Out.one (Out.refl w _) ⟨X, ⟨rfl, rfl, rfl⟩, h0, rfl, hb.get 0 rfl⟩ fun k hk => ⟨.inl hk, (hb.lt 0 rfl hk).2⟩)
theorem Own.spq_start (h : Own w0 w L) : ∃ S, Own w0 w (Chunk.spq w0.heap.size S none 0 [] :: L) := by
  have h1 := ((h.row_nil KR 49 w0.heap.size).fresh (cs := [Chunk.dn w0.heap.size (fun _ => False) [] []]) (Out.one (Out.refl w _) (c := Chunk.dn w0.heap.size (fun _ => False) [] []) ⟨rfl, fun j x p hx => by simp at hx⟩ (fun _ hk => hk.elim))).row_nil kW 53 w0.heap.size
  have h2 : Own w0 w (spLq w0.heap.size ⟨none, 0, [], [], none, [], none, 0, fun _ => False, fun _ => False, fun _ => False⟩ ++ L) := h1
  exact ⟨_, h2.spq_close fun _ => ⟨rfl, rfl, rfl⟩⟩
end
section
variable {w0 w w' : World} {L : List Chunk} {base gs c i : Nat} {A A2 : Option Addr} {c2 : Nat} {S Sr Sd Sl : Nat → Prop} {su bo g0 : ByteArray} {ps qs : List PP} {xs : List RS} {Wd : List W2}
abbrev smQ (gs : Nat) (su bo : ByteArray) (A : Option Addr) (n c : Nat) : Chunk := Chunk.blk gs (.cells #[.string su, .string bo, .slice A n c] 29 (0, 0))
theorem spq_ways (h : Own w0 w (smQ gs su bo A ps.length c :: Chunk.spq base S A c ps :: L)) :
    (ps = [] ∧ ∃ Sr Sd, Own w0 w (smQ gs su bo A ([] : List W2).length c :: Chunk.row kW 53 base Sr (.slice A ([] : List W2).length c) [] :: Chunk.dn base Sd [] [] :: L)) ∨
    ∃ Wd qs g0 xs A2 c2 Sr Sd Sl, ps = qs ++ [⟨g0, xs⟩] ∧ Own w0 w (smQ gs su bo A (Wd ++ [(⟨g0, ⟨A2, xs.length, c2⟩⟩ : W2)]).length c :: Chunk.row kW 53 base Sr (.slice A (Wd ++ [(⟨g0, ⟨A2, xs.length, c2⟩⟩ : W2)]).length c) (Wd ++ [(⟨g0, ⟨A2, xs.length, c2⟩⟩ : W2)]) :: Chunk.dn base Sd Wd qs :: Chunk.row KR 49 base Sl (.slice A2 xs.length c2) xs :: L) := by
  obtain ⟨X, ⟨hA, hc, hX⟩, hok, hlen, HO⟩ := (h.perm (List.Perm.swap ..)).spq_open
  subst hA hc hX
  obtain ⟨A, c, Wd, qs, lg, xs, A2, c2, Sr, Sd, Sl⟩ := X
  rw [← hlen] at HO
  cases lg with
  | none =>
    obtain ⟨e1, e2, e3⟩ := hok rfl
    dsimp only at e1 e2 e3
    subst e1 e2 e3
    have h2 : Own w0 w (Chunk.row kW 53 base Sr (.slice A ([] : List W2).length c) [] :: Chunk.dn base Sd [] [] :: Chunk.row KR 49 base Sl (.slice A2 ([] : List RS).length c2) [] :: smQ gs su bo A ([] : List W2).length c :: L) := HO
    refine .inl ⟨rfl, Sr, Sd, (h2.sub (cs := Chunk.row kW 53 base Sr (.slice A ([] : List W2).length c) [] :: Chunk.dn base Sd [] [] :: smQ gs su bo A ([] : List W2).length c :: L) ?_).perm ?_⟩
    · exact ((List.Sublist.refl _).cons _).cons_cons _ |>.cons_cons _
    · exact (List.Perm.cons _ (List.Perm.swap ..)).trans (List.Perm.swap ..)
  | some g0 =>
    have h2 : Own w0 w (Chunk.row kW 53 base Sr (.slice A (Wd ++ [(⟨g0, ⟨A2, xs.length, c2⟩⟩ : W2)]).length c) (Wd ++ [(⟨g0, ⟨A2, xs.length, c2⟩⟩ : W2)]) :: Chunk.dn base Sd Wd qs :: Chunk.row KR 49 base Sl (.slice A2 xs.length c2) xs :: smQ gs su bo A (Wd ++ [(⟨g0, ⟨A2, xs.length, c2⟩⟩ : W2)]).length c :: L) := HO
    refine .inr ⟨Wd, qs, g0, xs, A2, c2, Sr, Sd, Sl, rfl, h2.perm ?_⟩
    exact ((List.Perm.cons _ (List.Perm.cons _ (List.Perm.swap ..))).trans (List.Perm.cons _ (List.Perm.swap ..))).trans (List.Perm.swap ..)
theorem spq_back (h : Own w0 w (smQ gs su bo A (Wd ++ [(⟨g0, ⟨A2, xs.length, c2⟩⟩ : W2)]).length c :: Chunk.row kW 53 base Sr (.slice A (Wd ++ [(⟨g0, ⟨A2, xs.length, c2⟩⟩ : W2)]).length c) (Wd ++ [(⟨g0, ⟨A2, xs.length, c2⟩⟩ : W2)]) :: Chunk.dn base Sd Wd qs :: Chunk.row KR 49 base Sl (.slice A2 xs.length c2) xs :: L)) :
    ∃ S, Own w0 w (smQ gs su bo A (qs ++ [(⟨g0, xs⟩ : PP)]).length c :: Chunk.spq base S A c (qs ++ [(⟨g0, xs⟩ : PP)]) :: L) := by
  have hd : dnP w base Sd Wd qs := h.get 2 rfl
  have hl : (Wd ++ [(⟨g0, ⟨A2, xs.length, c2⟩⟩ : W2)]).length = (qs ++ [(⟨g0, xs⟩ : PP)]).length := by rw [List.length_append, List.length_append, hd.1]; rfl
  have h2 : Own w0 w (spLq base ⟨A, c, Wd, qs, some g0, xs, A2, c2, Sr, Sd, Sl⟩ ++ (smQ gs su bo A (Wd ++ [(⟨g0, ⟨A2, xs.length, c2⟩⟩ : W2)]).length c :: L)) := h.perm (((List.Perm.swap ..).trans (List.Perm.cons _ (List.Perm.swap ..))).trans (List.Perm.cons _ (List.Perm.cons _ (List.Perm.swap ..))))
  have h3 := (h2.spq_close fun e => by cases e).perm (List.Perm.swap ..)
  rw [hl] at h3
  exact ⟨_, h3⟩
theorem Own.dn_viewq {n : Nat} (h : Own w0 w (Chunk.row kW 53 base Sr (.slice A n c) Wd :: Chunk.dn base Sd Wd qs :: L)) : Own w0 w (Chunk.view KQ (fun k => Sr k ∨ Sd k) A n c (qs.map cv) :: L) := by
  have hb : Own w0 w (Chunk.all [_, _] :: L) := Own.bundle (A := [_, _]) h
  refine hb.mapc (c' := Chunk.view KQ (fun k => Sr k ∨ Sd k) A n c (qs.map cv)) 0 rfl (fun k hk => (all_two k).2 hk) fun w_ hP => ?_
  have h1 : kW.R 53 w_ base Sr (.slice A n c) Wd := all_P hP 0 rfl
  have h2 : dnP w_ base Sd Wd qs := all_P hP 1 rfl
  obtain ⟨hn, hc, hC⟩ := Kd.R_reads' h1
  refine ⟨F_cv fun W' hW => ?_, by omega, fun ad e => .inl (row_in h1 e)⟩
  have h1b := Kd.R_mono (Kd.R_bound h1) (ok' := fun k => Sr k ∧ k < w_.heap.size) fun k hk => ⟨hk.1, hk.2.2.1⟩
  rw [hn]
  exact parts_C (Kd.R_reads' (Kd.R_move h1b fun k hk => hW k (.inl hk.1) hk.2)).2.2 (base := base) (S := fun k => Sd k ∧ k < w_.heap.size) ⟨h2.1, fun j x p hx hp => ((h2.2 j x p hx hp).bound).move fun k hk => hW k (.inr hk.1) hk.2⟩
theorem Own.spq_viewq (h : Own w0 w L) (hi : L[i]? = some (Chunk.spq base S A c ps)) : Own w0 w (L.set i (Chunk.view KQ S A ps.length c (ps.map cv))) :=
  h.mapc i hi (fun _ hk => hk) fun w_ hP => by
    obtain ⟨X, ⟨rfl, rfl, rfl⟩, h0, h2, h3⟩ := hP
    have hF := spLq_F h3
    refine ⟨?_, hF.2.1, ?_⟩
    · rw [h2]; exact F_cv hF.2.2.1
    · rw [h2]; exact hF.2.2.2
theorem take_last (Wd : List W2) (x : W2) (i : Int) (hi : i = ((Wd ++ [x]).length : Int) - 1) : (Wd ++ [x]).take i.toNat = Wd := by
  rw [List.length_append, List.length_singleton] at hi
  rw [show i.toNat = Wd.length by omega, List.take_left]
theorem bodyF_at (AL : List ByteArray) (i : Int) (ps : List PP) (h0 : 0 ≤ i) (h1 : i < AL.length) : bodyF (AL.drop i.toNat) i ps = if lineO ps (AL.getD i.toNat eB) = true then bodyF (AL.drop (i + 1).toNat) (i + 1) (lineS ps (AL.getD i.toNat eB)) else (ps, i) := by
  rw [drop_at AL i h0 h1, bodyF]
theorem cmpF_at (AL W : List ByteArray) (i : Int) (h0 : 0 ≤ i) (h1 : i < AL.length) : cmpF (AL.drop i.toNat) (W.drop i.toNat) i = if i < W.length ∧ W.getD i.toNat eB = AL.getD i.toNat eB then cmpF (AL.drop (i + 1).toNat) (W.drop (i + 1).toNat) (i + 1) else some i := by
  rw [drop_at AL i h0 h1, cmpF]
  have e1 : (0 < ((W.drop i.toNat).length : Int)) ↔ i < W.length := by rw [List.length_drop]; omega
  have e2 : (W.drop i.toNat).getD 0 eB = W.getD i.toNat eB := by
    rw [List.getD_eq_getElem?_getD, List.getElem?_drop, List.getD_eq_getElem?_getD, Nat.add_zero]
  rw [e2, List.drop_drop, show i.toNat + 1 = (i + 1).toNat by omega]
  by_cases h : i < W.length ∧ W.getD i.toNat eB = AL.getD i.toNat eB
  · rw [if_pos h, if_pos ⟨e1.2 h.1, h.2⟩]
  · rw [if_neg h, if_neg fun h2 => h ⟨e1.1 h2.1, h2.2⟩]
end
end
end Go.Proofs.YtljmbgilcngfgaaDoor.PA
