/- What this claim uses of this session's own texts, put together by a program: GRj4 GJour0 GJour1 GVfs0 GVfs1 GVfs2 GVfs3 NameIter HVfsN GVfs4 GVfs5 GJour2. -/
import Derived.Test.YtkdahjnmldeklaaGreatKJournalPlays2
import Derived.Test.YtkdahjnmldeklaaGreatProg
import Derived.Test.YtkdahjnmldeklaaGreatRows
namespace Go.Proofs.YtkdahjnmldeklaaGreat.PA
open Go.RowKit Go.Proofs.YtkdahjnmldeklaaGreatW.PrintWords Go.Proofs.YtkdahjnmldeklaaGreatW.PrintLast Go.Proofs.YtkdahjnmldeklaaGreatW.PrintMore
set_option linter.unusedVariables false
set_option linter.unusedSimpArgs false
set_option maxRecDepth 100000
set_option maxHeartbeats 8000000
namespace GRj4_
theorem open_ref (P : Nat → Prop) (Af : Option Addr) (cf : Nat) (files : List S38) (d : PD) (nm : ByteArray) (w : World) (hP : ∀ k, P k → k < w.heap.size) (hF : Kd.F k38 w P Af files.length files) (hcf : files.length ≤ cf) (hA : ∀ ad, Af = some ad → P ad.block) (hlf : files.length ≤ 900000) (hd : files.map ofS = d.fs) (hw : wfD d) (hus : d.used ≤ 900000) (hbb : ByteL (readD nm d).1) :
    Calls Tryz.prog 12 #[.agg #[.slice Af files.length cf, .int .i64 d.most, .int .i64 d.fuse, .bool d.down], .string nm] w fun e w' => JPost P w w' e nm (openJ nm d).1 (fun q_ => (openJ nm d).1.2 = 0 → q_ = (openJ nm d).2.1) := by
 have hbl : ((readD nm d).1.length : Int) ≤ 900000 := Int.le_trans (read_len hw) hus
 have hfl : files.length = d.fs.length := by rw [← hd, List.length_map]
 refine gw_start (N := 69) (vs := [.agg #[.slice Af files.length cf, J d.most, J d.fuse, .bool d.down], .string nm]) Tryz.func12 rfl rfl (by simp) fun a HF HO => ?_
 replace HO : Own w w [] := HO
 refine gR fun K1 hK1 => ?_
 refine gw_new HF HO (want_none rfl) rfl (by decide) (op_box rfl (HF.ev rfl)) ?_
 intro g2 _ w4 H5 O6; clear HF HO
 have O7 : Own w w4 [Bk g2 [.slice Af files.length cf, J d.most, J d.fuse, .bool d.down] 34] := O6
 clear O6
 refine gw_new H5 O7 (want_none rfl) rfl (by decide) (op_alloc gwzer41 rfl) ?_
 intro g8 _ w10 H11 O12; clear H5 O7
 have O13 : Own w w10 [Bk g8 [.slice none 0 0, J 0, J 0, .bool false, .string (⟨#[]⟩ : ByteArray), .slice none 0 0] 41, Bk g2 [.slice Af files.length cf, J d.most, J d.fuse, .bool d.down] 34] := O12
 clear O12
 refine Vc H11 fun _ H15 => ?_
 refine gE hK1 ?_
 refine gR fun K16 hK16 => ?_
 refine V H15 (op_loadn gwagg34 gwsiz34 rfl (H15.ev rfl) (O13.get 1 rfl) rfl rfl) fun _ H18 => ?_
 refine Vm H18 fun _ H20 => ?_
 refine V H20 (op_build (cells := #[.slice Af files.length cf, J d.most, J d.fuse, .bool d.down, .string nm, .slice none 0 0]) rfl (pt_cons (H20.ev rfl) (pt_cons (H20.ev rfl) pt_nil)) (by kernel_rfl)) fun _ H22 => ?_
 clear H11 H15 H18 H20
 refine gw_new H22 O13 (want_none rfl) rfl (by decide) (op_alloc gwzer41 rfl) ?_
 intro g23 _ w25 H26 O27; clear H22 O13
 have O28 : Own w w25 [Bk g23 [.slice none 0 0, J 0, J 0, .bool false, .string (⟨#[]⟩ : ByteArray), .slice none 0 0] 41, Bk g8 [.slice none 0 0, J 0, J 0, .bool false, .string (⟨#[]⟩ : ByteArray), .slice none 0 0] 41, Bk g2 [.slice Af files.length cf, J d.most, J d.fuse, .bool d.down] 34] := O27
 clear O27
 refine gw_setn 0 H26 O28 rfl (want_none rfl) rfl (op_storen gwsiz41 rfl (H26.ev rfl) (H26.ev rfl) (O28.get 0 rfl) rfl (by simp) (by simp [Value.oneCell'])) ?_
 intro _ w31 H30 O32; clear H26 O28
 refine gE hK16 ?_
 refine gR fun K33 hK33 => ?_
 refine V H30 (op_loadn gwagg34 gwsiz34 rfl (H30.ev rfl) (O32.get 2 rfl) rfl rfl) fun _ H35 => ?_
 refine Vm H35 fun _ H37 => ?_
 clear H30 H35
 have hlf1_ : files.length ≤ 1000000 := by omega
 have hFw_ := Kd.F_step hF (fun k_ hk_ _ => O32.below.block k_ (hP k_ hk_))
 have HOr_ := O32
 refine Wk H37 Tryz.func37 rfl (ar_cons (H37.ev rfl) (ar_cons (H37.ev rfl) ar_nil)) (read_refF P Af cf files d nm _ (fun k_ hk_ => Nat.lt_of_lt_of_le (hP k_ hk_) O32.below.size) hFw_ hcf hlf1_ hd) ?_
 rintro e42 w43 ⟨A38, c39, rfl, hC40, hc41, hb44⟩
 refine ⟨_, rfl, fun _ H46 => ?_⟩
 have O47 := O32.after hb44
 clear H37 O32 hb44
 refine Vm H46 fun _ H50 => ?_
 refine Vx H50 fun _ H52 => ?_
 refine Vx H52 fun _ H54 => ?_
 refine Va H54 fun _ H56 => ?_
 refine Va H56 fun _ H58 => ?_
 refine gE hK33 ?_
 clear H46 H50 H52 H54 H56
 refine gw_joinS (fun a_ w_ => ∃ (d1 : PD) (e8 : Int) (f1 : List S38) (A1 : Option Addr) (c1 : Nat) (S1 : Nat → Prop), Fr 69 a_ [(8, J e8), (1, .string nm), (4, .pointer (some ⟨g8, 0, none⟩)), (5, J 0), (6, .pointer (some ⟨g23, 0, none⟩)), (7, .slice A38 ((readD nm d).1.length) c39)] ∧ Own w w_ [Chunk.pview w P k38 S1 A1 f1.length c1 f1, Bk g23 [.slice A1 f1.length c1, J d1.most, J d1.fuse, .bool d1.down, .string nm, .slice none 0 0] 41, Bk g8 [.slice none 0 0, J 0, J 0, .bool false, .string (⟨#[]⟩ : ByteArray), .slice none 0 0] 41, Bk g2 [.slice Af files.length cf, J d.most, J d.fuse, .bool d.down] 34] ∧ (preJ nm d = (d1, e8)) ∧ (f1.map ofS = d1.fs) ∧ (wfD d1) ∧ (d1.used ≤ d.used) ∧ (d1.fs.length ≤ d.fs.length + 1)) ?_ ?_
 ·
  refine gR fun K59 hK59 => ?_
  refine Vm H58 fun _ H61 => ?_
  refine V H61 (op_eqi rfl (H61.ev rfl) (ev_c _ _)) fun _ H63 => ?_
  refine gE hK59 ?_
  clear H58 H61
  refine gw_cond H63 rfl (fun hb64 => ?_) (fun hb64 => ?_)
  ·
   have H65 := H63.subst_ (d := 23) (b := true) rfl hb64
   clear H63
   (try simp only [decide_eq_true_eq] at hb64)
   have h23 := hb64
   refine gR fun K66 hK66 => ?_
   refine Vf H65 (gwfld41_0 _ _) fun _ H68 => ?_
   refine V H68 (op_loadn gwagg34 gwsiz34 rfl (H68.ev rfl) (O47.get 0 rfl) rfl rfl) fun _ H70 => ?_
   refine Vm H70 fun _ H72 => ?_
   refine V H72 (op_build (cells := #[J 1, .string nm, .string (⟨#[]⟩ : ByteArray), J 0, .slice none 0 0]) rfl (pt_cons (ev_c _ _) (pt_cons (H72.ev rfl) pt_nil)) (by kernel_rfl)) fun _ H74 => ?_
   clear H65 H68 H70 H72
   have O75 := Own.pview_arg O47 hF hcf hA
   have O76 : Own w w43 [Chunk.pview w P k38 (fun _ => False) Af files.length cf files, Bk g23 [.slice Af files.length cf, J d.most, J d.fuse, .bool d.down, .string nm, .slice none 0 0] 41, Bk g8 [.slice none 0 0, J 0, J 0, .bool false, .string (⟨#[]⟩ : ByteArray), .slice none 0 0] 41, Bk g2 [.slice Af files.length cf, J d.most, J d.fuse, .bool d.down] 34] := O75
   clear O75
   have hwf82 : wfD (createD nm d).1 := wf_create hw
   have hu83 : (createD nm d).1.used ≤ d.used + 0 := does_used (kd := 1) (A := nm) (Z := (⟨#[]⟩ : ByteArray)) (n := 0) (y := []) hw
   have hu83l : (createD nm d).1.fs.length ≤ d.fs.length + 1 := (kept_create hw.fuse.1).len
   refine Wk H74 Tryz.func38 rfl (ar_cons (H74.ev rfl) (ar_cons (H74.ev rfl) ar_nil)) ((by have h_ := do_pn Af cf files d 1 nm (⟨#[]⟩ : ByteArray) 0 0 hP O76 rfl (by unfold kdOK; decide) (by have h_ := congrArg List.length hd; rw [List.length_map] at h_; omega) hd hw (by omega); rw [show (doesD 1 nm (⟨#[]⟩ : ByteArray) 0 [] d) = (createD nm d) from rfl] at h_; exact h_)) ?_
   rintro e84 w85 ⟨files77, A78, c79, S80, hd81, rfl, hb86⟩
   refine ⟨_, rfl, fun _ H88 => ?_⟩
   have O89 := O76.calls 0 rfl hb86
   clear H74 O76 hb86
   refine Vm H88 fun _ H92 => ?_
   refine Vx H92 fun _ H94 => ?_
   refine Vx H94 fun _ H96 => ?_
   clear H88 H92 H94
   refine gw_new H96 O89 (want_none rfl) rfl (by decide) (op_alloc gwzer34 rfl) ?_
   intro g97 _ w99 H100 O101; clear H96 O89
   have O102 : Own w w99 [Bk g97 [.slice none 0 0, J 0, J 0, .bool false] 34, Chunk.pview w P k38 S80 A78 files77.length c79 files77, Bk g23 [.slice Af files.length cf, J d.most, J d.fuse, .bool d.down, .string nm, .slice none 0 0] 41, Bk g8 [.slice none 0 0, J 0, J 0, .bool false, .string (⟨#[]⟩ : ByteArray), .slice none 0 0] 41, Bk g2 [.slice Af files.length cf, J d.most, J d.fuse, .bool d.down] 34] := O101
   clear O101
   refine gw_setn 0 H100 O102 rfl (want_none rfl) rfl (op_storen gwsiz34 rfl (H100.ev rfl) (H100.ev rfl) (O102.get 0 rfl) rfl (by simp) (by simp [Value.oneCell'])) ?_
   intro _ w105 H104 O106; clear H100 O102
   refine Va H104 fun _ H108 => ?_
   refine gE hK66 ?_
   refine gR fun K109 hK109 => ?_
   refine V H108 (op_loadn gwagg34 gwsiz34 rfl (H108.ev rfl) (O106.get 0 rfl) rfl rfl) fun _ H111 => ?_
   refine Vf H111 (gwfld41_0 _ _) fun _ H113 => ?_
   clear H104 H108 H111
   refine gw_setn 2 H113 O106 rfl (want_none rfl) rfl (op_storen gwsiz34 rfl (H113.ev rfl) (H113.ev rfl) (O106.get 2 rfl) rfl (by simp) (by simp [Value.oneCell'])) ?_
   intro _ w116 H115 O117; clear H113 O106
   refine gE hK109 ?_
   refine wp_region_lit ?_
   refine Vm H115 fun _ H119 => ?_
   refine Va H119 fun _ H121 => ?_
   clear H115 H119
   refine wpList_nil ?_
   refine gw_nx ⟨((createD nm d).1), ((createD nm d).2), files77, A78, c79, S80, (H121.pick (t := 8) rfl (H121.pick (t := 1) rfl (H121.pick (t := 4) rfl (H121.pick (t := 5) rfl (H121.pick (t := 6) rfl (H121.pick (t := 7) rfl H121.nil)))))), O117.sel [1, 2, 3, 4] (by decide), ?_, ?_, ?_, ?_, ?_⟩
   ·
    unfold preJ; exact if_pos h23
   ·
    exact hd81
   ·
    exact hwf82
   ·
    omega
   exact hu83l
  have H122 := H63.subst_ (d := 23) (b := false) rfl hb64
  clear H63
  (try simp only [decide_eq_false_iff_not] at hb64)
  have h23 := hb64
  refine wp_skip ?_
  have O123 := Own.pview_arg O47 hF hcf hA
  have O124 : Own w w43 [Chunk.pview w P k38 (fun _ => False) Af files.length cf files, Bk g23 [.slice Af files.length cf, J d.most, J d.fuse, .bool d.down, .string nm, .slice none 0 0] 41, Bk g8 [.slice none 0 0, J 0, J 0, .bool false, .string (⟨#[]⟩ : ByteArray), .slice none 0 0] 41, Bk g2 [.slice Af files.length cf, J d.most, J d.fuse, .bool d.down] 34] := O123
  clear O123
  refine gw_nx ⟨d, ((readD nm d).2), files, Af, cf, (fun _ => False), (H122.pick (t := 8) rfl (H122.pick (t := 1) rfl (H122.pick (t := 4) rfl (H122.pick (t := 5) rfl (H122.pick (t := 6) rfl (H122.pick (t := 7) rfl H122.nil)))))), O124.sel [0, 1, 2, 3] (by decide), ?_, ?_, ?_, ?_, ?_⟩
  ·
   unfold preJ; exact if_neg h23
  ·
   exact hd
  ·
   exact hw
  ·
   exact Int.le_refl _
  exact Nat.le_succ _
 rintro _ w126 ⟨d1, e8, f1, A1, c1, S1, H127, O128, hpre, hd1, hw1, hu1, hl1⟩
 refine gw_seq fun K129 hK129 => ?_
 refine gR fun K130 hK130 => ?_
 refine Vm H127 fun _ H132 => ?_
 refine V H132 (op_nei rfl (H132.ev rfl) (ev_c _ _)) fun _ H134 => ?_
 refine gE hK130 ?_
 clear H127 H132
 refine gw_cond H134 rfl (fun hb135 => ?_) (fun hb135 => ?_)
 ·
  have H136 := H134.subst_ (d := 36) (b := true) rfl hb135
  clear H134
  (try simp only [decide_eq_true_eq, ne_eq] at hb135)
  have hne := hb135
  refine gR fun K137 hK137 => ?_
  refine V H136 (op_loadn gwagg41 gwsiz41 rfl (H136.ev rfl) (O128.get 1 rfl) rfl rfl) fun _ H139 => ?_
  refine Vm H139 fun _ H141 => ?_
  clear H136 H139
  refine gw_setn 2 H141 O128 rfl (want_none rfl) rfl (op_storen gwsiz41 rfl (H141.ev rfl) (H141.ev rfl) (O128.get 2 rfl) rfl (by simp) (by simp [Value.oneCell'])) ?_
  intro _ w144 H143 O145; clear H141 O128
  refine Va H143 fun _ H147 => ?_
  refine gE hK137 ?_
  refine wp_ret ?_
  clear H143
  refine gw_thr ?_
  refine gw_rets2 H147 rfl (rv_celln H147 rfl gwagg41 gwsiz41 (O145.get 2 rfl) rfl) (rv_tmp H147 rfl) ?_
  exact jpost_of (d2 := d1) (its := []) O145 (by rw [open1 hpre hne]) ⟨rfl, rfl, rfl⟩ hd1 (fun h_ => absurd h_ (by rw [open1 hpre hne]; exact hne)) (led_pview (i := 0) O145 hP rfl) (led_nil O145)
 have H148 := H134.subst_ (d := 36) (b := false) rfl hb135
 clear H134
 (try simp only [decide_eq_false_iff_not, ne_eq, Decidable.not_not] at hb135)
 have he8 := hb135
 refine gS hK129 ?_
 refine gR fun K149 hK149 => ?_
 refine Vm H148 fun _ H151 => ?_
 clear H148
 refine Wk H151 Tryz.func39 rfl (ar_cons (H151.ev rfl) ar_nil) (scan_own _ hP O128 (fun w_ h1_ h2_ => scan_ref P A38 c39 ((readD nm d).1) w_ h1_ h2_ hc41 hbb (by omega)) (Kd.F_step hC40 (fun k_ hk_ _ => (HOr_.below.block k_ (hP k_ hk_)).symm))) ?_
 rintro e157 w158 ⟨its152, Ai153, ci154, S155, hs156, rfl, hb159⟩
 refine ⟨_, rfl, fun _ H161 => ?_⟩
 have O162 := O128.fresh hb159
 clear H151 O128 hb159
 have hsz : scanJ (readD nm d).1 = (its152.map toI, ((recsJ (its152.map toI)).length : Int)) := by rw [hs156]; exact Prod.ext rfl (scanJ_size hbb)
 have hsok := scan_ok ((readD nm d).1.length + 1) (readD nm d).1 [] 0 hbb (by omega) (fun x_ hx_ => by simp at hx_) List.Pairwise.nil
 have hok_ : ∀ x_ ∈ its152.map toI, okI x_ := by rw [hs156]; exact hsok.1
 have hsl := scan_small (b := (readD nm d).1) hbb (by omega)
 rw [hsz] at hsl
 simp only [List.length_map] at hsl
 refine Vf H161 (gwfld41_2 _ _) fun _ H165 => ?_
 clear H161
 refine gw_set 2 H165 O162 rfl (want_none rfl) rfl (op_store1 gwsiz39 rfl (H165.ev rfl) (H165.ev rfl) rfl (blk_at (O162.get 2 rfl) rfl) (blkf (O162.get 2 rfl))) ?_
 intro _ w168 H167 O169; clear H165 O162
 refine gE hK149 ?_
 refine gw_seq fun K170 hK170 => ?_
 refine gR fun K171 hK171 => ?_
 refine Vf H167 (gwfld41_2 _ _) fun _ H173 => ?_
 refine Vl H173 gwagg39 (O169.get 2 rfl) fun _ H175 => ?_
 clear H167 H173
 refine Wk H175 Tryz.func40 rfl (ar_cons (H175.ev rfl) ar_nil) (size_ref Ai153 ci154 its152  _ (pview_C (i := 0) O169 hP rfl) (pview_le (O169.get 0 rfl)) (by omega) hok_ (by omega)) ?_
 rintro e176 w177 ⟨rfl, hb178⟩
 refine ⟨_, rfl, fun _ H180 => ?_⟩
 have O181 := O169.after hb178
 clear H175 O169 hb178
 refine Vm H180 fun _ H184 => ?_
 refine V H184 (op_len Tryz.underlying22 rfl (H184.ev rfl)) fun _ H186 => ?_
 refine V H186 (op_lss rfl (H186.ev rfl) (H186.ev rfl)) fun _ H188 => ?_
 refine gE hK171 ?_
 clear H180 H184 H186
 refine gw_cond H188 rfl (fun hb189 => ?_) (fun hb189 => ?_)
 ·
  have H190 := H188.subst_ (d := 47) (b := true) rfl hb189
  clear H188
  (try simp only [decide_eq_true_eq] at hb189)
  have hlt := hb189
  refine gw_joinS (fun a_ w_ => ∃ (fl : List S38) (Al : Option Addr) (cl : Nat) (Sl : Nat → Prop) (g6 : Nat), Fr 69 a_ [(11, .pointer (some ⟨g6, 0, none⟩)), (12, J ((cutD nm ((recsJ (its152.map toI)).length : Int) d1).2)), (4, .pointer (some ⟨g8, 0, none⟩)), (5, J 0), (6, .pointer (some ⟨g23, 0, none⟩))] ∧ Own w w_ [Chunk.pview w P k54 S155 Ai153 its152.length ci154 its152, Bk g23 [.slice A1 f1.length c1, J d1.most, J d1.fuse, .bool d1.down, .string nm, .slice Ai153 its152.length ci154] 41, Bk g8 [.slice none 0 0, J 0, J 0, .bool false, .string (⟨#[]⟩ : ByteArray), .slice none 0 0] 41, Bk g2 [.slice Af files.length cf, J d.most, J d.fuse, .bool d.down] 34, Chunk.pview w P k38 Sl Al fl.length cl fl, Bk g6 [.slice Al fl.length cl, J ((cutD nm ((recsJ (its152.map toI)).length : Int) d1).1.most), J ((cutD nm ((recsJ (its152.map toI)).length : Int) d1).1.fuse), .bool ((cutD nm ((recsJ (its152.map toI)).length : Int) d1).1.down)] 34] ∧ (fl.map ofS = (cutD nm ((recsJ (its152.map toI)).length : Int) d1).1.fs) ∧ (wfD (cutD nm ((recsJ (its152.map toI)).length : Int) d1).1) ∧ ((cutD nm ((recsJ (its152.map toI)).length : Int) d1).1.used ≤ d1.used + 0) ∧ ((cutD nm ((recsJ (its152.map toI)).length : Int) d1).1.fs.length ≤ d1.fs.length + 1)) ?_ ?_
  ·
   refine gx_draw (M := [Chunk.pview w P k54 S155 Ai153 its152.length ci154 its152, Bk g23 [.slice A1 f1.length c1, J d1.most, J d1.fuse, .bool d1.down, .string nm, .slice Ai153 its152.length ci154] 41, Bk g8 [.slice none 0 0, J 0, J 0, .bool false, .string (⟨#[]⟩ : ByteArray), .slice none 0 0] 41, Bk g2 [.slice Af files.length cf, J d.most, J d.fuse, .bool d.down] 34]) (fun j_ => j_ == 12) O181 (by kernel_rfl) fun w191 O192 => ?_
   clear O181
   refine gx_take 0 rfl (by kernel_rfl) H190 (by exact O192.sel [0, 2, 3, 4] (by decide)) (want_none rfl) rfl (by decide) (fun wq HO => (op_field (gwfld41_0 _ _) rfl (H190.ev rfl))) ?_
   intro _ H194; clear H190
   refine gx_take 1 rfl (by kernel_rfl) H194 (by exact O192.sel [0, 2, 3, 4] (by decide)) (want_none rfl) rfl (by decide) (fun wq HO => (op_loadn gwagg34 gwsiz34 rfl (H194.ev rfl) (HO.get 1 rfl) rfl rfl)) ?_
   intro _ H196; clear H194
   refine gx_take 2 rfl (by kernel_rfl) H196 (by exact O192.sel [0, 2, 3, 4] (by decide)) (want_none rfl) rfl (by decide) (fun wq HO => (op_move rfl (H196.ev rfl))) ?_
   intro _ H198; clear H196
   refine gx_take 3 rfl (by kernel_rfl) H198 (by exact O192.sel [0, 2, 3, 4] (by decide)) (want_none rfl) rfl (by decide) (fun wq HO => (op_field (gwfld41_2 _ _) rfl (H198.ev rfl))) ?_
   intro _ H200; clear H198
   refine gx_take 4 rfl (by kernel_rfl) H200 (by exact O192.sel [0, 2, 3, 4] (by decide)) (want_none rfl) rfl (by decide) (fun wq HO => (op_load1 gwagg39 rfl (H200.ev rfl) (blk_at (HO.get 1 rfl) rfl))) ?_
   intro _ H202; clear H200
   refine gx_step2 5 11 rfl rfl (by kernel_rfl) ?_ ?_
   ·
    refine Wk H202 Tryz.func40 rfl (ar_cons (H202.ev rfl) ar_nil) (size_ref Ai153 ci154 its152  _ (pview_C (i := 0) O192 hP rfl) (pview_le (O192.get 0 rfl)) (by omega) hok_ (by omega)) ?_
    rintro e203 w204 ⟨rfl, hb205⟩
    refine ⟨_, rfl, fun _ H207 => ?_⟩
    have O208 := O192.after hb205
    clear H202 O192 hb205
    refine gx_on (i := 5) (B := (fun j_ => j_ == 12)) (fun _ => (by exact O208.sel [0, 2, 3, 4] (by decide))) ?_
    refine gx_take 6 rfl (by kernel_rfl) H207 (by exact O208.sel [0, 2, 3, 4] (by decide)) (want_none rfl) rfl (by decide) (fun wq HO => (op_build (cells := #[J 5, .string nm, .string (⟨#[]⟩ : ByteArray), J ((recsJ (its152.map toI)).length : Int), .slice none 0 0]) rfl (pt_cons (ev_c _ _) (pt_cons (H207.ev rfl) (pt_cons (H207.ev rfl) pt_nil))) (by kernel_rfl))) ?_
    intro _ H211; clear H207
    refine gx_step2 7 11 rfl rfl (by kernel_rfl) ?_ ?_
    ·
     have hwf217 : wfD (cutD nm ((recsJ (its152.map toI)).length : Int) d1).1 := wf_cut hw1
     have hu218 : (cutD nm ((recsJ (its152.map toI)).length : Int) d1).1.used ≤ d1.used + 0 := does_used (kd := 5) (A := nm) (Z := (⟨#[]⟩ : ByteArray)) (n := ((recsJ (its152.map toI)).length : Int)) (y := []) hw1
     have hu218l : (cutD nm ((recsJ (its152.map toI)).length : Int) d1).1.fs.length ≤ d1.fs.length + 1 := (kept_cut hw1.fuse.1).len
     refine Wk H211 Tryz.func38 rfl (ar_cons (H211.ev rfl) (ar_cons (H211.ev rfl) ar_nil)) ((by have h_ := do_pn A1 c1 f1 d1 5 nm (⟨#[]⟩ : ByteArray) ((recsJ (its152.map toI)).length : Int) 1 hP O208 rfl (by unfold kdOK; decide) (by have h_ := congrArg List.length hd1; rw [List.length_map] at h_; omega) hd1 hw1 (by omega); rw [show (doesD 5 nm (⟨#[]⟩ : ByteArray) ((recsJ (its152.map toI)).length : Int) [] d1) = (cutD nm ((recsJ (its152.map toI)).length : Int) d1) from rfl] at h_; exact h_)) ?_
     rintro e219 w220 ⟨files212, A213, c214, S215, hd216, rfl, hb221⟩
     refine ⟨_, rfl, fun _ H223 => ?_⟩
     have O224 := O208.calls 1 rfl hb221
     clear H211 O208 hb221
     have O226 : Own w w220 [Chunk.pview w P k54 S155 Ai153 its152.length ci154 its152, Chunk.pview w P k38 S215 A213 files212.length c214 files212, Bk g23 [.slice A1 f1.length c1, J d1.most, J d1.fuse, .bool d1.down, .string nm, .slice Ai153 its152.length ci154] 41, Bk g8 [.slice none 0 0, J 0, J 0, .bool false, .string (⟨#[]⟩ : ByteArray), .slice none 0 0] 41, Bk g2 [.slice Af files.length cf, J d.most, J d.fuse, .bool d.down] 34] := O224
     clear O224
     refine gx_on (i := 7) (B := (fun j_ => j_ == 12)) (fun _ => (by exact O226.sel [0, 2, 3, 4] (by decide))) ?_
     refine gx_take 8 rfl (by kernel_rfl) H223 (by exact O226.sel [0, 2, 3, 4] (by decide)) (want_none rfl) rfl (by decide) (fun wq HO => (op_move rfl (H223.ev rfl))) ?_
     intro _ H228; clear H223
     refine gx_take 9 rfl (by kernel_rfl) H228 (by exact O226.sel [0, 2, 3, 4] (by decide)) (want_none rfl) rfl (by decide) (fun wq HO => (op_extract rfl (H228.ev rfl) rfl)) ?_
     intro _ H230; clear H228
     refine gx_step2 10 11 rfl rfl (by kernel_rfl) ?_ ?_
     ·
      refine Vx H230 fun _ H232 => ?_
      clear H230
      refine gx_on (i := 10) (B := (fun j_ => j_ == 12)) (fun _ => (by exact O226.sel [0, 2, 3, 4] (by decide))) ?_
      refine gx_step 11 rfl (by kernel_rfl) ?_
      refine gw_new H232 O226 (want_none rfl) rfl (by decide) (op_alloc gwzer34 rfl) ?_
      intro g233 _ w235 H236 O237; clear H232 O226
      have O238 : Own w w235 [Bk g233 [.slice none 0 0, J 0, J 0, .bool false] 34, Chunk.pview w P k54 S155 Ai153 its152.length ci154 its152, Chunk.pview w P k38 S215 A213 files212.length c214 files212, Bk g23 [.slice A1 f1.length c1, J d1.most, J d1.fuse, .bool d1.down, .string nm, .slice Ai153 its152.length ci154] 41, Bk g8 [.slice none 0 0, J 0, J 0, .bool false, .string (⟨#[]⟩ : ByteArray), .slice none 0 0] 41, Bk g2 [.slice Af files.length cf, J d.most, J d.fuse, .bool d.down] 34] := O237
      clear O237
      refine gx_on (i := 11) (B := (fun j_ => j_ == 12)) (fun _ => (by exact O238.sel [1, 3, 4, 5] (by decide))) ?_
      refine gx_step 12 rfl (by kernel_rfl) ?_
      refine gw_setn 0 H236 O238 rfl (want_none rfl) rfl (op_storen gwsiz34 rfl (H236.ev rfl) (H236.ev rfl) (O238.get 0 rfl) rfl (by simp) (by simp [Value.oneCell'])) ?_
      intro _ w241 H240 O242; clear H236 O238
      refine gx_on (i := 12) (B := (fun j_ => j_ == 12)) (fun h_ => by cases h_) ?_
      refine gx_step 13 rfl (by kernel_rfl) ?_
      refine Va H240 fun _ H244 => ?_
      clear H240
      refine gx_on (i := 13) (B := (fun j_ => j_ == 12)) (fun _ => (by exact O242.sel [1, 3, 4, 5] (by decide))) ?_
      refine gx_done (by kernel_rfl) ?_
      refine gw_nx ⟨files212, A213, c214, S215, g233, (H244.pick (t := 11) rfl (H244.pick (t := 12) rfl (H244.pick (t := 4) rfl (H244.pick (t := 5) rfl (H244.pick (t := 6) rfl H244.nil))))), O242.sel [1, 3, 4, 5, 2, 0] (by decide), ?_, ?_, ?_, ?_⟩
      ·
       exact hd216
      ·
       exact hwf217
      ·
       exact hu218
      exact hu218l
     refine gw_new H230 O226 (want_none rfl) rfl (by decide) (op_alloc gwzer34 rfl) ?_
     intro g245 _ w247 H248 O249; clear H230 O226
     have O250 : Own w w247 [Bk g245 [.slice none 0 0, J 0, J 0, .bool false] 34, Chunk.pview w P k54 S155 Ai153 its152.length ci154 its152, Chunk.pview w P k38 S215 A213 files212.length c214 files212, Bk g23 [.slice A1 f1.length c1, J d1.most, J d1.fuse, .bool d1.down, .string nm, .slice Ai153 its152.length ci154] 41, Bk g8 [.slice none 0 0, J 0, J 0, .bool false, .string (⟨#[]⟩ : ByteArray), .slice none 0 0] 41, Bk g2 [.slice Af files.length cf, J d.most, J d.fuse, .bool d.down] 34] := O249
     clear O249
     refine gx_on (i := 11) (B := (fun j_ => j_ == 12)) (fun _ => (by exact O250.sel [1, 3, 4, 5] (by decide))) ?_
     refine gx_step2 10 12 rfl rfl (by kernel_rfl) ?_ ?_
     ·
      refine Vx H248 fun _ H252 => ?_
      clear H248
      refine gx_on (i := 10) (B := (fun j_ => j_ == 12)) (fun _ => (by exact O250.sel [1, 3, 4, 5] (by decide))) ?_
      refine gx_step 12 rfl (by kernel_rfl) ?_
      refine gw_setn 0 H252 O250 rfl (want_none rfl) rfl (op_storen gwsiz34 rfl (H252.ev rfl) (H252.ev rfl) (O250.get 0 rfl) rfl (by simp) (by simp [Value.oneCell'])) ?_
      intro _ w255 H254 O256; clear H252 O250
      refine gx_on (i := 12) (B := (fun j_ => j_ == 12)) (fun h_ => by cases h_) ?_
      refine gx_step 13 rfl (by kernel_rfl) ?_
      refine Va H254 fun _ H258 => ?_
      clear H254
      refine gx_on (i := 13) (B := (fun j_ => j_ == 12)) (fun _ => (by exact O256.sel [1, 3, 4, 5] (by decide))) ?_
      refine gx_done (by kernel_rfl) ?_
      refine gw_nx ⟨files212, A213, c214, S215, g245, (H258.pick (t := 11) rfl (H258.pick (t := 12) rfl (H258.pick (t := 4) rfl (H258.pick (t := 5) rfl (H258.pick (t := 6) rfl H258.nil))))), O256.sel [1, 3, 4, 5, 2, 0] (by decide), ?_, ?_, ?_, ?_⟩
      ·
       exact hd216
      ·
       exact hwf217
      ·
       exact hu218
      exact hu218l
     refine gw_setn 0 H248 O250 rfl (want_none rfl) rfl (op_storen gwsiz34 rfl (H248.ev rfl) (H248.ev rfl) (O250.get 0 rfl) rfl (by simp) (by simp [Value.oneCell'])) ?_
     intro _ w261 H260 O262; clear H248 O250
     refine gx_on (i := 12) (B := (fun j_ => j_ == 12)) (fun h_ => by cases h_) ?_
     refine gx_step 10 rfl (by kernel_rfl) ?_
     refine Vx H260 fun _ H264 => ?_
     clear H260
     refine gx_on (i := 10) (B := (fun j_ => j_ == 12)) (fun _ => (by exact O262.sel [1, 3, 4, 5] (by decide))) ?_
     refine gx_step 13 rfl (by kernel_rfl) ?_
     refine Va H264 fun _ H266 => ?_
     clear H264
     refine gx_on (i := 13) (B := (fun j_ => j_ == 12)) (fun _ => (by exact O262.sel [1, 3, 4, 5] (by decide))) ?_
     refine gx_done (by kernel_rfl) ?_
     refine gw_nx ⟨files212, A213, c214, S215, g245, (H266.pick (t := 11) rfl (H266.pick (t := 12) rfl (H266.pick (t := 4) rfl (H266.pick (t := 5) rfl (H266.pick (t := 6) rfl H266.nil))))), O262.sel [1, 3, 4, 5, 2, 0] (by decide), ?_, ?_, ?_, ?_⟩
     ·
      exact hd216
     ·
      exact hwf217
     ·
      exact hu218
     exact hu218l
    refine gw_new H211 O208 (want_none rfl) rfl (by decide) (op_alloc gwzer34 rfl) ?_
    intro g267 _ w269 H270 O271; clear H211 O208
    have O272 : Own w w269 [Bk g267 [.slice none 0 0, J 0, J 0, .bool false] 34, Chunk.pview w P k54 S155 Ai153 its152.length ci154 its152, Chunk.pview w P k38 S1 A1 f1.length c1 f1, Bk g23 [.slice A1 f1.length c1, J d1.most, J d1.fuse, .bool d1.down, .string nm, .slice Ai153 its152.length ci154] 41, Bk g8 [.slice none 0 0, J 0, J 0, .bool false, .string (⟨#[]⟩ : ByteArray), .slice none 0 0] 41, Bk g2 [.slice Af files.length cf, J d.most, J d.fuse, .bool d.down] 34] := O271
    clear O271
    refine gx_on (i := 11) (B := (fun j_ => j_ == 12)) (fun _ => (by exact O272.sel [1, 3, 4, 5] (by decide))) ?_
    refine gx_step 7 rfl (by kernel_rfl) ?_
    have hwf278 : wfD (cutD nm ((recsJ (its152.map toI)).length : Int) d1).1 := wf_cut hw1
    have hu279 : (cutD nm ((recsJ (its152.map toI)).length : Int) d1).1.used ≤ d1.used + 0 := does_used (kd := 5) (A := nm) (Z := (⟨#[]⟩ : ByteArray)) (n := ((recsJ (its152.map toI)).length : Int)) (y := []) hw1
    have hu279l : (cutD nm ((recsJ (its152.map toI)).length : Int) d1).1.fs.length ≤ d1.fs.length + 1 := (kept_cut hw1.fuse.1).len
    refine Wk H270 Tryz.func38 rfl (ar_cons (H270.ev rfl) (ar_cons (H270.ev rfl) ar_nil)) ((by have h_ := do_pn A1 c1 f1 d1 5 nm (⟨#[]⟩ : ByteArray) ((recsJ (its152.map toI)).length : Int) 2 hP O272 rfl (by unfold kdOK; decide) (by have h_ := congrArg List.length hd1; rw [List.length_map] at h_; omega) hd1 hw1 (by omega); rw [show (doesD 5 nm (⟨#[]⟩ : ByteArray) ((recsJ (its152.map toI)).length : Int) [] d1) = (cutD nm ((recsJ (its152.map toI)).length : Int) d1) from rfl] at h_; exact h_)) ?_
    rintro e280 w281 ⟨files273, A274, c275, S276, hd277, rfl, hb282⟩
    refine ⟨_, rfl, fun _ H284 => ?_⟩
    have O285 := O272.calls 2 rfl hb282
    clear H270 O272 hb282
    refine gx_on (i := 7) (B := (fun j_ => j_ == 12)) (fun _ => (by exact O285.sel [1, 3, 4, 5] (by decide))) ?_
    refine gx_take 8 rfl (by kernel_rfl) H284 (by exact O285.sel [1, 3, 4, 5] (by decide)) (want_none rfl) rfl (by decide) (fun wq HO => (op_move rfl (H284.ev rfl))) ?_
    intro _ H288; clear H284
    refine gx_take 9 rfl (by kernel_rfl) H288 (by exact O285.sel [1, 3, 4, 5] (by decide)) (want_none rfl) rfl (by decide) (fun wq HO => (op_extract rfl (H288.ev rfl) rfl)) ?_
    intro _ H290; clear H288
    refine gx_step2 10 12 rfl rfl (by kernel_rfl) ?_ ?_
    ·
     refine Vx H290 fun _ H292 => ?_
     clear H290
     refine gx_on (i := 10) (B := (fun j_ => j_ == 12)) (fun _ => (by exact O285.sel [1, 3, 4, 5] (by decide))) ?_
     refine gx_step 12 rfl (by kernel_rfl) ?_
     refine gw_setn 0 H292 O285 rfl (want_none rfl) rfl (op_storen gwsiz34 rfl (H292.ev rfl) (H292.ev rfl) (O285.get 0 rfl) rfl (by simp) (by simp [Value.oneCell'])) ?_
     intro _ w295 H294 O296; clear H292 O285
     refine gx_on (i := 12) (B := (fun j_ => j_ == 12)) (fun h_ => by cases h_) ?_
     refine gx_step 13 rfl (by kernel_rfl) ?_
     refine Va H294 fun _ H298 => ?_
     clear H294
     refine gx_on (i := 13) (B := (fun j_ => j_ == 12)) (fun _ => (by exact O296.sel [1, 3, 4, 5] (by decide))) ?_
     refine gx_done (by kernel_rfl) ?_
     refine gw_nx ⟨files273, A274, c275, S276, g267, (H298.pick (t := 11) rfl (H298.pick (t := 12) rfl (H298.pick (t := 4) rfl (H298.pick (t := 5) rfl (H298.pick (t := 6) rfl H298.nil))))), O296.sel [1, 3, 4, 5, 2, 0] (by decide), ?_, ?_, ?_, ?_⟩
     ·
      exact hd277
     ·
      exact hwf278
     ·
      exact hu279
     exact hu279l
    refine gw_setn 0 H290 O285 rfl (want_none rfl) rfl (op_storen gwsiz34 rfl (H290.ev rfl) (H290.ev rfl) (O285.get 0 rfl) rfl (by simp) (by simp [Value.oneCell'])) ?_
    intro _ w301 H300 O302; clear H290 O285
    refine gx_on (i := 12) (B := (fun j_ => j_ == 12)) (fun h_ => by cases h_) ?_
    refine gx_step 10 rfl (by kernel_rfl) ?_
    refine Vx H300 fun _ H304 => ?_
    clear H300
    refine gx_on (i := 10) (B := (fun j_ => j_ == 12)) (fun _ => (by exact O302.sel [1, 3, 4, 5] (by decide))) ?_
    refine gx_step 13 rfl (by kernel_rfl) ?_
    refine Va H304 fun _ H306 => ?_
    clear H304
    refine gx_on (i := 13) (B := (fun j_ => j_ == 12)) (fun _ => (by exact O302.sel [1, 3, 4, 5] (by decide))) ?_
    refine gx_done (by kernel_rfl) ?_
    refine gw_nx ⟨files273, A274, c275, S276, g267, (H306.pick (t := 11) rfl (H306.pick (t := 12) rfl (H306.pick (t := 4) rfl (H306.pick (t := 5) rfl (H306.pick (t := 6) rfl H306.nil))))), O302.sel [1, 3, 4, 5, 2, 0] (by decide), ?_, ?_, ?_, ?_⟩
    ·
     exact hd277
    ·
     exact hwf278
    ·
     exact hu279
    exact hu279l
   refine gw_new H202 O192 (want_none rfl) rfl (by decide) (op_alloc gwzer34 rfl) ?_
   intro g307 _ w309 H310 O311; clear H202 O192
   have O312 : Own w w309 [Bk g307 [.slice none 0 0, J 0, J 0, .bool false] 34, Chunk.pview w P k54 S155 Ai153 its152.length ci154 its152, Chunk.pview w P k38 S1 A1 f1.length c1 f1, Bk g23 [.slice A1 f1.length c1, J d1.most, J d1.fuse, .bool d1.down, .string nm, .slice Ai153 its152.length ci154] 41, Bk g8 [.slice none 0 0, J 0, J 0, .bool false, .string (⟨#[]⟩ : ByteArray), .slice none 0 0] 41, Bk g2 [.slice Af files.length cf, J d.most, J d.fuse, .bool d.down] 34] := O311
   clear O311
   refine gx_on (i := 11) (B := (fun j_ => j_ == 12)) (fun _ => (by exact O312.sel [1, 3, 4, 5] (by decide))) ?_
   refine gx_step 5 rfl (by kernel_rfl) ?_
   refine Wk H310 Tryz.func40 rfl (ar_cons (H310.ev rfl) ar_nil) (size_ref Ai153 ci154 its152  _ (pview_C (i := 1) O312 hP rfl) (pview_le (O312.get 1 rfl)) (by omega) hok_ (by omega)) ?_
   rintro e313 w314 ⟨rfl, hb315⟩
   refine ⟨_, rfl, fun _ H317 => ?_⟩
   have O318 := O312.after hb315
   clear H310 O312 hb315
   refine gx_on (i := 5) (B := (fun j_ => j_ == 12)) (fun _ => (by exact O318.sel [1, 3, 4, 5] (by decide))) ?_
   refine gx_take 6 rfl (by kernel_rfl) H317 (by exact O318.sel [1, 3, 4, 5] (by decide)) (want_none rfl) rfl (by decide) (fun wq HO => (op_build (cells := #[J 5, .string nm, .string (⟨#[]⟩ : ByteArray), J ((recsJ (its152.map toI)).length : Int), .slice none 0 0]) rfl (pt_cons (ev_c _ _) (pt_cons (H317.ev rfl) (pt_cons (H317.ev rfl) pt_nil))) (by kernel_rfl))) ?_
   intro _ H321; clear H317
   refine gx_step 7 rfl (by kernel_rfl) ?_
   have hwf327 : wfD (cutD nm ((recsJ (its152.map toI)).length : Int) d1).1 := wf_cut hw1
   have hu328 : (cutD nm ((recsJ (its152.map toI)).length : Int) d1).1.used ≤ d1.used + 0 := does_used (kd := 5) (A := nm) (Z := (⟨#[]⟩ : ByteArray)) (n := ((recsJ (its152.map toI)).length : Int)) (y := []) hw1
   have hu328l : (cutD nm ((recsJ (its152.map toI)).length : Int) d1).1.fs.length ≤ d1.fs.length + 1 := (kept_cut hw1.fuse.1).len
   refine Wk H321 Tryz.func38 rfl (ar_cons (H321.ev rfl) (ar_cons (H321.ev rfl) ar_nil)) ((by have h_ := do_pn A1 c1 f1 d1 5 nm (⟨#[]⟩ : ByteArray) ((recsJ (its152.map toI)).length : Int) 2 hP O318 rfl (by unfold kdOK; decide) (by have h_ := congrArg List.length hd1; rw [List.length_map] at h_; omega) hd1 hw1 (by omega); rw [show (doesD 5 nm (⟨#[]⟩ : ByteArray) ((recsJ (its152.map toI)).length : Int) [] d1) = (cutD nm ((recsJ (its152.map toI)).length : Int) d1) from rfl] at h_; exact h_)) ?_
   rintro e329 w330 ⟨files322, A323, c324, S325, hd326, rfl, hb331⟩
   refine ⟨_, rfl, fun _ H333 => ?_⟩
   have O334 := O318.calls 2 rfl hb331
   clear H321 O318 hb331
   refine gx_on (i := 7) (B := (fun j_ => j_ == 12)) (fun _ => (by exact O334.sel [1, 3, 4, 5] (by decide))) ?_
   refine gx_take 8 rfl (by kernel_rfl) H333 (by exact O334.sel [1, 3, 4, 5] (by decide)) (want_none rfl) rfl (by decide) (fun wq HO => (op_move rfl (H333.ev rfl))) ?_
   intro _ H337; clear H333
   refine gx_take 9 rfl (by kernel_rfl) H337 (by exact O334.sel [1, 3, 4, 5] (by decide)) (want_none rfl) rfl (by decide) (fun wq HO => (op_extract rfl (H337.ev rfl) rfl)) ?_
   intro _ H339; clear H337
   refine gx_step2 10 12 rfl rfl (by kernel_rfl) ?_ ?_
   ·
    refine Vx H339 fun _ H341 => ?_
    clear H339
    refine gx_on (i := 10) (B := (fun j_ => j_ == 12)) (fun _ => (by exact O334.sel [1, 3, 4, 5] (by decide))) ?_
    refine gx_step 12 rfl (by kernel_rfl) ?_
    refine gw_setn 0 H341 O334 rfl (want_none rfl) rfl (op_storen gwsiz34 rfl (H341.ev rfl) (H341.ev rfl) (O334.get 0 rfl) rfl (by simp) (by simp [Value.oneCell'])) ?_
    intro _ w344 H343 O345; clear H341 O334
    refine gx_on (i := 12) (B := (fun j_ => j_ == 12)) (fun h_ => by cases h_) ?_
    refine gx_step 13 rfl (by kernel_rfl) ?_
    refine Va H343 fun _ H347 => ?_
    clear H343
    refine gx_on (i := 13) (B := (fun j_ => j_ == 12)) (fun _ => (by exact O345.sel [1, 3, 4, 5] (by decide))) ?_
    refine gx_done (by kernel_rfl) ?_
    refine gw_nx ⟨files322, A323, c324, S325, g307, (H347.pick (t := 11) rfl (H347.pick (t := 12) rfl (H347.pick (t := 4) rfl (H347.pick (t := 5) rfl (H347.pick (t := 6) rfl H347.nil))))), O345.sel [1, 3, 4, 5, 2, 0] (by decide), ?_, ?_, ?_, ?_⟩
    ·
     exact hd326
    ·
     exact hwf327
    ·
     exact hu328
    exact hu328l
   refine gw_setn 0 H339 O334 rfl (want_none rfl) rfl (op_storen gwsiz34 rfl (H339.ev rfl) (H339.ev rfl) (O334.get 0 rfl) rfl (by simp) (by simp [Value.oneCell'])) ?_
   intro _ w350 H349 O351; clear H339 O334
   refine gx_on (i := 12) (B := (fun j_ => j_ == 12)) (fun h_ => by cases h_) ?_
   refine gx_step 10 rfl (by kernel_rfl) ?_
   refine Vx H349 fun _ H353 => ?_
   clear H349
   refine gx_on (i := 10) (B := (fun j_ => j_ == 12)) (fun _ => (by exact O351.sel [1, 3, 4, 5] (by decide))) ?_
   refine gx_step 13 rfl (by kernel_rfl) ?_
   refine Va H353 fun _ H355 => ?_
   clear H353
   refine gx_on (i := 13) (B := (fun j_ => j_ == 12)) (fun _ => (by exact O351.sel [1, 3, 4, 5] (by decide))) ?_
   refine gx_done (by kernel_rfl) ?_
   refine gw_nx ⟨files322, A323, c324, S325, g307, (H355.pick (t := 11) rfl (H355.pick (t := 12) rfl (H355.pick (t := 4) rfl (H355.pick (t := 5) rfl (H355.pick (t := 6) rfl H355.nil))))), O351.sel [1, 3, 4, 5, 2, 0] (by decide), ?_, ?_, ?_, ?_⟩
   ·
    exact hd326
   ·
    exact hwf327
   ·
    exact hu328
   exact hu328l
  rintro _ w357 ⟨fl, Al, cl, Sl, g6, H358, O359, hdl, hwl, hul, hull⟩
  refine gR fun K360 hK360 => ?_
  refine V H358 (op_loadn gwagg34 gwsiz34 rfl (H358.ev rfl) (O359.get 5 rfl) rfl rfl) fun _ H362 => ?_
  refine Vf H362 (gwfld41_0 _ _) fun _ H364 => ?_
  clear H358 H362
  refine gw_setn 1 H364 O359 rfl (want_none rfl) rfl (op_storen gwsiz34 rfl (H364.ev rfl) (H364.ev rfl) (O359.get 1 rfl) rfl (by simp) (by simp [Value.oneCell'])) ?_
  intro _ w367 H366 O368; clear H364 O359
  have O369 : Own w w367 [Chunk.pview w P k54 S155 Ai153 its152.length ci154 its152, Bk g23 [.slice Al fl.length cl, J ((cutD nm ((recsJ (its152.map toI)).length : Int) d1).1.most), J ((cutD nm ((recsJ (its152.map toI)).length : Int) d1).1.fuse), .bool ((cutD nm ((recsJ (its152.map toI)).length : Int) d1).1.down), .string nm, .slice Ai153 its152.length ci154] 41, Bk g8 [.slice none 0 0, J 0, J 0, .bool false, .string (⟨#[]⟩ : ByteArray), .slice none 0 0] 41, Bk g2 [.slice Af files.length cf, J d.most, J d.fuse, .bool d.down] 34, Chunk.pview w P k38 Sl Al fl.length cl fl, Bk g6 [.slice Al fl.length cl, J ((cutD nm ((recsJ (its152.map toI)).length : Int) d1).1.most), J ((cutD nm ((recsJ (its152.map toI)).length : Int) d1).1.fuse), .bool ((cutD nm ((recsJ (its152.map toI)).length : Int) d1).1.down)] 34] := O368
  clear O368
  refine gE hK360 ?_
  refine gR fun K370 hK370 => ?_
  refine Vm H366 fun _ H372 => ?_
  refine V H372 (op_nei rfl (H372.ev rfl) (ev_c _ _)) fun _ H374 => ?_
  refine gE hK370 ?_
  clear H366 H372
  refine gw_cond H374 rfl (fun hb375 => ?_) (fun hb375 => ?_)
  ·
   have H376 := H374.subst_ (d := 62) (b := true) rfl hb375
   clear H374
   (try simp only [decide_eq_true_eq, ne_eq] at hb375)
   have hne := hb375
   refine gR fun K377 hK377 => ?_
   refine V H376 (op_loadn gwagg41 gwsiz41 rfl (H376.ev rfl) (O369.get 1 rfl) rfl rfl) fun _ H379 => ?_
   refine Vm H379 fun _ H381 => ?_
   clear H376 H379
   refine gw_setn 2 H381 O369 rfl (want_none rfl) rfl (op_storen gwsiz41 rfl (H381.ev rfl) (H381.ev rfl) (O369.get 2 rfl) rfl (by simp) (by simp [Value.oneCell'])) ?_
   intro _ w384 H383 O385; clear H381 O369
   refine Va H383 fun _ H387 => ?_
   refine gE hK377 ?_
   refine wp_ret ?_
   clear H383
   refine gw_thr ?_
   refine gw_rets2 H387 rfl (rv_celln H387 rfl gwagg41 gwsiz41 (O385.get 2 rfl) rfl) (rv_tmp H387 rfl) ?_
   exact jpost_of (d2 := (cutD nm ((recsJ (its152.map toI)).length : Int) d1).1) (its := its152) O385 (by rw [open2 hpre he8 hsz hlt hne]) ⟨rfl, rfl, rfl⟩ hdl (fun h_ => absurd h_ (by rw [open2 hpre he8 hsz hlt hne]; exact hne)) (led_pview (i := 4) O385 hP rfl) (led_pview (i := 0) O385 hP rfl)
  have H388 := H374.subst_ (d := 62) (b := false) rfl hb375
  clear H374
  (try simp only [decide_eq_false_iff_not, ne_eq, Decidable.not_not] at hb375)
  have hcu := hb375
  refine gS hK170 ?_
  refine gR fun K389 hK389 => ?_
  refine V H388 (op_loadn gwagg41 gwsiz41 rfl (H388.ev rfl) (O369.get 1 rfl) rfl rfl) fun _ H391 => ?_
  clear H388
  refine Wk H391 Tryz.func18 rfl (ar_cons (H391.ev rfl) ar_nil) (sync_p Al cl fl Ai153 its152.length ci154 ((cutD nm ((recsJ (its152.map toI)).length : Int) d1).1) nm 4 hP O369 rfl (by have h_ := congrArg List.length hdl; rw [List.length_map] at h_; omega) hdl hwl (by omega)) ?_
  rintro e397 w398 ⟨files392, A393, c394, S395, hd396, rfl, hb399⟩
  refine ⟨_, rfl, fun _ H401 => ?_⟩
  have O402 := O369.calls 4 rfl hb399
  clear H391 O369 hb399
  refine Vx H401 fun _ H405 => ?_
  refine Vx H405 fun _ H407 => ?_
  clear H401 H405
  refine gw_setn 2 H407 O402 rfl (want_none rfl) rfl (op_storen gwsiz41 rfl (H407.ev rfl) (H407.ev rfl) (O402.get 2 rfl) rfl (by simp) (by simp [Value.oneCell'])) ?_
  intro _ w410 H409 O411; clear H407 O402
  refine Va H409 fun _ H413 => ?_
  refine gE hK389 ?_
  refine wp_ret ?_
  clear H409
  refine gw_rets2 H413 rfl (rv_celln H413 rfl gwagg41 gwsiz41 (O411.get 2 rfl) rfl) (rv_tmp H413 rfl) ?_
  exact jpost_of (d2 := (syncD nm ((cutD nm ((recsJ (its152.map toI)).length : Int) d1).1)).1) (its := its152) O411 (by rw [open3 hpre he8 hsz hlt hcu]) ⟨rfl, rfl, rfl⟩ hd396 (fun _ => by rw [open3 hpre he8 hsz hlt hcu]) (led_pview (i := 4) O411 hP rfl) (led_pview (i := 0) O411 hP rfl)
 have H414 := H188.subst_ (d := 47) (b := false) rfl hb189
 clear H188
 (try simp only [decide_eq_false_iff_not, Int.not_lt] at hb189)
 have hlt := hb189
 refine gS hK170 ?_
 refine gR fun K415 hK415 => ?_
 refine V H414 (op_loadn gwagg41 gwsiz41 rfl (H414.ev rfl) (O181.get 2 rfl) rfl rfl) fun _ H417 => ?_
 clear H414
 refine Wk H417 Tryz.func18 rfl (ar_cons (H417.ev rfl) ar_nil) (sync_p A1 c1 f1 Ai153 its152.length ci154 d1 nm 1 hP O181 rfl (by have h_ := congrArg List.length hd1; rw [List.length_map] at h_; omega) hd1 hw1 (by omega)) ?_
 rintro e423 w424 ⟨files418, A419, c420, S421, hd422, rfl, hb425⟩
 refine ⟨_, rfl, fun _ H427 => ?_⟩
 have O428 := O181.calls 1 rfl hb425
 clear H417 O181 hb425
 have O430 : Own w w424 [Chunk.pview w P k54 S155 Ai153 its152.length ci154 its152, Chunk.pview w P k38 S421 A419 files418.length c420 files418, Bk g23 [.slice A1 f1.length c1, J d1.most, J d1.fuse, .bool d1.down, .string nm, .slice Ai153 its152.length ci154] 41, Bk g8 [.slice none 0 0, J 0, J 0, .bool false, .string (⟨#[]⟩ : ByteArray), .slice none 0 0] 41, Bk g2 [.slice Af files.length cf, J d.most, J d.fuse, .bool d.down] 34] := O428
 clear O428
 refine Vx H427 fun _ H432 => ?_
 refine Vx H432 fun _ H434 => ?_
 clear H427 H432
 refine gw_setn 3 H434 O430 rfl (want_none rfl) rfl (op_storen gwsiz41 rfl (H434.ev rfl) (H434.ev rfl) (O430.get 3 rfl) rfl (by simp) (by simp [Value.oneCell'])) ?_
 intro _ w437 H436 O438; clear H434 O430
 refine Va H436 fun _ H440 => ?_
 refine gE hK415 ?_
 refine wp_ret ?_
 clear H436
 refine gw_rets2 H440 rfl (rv_celln H440 rfl gwagg41 gwsiz41 (O438.get 3 rfl) rfl) (rv_tmp H440 rfl) ?_
 exact jpost_of (d2 := (syncD nm d1).1) (its := its152) O438 (by rw [open4 hpre he8 hsz (by omega)]) ⟨rfl, rfl, rfl⟩ hd422 (fun _ => by rw [open4 hpre he8 hsz (by omega)]) (led_pview (i := 1) O438 hP rfl) (led_pview (i := 0) O438 hP rfl)
end GRj4_
export GRj4_ (open_ref)
namespace GJour0_
theorem entry1_calls (w0 w : World) (R : Chunk) (g : Nat) (A : Option Addr) (c : Nat) (xs : List Int) (hx : ∀ w_, Own w0 w_ [R] → Kd.C (Kd.int .u8) w_ A xs.length xs) (hc : xs.length ≤ c) (hb : ByteL xs) (p q : Nat) (HO : Own w0 w [R, Bk g [.slice A xs.length c] 131, Bk p [.int .i64 0] 2, Bk q [.int .i64 (-1)] 3]) :
    Calls Tryz.prog 55 #[.pointer (some ⟨g, 0, none⟩), .pointer (some ⟨p, 0, none⟩), .pointer (some ⟨q, 0, none⟩)] w fun e w' => (∃ n k A' c', gnum xs = some (n, k) ∧ e = .returned (.tuple #[]) ∧ Own w0 w' [R, rblk g A' (xs.drop k).length c', Chunk.blk p (.cells #[.int .i64 n] 2 (0, 0)), Chunk.blk q (.cells #[.int .i64 ((xs.drop k).length : Int)] 3 (0, 0))]) ∨ (gnum xs = none ∧ e = .panicked badE ∧ Own w0 w' [R, Chunk.blk p (.cells #[.int .i64 0] 2 (0, 0)), Chunk.blk q (.cells #[.int .i64 (-1)] 3 (0, 0))]) := by
 refine gw_startO (N := 8) (vs := [.pointer (some ⟨g, 0, none⟩), .pointer (some ⟨p, 0, none⟩), .pointer (some ⟨q, 0, none⟩)]) Tryz.func55 rfl rfl (by simp) fun a HF => ?_
 refine gR fun K1 hK1 => ?_
 refine Vm HF ?_
 intro _ H3; clear HF
 have O19 : Own w0 _ [(Chunk.all [R, Bk p [J 0] 2, Bk q [J (-1)] 3]), Bk g [.slice A xs.length c] 131] := Own.bundle (HO.sel [0, 2, 3, 1] (by decide))
 refine gw_callP H3 (want_none rfl) rfl (by decide) (op_callL Tryz.func56 (by kernel_rfl) rfl rfl (ar_cons (H3.ev rfl) ar_nil)) (GRead_.num_calls w0 _ (Chunk.all [R, Bk p [J 0] 2, Bk q [J (-1)] 3]) g A c xs (fun w_ h_ => (hx _ ((Own.unbundle (A := [R, Bk p [J 0] 2, Bk q [J (-1)] 3]) (L := []) h_).sel [0] (by decide)))) hc (by first | exact hb | exact hb.drop _ | exact (hb.drop _).drop _ | assumption) O19) ?_
 rintro e13 w14 (⟨n4, k5, A6, c7, hg8, rfl, hC9, hc10, hb15⟩ | ⟨hg8, rfl, hb15⟩)
 rotate_left
 ·
  refine .inr ⟨_, rfl, ?_⟩
  have O20 : Own w0 w14 [R, Bk p [J 0] 2, Bk q [J (-1)] 3] := Own.unbundle (A := [R, Bk p [J 0] 2, Bk q [J (-1)] 3]) (L := []) hb15
  refine gw_thp ?_
  refine gw_pan H3 ?_
  exact .inr ⟨hg8, rfl, O20.sel [0, 1, 2] (by decide)⟩
 refine .inl ⟨_, rfl, fun _ H17 => ?_⟩
 have O18 : Own w0 w14 [R, Bk p [J 0] 2, Bk q [J (-1)] 3, Bk g [.slice A6 ((xs.drop k5).length) c7] 131] := Own.unbundle (hb15.sel [0, 1] (by decide))
 clear O19
 clear H3 HO hb15
 have hgs12 := gnum_some hg8
 refine gw_set 1 H17 O18 rfl (want_none rfl) rfl (op_store1 gwsiz2 rfl (H17.ev rfl) (H17.ev rfl) rfl (blk_at (O18.get 1 rfl) rfl) (blkf (O18.get 1 rfl))) ?_
 intro _ w24 H23 O25; clear H17 O18
 refine gE hK1 ?_
 refine wp_region_lit ?_
 refine Vm H23 fun _ H27 => ?_
 clear H23
 refine Wk H27 Tryz.func57 rfl (ar_cons (H27.ev rfl) ar_nil) (GRead_.left_calls g A6 ((xs.drop k5).length) c7 _ (O25.get 3 rfl)) ?_
 rintro e28 w29 ⟨rfl, hb30⟩
 refine ⟨_, rfl, fun _ H32 => ?_⟩
 have O33 := O25.after hb30
 clear H27 O25 hb30
 refine gw_set 2 H32 O33 rfl (want_none rfl) rfl (op_store1 gwsiz3 rfl (H32.ev rfl) (H32.ev rfl) rfl (blk_at (O33.get 2 rfl) rfl) (blkf (O33.get 2 rfl))) ?_
 intro _ w37 H36 O38; clear H32 O33
 refine wpList_nil ?_
 refine gw_end0 H36 rfl ?_
 exact .inl ⟨n4, k5, A6, c7, hg8, rfl, O38.sel [0, 3, 1, 2] (by decide)⟩
theorem entry_read_some (w0 w : World) (R : Chunk) (A : Option Addr) (c : Nat) (xs : List Int) (hx : ∀ w_, Own w0 w_ [R] → Kd.C (Kd.int .u8) w_ A xs.length xs) (hc : xs.length ≤ c) (hb : ByteL xs) (p q : Nat) (n : Int) (k : Nat) (hg : gnum xs = some (n, k)) (HO : Own w0 w (R :: [Chunk.blk p (.cells #[.int .i64 0] 2 (0, 0)), Chunk.blk q (.cells #[.int .i64 (-1)] 3 (0, 0))])) :
    Calls Tryz.prog 54 #[.slice A xs.length c, .func (.func 55) #[] #[.pointer (some ⟨p, 0, none⟩), .pointer (some ⟨q, 0, none⟩)]] w fun e w' => (∃ ec, e = .returned (.int .i64 ec)) ∧ Own w0 w' [R, Chunk.blk p (.cells #[.int .i64 n] 2 (0, 0)), Chunk.blk q (.cells #[.int .i64 ((xs.drop k).length : Int)] 3 (0, 0))] := by
  refine (read_list w0 w R [Chunk.blk p (.cells #[.int .i64 0] 2 (0, 0)), Chunk.blk q (.cells #[.int .i64 (-1)] 3 (0, 0))] A c xs 55 _ [.pointer (some ⟨p, 0, none⟩), .pointer (some ⟨q, 0, none⟩)] (fun n' qs => qs = [Chunk.blk p (.cells #[.int .i64 n] 2 (0, 0)), Chunk.blk q (.cells #[.int .i64 ((xs.drop k).length : Int)] 3 (0, 0))]) (fun _ => False) (fun _ => False) Tryz.func55 (by kernel_rfl) rfl ?_ HO).mono ?_
  · intro R' g w1 hR hO
    refine (entry1_calls w0 w1 R' g A c xs (fun w_ h_ => hx w_ (hR w_ h_)) hc hb p q hO).mono ?_
    rintro e w2 (⟨n1, k1, A', c', h1, rfl, h⟩ | ⟨h1, rfl, h⟩)
    · rw [hg] at h1; injection h1 with h1; injection h1 with h1 h2; subst h1 h2; exact .inl ⟨A', _, c', _, rfl, rfl, h⟩
    · rw [hg] at h1; cases h1
  · rintro e w2 (⟨n', qs, rfl, hq, h⟩ | ⟨qs, rfl, hq, h⟩ | ⟨_, _, h, _⟩)
    · rw [hq] at h; exact ⟨⟨_, rfl⟩, h⟩
    · exact hq.elim
    · exact h.elim
theorem entry_read_none (w0 w : World) (R : Chunk) (A : Option Addr) (c : Nat) (xs : List Int) (hx : ∀ w_, Own w0 w_ [R] → Kd.C (Kd.int .u8) w_ A xs.length xs) (hc : xs.length ≤ c) (hb : ByteL xs) (p q : Nat) (hg : gnum xs = none) (HO : Own w0 w (R :: [Chunk.blk p (.cells #[.int .i64 0] 2 (0, 0)), Chunk.blk q (.cells #[.int .i64 (-1)] 3 (0, 0))])) :
    Calls Tryz.prog 54 #[.slice A xs.length c, .func (.func 55) #[] #[.pointer (some ⟨p, 0, none⟩), .pointer (some ⟨q, 0, none⟩)]] w fun e w' => (∃ ec, e = .returned (.int .i64 ec)) ∧ Own w0 w' [R, Chunk.blk p (.cells #[.int .i64 0] 2 (0, 0)), Chunk.blk q (.cells #[.int .i64 (-1)] 3 (0, 0))] := by
  refine (read_list w0 w R [Chunk.blk p (.cells #[.int .i64 0] 2 (0, 0)), Chunk.blk q (.cells #[.int .i64 (-1)] 3 (0, 0))] A c xs 55 _ [.pointer (some ⟨p, 0, none⟩), .pointer (some ⟨q, 0, none⟩)] (fun _ _ => False) (fun qs => qs = [Chunk.blk p (.cells #[.int .i64 0] 2 (0, 0)), Chunk.blk q (.cells #[.int .i64 (-1)] 3 (0, 0))]) (fun _ => False) Tryz.func55 (by kernel_rfl) rfl ?_ HO).mono ?_
  · intro R' g w1 hR hO
    refine (entry1_calls w0 w1 R' g A c xs (fun w_ h_ => hx w_ (hR w_ h_)) hc hb p q hO).mono ?_
    rintro e w2 (⟨n1, k1, A', c', h1, rfl, h⟩ | ⟨h1, rfl, h⟩)
    · rw [hg] at h1; cases h1
    · exact .inr (.inl ⟨_, rfl, rfl, h⟩)
  · rintro e w2 (⟨n', qs, rfl, hq, h⟩ | ⟨qs, rfl, hq, h⟩ | ⟨_, _, h, _⟩)
    · exact hq.elim
    · rw [hq] at h; exact ⟨⟨_, rfl⟩, h⟩
    · exact h.elim
theorem entry_calls (A : Option Addr) (c : Nat) (xs : List Int) (w : World) (hx : Kd.C (Kd.int .u8) w A xs.length xs) (hc : xs.length ≤ c) (hb : ByteL xs) (hl : xs.length ≤ 1000000) :
    Calls Tryz.prog 33 #[.slice A xs.length c] w fun e w' => (entryP xs = none ∧ e = .returned (.tuple #[.int .i64 0, .slice none 0 0, .bool false]) ∧ Below w.heap.size w w') ∨ (∃ n k A' c', entryP xs = some (n, k) ∧ e = .returned (.tuple #[.int .i64 n, .slice A' (xs.drop k).length c', .bool true]) ∧ (∀ W, Kd.C (Kd.int .u8) W A xs.length xs → Kd.C (Kd.int .u8) W A' (xs.drop k).length (xs.drop k)) ∧ (xs.drop k).length ≤ c' ∧ Below w.heap.size w w') := by
 refine gw_start (N := 26) (vs := [.slice A xs.length c]) Tryz.func33 rfl rfl (by simp) fun a HF HO => ?_
 replace HO : Own w w [] := HO
 rcases hgn : gnum xs with _ | ⟨n, k⟩
 ·
  refine gR fun K1 hK1 => ?_
  refine gw_new HF HO (want_none rfl) rfl (by decide) (op_alloc gwzer2 rfl) ?_
  intro g2 _ w4 H5 O6; clear HF HO
  have O7 : Own w w4 [Bk g2 [J 0] 2] := O6
  clear O6
  refine Vc H5 fun _ H9 => ?_
  refine Vc H9 fun _ H11 => ?_
  refine gE hK1 ?_
  refine gR fun K12 hK12 => ?_
  clear H5 H9
  refine gw_new H11 O7 (want_none rfl) rfl (by decide) (op_alloc gwzer3 rfl) ?_
  intro g13 _ w15 H16 O17; clear H11 O7
  have O18 : Own w w15 [Bk g13 [J 0] 3, Bk g2 [J 0] 2] := O17
  clear O17
  refine gw_set 0 H16 O18 rfl (want_none rfl) rfl (op_store1 gwsiz3 rfl (H16.ev rfl) (ev_c _ _) rfl (blk_at (O18.get 0 rfl) rfl) (blkf (O18.get 0 rfl))) ?_
  intro _ w21 H20 O22; clear H16 O18
  refine gE hK12 ?_
  refine gR fun K23 hK23 => ?_
  refine Vm H20 fun _ H25 => ?_
  refine V H25 (op_func rfl (ar_cons (H25.ev rfl) (ar_cons (H25.ev rfl) ar_nil))) fun _ H27 => ?_
  clear H20 H25
  have O35 : Own w _ [(Chunk.all []), Bk g2 [J 0] 2, Bk g13 [J (-1)] 3] := Own.bundle (O22.sel [1, 0] (by decide))
  refine Wk H27 Tryz.func54 rfl (ar_cons (H27.ev rfl) (ar_cons (H27.ev rfl) ar_nil)) (entry_read_none w _ (Chunk.all []) A c xs (fun w_ h_ => Kd.C_below hx h_.below) hc hb g2 g13 hgn O35) ?_
  rintro e29 w30 ⟨⟨ec28, rfl⟩, hb31⟩
  refine ⟨_, rfl, fun _ H33 => ?_⟩
  have O34 : Own w w30 [Bk g2 [J 0] 2, Bk g13 [J (-1)] 3] := Own.unbundle (hb31.sel [0, 1, 2] (by decide))
  clear O35
  clear H27 O22 hb31
  refine gE hK23 ?_
  refine gw_seq fun K37 hK37 => ?_
  refine gR fun K38 hK38 => ?_
  refine Vl H33 gwagg3 (O34.get 1 rfl) fun _ H40 => ?_
  refine V H40 (op_lss rfl (H40.ev rfl) (ev_c _ _)) fun _ H42 => ?_
  clear H33 H40
  have H43 := H42.lit (b := true) (by decide)
  clear H42
  refine Vm H43 fun _ H45 => ?_
  refine Vo H45 (wn H45 rfl rfl rfl rfl) fun _ H47 => ?_
  refine Vo H47 (wn H47 rfl rfl rfl rfl) fun _ H49 => ?_
  refine V H49 (op_pick_t rfl (H49.ev rfl) (ev_c _ _)) fun _ H51 => ?_
  refine Vm H51 fun _ H53 => ?_
  refine Vo H53 (wn H53 rfl rfl rfl rfl) fun _ H55 => ?_
  refine Vo H55 (wn H55 rfl rfl rfl rfl) fun _ H57 => ?_
  refine V H57 (op_pick_t rfl (H57.ev rfl) (ev_c _ _)) fun _ H59 => ?_
  clear H43 H45 H47 H49 H51 H53 H55 H57
  refine gE hK38 ?_
  refine gw_cond H59 rfl (fun hb60 => ?_) (fun hb60 => ?_)
  rotate_left
  ·
   cases hb60
  refine gR fun K61 hK61 => ?_
  refine gw_set 0 H59 O34 rfl (want_none rfl) rfl (op_store1 gwsiz2 rfl (H59.ev rfl) (ev_c _ _) rfl (blk_at (O34.get 0 rfl) rfl) (blkf (O34.get 0 rfl))) ?_
  intro _ w64 H63 O65; clear H59 O34
  refine Vc H63 fun _ H67 => ?_
  refine Vc H67 fun _ H69 => ?_
  refine gE hK61 ?_
  refine wp_ret ?_
  clear H63 H67
  refine gw_thr ?_
  refine gw_rets3 H69 rfl (rv_cell1 H69 rfl gwagg2 (blk_at (O65.get 0 rfl) rfl)) (rv_tmp H69 rfl) (rv_tmp H69 rfl) ?_
  exact .inl ⟨entry_none1 hgn, rfl, O65.below⟩
 have hgs := gnum_some hgn
 have hle : (xs.drop k).length = xs.length - k := List.length_drop
 have hdr : ((xs.drop k).length : Int) = xs.length - k := by omega
 refine gR fun K70 hK70 => ?_
 refine gw_new HF HO (want_none rfl) rfl (by decide) (op_alloc gwzer2 rfl) ?_
 intro g71 _ w73 H74 O75; clear HF HO
 have O76 : Own w w73 [Bk g71 [J 0] 2] := O75
 clear O75
 refine Vc H74 fun _ H78 => ?_
 refine Vc H78 fun _ H80 => ?_
 refine gE hK70 ?_
 refine gR fun K81 hK81 => ?_
 clear H74 H78
 refine gw_new H80 O76 (want_none rfl) rfl (by decide) (op_alloc gwzer3 rfl) ?_
 intro g82 _ w84 H85 O86; clear H80 O76
 have O87 : Own w w84 [Bk g82 [J 0] 3, Bk g71 [J 0] 2] := O86
 clear O86
 refine gw_set 0 H85 O87 rfl (want_none rfl) rfl (op_store1 gwsiz3 rfl (H85.ev rfl) (ev_c _ _) rfl (blk_at (O87.get 0 rfl) rfl) (blkf (O87.get 0 rfl))) ?_
 intro _ w90 H89 O91; clear H85 O87
 refine gE hK81 ?_
 refine gR fun K92 hK92 => ?_
 refine Vm H89 fun _ H94 => ?_
 refine V H94 (op_func rfl (ar_cons (H94.ev rfl) (ar_cons (H94.ev rfl) ar_nil))) fun _ H96 => ?_
 clear H89 H94
 have O104 : Own w _ [(Chunk.all []), Bk g71 [J 0] 2, Bk g82 [J (-1)] 3] := Own.bundle (O91.sel [1, 0] (by decide))
 refine Wk H96 Tryz.func54 rfl (ar_cons (H96.ev rfl) (ar_cons (H96.ev rfl) ar_nil)) (entry_read_some w _ (Chunk.all []) A c xs (fun w_ h_ => Kd.C_below hx h_.below) hc hb g71 g82 n k hgn O104) ?_
 rintro e98 w99 ⟨⟨ec97, rfl⟩, hb100⟩
 refine ⟨_, rfl, fun _ H102 => ?_⟩
 have O103 : Own w w99 [Bk g71 [J n] 2, Bk g82 [J ((xs.drop k).length : Int)] 3] := Own.unbundle (hb100.sel [0, 1, 2] (by decide))
 clear O104
 clear H96 O91 hb100
 refine gE hK92 ?_
 refine gw_seq fun K106 hK106 => ?_
 refine gR fun K107 hK107 => ?_
 refine Vl H102 gwagg3 (O103.get 1 rfl) fun _ H109 => ?_
 refine V H109 (op_lss rfl (H109.ev rfl) (ev_c _ _)) fun _ H111 => ?_
 refine Vm H111 fun _ H113 => ?_
 clear H102 H109 H111
 refine gw_evG H113 rfl rfl rfl rfl (on_f _) rfl (by decide) (fun h_ => (op_load1 gwagg3 rfl (H113.ev rfl) (blk_at (O103.get 1 rfl) rfl))) ?_
 intro _ H115; clear H113
 refine gw_evG H115 rfl rfl rfl rfl (on_f _) rfl (by decide) (fun h_ => (op_gtr rfl (ev_gv (H115.ev rfl) h_) (ev_c _ _))) ?_
 intro _ H117; clear H115
 refine V H117 (op_pick_or rfl (H117.ev rfl) (ev_c _ _) (fun hp_ => (ev_gv (H117.ev rfl) (not_t hp_)))) fun _ H119 => ?_
 refine Vm H119 fun _ H121 => ?_
 clear H117 H119
 refine gw_evG H121 rfl rfl rfl rfl (on_f _) rfl (by decide) (fun h_ => (op_load1 gwagg2 rfl (H121.ev rfl) (blk_at (O103.get 0 rfl) rfl))) ?_
 intro _ H123; clear H121
 refine gw_evG H123 rfl rfl rfl rfl (on_f _) rfl (by decide) (fun h_ => (op_gtr rfl (ev_gv (H123.ev rfl) h_) (ev_c _ _))) ?_
 intro _ H125; clear H123
 refine V H125 (op_pick_or rfl (H125.ev rfl) (ev_c _ _) (fun hp_ => (ev_gv (H125.ev rfl) (not_t hp_)))) fun _ H127 => ?_
 refine gE hK107 ?_
 clear H125
 refine gw_cond H127 rfl (fun hb128 => ?_) (fun hb128 => ?_)
 ·
  have H129 := H127.subst_ (d := 18) (b := true) rfl hb128
  clear H127
  (try simp only [Bool.or_eq_true, Bool.or_eq_false_iff, decide_eq_true_eq, decide_eq_false_iff_not, Int.not_lt] at hb128)
  refine gR fun K130 hK130 => ?_
  refine gw_set 0 H129 O103 rfl (want_none rfl) rfl (op_store1 gwsiz2 rfl (H129.ev rfl) (ev_c _ _) rfl (blk_at (O103.get 0 rfl) rfl) (blkf (O103.get 0 rfl))) ?_
  intro _ w133 H132 O134; clear H129 O103
  refine Vc H132 fun _ H136 => ?_
  refine Vc H136 fun _ H138 => ?_
  refine gE hK130 ?_
  refine wp_ret ?_
  clear H132 H136
  refine gw_thr ?_
  refine gw_rets3 H138 rfl (rv_cell1 H138 rfl gwagg2 (blk_at (O134.get 0 rfl) rfl)) (rv_tmp H138 rfl) (rv_tmp H138 rfl) ?_
  exact .inl ⟨entry_none2 hgn (by simp only [List.length_drop] at *; omega), rfl, O134.below⟩
 have H139 := H127.subst_ (d := 18) (b := false) rfl hb128
 clear H127
 (try simp only [Bool.or_eq_true, Bool.or_eq_false_iff, decide_eq_true_eq, decide_eq_false_iff_not, Int.not_lt] at hb128)
 refine gS hK106 ?_
 refine gw_seq fun K140 hK140 => ?_
 refine gx_draw (M := [Bk g71 [J n] 2, Bk g82 [J ((xs.drop k).length : Int)] 3]) (fun j_ => false) O103 (by kernel_rfl) fun w141 O142 => ?_
 clear O103
 refine gx_take 0 rfl (by kernel_rfl) H139 (by exact O142.sel [0, 1] (by decide)) (want_none rfl) rfl (by decide) (fun wq HO => (op_load1 gwagg2 rfl (H139.ev rfl) (blk_at (HO.get 0 rfl) rfl))) ?_
 intro _ H144; clear H139
 refine gx_take 1 rfl (by kernel_rfl) H144 (by exact O142.sel [0, 1] (by decide)) (want_none rfl) rfl (by decide) (fun wq HO => (op_move rfl (H144.ev rfl))) ?_
 intro _ H146; clear H144
 refine gx_take 2 rfl (by kernel_rfl) H146 (by exact O142.sel [0, 1] (by decide)) (want_none rfl) rfl (by decide) (fun wq HO => (op_move rfl (H146.ev rfl))) ?_
 intro _ H148; clear H146
 refine gx_take 3 rfl (by kernel_rfl) H148 (by exact O142.sel [0, 1] (by decide)) (want_none rfl) rfl (by decide) (fun wq HO => (op_len Tryz.underlying22 rfl (H148.ev rfl))) ?_
 intro _ H150; clear H148
 refine gx_take 4 rfl (by kernel_rfl) H150 (by exact O142.sel [0, 1] (by decide)) (want_none rfl) rfl (by decide) (fun wq HO => (op_load1 gwagg3 rfl (H150.ev rfl) (blk_at (HO.get 1 rfl) rfl))) ?_
 intro _ H152; clear H150
 refine gx_take 5 rfl (by kernel_rfl) H152 (by exact O142.sel [0, 1] (by decide)) (want_none rfl) rfl (by decide) (fun wq HO => (op_sub rfl (H152.ev rfl) (H152.ev rfl) (by omega))) ?_
 intro _ H154; clear H152
 have H155 := H154.conv (v' := J (k : Int)) (by congr 1; omega)
 clear H154
 obtain ⟨A156, c157, hr158, hc159, hC160, hA161⟩ := cut_lo (P := Tryz.prog) (d := (Kd.int .u8)) (t := 22) (e := 5) Tryz.underlying22 gwsiz5 A c xs hc (k : Int) (by omega) (by omega)
 refine gx_take 6 rfl (by kernel_rfl) H155 (by exact O142.sel [0, 1] (by decide)) (want_none rfl) rfl (by decide) (fun wq HO => (op_cut Tryz.underlying22 hr158 rfl (H155.ev rfl) (some_ev (H155.ev rfl)) rfl)) ?_
 intro _ H163; clear H155
 refine gx_step 7 rfl (by kernel_rfl) ?_
 refine gw_set 0 H163 O142 rfl (want_none rfl) rfl (op_store1 gwsiz2 rfl (H163.ev rfl) (H163.ev rfl) rfl (blk_at (O142.get 0 rfl) rfl) (blkf (O142.get 0 rfl))) ?_
 intro _ w166 H165 O167; clear H163 O142
 refine gx_on (i := 7) (B := (fun j_ => false)) (fun _ => (by exact O167.sel [0, 1] (by decide))) ?_
 refine gx_take 8 rfl (by kernel_rfl) H165 (by exact O167.sel [0, 1] (by decide)) (want_none rfl) rfl (by decide) (fun wq HO => (op_assign rfl (H165.ev rfl))) ?_
 intro _ H169; clear H165
 refine gx_take 9 rfl (by kernel_rfl) H169 (by exact O167.sel [0, 1] (by decide)) (want_none rfl) rfl (by decide) (fun wq HO => (op_assign rfl (ev_c _ _))) ?_
 intro _ H171; clear H169
 refine gx_done (by kernel_rfl) ?_
 refine gw_nx (hK140 _ _ ?_)
 refine wp_ret ?_
 refine gw_rets3 H171 rfl (rv_cell1 H171 rfl gwagg2 (blk_at (O167.get 0 rfl) rfl)) (rv_tmp H171 rfl) (rv_tmp H171 rfl) ?_
 exact .inr ⟨n, k, A156, c157, entry_some hgn (by simp only [List.length_drop] at *; omega) (by omega), rfl, hC160, hc159, O167.below⟩
end GJour0_
export GJour0_ (entry_calls)
namespace GJour1_
theorem has_calls (base gd gj : Nat) (nm : ByteArray) (S : Nat → Prop) (is : List PI) (size : Int) (w : World) (hJ : (Chunk.jour base gd gj nm S is size).P w) (key : Int) (hkw : (Lit.int .i64 key).wf = true) :
    Calls Tryz.prog 21 #[.pointer (some ⟨gj, 0, none⟩), .int .i64 key] w fun e w' => e = .returned (.bool (hasJ key is)) ∧ Below w.heap.size w w' := by
 obtain ⟨gm, xs, hxs, hon, hB, hL, hfs⟩ := jour_blk hJ
 refine gw_start (N := 17) (vs := [.pointer (some ⟨gj, 0, none⟩), J key]) Tryz.func21 rfl rfl (by simp) fun a HF HO => ?_
 replace HO : Own w w [] := HO
 rcases lookJ key xs with ⟨hl, hg0, hno⟩ | ⟨x, hx, hkx, hl, hg0⟩
 ·
  have hgi : getJ key is = none := (getJ_perm hon hxs).symm.trans hg0
  have hhi : hasJ key is = false := by unfold hasJ; rw [hgi]; rfl
  refine gR fun K1 hK1 => ?_
  refine Vc HF ?_
  intro _ H3; clear HF
  refine gE hK1 ?_
  refine gR fun K4 hK4 => ?_
  refine Vm H3 fun _ H6 => ?_
  refine Vz H6 fun _ H8 => ?_
  refine Vf H8 (gwfld79_2 _ _) fun _ H10 => ?_
  refine Vl H10 gwagg77 (argblk HO hB) fun _ H12 => ?_
  refine Vm H12 fun _ H14 => ?_
  refine V H14 (op_mlok_none (Go.Maps.int_keyed Tryz.underlying2) Tryz.underlying77 gwzer22 rfl (H14.ev rfl) (H14.ev rfl) (Go.Maps.keyOf_int_mk Tryz.underlying2 (hkw)) (lmap_arg HO hL) (hl)) fun _ H16 => ?_
  refine Vm H16 fun _ H18 => ?_
  refine Vx H18 fun _ H20 => ?_
  clear H3 H6 H8 H10 H12 H14 H16 H18
  refine Vx H20 fun _ H22 => ?_
  refine Va H22 fun _ H24 => ?_
  refine Va H24 fun _ H26 => ?_
  refine gE hK4 ?_
  refine gR fun K27 hK27 => ?_
  refine Vm H26 fun _ H29 => ?_
  refine Va H29 fun _ H31 => ?_
  refine gE hK27 ?_
  refine wp_ret ?_
  clear H20 H22 H24 H26 H29
  refine gw_ret1 H31 rfl rfl ?_
  rw [hhi]
  exact ⟨rfl, HO.below⟩
 have hgi : getJ key is = some x.b := (getJ_perm hon hxs).symm.trans hg0
 have hhi : hasJ key is = true := by unfold hasJ; rw [hgi]; rfl
 refine gR fun K32 hK32 => ?_
 refine Vc HF ?_
 intro _ H34; clear HF
 refine gE hK32 ?_
 refine gR fun K35 hK35 => ?_
 refine Vm H34 fun _ H37 => ?_
 refine Vz H37 fun _ H39 => ?_
 refine Vf H39 (gwfld79_2 _ _) fun _ H41 => ?_
 refine Vl H41 gwagg77 (argblk HO hB) fun _ H43 => ?_
 refine Vm H43 fun _ H45 => ?_
 refine V H45 (op_mlok_some (Go.Maps.int_keyed Tryz.underlying2) Tryz.underlying77 gwzer22 rfl (H45.ev rfl) (H45.ev rfl) (Go.Maps.keyOf_int_mk Tryz.underlying2 (hkw)) (lmap_arg HO hL) (hl)) fun _ H47 => ?_
 refine Vm H47 fun _ H49 => ?_
 refine Vx H49 fun _ H51 => ?_
 clear H34 H37 H39 H41 H43 H45 H47 H49
 refine Vx H51 fun _ H53 => ?_
 refine Va H53 fun _ H55 => ?_
 refine Va H55 fun _ H57 => ?_
 refine gE hK35 ?_
 refine gR fun K58 hK58 => ?_
 refine Vm H57 fun _ H60 => ?_
 refine Va H60 fun _ H62 => ?_
 refine gE hK58 ?_
 refine wp_ret ?_
 clear H51 H53 H55 H57 H60
 refine gw_ret1 H62 rfl rfl ?_
 rw [hhi]
 exact ⟨rfl, HO.below⟩
theorem get_calls (base gd gj : Nat) (nm : ByteArray) (S : Nat → Prop) (is : List PI) (size : Int) (w : World) (hJ : (Chunk.jour base gd gj nm S is size).P w) (key : Int) (hkw : (Lit.int .i64 key).wf = true) (hlen : ∀ x ∈ is, x.2.length ≤ 1000000) :
    Calls Tryz.prog 23 #[.pointer (some ⟨gj, 0, none⟩), .int .i64 key] w fun e w' => ∃ A c S', e = .returned (.tuple #[.slice A ((getJ key is).getD []).length c, .bool (hasJ key is)]) ∧ Out w w' (fun _ => False) [Chunk.row (Kd.int .u8) 5 w.heap.size S' (.slice A ((getJ key is).getD []).length c) ((getJ key is).getD [])] := by
 obtain ⟨gm, xs, hxs, hon, hB, hL, hfs⟩ := jour_blk hJ
 refine gw_start (N := 20) (vs := [.pointer (some ⟨gj, 0, none⟩), J key]) Tryz.func23 rfl rfl (by simp) fun a HF HO => ?_
 replace HO : Own w w [] := HO
 rcases lookJ key xs with ⟨hl, hg0, hno⟩ | ⟨x, hx, hkx, hl, hg0⟩
 ·
  have hgi : getJ key is = none := (getJ_perm hon hxs).symm.trans hg0
  have hhi : hasJ key is = false := by unfold hasJ; rw [hgi]; rfl
  refine gR fun K1 hK1 => ?_
  refine Vc HF ?_
  intro _ H3; clear HF
  refine Vc H3 fun _ H5 => ?_
  refine gE hK1 ?_
  refine gR fun K6 hK6 => ?_
  refine Vm H5 fun _ H8 => ?_
  refine Vz H8 fun _ H10 => ?_
  refine Vf H10 (gwfld79_2 _ _) fun _ H12 => ?_
  refine Vl H12 gwagg77 (argblk HO hB) fun _ H14 => ?_
  refine Vm H14 fun _ H16 => ?_
  refine V H16 (op_mlok_none (Go.Maps.int_keyed Tryz.underlying2) Tryz.underlying77 gwzer22 rfl (H16.ev rfl) (H16.ev rfl) (Go.Maps.keyOf_int_mk Tryz.underlying2 (hkw)) (lmap_arg HO hL) (hl)) fun _ H18 => ?_
  refine Vm H18 fun _ H20 => ?_
  clear H3 H5 H8 H10 H12 H14 H16 H18
  refine Vx H20 fun _ H22 => ?_
  refine Vx H22 fun _ H24 => ?_
  refine Va H24 fun _ H26 => ?_
  refine Va H26 fun _ H28 => ?_
  refine gE hK6 ?_
  refine gR fun K29 hK29 => ?_
  refine Vm H28 fun _ H31 => ?_
  clear H20 H22 H24 H26 H28
  refine Wk H31 Tryz.func34 rfl (ar_cons (H31.ev rfl) ar_nil) (clone0 none 0 ([]) _ (Kd.C_nil _ _) (Nat.le_refl _) (by first | omega | (show 0 < _; omega))) ?_
  rintro e35 w36 ⟨A32, c33, S34, rfl, hb37⟩
  refine ⟨_, rfl, fun _ H39 => ?_⟩
  have O40 := HO.fresh hb37
  have hbel41 := HO.below
  clear H31 HO hb37
  have O42 := O40.lowrow 0 rfl (base' := w.heap.size) (Below.size hbel41)
  refine Vm H39 fun _ H44 => ?_
  refine Va H44 fun _ H46 => ?_
  refine Va H46 fun _ H48 => ?_
  refine gE hK29 ?_
  refine wp_ret ?_
  clear H39 H44 H46
  refine gw_ret2 H48 rfl rfl rfl ?_
  rw [hgi, hhi]
  exact ⟨_, _, _, rfl, (O42.sel [0] (by decide)).out⟩
 have hgi : getJ key is = some x.b := (getJ_perm hon hxs).symm.trans hg0
 have hhi : hasJ key is = true := by unfold hasJ; rw [hgi]; rfl
 obtain ⟨hC, hcx⟩ := hfs x hx
 have hxb : x.b.length ≤ 1000000 := hlen (key, x.b) ((getJ_iff (onceJ_perm hon hxs)).1 hgi)
 refine gR fun K49 hK49 => ?_
 refine Vc HF ?_
 intro _ H51; clear HF
 refine Vc H51 fun _ H53 => ?_
 refine gE hK49 ?_
 refine gR fun K54 hK54 => ?_
 refine Vm H53 fun _ H56 => ?_
 refine Vz H56 fun _ H58 => ?_
 refine Vf H58 (gwfld79_2 _ _) fun _ H60 => ?_
 refine Vl H60 gwagg77 (argblk HO hB) fun _ H62 => ?_
 refine Vm H62 fun _ H64 => ?_
 refine V H64 (op_mlok_some (Go.Maps.int_keyed Tryz.underlying2) Tryz.underlying77 gwzer22 rfl (H64.ev rfl) (H64.ev rfl) (Go.Maps.keyOf_int_mk Tryz.underlying2 (hkw)) (lmap_arg HO hL) (hl)) fun _ H66 => ?_
 refine Vm H66 fun _ H68 => ?_
 clear H51 H53 H56 H58 H60 H62 H64 H66
 refine Vx H68 fun _ H70 => ?_
 refine Vx H70 fun _ H72 => ?_
 refine Va H72 fun _ H74 => ?_
 refine Va H74 fun _ H76 => ?_
 refine gE hK54 ?_
 refine gR fun K77 hK77 => ?_
 refine Vm H76 fun _ H79 => ?_
 clear H68 H70 H72 H74 H76
 refine Wk H79 Tryz.func34 rfl (ar_cons (H79.ev rfl) ar_nil) (clone0 x.A x.c x.b _ (Kd.C_below hC HO.below) hcx (by first | omega | (show 0 < _; omega))) ?_
 rintro e83 w84 ⟨A80, c81, S82, rfl, hb85⟩
 refine ⟨_, rfl, fun _ H87 => ?_⟩
 have O88 := HO.fresh hb85
 have hbel89 := HO.below
 clear H79 HO hb85
 have O90 := O88.lowrow 0 rfl (base' := w.heap.size) (Below.size hbel89)
 refine Vm H87 fun _ H92 => ?_
 refine Va H92 fun _ H94 => ?_
 refine Va H94 fun _ H96 => ?_
 refine gE hK77 ?_
 refine wp_ret ?_
 clear H87 H92 H94
 refine gw_ret2 H96 rfl rfl rfl ?_
 rw [hgi, hhi]
 exact ⟨_, _, _, rfl, (O90.sel [0] (by decide)).out⟩
theorem keys_calls (base gd gj : Nat) (nm : ByteArray) (S : Nat → Prop) (is : List PI) (size : Int) (w : World) (hJ : (Chunk.jour base gd gj nm S is size).P w) (hlen : is.length ≤ 1000000) :
    Calls Tryz.prog 24 #[.pointer (some ⟨gj, 0, none⟩)] w fun e w' => ∃ A c S' ks, ks.Pairwise (fun x y => x < y) ∧ ks.Perm (is.map (·.1)) ∧ e = .returned (.slice A ks.length c) ∧ Out w w' (fun _ => False) [Chunk.row (Kd.int .i64) 2 w.heap.size S' (.slice A ks.length c) ks] := by
 obtain ⟨gm, xs, hxs, hon, hB, hL, hfs⟩ := jour_blk hJ
 have hxl : xs.length ≤ 1000000 := by have := hxs.length_eq; rw [List.length_map] at this; omega
 refine gw_start (N := 9) (vs := [.pointer (some ⟨gj, 0, none⟩)]) Tryz.func24 rfl rfl (by simp) fun a HF HO => ?_
 replace HO : Own w w [] := HO
 refine gR fun K1 hK1 => ?_
 refine Vc HF ?_
 intro _ H3; clear HF
 refine gE hK1 ?_
 refine gR fun K4 hK4 => ?_
 refine Vm H3 fun _ H6 => ?_
 refine Vz H6 fun _ H8 => ?_
 refine Vf H8 (gwfld79_2 _ _) fun _ H10 => ?_
 refine Vl H10 gwagg77 (argblk HO hB) fun _ H12 => ?_
 clear H3 H6 H8 H10
 have hOn := HO
 refine Wk H12 Tryz.func51 rfl (ar_cons (H12.ev rfl) ar_nil) (keysJ_at _ _) ?_
 rintro _ _ ⟨rfl, rfl⟩
 refine ⟨_, rfl, fun _ H17 => ?_⟩
 have O18 := HO.new (.cells #[.map (some gm)] 77)
 clear H12 HO
 have O19 : Own w (w.alloc (.cells #[.map (some gm)] 77)) [Bk w.heap.size [.map (some gm)] 77] := O18
 clear O18
 refine Wk H17 Tryz.func50 rfl (ar_cons (H17.ev rfl) ar_nil) (sortedJ_at gm xs _ (lmap_arg hOn hL) hxl) ?_
 rintro e23 w24 ⟨A20, c21, S22, rfl, hb25⟩
 refine ⟨_, rfl, fun _ H27 => ?_⟩
 have O28 := O19.fresh hb25
 have hbel29 := O19.below
 clear H17 O19 hb25
 have O30 := O28.lowrow 0 rfl (base' := w.heap.size) (Below.size hbel29)
 refine Va H27 fun _ H32 => ?_
 refine gE hK4 ?_
 refine wp_ret ?_
 clear H27
 refine gw_ret1 H32 rfl rfl ?_
 exact ⟨_, _, _, _, keys_rise (lmap_rising intKey hL).1, (by have h_ := hxs.map (fun x : PI => x.1); rw [List.map_map] at h_; exact h_), rfl, (O30.sel [0] (by decide)).out⟩
theorem size_calls (base gd gj : Nat) (nm : ByteArray) (S : Nat → Prop) (is : List PI) (size : Int) (w : World) (hJ : (Chunk.jour base gd gj nm S is size).P w) :
    Calls Tryz.prog 25 #[.pointer (some ⟨gj, 0, none⟩)] w fun e w' => e = .returned (.int .i64 size) ∧ Below w.heap.size w w' := by
 obtain ⟨gm, xs, hxs, hon, hB, hL, hfs⟩ := jour_blk hJ
 refine gw_start (N := 7) (vs := [.pointer (some ⟨gj, 0, none⟩)]) Tryz.func25 rfl rfl (by simp) fun a HF HO => ?_
 replace HO : Own w w [] := HO
 refine gR fun K1 hK1 => ?_
 refine Vc HF ?_
 intro _ H3; clear HF
 refine gE hK1 ?_
 refine gR fun K4 hK4 => ?_
 refine Vm H3 fun _ H6 => ?_
 refine Vz H6 fun _ H8 => ?_
 refine Vf H8 (gwfld79_3 _ _) fun _ H10 => ?_
 refine Vl H10 gwagg3 (argblk HO hB) fun _ H12 => ?_
 refine Va H12 fun _ H14 => ?_
 refine gE hK4 ?_
 refine wp_ret ?_
 clear H3 H6 H8 H10 H12
 refine gw_ret1 H14 rfl rfl ?_
 exact ⟨rfl, HO.below⟩
end GJour1_
export GJour1_ (has_calls get_calls keys_calls size_calls)
namespace GVfs0_
theorem named_calls (s : ByteArray) (w : World) :
    Calls Tryz.prog 26 #[.string s] w fun e w' => e = .returned (.bool (namedB s)) ∧ Below w.heap.size w w' := by
 refine gw_start (N := 11) (vs := [.string s]) Tryz.func26 rfl rfl (by simp) fun a HF HO => ?_
 replace HO : Own w w [] := HO
 refine gR fun K1 hK1 => ?_
 refine Vc HF ?_
 intro _ H3; clear HF
 refine gE hK1 ?_
 refine gR fun K4 hK4 => ?_
 refine Vm H3 fun _ H6 => ?_
 refine V H6 (op_lens Tryz.underlying9 rfl (H6.ev rfl)) fun _ H8 => ?_
 refine V H8 (op_geq rfl (H8.ev rfl) (ev_c _ _)) fun _ H10 => ?_
 refine Vm H10 fun _ H12 => ?_
 clear H3 H6 H8 H10
 refine gw_evG H12 rfl rfl rfl rfl (on_t _) rfl (by decide) (fun h_ => (op_move rfl (H12.ev rfl))) ?_
 intro _ H14; clear H12
 refine gw_evG H14 rfl rfl rfl rfl (on_t _) rfl (by decide) (fun h_ => (op_lens Tryz.underlying9 rfl (ev_gv (H14.ev rfl) h_))) ?_
 intro _ H16; clear H14
 refine gw_evG H16 rfl rfl rfl rfl (on_t _) rfl (by decide) (fun h_ => (op_leq rfl (ev_gv (H16.ev rfl) h_) (ev_c _ _))) ?_
 intro _ H18; clear H16
 refine V H18 (op_pick_and rfl (H18.ev rfl) (fun hp_ => (ev_gv (H18.ev rfl) hp_)) (ev_c _ _)) fun _ H20 => ?_
 refine Va H20 fun _ H22 => ?_
 refine gE hK4 ?_
 refine wp_ret ?_
 clear H18 H20
 refine gw_ret1 H22 rfl rfl ?_
 exact ⟨by rw [named_i], HO.below⟩
theorem new_own (w0 w : World) (R : Chunk) (room : Int) (HO : Own w0 w [R]) :
    Calls Tryz.prog 5 #[.int .i64 room] w fun e w' => ∃ gd S, e = .returned (.pointer (some ⟨gd, 0, none⟩)) ∧ Own w0 w' [R, Chunk.disk w0.heap.size gd S (newD room)] := by
 refine gw_startO (N := 8) (vs := [J room]) Tryz.func5 rfl rfl (by simp) fun a HF => ?_
 refine gR fun K1 hK1 => ?_
 refine Vc HF ?_
 intro _ H3; clear HF
 refine gE hK1 ?_
 refine gR fun K4 hK4 => ?_
 refine gw_mkmap (K := 9) H3 HO (want_none rfl) rfl (by decide) rfl ?_
 intro g5 _ w7 H8 O9; clear H3 HO
 have O10 : Own w0 w7 [Chunk.lmap Tryz.prog 9 g5 ([] : List (Lit × Value)), R] := O9
 clear O9
 refine Vm H8 fun _ H12 => ?_
 refine V H12 (op_max rfl (H12.ev rfl) (ev_c _ _)) fun _ H14 => ?_
 refine V H14 (op_build (cells := #[.map (some g5), J (mx room 0), J 0, J 0, .bool false]) rfl (pt_cons (H14.ev rfl) (pt_cons (H14.ev rfl) pt_nil)) (by kernel_rfl)) fun _ H16 => ?_
 clear H8 H12 H14
 refine gw_new H16 O10 (want_none rfl) rfl (by decide) (op_box rfl (H16.ev rfl)) ?_
 intro g17 _ w19 H20 O21; clear H16 O10
 have O22 : Own w0 w19 [Bk g17 [.map (some g5), J (mx room 0), J 0, J 0, .bool false] 64, Chunk.lmap Tryz.prog 9 g5 ([] : List (Lit × Value)), R] := O21
 clear O21
 refine Va H20 fun _ H24 => ?_
 refine gE hK4 ?_
 refine wp_ret ?_
 clear H20
 refine gw_ret1 H24 rfl rfl ?_
 have HOf := Own.files_nil O22 w0.heap.size
 obtain ⟨S', HOd⟩ := disk_close2 (R := R) (base := w0.heap.size) (gd := g17) (gm := g5) (d := newD room) (xs := []) rfl (by exact HOf.sel [3, 1, 2, 0] (by decide))
 exact ⟨_, S', rfl, HOd⟩
theorem step_calls (w0 w : World) (R : Chunk) (gd gm : Nat) (d : PD) (fid : Nat) (fn0 : Func) (cap : List Value) (Q : World → Prop) (h1 : Tryz.prog.funcs[fid]? = some fn0) (h2 : (fn0.name == "runtime.NumGoroutine") = false) (h3 : fn0.body.isSome = true) (hfu : 0 ≤ d.fuse ∧ d.fuse ≤ 9223372036854775807) (hdo : d.fuse ≠ 1 → ∀ w1, Own w0 w1 [R, Chunk.blk gd (.cells (dcells gm { d with fuse := decF d.fuse }) 64 (0, 0))] → Calls Tryz.prog fid cap.toArray w1 fun e w2 => e = .returned (.tuple #[]) ∧ Q w2) (HO : Own w0 w [R, Bk gd [.map (some gm), .int .i64 d.most, .int .i64 d.used, .int .i64 d.fuse, .bool d.down] 64]) :
    Calls Tryz.prog 27 #[.pointer (some ⟨gd, 0, none⟩), .func (.func fid) #[] cap.toArray] w fun e w' => (d.fuse = 1 ∧ e = .returned (.int .i64 70) ∧ Own w0 w' [R, Chunk.blk gd (.cells (dcells gm { d with fuse := 0, down := true }) 64 (0, 0))]) ∨ (d.fuse ≠ 1 ∧ e = .returned (.int .i64 0) ∧ Q w') := by
 refine gw_startO (N := 27) (vs := [.pointer (some ⟨gd, 0, none⟩), .func (.func fid) #[] cap.toArray]) Tryz.func27 rfl rfl (by simp) fun a HF => ?_
 refine gR fun K1 hK1 => ?_
 refine Vc HF ?_
 intro _ H3; clear HF
 refine gE hK1 ?_
 refine gw_seq fun K4 hK4 => ?_
 refine gR fun K5 hK5 => ?_
 refine Vm H3 fun _ H7 => ?_
 refine Vz H7 fun _ H9 => ?_
 refine Vf H9 (gwfld64_3 _ _) fun _ H11 => ?_
 refine Vl H11 gwagg3 (HO.get 1 rfl) fun _ H13 => ?_
 refine V H13 (op_gtr rfl (H13.ev rfl) (ev_c _ _)) fun _ H15 => ?_
 refine gE hK5 ?_
 clear H3 H7 H9 H11 H13
 refine gw_cond H15 rfl (fun hb16 => ?_) (fun hb16 => ?_)
 ·
  have H17 := H15.subst_ (d := 9) (b := true) rfl hb16
  clear H15
  (try simp only [decide_eq_true_eq] at hb16)
  refine gR fun K18 hK18 => ?_
  refine Vm H17 fun _ H20 => ?_
  refine Vz H20 fun _ H22 => ?_
  refine Vf H22 (gwfld64_3 _ _) fun _ H24 => ?_
  refine Vl H24 gwagg3 (HO.get 1 rfl) fun _ H26 => ?_
  refine V H26 (op_sub rfl (H26.ev rfl) (ev_c _ _) (by omega)) fun _ H28 => ?_
  refine Vz H28 fun _ H30 => ?_
  refine Vf H30 (gwfld64_3 _ _) fun _ H32 => ?_
  clear H17 H20 H22 H24 H26 H28 H30
  refine gw_set 1 H32 HO rfl (want_none rfl) rfl (op_store1 gwsiz3 rfl (H32.ev rfl) (H32.ev rfl) rfl (blk_at (HO.get 1 rfl) rfl) (blkf (HO.get 1 rfl))) ?_
  intro _ w35 H34 O36; clear H32 HO
  refine gE hK18 ?_
  refine gR fun K37 hK37 => ?_
  refine Vm H34 fun _ H39 => ?_
  refine Vz H39 fun _ H41 => ?_
  refine Vf H41 (gwfld64_3 _ _) fun _ H43 => ?_
  refine Vl H43 gwagg3 (O36.get 1 rfl) fun _ H45 => ?_
  refine V H45 (op_eqi rfl (H45.ev rfl) (ev_c _ _)) fun _ H47 => ?_
  refine gE hK37 ?_
  clear H34 H39 H41 H43 H45
  refine gw_cond H47 rfl (fun hb48 => ?_) (fun hb48 => ?_)
  ·
   have H49 := H47.subst_ (d := 21) (b := true) rfl hb48
   clear H47
   (try simp only [decide_eq_true_eq] at hb48)
   refine gR fun K50 hK50 => ?_
   refine Vm H49 fun _ H52 => ?_
   refine Vz H52 fun _ H54 => ?_
   refine Vf H54 (gwfld64_4 _ _) fun _ H56 => ?_
   clear H49 H52 H54
   refine gw_set 1 H56 O36 rfl (want_none rfl) rfl (op_store1 gwsiz4 rfl (H56.ev rfl) (ev_c _ _) rfl (blk_at (O36.get 1 rfl) rfl) (blkf (O36.get 1 rfl))) ?_
   intro _ w59 H58 O60; clear H56 O36
   refine gE hK50 ?_
   refine gR fun K61 hK61 => ?_
   refine Vc H58 fun _ H63 => ?_
   refine gE hK61 ?_
   refine wp_ret ?_
   clear H58
   refine gw_thr ?_
   refine gw_ret1 H63 rfl rfl ?_
   have e_ : d.fuse - 1 = 0 := by omega
   exact .inl ⟨by omega, rfl, by rw [e_] at O60; exact O60.sel [0, 1] (by decide)⟩
  have H64 := H47.subst_ (d := 21) (b := false) rfl hb48
  clear H47
  (try simp only [decide_eq_false_iff_not] at hb48)
  refine gS hK4 ?_
  refine gR fun K65 hK65 => ?_
  refine Vm H64 fun _ H67 => ?_
  clear H64
  refine Wc H67 (op_callV h1 h2 h3 rfl (H67.ev rfl) ar_nil) (hdo (by omega) _ (by rw [show decF d.fuse = d.fuse - 1 by (unfold decF; split <;> omega)]; exact O36.sel [0, 1] (by decide))) ?_
  rintro _ w69 ⟨rfl, hq⟩
  refine ⟨_, rfl, fun _ H72 => ?_⟩
  clear H67 O36
  refine gE hK65 ?_
  refine gR fun K74 hK74 => ?_
  refine Vc H72 fun _ H76 => ?_
  refine gE hK74 ?_
  refine wp_ret ?_
  clear H72
  refine gw_ret1 H76 rfl rfl ?_
  exact .inr ⟨by omega, rfl, hq⟩
 have H77 := H15.subst_ (d := 9) (b := false) rfl hb16
 clear H15
 (try simp only [decide_eq_false_iff_not, Int.not_lt] at hb16)
 refine gS hK4 ?_
 refine gR fun K78 hK78 => ?_
 refine Vm H77 fun _ H80 => ?_
 clear H77
 refine Wc H80 (op_callV h1 h2 h3 rfl (H80.ev rfl) ar_nil) (hdo (by omega) _ (by rw [show decF d.fuse = d.fuse by (unfold decF; split <;> omega)]; exact HO.sel [0, 1] (by decide))) ?_
 rintro _ w82 ⟨rfl, hq⟩
 refine ⟨_, rfl, fun _ H85 => ?_⟩
 clear H80 HO
 refine gE hK78 ?_
 refine gR fun K87 hK87 => ?_
 refine Vc H85 fun _ H89 => ?_
 refine gE hK87 ?_
 refine wp_ret ?_
 clear H85
 refine gw_ret1 H89 rfl rfl ?_
 exact .inr ⟨by omega, rfl, hq⟩
theorem find_down (gd gm : Nat) (d : PD) (nm : ByteArray) (M : List (Lit × Value)) (w : World) (hD : w.heap[gd]? = some (.cells (dcells gm d) 64 (0, 0))) (hL : (Chunk.lmap Tryz.prog 9 gm M).P w) (hdn : d.down = true) (hn : nm.size ≤ 9223372036854775807) :
    Calls Tryz.prog 29 #[.pointer (some ⟨gd, 0, none⟩), .string nm] w fun e w' => e = .returned (.tuple #[.pointer none, .int .i64 70]) ∧ Below w.heap.size w w' := by
 refine gw_start (N := 20) (vs := [.pointer (some ⟨gd, 0, none⟩), .string nm]) Tryz.func29 rfl rfl (by simp) fun a HF HO => ?_
 replace HO : Own w w [] := HO
 refine gR fun K1 hK1 => ?_
 refine Vc HF ?_
 intro _ H3; clear HF
 refine Vc H3 fun _ H5 => ?_
 refine gE hK1 ?_
 refine gw_seq fun K6 hK6 => ?_
 refine gR fun K7 hK7 => ?_
 refine Vm H5 fun _ H9 => ?_
 refine Vz H9 fun _ H11 => ?_
 refine Vf H11 (gwfld64_4 _ _) fun _ H13 => ?_
 refine Vl H13 gwagg4 (argblk HO hD) fun _ H15 => ?_
 clear H3 H5 H9 H11 H13
 have H16 := H15.lit (b := true) (hdn)
 clear H15
 refine gE hK7 ?_
 refine gw_cond H16 rfl (fun hb17 => ?_) (fun hb17 => ?_)
 rotate_left
 ·
  cases hb17
 refine gR fun K18 hK18 => ?_
 refine Vc H16 fun _ H20 => ?_
 refine Vc H20 fun _ H22 => ?_
 refine gE hK18 ?_
 refine wp_ret ?_
 clear H16 H20
 refine gw_thr ?_
 refine gw_ret2 H22 rfl rfl rfl ?_
 exact ⟨rfl, HO.below⟩
theorem find_none (gd gm : Nat) (d : PD) (nm : ByteArray) (M : List (Lit × Value)) (w : World) (hD : w.heap[gd]? = some (.cells (dcells gm d) 64 (0, 0))) (hL : (Chunk.lmap Tryz.prog 9 gm M).P w) (hdn : d.down = false) (hl : lfind (litS nm) M = none) (hn : nm.size ≤ 9223372036854775807) :
    Calls Tryz.prog 29 #[.pointer (some ⟨gd, 0, none⟩), .string nm] w fun e w' => e = .returned (.tuple #[.pointer none, .int .i64 4]) ∧ Below w.heap.size w w' := by
 refine gw_start (N := 20) (vs := [.pointer (some ⟨gd, 0, none⟩), .string nm]) Tryz.func29 rfl rfl (by simp) fun a HF HO => ?_
 replace HO : Own w w [] := HO
 refine gR fun K1 hK1 => ?_
 refine Vc HF ?_
 intro _ H3; clear HF
 refine Vc H3 fun _ H5 => ?_
 refine gE hK1 ?_
 refine gw_seq fun K6 hK6 => ?_
 refine gR fun K7 hK7 => ?_
 refine Vm H5 fun _ H9 => ?_
 refine Vz H9 fun _ H11 => ?_
 refine Vf H11 (gwfld64_4 _ _) fun _ H13 => ?_
 refine Vl H13 gwagg4 (argblk HO hD) fun _ H15 => ?_
 clear H3 H5 H9 H11 H13
 have H16 := H15.lit (b := false) (hdn)
 clear H15
 refine gE hK7 ?_
 refine gw_cond H16 rfl (fun hb17 => ?_) (fun hb17 => ?_)
 ·
  cases hb17
 refine gS hK6 ?_
 refine gR fun K18 hK18 => ?_
 refine Vm H16 fun _ H20 => ?_
 refine Vz H20 fun _ H22 => ?_
 refine Vf H22 (gwfld64_0 _ _) fun _ H24 => ?_
 refine Vl H24 gwagg62 (argblk HO hD) fun _ H26 => ?_
 refine Vm H26 fun _ H28 => ?_
 refine V H28 (op_ml_none strKey Tryz.underlying62 gwzer71 rfl (H28.ev rfl) (H28.ev rfl) (keyS (by omega)) (lmap_arg HO hL) (hl)) fun _ H30 => ?_
 refine Va H30 fun _ H32 => ?_
 refine gE hK18 ?_
 refine gw_seq fun K33 hK33 => ?_
 refine gR fun K34 hK34 => ?_
 refine Vm H32 fun _ H36 => ?_
 clear H16 H20 H22 H24 H26 H28 H30 H32
 refine V H36 (op_eqp_nils Tryz.underlying71 rfl (H36.ev rfl)) fun _ H38 => ?_
 refine gE hK34 ?_
 clear H36
 refine gw_cond H38 rfl (fun hb39 => ?_) (fun hb39 => ?_)
 rotate_left
 ·
  cases hb39
 refine gR fun K40 hK40 => ?_
 refine Vc H38 fun _ H42 => ?_
 refine Vc H42 fun _ H44 => ?_
 refine gE hK40 ?_
 refine wp_ret ?_
 clear H38 H42
 refine gw_thr ?_
 refine gw_ret2 H44 rfl rfl rfl ?_
 exact ⟨rfl, HO.below⟩
theorem find_some (gd gm : Nat) (d : PD) (nm : ByteArray) (M : List (Lit × Value)) (g : Nat) (w : World) (hD : w.heap[gd]? = some (.cells (dcells gm d) 64 (0, 0))) (hL : (Chunk.lmap Tryz.prog 9 gm M).P w) (hdn : d.down = false) (hl : lfind (litS nm) M = some (.pointer (some ⟨g, 0, none⟩))) (hn : nm.size ≤ 9223372036854775807) :
    Calls Tryz.prog 29 #[.pointer (some ⟨gd, 0, none⟩), .string nm] w fun e w' => e = .returned (.tuple #[.pointer (some ⟨g, 0, none⟩), .int .i64 0]) ∧ Below w.heap.size w w' := by
 refine gw_start (N := 20) (vs := [.pointer (some ⟨gd, 0, none⟩), .string nm]) Tryz.func29 rfl rfl (by simp) fun a HF HO => ?_
 replace HO : Own w w [] := HO
 refine gR fun K1 hK1 => ?_
 refine Vc HF ?_
 intro _ H3; clear HF
 refine Vc H3 fun _ H5 => ?_
 refine gE hK1 ?_
 refine gw_seq fun K6 hK6 => ?_
 refine gR fun K7 hK7 => ?_
 refine Vm H5 fun _ H9 => ?_
 refine Vz H9 fun _ H11 => ?_
 refine Vf H11 (gwfld64_4 _ _) fun _ H13 => ?_
 refine Vl H13 gwagg4 (argblk HO hD) fun _ H15 => ?_
 clear H3 H5 H9 H11 H13
 have H16 := H15.lit (b := false) (hdn)
 clear H15
 refine gE hK7 ?_
 refine gw_cond H16 rfl (fun hb17 => ?_) (fun hb17 => ?_)
 ·
  cases hb17
 refine gS hK6 ?_
 refine gR fun K18 hK18 => ?_
 refine Vm H16 fun _ H20 => ?_
 refine Vz H20 fun _ H22 => ?_
 refine Vf H22 (gwfld64_0 _ _) fun _ H24 => ?_
 refine Vl H24 gwagg62 (argblk HO hD) fun _ H26 => ?_
 refine Vm H26 fun _ H28 => ?_
 refine V H28 (op_ml_some strKey Tryz.underlying62 gwzer71 rfl (H28.ev rfl) (H28.ev rfl) (keyS (by omega)) (lmap_arg HO hL) (hl)) fun _ H30 => ?_
 refine Va H30 fun _ H32 => ?_
 refine gE hK18 ?_
 refine gw_seq fun K33 hK33 => ?_
 refine gR fun K34 hK34 => ?_
 refine Vm H32 fun _ H36 => ?_
 clear H16 H20 H22 H24 H26 H28 H30 H32
 refine V H36 (op_eqp_nil Tryz.underlying71 rfl (H36.ev rfl)) fun _ H38 => ?_
 refine gE hK34 ?_
 clear H36
 refine gw_cond H38 rfl (fun hb39 => ?_) (fun hb39 => ?_)
 ·
  cases hb39
 refine gS hK33 ?_
 refine gR fun K40 hK40 => ?_
 refine Vm H38 fun _ H42 => ?_
 refine Va H42 fun _ H44 => ?_
 refine Vc H44 fun _ H46 => ?_
 refine gE hK40 ?_
 refine wp_ret ?_
 clear H38 H42 H44
 refine gw_ret2 H46 rfl rfl rfl ?_
 exact ⟨rfl, HO.below⟩
end GVfs0_
export GVfs0_ (named_calls new_own step_calls find_down find_none find_some)
namespace GVfs1_
theorem create1 (w0 w : World) (R : Chunk) (gd gm : Nat) (d : PD) (xs : List XF) (nm : ByteArray) (bd bn : Nat) (hn : nm.size ≤ 9223372036854775807) (hl : xs.length < 9223372036854775807) (HO : Own w0 w [R, Bk gd [.map (some gm), .int .i64 d.most, .int .i64 d.used, .int .i64 d.fuse, .bool d.down] 64, Chunk.lmap Tryz.prog 9 gm (xs.map XF.ent), Bk bd [.pointer (some ⟨gd, 0, none⟩)] 23, Bk bn [.string nm] 9]) :
    Calls Tryz.prog 28 #[.pointer (some ⟨bd, 0, none⟩), .pointer (some ⟨bn, 0, none⟩)] w fun e w' => e = .returned (.tuple #[]) ∧ ∃ g : Nat, Own w0 w' [R, Chunk.blk g (.cells #[.slice none 0 0, .int .i64 0] 74 (0, 0)), Chunk.blk gd (.cells (dcells gm d) 64 (0, 0)), Chunk.lmap Tryz.prog 9 gm (lput (litS nm) (.pointer (some ⟨g, 0, none⟩)) (xs.map XF.ent))] := by
 refine gw_startO (N := 9) (vs := [.pointer (some ⟨bd, 0, none⟩), .pointer (some ⟨bn, 0, none⟩)]) Tryz.func28 rfl rfl (by simp) fun a HF => ?_
 refine gx_draw (M := [R, Bk gd [.map (some gm), J d.most, J d.used, J d.fuse, .bool d.down] 64, Chunk.lmap Tryz.prog 9 gm (xs.map XF.ent), Bk bd [.pointer (some ⟨gd, 0, none⟩)] 23, Bk bn [.string nm] 9]) (fun j_ => j_ == 7) HO (by kernel_rfl) fun w1 O2 => ?_
 clear HO
 refine gx_take 0 rfl (by kernel_rfl) HF (by exact O2.sel [0, 1, 2, 3, 4] (by decide)) (want_none rfl) rfl (by decide) (fun wq HO => (op_load1 gwagg23 rfl (HF.ev rfl) (blk_at (HO.get 3 rfl) rfl))) ?_
 intro _ H4; clear HF
 refine gx_take 1 rfl (by kernel_rfl) H4 (by exact O2.sel [0, 1, 2, 3, 4] (by decide)) (want_none rfl) rfl (by decide) (fun wq HO => (op_nil rfl (H4.ev rfl))) ?_
 intro _ H6; clear H4
 refine gx_take 2 rfl (by kernel_rfl) H6 (by exact O2.sel [0, 1, 2, 3, 4] (by decide)) (want_none rfl) rfl (by decide) (fun wq HO => (op_field (gwfld64_0 _ _) rfl (H6.ev rfl))) ?_
 intro _ H8; clear H6
 refine gx_take 3 rfl (by kernel_rfl) H8 (by exact O2.sel [0, 1, 2, 3, 4] (by decide)) (want_none rfl) rfl (by decide) (fun wq HO => (op_load1 gwagg62 rfl (H8.ev rfl) (blk_at (HO.get 1 rfl) rfl))) ?_
 intro _ H10; clear H8
 refine gx_take 4 rfl (by kernel_rfl) H10 (by exact O2.sel [0, 1, 2, 3, 4] (by decide)) (want_none rfl) rfl (by decide) (fun wq HO => (op_load1 gwagg9 rfl (H10.ev rfl) (blk_at (HO.get 4 rfl) rfl))) ?_
 intro _ H12; clear H10
 refine gx_take 5 rfl (by kernel_rfl) H12 (by exact O2.sel [0, 1, 2, 3, 4] (by decide)) (want_none rfl) rfl (by decide) (fun wq HO => (op_build (cells := #[.slice none 0 0, J 0]) rfl pt_nil (by kernel_rfl))) ?_
 intro _ H14; clear H12
 refine gx_step 6 rfl (by kernel_rfl) ?_
 refine gw_new H14 O2 (want_none rfl) rfl (by decide) (op_box rfl (H14.ev rfl)) ?_
 intro g15 _ w17 H18 O19; clear H14 O2
 have O20 : Own w0 w17 [Bk g15 [.slice none 0 0, J 0] 74, R, Bk gd [.map (some gm), J d.most, J d.used, J d.fuse, .bool d.down] 64, Chunk.lmap Tryz.prog 9 gm (xs.map XF.ent), Bk bd [.pointer (some ⟨gd, 0, none⟩)] 23, Bk bn [.string nm] 9] := O19
 clear O19
 refine gx_on (i := 6) (B := (fun j_ => j_ == 7)) (fun _ => (by exact O20.sel [1, 2, 3, 4, 5] (by decide))) ?_
 refine gx_step 7 rfl (by kernel_rfl) ?_
 refine gw_mput 3 strKey Tryz.underlying62 H18 O20 rfl (want_none rfl) rfl rfl (H18.ev rfl) (H18.ev rfl) (H18.ev rfl) (keyS (hn)) (by simpa using hl) ?_
 intro _ w22 H23 O24; clear H18 O20
 have O25 : Own w0 w22 [Bk g15 [.slice none 0 0, J 0] 74, R, Bk gd [.map (some gm), J d.most, J d.used, J d.fuse, .bool d.down] 64, Chunk.lmap Tryz.prog 9 gm (lput (litS nm) (.pointer (some ⟨g15, 0, none⟩)) (xs.map XF.ent)), Bk bd [.pointer (some ⟨gd, 0, none⟩)] 23, Bk bn [.string nm] 9] := O24
 clear O24
 refine gx_on (i := 7) (B := (fun j_ => j_ == 7)) (fun h_ => by cases h_) ?_
 refine gx_done (by kernel_rfl) ?_
 refine gw_end0 H23 rfl ?_
 exact ⟨rfl, _, O25.sel [1, 0, 2, 3] (by decide)⟩
theorem create_calls (w0 w : World) (R : Chunk) (gd : Nat) (S : Nat → Prop) (d : PD) (nm : ByteArray) (hw : wfD d) (hn : nm.size ≤ 9223372036854775807) (hlen : d.fs.length ≤ 1000000) (HO : Own w0 w [R, Chunk.disk w0.heap.size gd S d]) :
    Calls Tryz.prog 7 #[.pointer (some ⟨gd, 0, none⟩), .string nm] w fun e w' => e = .returned (.int .i64 (createD nm d).2) ∧ ∃ S', Own w0 w' [R, Chunk.disk w0.heap.size gd S' (createD nm d).1] := by
 have hu0 := hw.used
 have hm0 := hw.most
 have hfu := hw.fuse
 obtain ⟨gm, xs, hxs, hon, HO⟩ := disk_open2 HO
 have hxl : xs.length ≤ 1000000 := by rw [← hxs, List.length_map] at hlen; exact hlen
 refine gw_startO (N := 25) (vs := [.pointer (some ⟨gd, 0, none⟩), .string nm]) Tryz.func7 rfl rfl (by simp) fun a HF => ?_
 rcases look3 nm d hxs hon with hdn | ⟨hdn, hl, hgd, hno⟩ | ⟨hdn, pre, x, post, rfl, hnm, hl, hgd, hoth⟩
 ·
  refine gR fun K1 hK1 => ?_
  refine gw_new HF HO (want_none rfl) rfl (by decide) (op_box rfl (HF.ev rfl)) ?_
  intro g2 _ w4 H5 O6; clear HF HO
  have O7 : Own w0 w4 [Bk g2 [.pointer (some ⟨gd, 0, none⟩)] 23, R, Bk gd [.map (some gm), J d.most, J d.used, J d.fuse, .bool d.down] 64, Chunk.lmap Tryz.prog 9 gm (xs.map XF.ent), Chunk.files w0.heap.size xs] := O6
  clear O6
  refine gw_new H5 O7 (want_none rfl) rfl (by decide) (op_box rfl (H5.ev rfl)) ?_
  intro g8 _ w10 H11 O12; clear H5 O7
  have O13 : Own w0 w10 [Bk g8 [.string nm] 9, Bk g2 [.pointer (some ⟨gd, 0, none⟩)] 23, R, Bk gd [.map (some gm), J d.most, J d.used, J d.fuse, .bool d.down] 64, Chunk.lmap Tryz.prog 9 gm (xs.map XF.ent), Chunk.files w0.heap.size xs] := O12
  clear O12
  refine Vc H11 fun _ H15 => ?_
  refine gE hK1 ?_
  refine gw_seq fun K16 hK16 => ?_
  clear H11
  refine wp_block ?_
  refine gR fun K17 hK17 => ?_
  refine Vl H15 gwagg23 (O13.get 1 rfl) fun _ H19 => ?_
  refine Vz H19 fun _ H21 => ?_
  refine Vf H21 (gwfld64_4 _ _) fun _ H23 => ?_
  refine Vl H23 gwagg4 (O13.get 3 rfl) fun _ H25 => ?_
  clear H15 H19 H21 H23
  have H26 := H25.lit (b := true) (hdn)
  clear H25
  refine Va H26 fun _ H28 => ?_
  refine gE hK17 ?_
  clear H26
  refine gw_cond H28 rfl (fun hb29 => ?_) (fun hb29 => ?_)
  rotate_left
  ·
   cases hb29
  refine gR fun K30 hK30 => ?_
  refine Vc H28 fun _ H32 => ?_
  refine gE hK30 ?_
  refine wp_ret ?_
  clear H28
  refine gw_blr ?_
  refine gw_thr ?_
  refine gw_ret1 H32 rfl rfl ?_
  exact disk_fin (gd := gd) (gm := gm) (d' := d) (xs := xs) (create_down hdn) hxs (by exact O13.sel [2, 3, 4, 5] (by decide))
 ·
  refine gR fun K33 hK33 => ?_
  refine gw_new HF HO (want_none rfl) rfl (by decide) (op_box rfl (HF.ev rfl)) ?_
  intro g34 _ w36 H37 O38; clear HF HO
  have O39 : Own w0 w36 [Bk g34 [.pointer (some ⟨gd, 0, none⟩)] 23, R, Bk gd [.map (some gm), J d.most, J d.used, J d.fuse, .bool d.down] 64, Chunk.lmap Tryz.prog 9 gm (xs.map XF.ent), Chunk.files w0.heap.size xs] := O38
  clear O38
  refine gw_new H37 O39 (want_none rfl) rfl (by decide) (op_box rfl (H37.ev rfl)) ?_
  intro g40 _ w42 H43 O44; clear H37 O39
  have O45 : Own w0 w42 [Bk g40 [.string nm] 9, Bk g34 [.pointer (some ⟨gd, 0, none⟩)] 23, R, Bk gd [.map (some gm), J d.most, J d.used, J d.fuse, .bool d.down] 64, Chunk.lmap Tryz.prog 9 gm (xs.map XF.ent), Chunk.files w0.heap.size xs] := O44
  clear O44
  refine Vc H43 fun _ H47 => ?_
  refine gE hK33 ?_
  refine gw_seq fun K48 hK48 => ?_
  clear H43
  refine wp_block ?_
  refine gR fun K49 hK49 => ?_
  refine Vl H47 gwagg23 (O45.get 1 rfl) fun _ H51 => ?_
  refine Vz H51 fun _ H53 => ?_
  refine Vf H53 (gwfld64_4 _ _) fun _ H55 => ?_
  refine Vl H55 gwagg4 (O45.get 3 rfl) fun _ H57 => ?_
  clear H47 H51 H53 H55
  have H58 := H57.lit (b := false) (hdn)
  clear H57
  refine Va H58 fun _ H60 => ?_
  refine gE hK49 ?_
  clear H58
  refine gw_cond H60 rfl (fun hb61 => ?_) (fun hb61 => ?_)
  ·
   cases hb61
  refine gR fun K62 hK62 => ?_
  refine Vl H60 gwagg9 (O45.get 0 rfl) fun _ H64 => ?_
  clear H60
  refine Wk H64 Tryz.func26 rfl (ar_cons (H64.ev rfl) ar_nil) (named_calls nm _) ?_
  rintro e65 w66 ⟨rfl, hb67⟩
  refine ⟨_, rfl, fun _ H69 => ?_⟩
  have O70 := O45.after hb67
  clear H64 O45 hb67
  refine V H69 (op_not rfl (H69.ev rfl)) fun _ H73 => ?_
  refine Va H73 fun _ H75 => ?_
  refine gE hK62 ?_
  clear H69 H73
  refine gw_cond H75 rfl (fun hb76 => ?_) (fun hb76 => ?_)
  ·
   have H77 := H75.subst_ (d := 10) (b := true) rfl hb76
   clear H75
   (try simp only [Bool.and_eq_true, Bool.and_eq_false_iff, Bool.not_and, Bool.or_eq_true, Bool.or_eq_false_iff, Bool.not_or, Bool.not_not, Bool.not_eq_true', Bool.not_eq_false', Bool.not_eq_true, Bool.not_eq_false] at hb76)
   have hnb : namedB nm = false := by simpa using hb76
   refine gR fun K78 hK78 => ?_
   refine Vc H77 fun _ H80 => ?_
   refine gE hK78 ?_
   refine wp_ret ?_
   clear H77
   refine gw_blr ?_
   refine gw_thr ?_
   refine gw_ret1 H80 rfl rfl ?_
   exact disk_fin (gd := gd) (gm := gm) (d' := d) (xs := xs) (create_bad hdn hnb) hxs (by exact O70.sel [2, 3, 4, 5] (by decide))
  have H81 := H75.subst_ (d := 10) (b := false) rfl hb76
  clear H75
  (try simp only [Bool.and_eq_true, Bool.and_eq_false_iff, Bool.not_and, Bool.or_eq_true, Bool.or_eq_false_iff, Bool.not_or, Bool.not_not, Bool.not_eq_true', Bool.not_eq_false', Bool.not_eq_true, Bool.not_eq_false] at hb76)
  have hnb : namedB nm = true := by simpa using hb76
  refine gw_seq fun K82 hK82 => ?_
  refine gw_drawB O70 (by kernel_rfl) (by kernel_rfl) fun w83 O84 => ?_
  clear O70
  refine Vq H81 (fun wq hq => have HO := O84.after hq; op_load1 gwagg23 rfl (H81.ev rfl) (blk_at (HO.get 1 rfl) rfl)) fun _ H86 => ?_
  refine Vn H86 (op_nil rfl (H86.ev rfl)) fun _ H88 => ?_
  refine Vn H88 (op_field (gwfld64_0 _ _) rfl (H88.ev rfl)) fun _ H90 => ?_
  refine Vq H90 (fun wq hq => have HO := O84.after hq; op_load1 gwagg62 rfl (H90.ev rfl) (blk_at (HO.get 3 rfl) rfl)) fun _ H92 => ?_
  refine Vq H92 (fun wq hq => have HO := O84.after hq; op_load1 gwagg9 rfl (H92.ev rfl) (blk_at (HO.get 0 rfl) rfl)) fun _ H94 => ?_
  refine Vq H94 (fun wq hq => have HO := O84.after hq; op_ml_none strKey Tryz.underlying62 gwzer71 rfl (H94.ev rfl) (H94.ev rfl) (keyS (hn)) (HO.get 4 rfl) (hl)) fun _ H96 => ?_
  refine Vn H96 (op_nep_nils Tryz.underlying71 rfl (H96.ev rfl)) fun _ H98 => ?_
  refine Vn H98 (op_assign rfl (H98.ev rfl)) fun _ H100 => ?_
  clear H81 H86 H88 H90 H92 H94 H96 H98
  refine wpQuiet_nil ?_
  intro w101 hq
  have O102 := O84.after hq
  clear O84 hq
  refine gw_nx (hK82 _ _ ?_)
  refine gw_cond H100 rfl (fun hb103 => ?_) (fun hb103 => ?_)
  ·
   cases hb103
  refine wp_skip ?_
  refine gw_blk ?_
  refine gw_nx (hK48 _ _ ?_)
  refine gR fun K104 hK104 => ?_
  refine Vl H100 gwagg23 (O102.get 1 rfl) fun _ H106 => ?_
  refine V H106 (op_func rfl (ar_cons (H106.ev rfl) (ar_cons (H106.ev rfl) ar_nil))) fun _ H108 => ?_
  clear H100 H106
  have O115 : Own w0 _ [(Chunk.all [Bk g40 [.string nm] 9, Bk g34 [.pointer (some ⟨gd, 0, none⟩)] 23, R, Chunk.lmap Tryz.prog 9 gm (xs.map XF.ent), Chunk.files w0.heap.size xs]), Bk gd [.map (some gm), J d.most, J d.used, J d.fuse, .bool d.down] 64] := Own.bundle (O102.sel [0, 1, 2, 4, 5, 3] (by decide))
  refine Wk H108 Tryz.func27 rfl (ar_cons (H108.ev rfl) (ar_cons (H108.ev rfl) ar_nil)) (step_calls w0 _ (Chunk.all [Bk g40 [.string nm] 9, Bk g34 [.pointer (some ⟨gd, 0, none⟩)] 23, R, Chunk.lmap Tryz.prog 9 gm (xs.map XF.ent), Chunk.files w0.heap.size xs]) gd gm d 28 _ [.pointer (some ⟨g34, 0, none⟩), .pointer (some ⟨g40, 0, none⟩)] (fun w_ => ∃ g, Own w0 w_ [(Chunk.all [R, Chunk.files w0.heap.size xs]), Bk g [.slice none 0 0, J 0] 74, Bk gd [.map (some gm), J (({ d with fuse := decF d.fuse } : PD).most), J (({ d with fuse := decF d.fuse } : PD).used), J (({ d with fuse := decF d.fuse } : PD).fuse), .bool (({ d with fuse := decF d.fuse } : PD).down)] 64, Chunk.lmap Tryz.prog 9 gm (lput (litS nm) (.pointer (some ⟨g, 0, none⟩)) (xs.map XF.ent))]) Tryz.func28 (by kernel_rfl) rfl hfu (fun hf1 w1 h_ => create1 w0 w1 (Chunk.all [R, Chunk.files w0.heap.size xs]) gd gm ({ d with fuse := decF d.fuse } : PD) xs nm g34 g40 hn (by omega) (Own.bundle (A := [R, Chunk.files w0.heap.size xs]) (L := [Bk gd [.map (some gm), J (({ d with fuse := decF d.fuse } : PD).most), J (({ d with fuse := decF d.fuse } : PD).used), J (({ d with fuse := decF d.fuse } : PD).fuse), .bool (({ d with fuse := decF d.fuse } : PD).down)] 64, Chunk.lmap Tryz.prog 9 gm (xs.map XF.ent), Bk g34 [.pointer (some ⟨gd, 0, none⟩)] 23, Bk g40 [.string nm] 9]) ((Own.unbundle (A := [Bk g40 [.string nm] 9, Bk g34 [.pointer (some ⟨gd, 0, none⟩)] 23, R, Chunk.lmap Tryz.prog 9 gm (xs.map XF.ent), Chunk.files w0.heap.size xs]) (L := [Bk gd [.map (some gm), J (({ d with fuse := decF d.fuse } : PD).most), J (({ d with fuse := decF d.fuse } : PD).used), J (({ d with fuse := decF d.fuse } : PD).fuse), .bool (({ d with fuse := decF d.fuse } : PD).down)] 64]) (by exact h_)).sel [2, 4, 5, 3, 1, 0] (by decide)))) (by exact O115)) ?_
  rintro e109 w110 (⟨hf1, rfl, hb111⟩ | ⟨hf1, rfl, ⟨g, hb111⟩⟩)
  ·
   refine ⟨_, rfl, fun _ H113 => ?_⟩
   have O114 : Own w0 w110 [Bk g40 [.string nm] 9, Bk g34 [.pointer (some ⟨gd, 0, none⟩)] 23, R, Chunk.lmap Tryz.prog 9 gm (xs.map XF.ent), Chunk.files w0.heap.size xs, Bk gd [.map (some gm), J d.most, J d.used, J 0, .bool true] 64] := Own.unbundle (A := [Bk g40 [.string nm] 9, Bk g34 [.pointer (some ⟨gd, 0, none⟩)] 23, R, Chunk.lmap Tryz.prog 9 gm (xs.map XF.ent), Chunk.files w0.heap.size xs]) (L := [Bk gd [.map (some gm), J d.most, J d.used, J 0, .bool true] 64]) (by exact hb111)
   clear O115 hb111
   clear H108 O102
   refine Va H113 fun _ H117 => ?_
   refine gE hK104 ?_
   refine wp_ret ?_
   clear H113
   refine gw_ret1 H117 rfl rfl ?_
   exact disk_fin (gd := gd) (gm := gm) (d' := { d with fuse := 0, down := true }) (xs := xs) ((create_go hdn hnb hgd).trans (step_off hf1)) hxs (by exact O114.sel [2, 5, 3, 4] (by decide))
  refine ⟨_, rfl, fun _ H113 => ?_⟩
  have O114 : Own w0 w110 [R, Chunk.files w0.heap.size xs, Bk g [.slice none 0 0, J 0] 74, Bk gd [.map (some gm), J (({ d with fuse := decF d.fuse } : PD).most), J (({ d with fuse := decF d.fuse } : PD).used), J (({ d with fuse := decF d.fuse } : PD).fuse), .bool (({ d with fuse := decF d.fuse } : PD).down)] 64, Chunk.lmap Tryz.prog 9 gm (lput (litS nm) (.pointer (some ⟨g, 0, none⟩)) (xs.map XF.ent))] := Own.unbundle (A := [R, Chunk.files w0.heap.size xs]) (L := [Bk g [.slice none 0 0, J 0] 74, Bk gd [.map (some gm), J (({ d with fuse := decF d.fuse } : PD).most), J (({ d with fuse := decF d.fuse } : PD).used), J (({ d with fuse := decF d.fuse } : PD).fuse), .bool (({ d with fuse := decF d.fuse } : PD).down)] 64, Chunk.lmap Tryz.prog 9 gm (lput (litS nm) (.pointer (some ⟨g, 0, none⟩)) (xs.map XF.ent))]) hb111
  clear O115 hb111
  clear H108 O102
  refine Va H113 fun _ H119 => ?_
  refine gE hK104 ?_
  refine wp_ret ?_
  clear H113
  refine gw_ret1 H119 rfl rfl ?_
  have O120 := Own.file_close (x := (⟨⟨nm, [], 0⟩, g, none, 0, fun _ => False⟩ : XF)) (pre := []) (post := xs) (by exact (O114.row_nil (Kd.int .u8) 5 w0.heap.size).sel [3, 0, 2, 1, 4, 5] (by decide))
  have O121 := Own.files_perm (ys := insX (⟨⟨nm, [], 0⟩, g, none, 0, fun _ => False⟩ : XF) xs) O120 (insX_perm _ _).symm
  have el_ : lput (litS nm) (.pointer (some ⟨g, 0, none⟩)) (xs.map XF.ent) = (insX (⟨⟨nm, [], 0⟩, g, none, 0, fun _ => False⟩ : XF) xs).map XF.ent := by rw [insX_ent]; unfold lput; rw [← delX_ent, delX_none hno]; rfl
  rw [el_] at O121
  exact disk_fin (gd := gd) (gm := gm) (d' := _) (xs := insX (⟨⟨nm, [], 0⟩, g, none, 0, fun _ => False⟩ : XF) xs) ((create_go hdn hnb hgd).trans (step_on hf1 hfu.1)) (by rw [insX_p, hxs]; show _ = insF _ (delF nm d.fs); rw [← hxs, ← delX_p, delX_none hno]) (by exact O121.sel [1, 2, 3, 0] (by decide))
 have HO := Own.sel (Own.file_open (Own.sel HO [3, 0, 1, 2] (by decide))) [3, 4, 5, 0, 1, 2] (by decide)
 have O122 : Own w0 w [R, Bk gd [.map (some gm), J d.most, J d.used, J d.fuse, .bool d.down] 64, Chunk.lmap Tryz.prog 9 gm ((pre ++ x :: post).map XF.ent), Bk x.g [.slice x.A x.p.b.length x.c, J x.p.sf] 74, Chunk.row (Kd.int .u8) 5 w0.heap.size x.S (.slice x.A x.p.b.length x.c) x.p.b, Chunk.files w0.heap.size (pre ++ post)] := HO
 clear HO
 refine gR fun K123 hK123 => ?_
 refine gw_new HF O122 (want_none rfl) rfl (by decide) (op_box rfl (HF.ev rfl)) ?_
 intro g124 _ w126 H127 O128; clear HF O122
 have O129 : Own w0 w126 [Bk g124 [.pointer (some ⟨gd, 0, none⟩)] 23, R, Bk gd [.map (some gm), J d.most, J d.used, J d.fuse, .bool d.down] 64, Chunk.lmap Tryz.prog 9 gm ((pre ++ x :: post).map XF.ent), Bk x.g [.slice x.A x.p.b.length x.c, J x.p.sf] 74, Chunk.row (Kd.int .u8) 5 w0.heap.size x.S (.slice x.A x.p.b.length x.c) x.p.b, Chunk.files w0.heap.size (pre ++ post)] := O128
 clear O128
 refine gw_new H127 O129 (want_none rfl) rfl (by decide) (op_box rfl (H127.ev rfl)) ?_
 intro g130 _ w132 H133 O134; clear H127 O129
 have O135 : Own w0 w132 [Bk g130 [.string nm] 9, Bk g124 [.pointer (some ⟨gd, 0, none⟩)] 23, R, Bk gd [.map (some gm), J d.most, J d.used, J d.fuse, .bool d.down] 64, Chunk.lmap Tryz.prog 9 gm ((pre ++ x :: post).map XF.ent), Bk x.g [.slice x.A x.p.b.length x.c, J x.p.sf] 74, Chunk.row (Kd.int .u8) 5 w0.heap.size x.S (.slice x.A x.p.b.length x.c) x.p.b, Chunk.files w0.heap.size (pre ++ post)] := O134
 clear O134
 refine Vc H133 fun _ H137 => ?_
 refine gE hK123 ?_
 refine gw_seq fun K138 hK138 => ?_
 clear H133
 refine wp_block ?_
 refine gR fun K139 hK139 => ?_
 refine Vl H137 gwagg23 (O135.get 1 rfl) fun _ H141 => ?_
 refine Vz H141 fun _ H143 => ?_
 refine Vf H143 (gwfld64_4 _ _) fun _ H145 => ?_
 refine Vl H145 gwagg4 (O135.get 3 rfl) fun _ H147 => ?_
 clear H137 H141 H143 H145
 have H148 := H147.lit (b := false) (hdn)
 clear H147
 refine Va H148 fun _ H150 => ?_
 refine gE hK139 ?_
 clear H148
 refine gw_cond H150 rfl (fun hb151 => ?_) (fun hb151 => ?_)
 ·
  cases hb151
 refine gR fun K152 hK152 => ?_
 refine Vl H150 gwagg9 (O135.get 0 rfl) fun _ H154 => ?_
 clear H150
 refine Wk H154 Tryz.func26 rfl (ar_cons (H154.ev rfl) ar_nil) (named_calls nm _) ?_
 rintro e155 w156 ⟨rfl, hb157⟩
 refine ⟨_, rfl, fun _ H159 => ?_⟩
 have O160 := O135.after hb157
 clear H154 O135 hb157
 refine V H159 (op_not rfl (H159.ev rfl)) fun _ H163 => ?_
 refine Va H163 fun _ H165 => ?_
 refine gE hK152 ?_
 clear H159 H163
 refine gw_cond H165 rfl (fun hb166 => ?_) (fun hb166 => ?_)
 ·
  have H167 := H165.subst_ (d := 10) (b := true) rfl hb166
  clear H165
  (try simp only [Bool.and_eq_true, Bool.and_eq_false_iff, Bool.not_and, Bool.or_eq_true, Bool.or_eq_false_iff, Bool.not_or, Bool.not_not, Bool.not_eq_true', Bool.not_eq_false', Bool.not_eq_true, Bool.not_eq_false] at hb166)
  have hnb : namedB nm = false := by simpa using hb166
  refine gR fun K168 hK168 => ?_
  refine Vc H167 fun _ H170 => ?_
  refine gE hK168 ?_
  refine wp_ret ?_
  clear H167
  refine gw_blr ?_
  refine gw_thr ?_
  refine gw_ret1 H170 rfl rfl ?_
  have O171 := Own.file_close (x := x) (pre := pre) (post := post) (by exact O160.sel [5, 6, 7, 0, 1, 2, 3, 4] (by decide))
  exact disk_fin (gd := gd) (gm := gm) (d' := d) (xs := pre ++ x :: post) (create_bad hdn hnb) hxs (by exact O171.sel [3, 4, 5, 0] (by decide))
 have H172 := H165.subst_ (d := 10) (b := false) rfl hb166
 clear H165
 (try simp only [Bool.and_eq_true, Bool.and_eq_false_iff, Bool.not_and, Bool.or_eq_true, Bool.or_eq_false_iff, Bool.not_or, Bool.not_not, Bool.not_eq_true', Bool.not_eq_false', Bool.not_eq_true, Bool.not_eq_false] at hb166)
 have hnb : namedB nm = true := by simpa using hb166
 refine gw_seq fun K173 hK173 => ?_
 refine gw_drawB O160 (by kernel_rfl) (by kernel_rfl) fun w174 O175 => ?_
 clear O160
 refine Vq H172 (fun wq hq => have HO := O175.after hq; op_load1 gwagg23 rfl (H172.ev rfl) (blk_at (HO.get 1 rfl) rfl)) fun _ H177 => ?_
 refine Vn H177 (op_nil rfl (H177.ev rfl)) fun _ H179 => ?_
 refine Vn H179 (op_field (gwfld64_0 _ _) rfl (H179.ev rfl)) fun _ H181 => ?_
 refine Vq H181 (fun wq hq => have HO := O175.after hq; op_load1 gwagg62 rfl (H181.ev rfl) (blk_at (HO.get 3 rfl) rfl)) fun _ H183 => ?_
 refine Vq H183 (fun wq hq => have HO := O175.after hq; op_load1 gwagg9 rfl (H183.ev rfl) (blk_at (HO.get 0 rfl) rfl)) fun _ H185 => ?_
 refine Vq H185 (fun wq hq => have HO := O175.after hq; op_ml_some strKey Tryz.underlying62 gwzer71 rfl (H185.ev rfl) (H185.ev rfl) (keyS (hn)) (HO.get 4 rfl) (hl)) fun _ H187 => ?_
 refine Vn H187 (op_nep_nil Tryz.underlying71 rfl (H187.ev rfl)) fun _ H189 => ?_
 refine Vn H189 (op_assign rfl (H189.ev rfl)) fun _ H191 => ?_
 clear H172 H177 H179 H181 H183 H185 H187 H189
 refine wpQuiet_nil ?_
 intro w192 hq
 have O193 := O175.after hq
 clear O175 hq
 refine gw_nx (hK173 _ _ ?_)
 refine gw_cond H191 rfl (fun hb194 => ?_) (fun hb194 => ?_)
 rotate_left
 ·
  cases hb194
 refine gR fun K195 hK195 => ?_
 refine Vc H191 fun _ H197 => ?_
 refine gE hK195 ?_
 refine wp_ret ?_
 clear H191
 refine gw_blr ?_
 refine gw_thr ?_
 refine gw_ret1 H197 rfl rfl ?_
 have O198 := Own.file_close (x := x) (pre := pre) (post := post) (by exact O193.sel [5, 6, 7, 0, 1, 2, 3, 4] (by decide))
 exact disk_fin (gd := gd) (gm := gm) (d' := d) (xs := pre ++ x :: post) (create_twice hdn hnb hgd) hxs (by exact O198.sel [3, 4, 5, 0] (by decide))
end GVfs1_
export GVfs1_ (create1 create_calls)
namespace GVfs2_
theorem append1 (w0 w : World) (R : Chunk) (gd gm : Nat) (d : PD) (x : XF) (bf by_ bd : Nat) (Ay : Option Addr) (cy : Nat) (y : List Int) (hy : ∀ w1, Own w0 w1 [R] → Kd.C (Kd.int .u8) w1 Ay y.length y) (hcy : y.length ≤ cy) (hroom : x.p.b.length + y.length ≤ 140737488355327) (hu : 0 ≤ d.used ∧ d.used + y.length ≤ 9223372036854775807) (HO : Own w0 w [R, Bk gd [.map (some gm), .int .i64 d.most, .int .i64 d.used, .int .i64 d.fuse, .bool d.down] 64, Bk x.g [.slice x.A x.p.b.length x.c, .int .i64 x.p.sf] 74, Chunk.row (Kd.int .u8) 5 w0.heap.size x.S (.slice x.A x.p.b.length x.c) x.p.b, Bk bf [.pointer (some ⟨x.g, 0, none⟩)] 71, Bk by_ [.slice Ay y.length cy] 22, Bk bd [.pointer (some ⟨gd, 0, none⟩)] 23]) :
    Calls Tryz.prog 30 #[.pointer (some ⟨bf, 0, none⟩), .pointer (some ⟨by_, 0, none⟩), .pointer (some ⟨bd, 0, none⟩)] w fun e w' => e = .returned (.tuple #[]) ∧ ∃ A' c' S', Own w0 w' [R, Chunk.blk x.g (.cells #[.slice A' (x.p.b ++ y).length c', .int .i64 x.p.sf] 74 (0, 0)), Chunk.row (Kd.int .u8) 5 w0.heap.size S' (.slice A' (x.p.b ++ y).length c') (x.p.b ++ y), Chunk.blk gd (.cells (dcells gm { d with used := d.used + (y.length : Int) }) 64 (0, 0))] := by
 refine gw_startO (N := 21) (vs := [.pointer (some ⟨bf, 0, none⟩), .pointer (some ⟨by_, 0, none⟩), .pointer (some ⟨bd, 0, none⟩)]) Tryz.func30 rfl rfl (by simp) fun a HF => ?_
 refine gw_seq fun K1 hK1 => ?_
 refine gx_draw (M := [R, Bk gd [.map (some gm), J d.most, J d.used, J d.fuse, .bool d.down] 64, Bk x.g [.slice x.A x.p.b.length x.c, J x.p.sf] 74, Bk bf [.pointer (some ⟨x.g, 0, none⟩)] 71, Bk by_ [.slice Ay y.length cy] 22, Bk bd [.pointer (some ⟨gd, 0, none⟩)] 23]) (fun j_ => j_ == 9) HO (by kernel_rfl) fun w2 O3 => ?_
 clear HO
 refine gx_take 0 rfl (by kernel_rfl) HF (by exact O3.sel [0, 1, 2, 4, 5, 6] (by decide)) (want_none rfl) rfl (by decide) (fun wq HO => (op_load1 gwagg71 rfl (HF.ev rfl) (blk_at (HO.get 3 rfl) rfl))) ?_
 intro _ H5; clear HF
 refine gx_take 1 rfl (by kernel_rfl) H5 (by exact O3.sel [0, 1, 2, 4, 5, 6] (by decide)) (want_none rfl) rfl (by decide) (fun wq HO => (op_load1 gwagg71 rfl (H5.ev rfl) (blk_at (HO.get 3 rfl) rfl))) ?_
 intro _ H7; clear H5
 refine gx_take 2 rfl (by kernel_rfl) H7 (by exact O3.sel [0, 1, 2, 4, 5, 6] (by decide)) (want_none rfl) rfl (by decide) (fun wq HO => (op_nil rfl (H7.ev rfl))) ?_
 intro _ H9; clear H7
 refine gx_take 3 rfl (by kernel_rfl) H9 (by exact O3.sel [0, 1, 2, 4, 5, 6] (by decide)) (want_none rfl) rfl (by decide) (fun wq HO => (op_field (gwfld74_0 _ _) rfl (H9.ev rfl))) ?_
 intro _ H11; clear H9
 refine gx_take 4 rfl (by kernel_rfl) H11 (by exact O3.sel [0, 1, 2, 4, 5, 6] (by decide)) (want_none rfl) rfl (by decide) (fun wq HO => (op_load1 gwagg22 rfl (H11.ev rfl) (blk_at (HO.get 2 rfl) rfl))) ?_
 intro _ H13; clear H11
 refine gx_take 5 rfl (by kernel_rfl) H13 (by exact O3.sel [0, 1, 2, 4, 5, 6] (by decide)) (want_none rfl) rfl (by decide) (fun wq HO => (op_load1 gwagg22 rfl (H13.ev rfl) (blk_at (HO.get 4 rfl) rfl))) ?_
 intro _ H15; clear H13
 refine gx_step 6 rfl (by kernel_rfl) ?_
 refine gw_append (Kd.int .u8) 3 H15 O3 (want_none rfl) rfl (by decide) rfl Tryz.underlying22 gwinfo5 rfl (by decide) (by decide) rfl (H15.ev rfl) (H15.ev rfl) (hy _ (O3.sel [0] (by decide))) (fun _ _ h => h) O3.below.size (by first | omega | (simp; omega)) ?_
 intro A16 c17 S18 _ w20 H21 O22; clear H15 O3
 have O23 : Own w0 w20 [R, Bk gd [.map (some gm), J d.most, J d.used, J d.fuse, .bool d.down] 64, Bk x.g [.slice x.A x.p.b.length x.c, J x.p.sf] 74, Chunk.row (Kd.int .u8) 5 w0.heap.size S18 (.slice A16 ((x.p.b ++ y).length) c17) (x.p.b ++ y), Bk bf [.pointer (some ⟨x.g, 0, none⟩)] 71, Bk by_ [.slice Ay y.length cy] 22, Bk bd [.pointer (some ⟨gd, 0, none⟩)] 23] := O22
 clear O22
 refine gx_on (i := 6) (B := (fun j_ => j_ == 9)) (fun _ => (by exact O23.sel [0, 1, 2, 4, 5, 6] (by decide))) ?_
 refine gx_step 7 rfl (by kernel_rfl) ?_
 refine Vz H21 fun _ H25 => ?_
 clear H21
 refine gx_on (i := 7) (B := (fun j_ => j_ == 9)) (fun _ => (by exact O23.sel [0, 1, 2, 4, 5, 6] (by decide))) ?_
 refine gx_take 8 rfl (by kernel_rfl) H25 (by exact O23.sel [0, 1, 2, 4, 5, 6] (by decide)) (want_none rfl) rfl (by decide) (fun wq HO => (op_field (gwfld74_0 _ _) rfl (H25.ev rfl))) ?_
 intro _ H27; clear H25
 refine gx_step 9 rfl (by kernel_rfl) ?_
 refine gw_set 2 H27 O23 rfl (want_none rfl) rfl (op_store1 gwsiz22 rfl (H27.ev rfl) (H27.ev rfl) rfl (blk_at (O23.get 2 rfl) rfl) (blkf (O23.get 2 rfl))) ?_
 intro _ w30 H29 O31; clear H27 O23
 refine gx_on (i := 9) (B := (fun j_ => j_ == 9)) (fun h_ => by cases h_) ?_
 refine gx_done (by kernel_rfl) ?_
 refine gw_nx (hK1 _ _ ?_)
 refine gx_draw (M := [R, Bk gd [.map (some gm), J d.most, J d.used, J d.fuse, .bool d.down] 64, Bk x.g [.slice A16 ((x.p.b ++ y).length) c17, J x.p.sf] 74, Chunk.row (Kd.int .u8) 5 w0.heap.size S18 (.slice A16 ((x.p.b ++ y).length) c17) (x.p.b ++ y), Bk bf [.pointer (some ⟨x.g, 0, none⟩)] 71, Bk by_ [.slice Ay y.length cy] 22, Bk bd [.pointer (some ⟨gd, 0, none⟩)] 23]) (fun j_ => j_ == 9) O31 (by kernel_rfl) fun w32 O33 => ?_
 clear O31
 refine gx_take 0 rfl (by kernel_rfl) H29 (by exact O33.sel [0, 1, 2, 3, 4, 5, 6] (by decide)) (want_none rfl) rfl (by decide) (fun wq HO => (op_load1 gwagg23 rfl (H29.ev rfl) (blk_at (HO.get 6 rfl) rfl))) ?_
 intro _ H35; clear H29
 refine gx_take 1 rfl (by kernel_rfl) H35 (by exact O33.sel [0, 1, 2, 3, 4, 5, 6] (by decide)) (want_none rfl) rfl (by decide) (fun wq HO => (op_nil rfl (H35.ev rfl))) ?_
 intro _ H37; clear H35
 refine gx_take 2 rfl (by kernel_rfl) H37 (by exact O33.sel [0, 1, 2, 3, 4, 5, 6] (by decide)) (want_none rfl) rfl (by decide) (fun wq HO => (op_field (gwfld64_2 _ _) rfl (H37.ev rfl))) ?_
 intro _ H39; clear H37
 refine gx_take 3 rfl (by kernel_rfl) H39 (by exact O33.sel [0, 1, 2, 3, 4, 5, 6] (by decide)) (want_none rfl) rfl (by decide) (fun wq HO => (op_load1 gwagg3 rfl (H39.ev rfl) (blk_at (HO.get 1 rfl) rfl))) ?_
 intro _ H41; clear H39
 refine gx_take 4 rfl (by kernel_rfl) H41 (by exact O33.sel [0, 1, 2, 3, 4, 5, 6] (by decide)) (want_none rfl) rfl (by decide) (fun wq HO => (op_load1 gwagg22 rfl (H41.ev rfl) (blk_at (HO.get 5 rfl) rfl))) ?_
 intro _ H43; clear H41
 refine gx_take 5 rfl (by kernel_rfl) H43 (by exact O33.sel [0, 1, 2, 3, 4, 5, 6] (by decide)) (want_none rfl) rfl (by decide) (fun wq HO => (op_len Tryz.underlying22 rfl (H43.ev rfl))) ?_
 intro _ H45; clear H43
 refine gx_take 6 rfl (by kernel_rfl) H45 (by exact O33.sel [0, 1, 2, 3, 4, 5, 6] (by decide)) (want_none rfl) rfl (by decide) (fun wq HO => (op_add rfl (H45.ev rfl) (H45.ev rfl) (by omega))) ?_
 intro _ H47; clear H45
 refine gx_step 7 rfl (by kernel_rfl) ?_
 refine Vz H47 fun _ H49 => ?_
 clear H47
 refine gx_on (i := 7) (B := (fun j_ => j_ == 9)) (fun _ => (by exact O33.sel [0, 1, 2, 3, 4, 5, 6] (by decide))) ?_
 refine gx_take 8 rfl (by kernel_rfl) H49 (by exact O33.sel [0, 1, 2, 3, 4, 5, 6] (by decide)) (want_none rfl) rfl (by decide) (fun wq HO => (op_field (gwfld64_2 _ _) rfl (H49.ev rfl))) ?_
 intro _ H51; clear H49
 refine gx_step 9 rfl (by kernel_rfl) ?_
 refine gw_set 1 H51 O33 rfl (want_none rfl) rfl (op_store1 gwsiz3 rfl (H51.ev rfl) (H51.ev rfl) rfl (blk_at (O33.get 1 rfl) rfl) (blkf (O33.get 1 rfl))) ?_
 intro _ w54 H53 O55; clear H51 O33
 refine gx_on (i := 9) (B := (fun j_ => j_ == 9)) (fun h_ => by cases h_) ?_
 refine gx_done (by kernel_rfl) ?_
 refine gw_end0 H53 rfl ?_
 exact ⟨rfl, _, _, _, O55.sel [0, 2, 3, 1] (by decide)⟩
theorem append_calls (w0 w : World) (R : Chunk) (gd : Nat) (S : Nat → Prop) (d : PD) (nm : ByteArray) (Ay : Option Addr) (cy : Nat) (y : List Int) (hy : ∀ w1, Own w0 w1 [R] → Kd.C (Kd.int .u8) w1 Ay y.length y) (hcy : y.length ≤ cy) (hw : wfD d) (hn : nm.size ≤ 9223372036854775807) (hroom : d.used + y.length ≤ 140737488355327) (HO : Own w0 w [R, Chunk.disk w0.heap.size gd S d]) :
    Calls Tryz.prog 8 #[.pointer (some ⟨gd, 0, none⟩), .string nm, .slice Ay y.length cy] w fun e w' => e = .returned (.int .i64 (appendD nm y d).2) ∧ ∃ S', Own w0 w' [R, Chunk.disk w0.heap.size gd S' (appendD nm y d).1] := by
 have hu0 := hw.used
 have hm0 := hw.most
 have hfu := hw.fuse
 obtain ⟨gm, xs, hxs, hon, HO⟩ := disk_open2 HO
 refine gw_startO (N := 35) (vs := [.pointer (some ⟨gd, 0, none⟩), .string nm, .slice Ay y.length cy]) Tryz.func8 rfl rfl (by simp) fun a HF => ?_
 rcases look3 nm d hxs hon with hdn | ⟨hdn, hl, hgd, hno⟩ | ⟨hdn, pre, x, post, rfl, hnm, hl, hgd, hoth⟩
 ·
  refine gR fun K1 hK1 => ?_
  refine gw_new HF HO (want_none rfl) rfl (by decide) (op_box rfl (HF.ev rfl)) ?_
  intro g2 _ w4 H5 O6; clear HF HO
  have O7 : Own w0 w4 [Bk g2 [.pointer (some ⟨gd, 0, none⟩)] 23, R, Bk gd [.map (some gm), J d.most, J d.used, J d.fuse, .bool d.down] 64, Chunk.lmap Tryz.prog 9 gm (xs.map XF.ent), Chunk.files w0.heap.size xs] := O6
  clear O6
  refine gw_new H5 O7 (want_none rfl) rfl (by decide) (op_box rfl (H5.ev rfl)) ?_
  intro g8 _ w10 H11 O12; clear H5 O7
  have O13 : Own w0 w10 [Bk g8 [.slice Ay y.length cy] 22, Bk g2 [.pointer (some ⟨gd, 0, none⟩)] 23, R, Bk gd [.map (some gm), J d.most, J d.used, J d.fuse, .bool d.down] 64, Chunk.lmap Tryz.prog 9 gm (xs.map XF.ent), Chunk.files w0.heap.size xs] := O12
  clear O12
  refine Vc H11 fun _ H15 => ?_
  refine gE hK1 ?_
  refine gR fun K16 hK16 => ?_
  refine Vl H15 gwagg23 (O13.get 1 rfl) fun _ H18 => ?_
  refine Vm H18 fun _ H20 => ?_
  clear H11 H15 H18
  refine Wk H20 Tryz.func29 rfl (ar_cons (H20.ev rfl) (ar_cons (H20.ev rfl) ar_nil)) (find_down gd gm d nm (xs.map XF.ent) _ (by exact O13.get 3 rfl) (O13.get 4 rfl) hdn hn) ?_
  rintro e21 w22 ⟨rfl, hb23⟩
  refine ⟨_, rfl, fun _ H25 => ?_⟩
  have O26 := O13.after hb23
  clear H20 O13 hb23
  refine Vm H25 fun _ H29 => ?_
  refine Vx H29 fun _ H31 => ?_
  refine Vx H31 fun _ H33 => ?_
  clear H25 H29 H31
  refine gw_new H33 O26 (want_none rfl) rfl (by decide) (op_alloc gwzer71 rfl) ?_
  intro g34 _ w36 H37 O38; clear H33 O26
  have O39 : Own w0 w36 [Bk g34 [.pointer none] 71, Bk g8 [.slice Ay y.length cy] 22, Bk g2 [.pointer (some ⟨gd, 0, none⟩)] 23, R, Bk gd [.map (some gm), J d.most, J d.used, J d.fuse, .bool d.down] 64, Chunk.lmap Tryz.prog 9 gm (xs.map XF.ent), Chunk.files w0.heap.size xs] := O38
  clear O38
  refine gw_set 0 H37 O39 rfl (want_none rfl) rfl (op_store1 gwsiz71 rfl (H37.ev rfl) (H37.ev rfl) rfl (blk_at (O39.get 0 rfl) rfl) (blkf (O39.get 0 rfl))) ?_
  intro _ w42 H41 O43; clear H37 O39
  refine Va H41 fun _ H45 => ?_
  refine gE hK16 ?_
  refine gw_seq fun K46 hK46 => ?_
  clear H41
  refine wp_block ?_
  refine gR fun K47 hK47 => ?_
  refine Vm H45 fun _ H49 => ?_
  refine V H49 (op_nei rfl (H49.ev rfl) (ev_c _ _)) fun _ H51 => ?_
  clear H45 H49
  have H52 := H51.lit (b := true) (by decide)
  clear H51
  refine Va H52 fun _ H54 => ?_
  refine gE hK47 ?_
  clear H52
  refine gw_cond H54 rfl (fun hb55 => ?_) (fun hb55 => ?_)
  rotate_left
  ·
   cases hb55
  refine gR fun K56 hK56 => ?_
  refine Vm H54 fun _ H58 => ?_
  refine Va H58 fun _ H60 => ?_
  refine gE hK56 ?_
  refine wp_ret ?_
  clear H54 H58
  refine gw_blr ?_
  refine gw_thr ?_
  refine gw_ret1 H60 rfl rfl ?_
  exact disk_fin (gd := gd) (gm := gm) (d' := d) (xs := xs) (with_down hdn) hxs (by exact O43.sel [3, 4, 5, 6] (by decide))
 ·
  refine gR fun K61 hK61 => ?_
  refine gw_new HF HO (want_none rfl) rfl (by decide) (op_box rfl (HF.ev rfl)) ?_
  intro g62 _ w64 H65 O66; clear HF HO
  have O67 : Own w0 w64 [Bk g62 [.pointer (some ⟨gd, 0, none⟩)] 23, R, Bk gd [.map (some gm), J d.most, J d.used, J d.fuse, .bool d.down] 64, Chunk.lmap Tryz.prog 9 gm (xs.map XF.ent), Chunk.files w0.heap.size xs] := O66
  clear O66
  refine gw_new H65 O67 (want_none rfl) rfl (by decide) (op_box rfl (H65.ev rfl)) ?_
  intro g68 _ w70 H71 O72; clear H65 O67
  have O73 : Own w0 w70 [Bk g68 [.slice Ay y.length cy] 22, Bk g62 [.pointer (some ⟨gd, 0, none⟩)] 23, R, Bk gd [.map (some gm), J d.most, J d.used, J d.fuse, .bool d.down] 64, Chunk.lmap Tryz.prog 9 gm (xs.map XF.ent), Chunk.files w0.heap.size xs] := O72
  clear O72
  refine Vc H71 fun _ H75 => ?_
  refine gE hK61 ?_
  refine gR fun K76 hK76 => ?_
  refine Vl H75 gwagg23 (O73.get 1 rfl) fun _ H78 => ?_
  refine Vm H78 fun _ H80 => ?_
  clear H71 H75 H78
  refine Wk H80 Tryz.func29 rfl (ar_cons (H80.ev rfl) (ar_cons (H80.ev rfl) ar_nil)) (find_none gd gm d nm (xs.map XF.ent) _ (by exact O73.get 3 rfl) (O73.get 4 rfl) hdn hl hn) ?_
  rintro e81 w82 ⟨rfl, hb83⟩
  refine ⟨_, rfl, fun _ H85 => ?_⟩
  have O86 := O73.after hb83
  clear H80 O73 hb83
  refine Vm H85 fun _ H89 => ?_
  refine Vx H89 fun _ H91 => ?_
  refine Vx H91 fun _ H93 => ?_
  clear H85 H89 H91
  refine gw_new H93 O86 (want_none rfl) rfl (by decide) (op_alloc gwzer71 rfl) ?_
  intro g94 _ w96 H97 O98; clear H93 O86
  have O99 : Own w0 w96 [Bk g94 [.pointer none] 71, Bk g68 [.slice Ay y.length cy] 22, Bk g62 [.pointer (some ⟨gd, 0, none⟩)] 23, R, Bk gd [.map (some gm), J d.most, J d.used, J d.fuse, .bool d.down] 64, Chunk.lmap Tryz.prog 9 gm (xs.map XF.ent), Chunk.files w0.heap.size xs] := O98
  clear O98
  refine gw_set 0 H97 O99 rfl (want_none rfl) rfl (op_store1 gwsiz71 rfl (H97.ev rfl) (H97.ev rfl) rfl (blk_at (O99.get 0 rfl) rfl) (blkf (O99.get 0 rfl))) ?_
  intro _ w102 H101 O103; clear H97 O99
  refine Va H101 fun _ H105 => ?_
  refine gE hK76 ?_
  refine gw_seq fun K106 hK106 => ?_
  clear H101
  refine wp_block ?_
  refine gR fun K107 hK107 => ?_
  refine Vm H105 fun _ H109 => ?_
  refine V H109 (op_nei rfl (H109.ev rfl) (ev_c _ _)) fun _ H111 => ?_
  clear H105 H109
  have H112 := H111.lit (b := true) (by decide)
  clear H111
  refine Va H112 fun _ H114 => ?_
  refine gE hK107 ?_
  clear H112
  refine gw_cond H114 rfl (fun hb115 => ?_) (fun hb115 => ?_)
  rotate_left
  ·
   cases hb115
  refine gR fun K116 hK116 => ?_
  refine Vm H114 fun _ H118 => ?_
  refine Va H118 fun _ H120 => ?_
  refine gE hK116 ?_
  refine wp_ret ?_
  clear H114 H118
  refine gw_blr ?_
  refine gw_thr ?_
  refine gw_ret1 H120 rfl rfl ?_
  exact disk_fin (gd := gd) (gm := gm) (d' := d) (xs := xs) (with_none hdn hgd) hxs (by exact O103.sel [3, 4, 5, 6] (by decide))
 have HO := Own.sel (Own.file_open (Own.sel HO [3, 0, 1, 2] (by decide))) [3, 4, 5, 0, 1, 2] (by decide)
 have hxl := wf_len hw (getF_mem hgd).1
 have hxs1 := hw.sf _ (getF_mem hgd).1
 have O121 : Own w0 w [R, Bk gd [.map (some gm), J d.most, J d.used, J d.fuse, .bool d.down] 64, Chunk.lmap Tryz.prog 9 gm ((pre ++ x :: post).map XF.ent), Bk x.g [.slice x.A x.p.b.length x.c, J x.p.sf] 74, Chunk.row (Kd.int .u8) 5 w0.heap.size x.S (.slice x.A x.p.b.length x.c) x.p.b, Chunk.files w0.heap.size (pre ++ post)] := HO
 clear HO
 refine gR fun K122 hK122 => ?_
 refine gw_new HF O121 (want_none rfl) rfl (by decide) (op_box rfl (HF.ev rfl)) ?_
 intro g123 _ w125 H126 O127; clear HF O121
 have O128 : Own w0 w125 [Bk g123 [.pointer (some ⟨gd, 0, none⟩)] 23, R, Bk gd [.map (some gm), J d.most, J d.used, J d.fuse, .bool d.down] 64, Chunk.lmap Tryz.prog 9 gm ((pre ++ x :: post).map XF.ent), Bk x.g [.slice x.A x.p.b.length x.c, J x.p.sf] 74, Chunk.row (Kd.int .u8) 5 w0.heap.size x.S (.slice x.A x.p.b.length x.c) x.p.b, Chunk.files w0.heap.size (pre ++ post)] := O127
 clear O127
 refine gw_new H126 O128 (want_none rfl) rfl (by decide) (op_box rfl (H126.ev rfl)) ?_
 intro g129 _ w131 H132 O133; clear H126 O128
 have O134 : Own w0 w131 [Bk g129 [.slice Ay y.length cy] 22, Bk g123 [.pointer (some ⟨gd, 0, none⟩)] 23, R, Bk gd [.map (some gm), J d.most, J d.used, J d.fuse, .bool d.down] 64, Chunk.lmap Tryz.prog 9 gm ((pre ++ x :: post).map XF.ent), Bk x.g [.slice x.A x.p.b.length x.c, J x.p.sf] 74, Chunk.row (Kd.int .u8) 5 w0.heap.size x.S (.slice x.A x.p.b.length x.c) x.p.b, Chunk.files w0.heap.size (pre ++ post)] := O133
 clear O133
 refine Vc H132 fun _ H136 => ?_
 refine gE hK122 ?_
 refine gR fun K137 hK137 => ?_
 refine Vl H136 gwagg23 (O134.get 1 rfl) fun _ H139 => ?_
 refine Vm H139 fun _ H141 => ?_
 clear H132 H136 H139
 refine Wk H141 Tryz.func29 rfl (ar_cons (H141.ev rfl) (ar_cons (H141.ev rfl) ar_nil)) (find_some gd gm d nm ((pre ++ x :: post).map XF.ent) x.g _ (by exact O134.get 3 rfl) (O134.get 4 rfl) hdn hl hn) ?_
 rintro e142 w143 ⟨rfl, hb144⟩
 refine ⟨_, rfl, fun _ H146 => ?_⟩
 have O147 := O134.after hb144
 clear H141 O134 hb144
 refine Vm H146 fun _ H150 => ?_
 refine Vx H150 fun _ H152 => ?_
 refine Vx H152 fun _ H154 => ?_
 clear H146 H150 H152
 refine gw_new H154 O147 (want_none rfl) rfl (by decide) (op_alloc gwzer71 rfl) ?_
 intro g155 _ w157 H158 O159; clear H154 O147
 have O160 : Own w0 w157 [Bk g155 [.pointer none] 71, Bk g129 [.slice Ay y.length cy] 22, Bk g123 [.pointer (some ⟨gd, 0, none⟩)] 23, R, Bk gd [.map (some gm), J d.most, J d.used, J d.fuse, .bool d.down] 64, Chunk.lmap Tryz.prog 9 gm ((pre ++ x :: post).map XF.ent), Bk x.g [.slice x.A x.p.b.length x.c, J x.p.sf] 74, Chunk.row (Kd.int .u8) 5 w0.heap.size x.S (.slice x.A x.p.b.length x.c) x.p.b, Chunk.files w0.heap.size (pre ++ post)] := O159
 clear O159
 refine gw_set 0 H158 O160 rfl (want_none rfl) rfl (op_store1 gwsiz71 rfl (H158.ev rfl) (H158.ev rfl) rfl (blk_at (O160.get 0 rfl) rfl) (blkf (O160.get 0 rfl))) ?_
 intro _ w163 H162 O164; clear H158 O160
 refine Va H162 fun _ H166 => ?_
 refine gE hK137 ?_
 refine gw_seq fun K167 hK167 => ?_
 clear H162
 refine wp_block ?_
 refine gR fun K168 hK168 => ?_
 refine Vm H166 fun _ H170 => ?_
 refine V H170 (op_nei rfl (H170.ev rfl) (ev_c _ _)) fun _ H172 => ?_
 clear H166 H170
 have H173 := H172.lit (b := false) (by decide)
 clear H172
 refine Va H173 fun _ H175 => ?_
 refine gE hK168 ?_
 clear H173
 refine gw_cond H175 rfl (fun hb176 => ?_) (fun hb176 => ?_)
 ·
  cases hb176
 refine gw_seq fun K177 hK177 => ?_
 refine gw_drawB O164 (by kernel_rfl) (by kernel_rfl) fun w178 O179 => ?_
 clear O164
 refine Vq H175 (fun wq hq => have HO := O179.after hq; op_load1 gwagg22 rfl (H175.ev rfl) (blk_at (HO.get 1 rfl) rfl)) fun _ H181 => ?_
 refine Vn H181 (op_len Tryz.underlying22 rfl (H181.ev rfl)) fun _ H183 => ?_
 refine Vq H183 (fun wq hq => have HO := O179.after hq; op_load1 gwagg23 rfl (H183.ev rfl) (blk_at (HO.get 2 rfl) rfl)) fun _ H185 => ?_
 refine Vn H185 (op_nil rfl (H185.ev rfl)) fun _ H187 => ?_
 refine Vn H187 (op_field (gwfld64_1 _ _) rfl (H187.ev rfl)) fun _ H189 => ?_
 refine Vq H189 (fun wq hq => have HO := O179.after hq; op_load1 gwagg3 rfl (H189.ev rfl) (blk_at (HO.get 4 rfl) rfl)) fun _ H191 => ?_
 refine Vq H191 (fun wq hq => have HO := O179.after hq; op_load1 gwagg23 rfl (H191.ev rfl) (blk_at (HO.get 2 rfl) rfl)) fun _ H193 => ?_
 refine Vn H193 (op_nil rfl (H193.ev rfl)) fun _ H195 => ?_
 clear H175 H181 H183 H185 H187 H189 H191 H193
 refine Vn H195 (op_field (gwfld64_2 _ _) rfl (H195.ev rfl)) fun _ H197 => ?_
 refine Vq H197 (fun wq hq => have HO := O179.after hq; op_load1 gwagg3 rfl (H197.ev rfl) (blk_at (HO.get 4 rfl) rfl)) fun _ H199 => ?_
 refine Vn H199 (op_sub rfl (H199.ev rfl) (H199.ev rfl) (by omega)) fun _ H201 => ?_
 refine Vn H201 (op_gtr rfl (H201.ev rfl) (H201.ev rfl)) fun _ H203 => ?_
 refine Vn H203 (op_assign rfl (H203.ev rfl)) fun _ H205 => ?_
 clear H195 H197 H199 H201 H203
 refine wpQuiet_nil ?_
 intro w206 hq
 have O207 := O179.after hq
 clear O179 hq
 refine gw_nx (hK177 _ _ ?_)
 refine gw_cond H205 rfl (fun hb208 => ?_) (fun hb208 => ?_)
 ·
  have H209 := H205.subst_ (d := 19) (b := true) rfl hb208
  clear H205
  (try simp only [decide_eq_true_eq] at hb208)
  refine gR fun K210 hK210 => ?_
  refine Vc H209 fun _ H212 => ?_
  refine gE hK210 ?_
  refine wp_ret ?_
  clear H209
  refine gw_blr ?_
  refine gw_thr ?_
  refine gw_ret1 H212 rfl rfl ?_
  have O213 := Own.file_close (x := x) (pre := pre) (post := post) (by exact O207.sel [6, 7, 8, 0, 1, 2, 3, 4, 5] (by decide))
  exact disk_fin (gd := gd) (gm := gm) (d' := d) (xs := pre ++ x :: post) (append_full hdn hgd (by omega)) hxs (by exact O213.sel [4, 5, 6, 0] (by decide))
 have H214 := H205.subst_ (d := 19) (b := false) rfl hb208
 clear H205
 (try simp only [decide_eq_false_iff_not, Int.not_lt] at hb208)
 refine wp_skip ?_
 refine gw_blk ?_
 refine gw_nx (hK167 _ _ ?_)
 refine gR fun K215 hK215 => ?_
 refine Vl H214 gwagg23 (O207.get 2 rfl) fun _ H217 => ?_
 refine V H217 (op_func rfl (ar_cons (H217.ev rfl) (ar_cons (H217.ev rfl) (ar_cons (H217.ev rfl) ar_nil)))) fun _ H219 => ?_
 clear H214 H217
 have O226 : Own w0 _ [(Chunk.all [Bk g155 [.pointer (some ⟨x.g, 0, none⟩)] 71, Bk g129 [.slice Ay y.length cy] 22, Bk g123 [.pointer (some ⟨gd, 0, none⟩)] 23, R, Chunk.lmap Tryz.prog 9 gm ((pre ++ x :: post).map XF.ent), Bk x.g [.slice x.A x.p.b.length x.c, J x.p.sf] 74, Chunk.row (Kd.int .u8) 5 w0.heap.size x.S (.slice x.A x.p.b.length x.c) x.p.b, Chunk.files w0.heap.size (pre ++ post)]), Bk gd [.map (some gm), J d.most, J d.used, J d.fuse, .bool d.down] 64] := Own.bundle (O207.sel [0, 1, 2, 3, 5, 6, 7, 8, 4] (by decide))
 refine Wk H219 Tryz.func27 rfl (ar_cons (H219.ev rfl) (ar_cons (H219.ev rfl) ar_nil)) (step_calls w0 _ (Chunk.all [Bk g155 [.pointer (some ⟨x.g, 0, none⟩)] 71, Bk g129 [.slice Ay y.length cy] 22, Bk g123 [.pointer (some ⟨gd, 0, none⟩)] 23, R, Chunk.lmap Tryz.prog 9 gm ((pre ++ x :: post).map XF.ent), Bk x.g [.slice x.A x.p.b.length x.c, J x.p.sf] 74, Chunk.row (Kd.int .u8) 5 w0.heap.size x.S (.slice x.A x.p.b.length x.c) x.p.b, Chunk.files w0.heap.size (pre ++ post)]) gd gm d 30 _ [.pointer (some ⟨g155, 0, none⟩), .pointer (some ⟨g129, 0, none⟩), .pointer (some ⟨g123, 0, none⟩)] (fun w_ => ∃ A' c' S', Own w0 w_ [(Chunk.all [R, Chunk.lmap Tryz.prog 9 gm ((pre ++ x :: post).map XF.ent), Chunk.files w0.heap.size (pre ++ post)]), Bk x.g [.slice A' ((x.p.b ++ y).length) c', J x.p.sf] 74, Chunk.row (Kd.int .u8) 5 w0.heap.size S' (.slice A' ((x.p.b ++ y).length) c') (x.p.b ++ y), Bk gd [.map (some gm), J (({ d with fuse := decF d.fuse } : PD).most), J (d.used + (y.length : Int)), J (({ d with fuse := decF d.fuse } : PD).fuse), .bool (({ d with fuse := decF d.fuse } : PD).down)] 64]) Tryz.func30 (by kernel_rfl) rfl hfu (fun hf1 w1 h_ => append1 w0 w1 (Chunk.all [R, Chunk.lmap Tryz.prog 9 gm ((pre ++ x :: post).map XF.ent), Chunk.files w0.heap.size (pre ++ post)]) gd gm ({ d with fuse := decF d.fuse } : PD) x g155 g129 g123 Ay cy y (fun w_ h_ => hy w_ ((Own.unbundle (A := [R, Chunk.lmap Tryz.prog 9 gm ((pre ++ x :: post).map XF.ent), Chunk.files w0.heap.size (pre ++ post)]) (L := []) (by exact h_)).sel [0] (by decide))) hcy (by omega) (by show 0 ≤ d.used ∧ d.used + (y.length : Int) ≤ _; omega) (Own.bundle (A := [R, Chunk.lmap Tryz.prog 9 gm ((pre ++ x :: post).map XF.ent), Chunk.files w0.heap.size (pre ++ post)]) (L := [Bk gd [.map (some gm), J (({ d with fuse := decF d.fuse } : PD).most), J (({ d with fuse := decF d.fuse } : PD).used), J (({ d with fuse := decF d.fuse } : PD).fuse), .bool (({ d with fuse := decF d.fuse } : PD).down)] 64, Bk x.g [.slice x.A x.p.b.length x.c, J x.p.sf] 74, Chunk.row (Kd.int .u8) 5 w0.heap.size x.S (.slice x.A x.p.b.length x.c) x.p.b, Bk g155 [.pointer (some ⟨x.g, 0, none⟩)] 71, Bk g129 [.slice Ay y.length cy] 22, Bk g123 [.pointer (some ⟨gd, 0, none⟩)] 23]) ((Own.unbundle (A := [Bk g155 [.pointer (some ⟨x.g, 0, none⟩)] 71, Bk g129 [.slice Ay y.length cy] 22, Bk g123 [.pointer (some ⟨gd, 0, none⟩)] 23, R, Chunk.lmap Tryz.prog 9 gm ((pre ++ x :: post).map XF.ent), Bk x.g [.slice x.A x.p.b.length x.c, J x.p.sf] 74, Chunk.row (Kd.int .u8) 5 w0.heap.size x.S (.slice x.A x.p.b.length x.c) x.p.b, Chunk.files w0.heap.size (pre ++ post)]) (L := [Bk gd [.map (some gm), J (({ d with fuse := decF d.fuse } : PD).most), J (({ d with fuse := decF d.fuse } : PD).used), J (({ d with fuse := decF d.fuse } : PD).fuse), .bool (({ d with fuse := decF d.fuse } : PD).down)] 64]) (by exact h_)).sel [3, 4, 7, 8, 5, 6, 0, 1, 2] (by decide)))) (by exact O226)) ?_
 rintro e220 w221 (⟨hf1, rfl, hb222⟩ | ⟨hf1, rfl, ⟨A', c', S', hb222⟩⟩)
 ·
  refine ⟨_, rfl, fun _ H224 => ?_⟩
  have O225 : Own w0 w221 [Bk g155 [.pointer (some ⟨x.g, 0, none⟩)] 71, Bk g129 [.slice Ay y.length cy] 22, Bk g123 [.pointer (some ⟨gd, 0, none⟩)] 23, R, Chunk.lmap Tryz.prog 9 gm ((pre ++ x :: post).map XF.ent), Bk x.g [.slice x.A x.p.b.length x.c, J x.p.sf] 74, Chunk.row (Kd.int .u8) 5 w0.heap.size x.S (.slice x.A x.p.b.length x.c) x.p.b, Chunk.files w0.heap.size (pre ++ post), Bk gd [.map (some gm), J d.most, J d.used, J 0, .bool true] 64] := Own.unbundle (A := [Bk g155 [.pointer (some ⟨x.g, 0, none⟩)] 71, Bk g129 [.slice Ay y.length cy] 22, Bk g123 [.pointer (some ⟨gd, 0, none⟩)] 23, R, Chunk.lmap Tryz.prog 9 gm ((pre ++ x :: post).map XF.ent), Bk x.g [.slice x.A x.p.b.length x.c, J x.p.sf] 74, Chunk.row (Kd.int .u8) 5 w0.heap.size x.S (.slice x.A x.p.b.length x.c) x.p.b, Chunk.files w0.heap.size (pre ++ post)]) (L := [Bk gd [.map (some gm), J d.most, J d.used, J 0, .bool true] 64]) (by exact hb222)
  clear O226 hb222
  clear H219 O207
  refine Va H224 fun _ H228 => ?_
  refine gE hK215 ?_
  refine wp_ret ?_
  clear H224
  refine gw_ret1 H228 rfl rfl ?_
  have O229 := Own.file_close (x := x) (pre := pre) (post := post) (by exact O225.sel [5, 6, 7, 0, 1, 2, 3, 4, 8] (by decide))
  exact disk_fin (gd := gd) (gm := gm) (d' := { d with fuse := 0, down := true }) (xs := pre ++ x :: post) ((append_go hdn hgd (by omega)).trans (step_off hf1)) hxs (by exact O229.sel [4, 6, 5, 0] (by decide))
 refine ⟨_, rfl, fun _ H224 => ?_⟩
 have O225 : Own w0 w221 [R, Chunk.lmap Tryz.prog 9 gm ((pre ++ x :: post).map XF.ent), Chunk.files w0.heap.size (pre ++ post), Bk x.g [.slice A' ((x.p.b ++ y).length) c', J x.p.sf] 74, Chunk.row (Kd.int .u8) 5 w0.heap.size S' (.slice A' ((x.p.b ++ y).length) c') (x.p.b ++ y), Bk gd [.map (some gm), J (({ d with fuse := decF d.fuse } : PD).most), J (d.used + (y.length : Int)), J (({ d with fuse := decF d.fuse } : PD).fuse), .bool (({ d with fuse := decF d.fuse } : PD).down)] 64] := Own.unbundle (A := [R, Chunk.lmap Tryz.prog 9 gm ((pre ++ x :: post).map XF.ent), Chunk.files w0.heap.size (pre ++ post)]) (L := [Bk x.g [.slice A' ((x.p.b ++ y).length) c', J x.p.sf] 74, Chunk.row (Kd.int .u8) 5 w0.heap.size S' (.slice A' ((x.p.b ++ y).length) c') (x.p.b ++ y), Bk gd [.map (some gm), J (({ d with fuse := decF d.fuse } : PD).most), J (d.used + (y.length : Int)), J (({ d with fuse := decF d.fuse } : PD).fuse), .bool (({ d with fuse := decF d.fuse } : PD).down)] 64]) hb222
 clear O226 hb222
 clear H219 O207
 refine Va H224 fun _ H231 => ?_
 refine gE hK215 ?_
 refine wp_ret ?_
 clear H224
 refine gw_ret1 H231 rfl rfl ?_
 have O232 := Own.file_close (x := (⟨⟨x.p.nm, x.p.b ++ y, x.p.sf⟩, x.g, A', c', S'⟩ : XF)) (pre := pre) (post := post) (by exact O225.sel [3, 4, 2, 0, 1, 5] (by decide))
 have el_ : (pre ++ x :: post).map XF.ent = (pre ++ (⟨⟨x.p.nm, x.p.b ++ y, x.p.sf⟩, x.g, A', c', S'⟩ : XF) :: post).map XF.ent := by simp [XF.ent]
 rw [el_] at O232
 exact disk_fin (gd := gd) (gm := gm) (d' := _) (xs := pre ++ (⟨⟨x.p.nm, x.p.b ++ y, x.p.sf⟩, x.g, A', c', S'⟩ : XF) :: post) ((append_go hdn hgd (by omega)).trans (step_on hf1 hfu.1)) (by show _ = updF nm _ d.fs; rw [← hxs, upd_mid hnm hoth]; simp) (by exact O232.sel [1, 3, 2, 0] (by decide))
theorem sync1 (w0 w : World) (R : Chunk) (gd gm : Nat) (d : PD) (x : XF) (bf : Nat) (HO : Own w0 w [R, Bk gd [.map (some gm), .int .i64 d.most, .int .i64 d.used, .int .i64 d.fuse, .bool d.down] 64, Bk x.g [.slice x.A x.p.b.length x.c, .int .i64 x.p.sf] 74, Bk bf [.pointer (some ⟨x.g, 0, none⟩)] 71]) :
    Calls Tryz.prog 59 #[.pointer (some ⟨bf, 0, none⟩)] w fun e w' => e = .returned (.tuple #[]) ∧ Own w0 w' [R, Chunk.blk x.g (.cells #[.slice x.A (x.p.b).length x.c, .int .i64 (x.p.b.length : Int)] 74 (0, 0)), Chunk.blk gd (.cells (dcells gm d) 64 (0, 0))] := by
 refine gw_startO (N := 9) (vs := [.pointer (some ⟨bf, 0, none⟩)]) Tryz.func59 rfl rfl (by simp) fun a HF => ?_
 refine gx_draw (M := [R, Bk gd [.map (some gm), J d.most, J d.used, J d.fuse, .bool d.down] 64, Bk x.g [.slice x.A x.p.b.length x.c, J x.p.sf] 74, Bk bf [.pointer (some ⟨x.g, 0, none⟩)] 71]) (fun j_ => j_ == 8) HO (by kernel_rfl) fun w1 O2 => ?_
 clear HO
 refine gx_take 0 rfl (by kernel_rfl) HF (by exact O2.sel [0, 1, 2, 3] (by decide)) (want_none rfl) rfl (by decide) (fun wq HO => (op_load1 gwagg71 rfl (HF.ev rfl) (blk_at (HO.get 3 rfl) rfl))) ?_
 intro _ H4; clear HF
 refine gx_take 1 rfl (by kernel_rfl) H4 (by exact O2.sel [0, 1, 2, 3] (by decide)) (want_none rfl) rfl (by decide) (fun wq HO => (op_load1 gwagg71 rfl (H4.ev rfl) (blk_at (HO.get 3 rfl) rfl))) ?_
 intro _ H6; clear H4
 refine gx_take 2 rfl (by kernel_rfl) H6 (by exact O2.sel [0, 1, 2, 3] (by decide)) (want_none rfl) rfl (by decide) (fun wq HO => (op_nil rfl (H6.ev rfl))) ?_
 intro _ H8; clear H6
 refine gx_take 3 rfl (by kernel_rfl) H8 (by exact O2.sel [0, 1, 2, 3] (by decide)) (want_none rfl) rfl (by decide) (fun wq HO => (op_field (gwfld74_0 _ _) rfl (H8.ev rfl))) ?_
 intro _ H10; clear H8
 refine gx_take 4 rfl (by kernel_rfl) H10 (by exact O2.sel [0, 1, 2, 3] (by decide)) (want_none rfl) rfl (by decide) (fun wq HO => (op_load1 gwagg22 rfl (H10.ev rfl) (blk_at (HO.get 2 rfl) rfl))) ?_
 intro _ H12; clear H10
 refine gx_take 5 rfl (by kernel_rfl) H12 (by exact O2.sel [0, 1, 2, 3] (by decide)) (want_none rfl) rfl (by decide) (fun wq HO => (op_len Tryz.underlying22 rfl (H12.ev rfl))) ?_
 intro _ H14; clear H12
 refine gx_step 6 rfl (by kernel_rfl) ?_
 refine Vz H14 fun _ H16 => ?_
 clear H14
 refine gx_on (i := 6) (B := (fun j_ => j_ == 8)) (fun _ => (by exact O2.sel [0, 1, 2, 3] (by decide))) ?_
 refine gx_take 7 rfl (by kernel_rfl) H16 (by exact O2.sel [0, 1, 2, 3] (by decide)) (want_none rfl) rfl (by decide) (fun wq HO => (op_field (gwfld74_1 _ _) rfl (H16.ev rfl))) ?_
 intro _ H18; clear H16
 refine gx_step 8 rfl (by kernel_rfl) ?_
 refine gw_set 2 H18 O2 rfl (want_none rfl) rfl (op_store1 gwsiz3 rfl (H18.ev rfl) (H18.ev rfl) rfl (blk_at (O2.get 2 rfl) rfl) (blkf (O2.get 2 rfl))) ?_
 intro _ w21 H20 O22; clear H18 O2
 refine gx_on (i := 8) (B := (fun j_ => j_ == 8)) (fun h_ => by cases h_) ?_
 refine gx_done (by kernel_rfl) ?_
 refine gw_end0 H20 rfl ?_
 exact ⟨rfl, O22.sel [0, 2, 1] (by decide)⟩
theorem sync_calls (w0 w : World) (R : Chunk) (gd : Nat) (S : Nat → Prop) (d : PD) (nm : ByteArray) (hw : wfD d) (hn : nm.size ≤ 9223372036854775807) (HO : Own w0 w [R, Chunk.disk w0.heap.size gd S d]) :
    Calls Tryz.prog 36 #[.pointer (some ⟨gd, 0, none⟩), .string nm] w fun e w' => e = .returned (.int .i64 (syncD nm d).2) ∧ ∃ S', Own w0 w' [R, Chunk.disk w0.heap.size gd S' (syncD nm d).1] := by
 have hu0 := hw.used
 have hm0 := hw.most
 have hfu := hw.fuse
 obtain ⟨gm, xs, hxs, hon, HO⟩ := disk_open2 HO
 refine gw_startO (N := 19) (vs := [.pointer (some ⟨gd, 0, none⟩), .string nm]) Tryz.func36 rfl rfl (by simp) fun a HF => ?_
 rcases look3 nm d hxs hon with hdn | ⟨hdn, hl, hgd, hno⟩ | ⟨hdn, pre, x, post, rfl, hnm, hl, hgd, hoth⟩
 ·
  refine gR fun K1 hK1 => ?_
  refine Vc HF ?_
  intro _ H3; clear HF
  refine gE hK1 ?_
  refine gR fun K4 hK4 => ?_
  refine Vm H3 fun _ H6 => ?_
  refine Vm H6 fun _ H8 => ?_
  clear H3 H6
  refine Wk H8 Tryz.func29 rfl (ar_cons (H8.ev rfl) (ar_cons (H8.ev rfl) ar_nil)) (find_down gd gm d nm (xs.map XF.ent) _ (by exact HO.get 1 rfl) (HO.get 2 rfl) hdn hn) ?_
  rintro e9 w10 ⟨rfl, hb11⟩
  refine ⟨_, rfl, fun _ H13 => ?_⟩
  have O14 := HO.after hb11
  clear H8 HO hb11
  refine Vm H13 fun _ H17 => ?_
  refine Vx H17 fun _ H19 => ?_
  refine Vx H19 fun _ H21 => ?_
  clear H13 H17 H19
  refine gw_new H21 O14 (want_none rfl) rfl (by decide) (op_alloc gwzer71 rfl) ?_
  intro g22 _ w24 H25 O26; clear H21 O14
  have O27 : Own w0 w24 [Bk g22 [.pointer none] 71, R, Bk gd [.map (some gm), J d.most, J d.used, J d.fuse, .bool d.down] 64, Chunk.lmap Tryz.prog 9 gm (xs.map XF.ent), Chunk.files w0.heap.size xs] := O26
  clear O26
  refine gw_set 0 H25 O27 rfl (want_none rfl) rfl (op_store1 gwsiz71 rfl (H25.ev rfl) (H25.ev rfl) rfl (blk_at (O27.get 0 rfl) rfl) (blkf (O27.get 0 rfl))) ?_
  intro _ w30 H29 O31; clear H25 O27
  refine Va H29 fun _ H33 => ?_
  refine gE hK4 ?_
  refine gw_seq fun K34 hK34 => ?_
  refine gR fun K35 hK35 => ?_
  refine Vm H33 fun _ H37 => ?_
  refine V H37 (op_nei rfl (H37.ev rfl) (ev_c _ _)) fun _ H39 => ?_
  clear H29 H33 H37
  have H40 := H39.lit (b := true) (by decide)
  clear H39
  refine gE hK35 ?_
  refine gw_cond H40 rfl (fun hb41 => ?_) (fun hb41 => ?_)
  rotate_left
  ·
   cases hb41
  refine gR fun K42 hK42 => ?_
  refine Vm H40 fun _ H44 => ?_
  refine Va H44 fun _ H46 => ?_
  refine gE hK42 ?_
  refine wp_ret ?_
  clear H40 H44
  refine gw_thr ?_
  refine gw_ret1 H46 rfl rfl ?_
  exact disk_fin (gd := gd) (gm := gm) (d' := d) (xs := xs) (with_down hdn) hxs (by exact O31.sel [1, 2, 3, 4] (by decide))
 ·
  refine gR fun K47 hK47 => ?_
  refine Vc HF ?_
  intro _ H49; clear HF
  refine gE hK47 ?_
  refine gR fun K50 hK50 => ?_
  refine Vm H49 fun _ H52 => ?_
  refine Vm H52 fun _ H54 => ?_
  clear H49 H52
  refine Wk H54 Tryz.func29 rfl (ar_cons (H54.ev rfl) (ar_cons (H54.ev rfl) ar_nil)) (find_none gd gm d nm (xs.map XF.ent) _ (by exact HO.get 1 rfl) (HO.get 2 rfl) hdn hl hn) ?_
  rintro e55 w56 ⟨rfl, hb57⟩
  refine ⟨_, rfl, fun _ H59 => ?_⟩
  have O60 := HO.after hb57
  clear H54 HO hb57
  refine Vm H59 fun _ H63 => ?_
  refine Vx H63 fun _ H65 => ?_
  refine Vx H65 fun _ H67 => ?_
  clear H59 H63 H65
  refine gw_new H67 O60 (want_none rfl) rfl (by decide) (op_alloc gwzer71 rfl) ?_
  intro g68 _ w70 H71 O72; clear H67 O60
  have O73 : Own w0 w70 [Bk g68 [.pointer none] 71, R, Bk gd [.map (some gm), J d.most, J d.used, J d.fuse, .bool d.down] 64, Chunk.lmap Tryz.prog 9 gm (xs.map XF.ent), Chunk.files w0.heap.size xs] := O72
  clear O72
  refine gw_set 0 H71 O73 rfl (want_none rfl) rfl (op_store1 gwsiz71 rfl (H71.ev rfl) (H71.ev rfl) rfl (blk_at (O73.get 0 rfl) rfl) (blkf (O73.get 0 rfl))) ?_
  intro _ w76 H75 O77; clear H71 O73
  refine Va H75 fun _ H79 => ?_
  refine gE hK50 ?_
  refine gw_seq fun K80 hK80 => ?_
  refine gR fun K81 hK81 => ?_
  refine Vm H79 fun _ H83 => ?_
  refine V H83 (op_nei rfl (H83.ev rfl) (ev_c _ _)) fun _ H85 => ?_
  clear H75 H79 H83
  have H86 := H85.lit (b := true) (by decide)
  clear H85
  refine gE hK81 ?_
  refine gw_cond H86 rfl (fun hb87 => ?_) (fun hb87 => ?_)
  rotate_left
  ·
   cases hb87
  refine gR fun K88 hK88 => ?_
  refine Vm H86 fun _ H90 => ?_
  refine Va H90 fun _ H92 => ?_
  refine gE hK88 ?_
  refine wp_ret ?_
  clear H86 H90
  refine gw_thr ?_
  refine gw_ret1 H92 rfl rfl ?_
  exact disk_fin (gd := gd) (gm := gm) (d' := d) (xs := xs) (with_none hdn hgd) hxs (by exact O77.sel [1, 2, 3, 4] (by decide))
 have HO := Own.sel (Own.file_open (Own.sel HO [3, 0, 1, 2] (by decide))) [3, 4, 5, 0, 1, 2] (by decide)
 have hxl := wf_len hw (getF_mem hgd).1
 have hxs1 := hw.sf _ (getF_mem hgd).1
 have O93 : Own w0 w [R, Bk gd [.map (some gm), J d.most, J d.used, J d.fuse, .bool d.down] 64, Chunk.lmap Tryz.prog 9 gm ((pre ++ x :: post).map XF.ent), Bk x.g [.slice x.A x.p.b.length x.c, J x.p.sf] 74, Chunk.row (Kd.int .u8) 5 w0.heap.size x.S (.slice x.A x.p.b.length x.c) x.p.b, Chunk.files w0.heap.size (pre ++ post)] := HO
 clear HO
 refine gR fun K94 hK94 => ?_
 refine Vc HF ?_
 intro _ H96; clear HF
 refine gE hK94 ?_
 refine gR fun K97 hK97 => ?_
 refine Vm H96 fun _ H99 => ?_
 refine Vm H99 fun _ H101 => ?_
 clear H96 H99
 refine Wk H101 Tryz.func29 rfl (ar_cons (H101.ev rfl) (ar_cons (H101.ev rfl) ar_nil)) (find_some gd gm d nm ((pre ++ x :: post).map XF.ent) x.g _ (by exact O93.get 1 rfl) (O93.get 2 rfl) hdn hl hn) ?_
 rintro e102 w103 ⟨rfl, hb104⟩
 refine ⟨_, rfl, fun _ H106 => ?_⟩
 have O107 := O93.after hb104
 clear H101 O93 hb104
 refine Vm H106 fun _ H110 => ?_
 refine Vx H110 fun _ H112 => ?_
 refine Vx H112 fun _ H114 => ?_
 clear H106 H110 H112
 refine gw_new H114 O107 (want_none rfl) rfl (by decide) (op_alloc gwzer71 rfl) ?_
 intro g115 _ w117 H118 O119; clear H114 O107
 have O120 : Own w0 w117 [Bk g115 [.pointer none] 71, R, Bk gd [.map (some gm), J d.most, J d.used, J d.fuse, .bool d.down] 64, Chunk.lmap Tryz.prog 9 gm ((pre ++ x :: post).map XF.ent), Bk x.g [.slice x.A x.p.b.length x.c, J x.p.sf] 74, Chunk.row (Kd.int .u8) 5 w0.heap.size x.S (.slice x.A x.p.b.length x.c) x.p.b, Chunk.files w0.heap.size (pre ++ post)] := O119
 clear O119
 refine gw_set 0 H118 O120 rfl (want_none rfl) rfl (op_store1 gwsiz71 rfl (H118.ev rfl) (H118.ev rfl) rfl (blk_at (O120.get 0 rfl) rfl) (blkf (O120.get 0 rfl))) ?_
 intro _ w123 H122 O124; clear H118 O120
 refine Va H122 fun _ H126 => ?_
 refine gE hK97 ?_
 refine gw_seq fun K127 hK127 => ?_
 refine gR fun K128 hK128 => ?_
 refine Vm H126 fun _ H130 => ?_
 refine V H130 (op_nei rfl (H130.ev rfl) (ev_c _ _)) fun _ H132 => ?_
 clear H122 H126 H130
 have H133 := H132.lit (b := false) (by decide)
 clear H132
 refine gE hK128 ?_
 refine gw_cond H133 rfl (fun hb134 => ?_) (fun hb134 => ?_)
 ·
  cases hb134
 refine gS hK127 ?_
 refine gR fun K135 hK135 => ?_
 refine Vm H133 fun _ H137 => ?_
 refine V H137 (op_func rfl (ar_cons (H137.ev rfl) ar_nil)) fun _ H139 => ?_
 clear H133 H137
 have O146 : Own w0 _ [(Chunk.all [Bk g115 [.pointer (some ⟨x.g, 0, none⟩)] 71, R, Chunk.lmap Tryz.prog 9 gm ((pre ++ x :: post).map XF.ent), Bk x.g [.slice x.A x.p.b.length x.c, J x.p.sf] 74, Chunk.row (Kd.int .u8) 5 w0.heap.size x.S (.slice x.A x.p.b.length x.c) x.p.b, Chunk.files w0.heap.size (pre ++ post)]), Bk gd [.map (some gm), J d.most, J d.used, J d.fuse, .bool d.down] 64] := Own.bundle (O124.sel [0, 1, 3, 4, 5, 6, 2] (by decide))
 refine Wk H139 Tryz.func27 rfl (ar_cons (H139.ev rfl) (ar_cons (H139.ev rfl) ar_nil)) (step_calls w0 _ (Chunk.all [Bk g115 [.pointer (some ⟨x.g, 0, none⟩)] 71, R, Chunk.lmap Tryz.prog 9 gm ((pre ++ x :: post).map XF.ent), Bk x.g [.slice x.A x.p.b.length x.c, J x.p.sf] 74, Chunk.row (Kd.int .u8) 5 w0.heap.size x.S (.slice x.A x.p.b.length x.c) x.p.b, Chunk.files w0.heap.size (pre ++ post)]) gd gm d 59 _ [.pointer (some ⟨g115, 0, none⟩)] (fun w_ => Own w0 w_ [(Chunk.all [R, Chunk.lmap Tryz.prog 9 gm ((pre ++ x :: post).map XF.ent), Chunk.row (Kd.int .u8) 5 w0.heap.size x.S (.slice x.A x.p.b.length x.c) x.p.b, Chunk.files w0.heap.size (pre ++ post)]), Bk x.g [.slice x.A x.p.b.length x.c, J (x.p.b.length : Int)] 74, Bk gd [.map (some gm), J (({ d with fuse := decF d.fuse } : PD).most), J (({ d with fuse := decF d.fuse } : PD).used), J (({ d with fuse := decF d.fuse } : PD).fuse), .bool (({ d with fuse := decF d.fuse } : PD).down)] 64]) Tryz.func59 (by kernel_rfl) rfl hfu (fun hf1 w1 h_ => sync1 w0 w1 (Chunk.all [R, Chunk.lmap Tryz.prog 9 gm ((pre ++ x :: post).map XF.ent), Chunk.row (Kd.int .u8) 5 w0.heap.size x.S (.slice x.A x.p.b.length x.c) x.p.b, Chunk.files w0.heap.size (pre ++ post)]) gd gm ({ d with fuse := decF d.fuse } : PD) x g115 (Own.bundle (A := [R, Chunk.lmap Tryz.prog 9 gm ((pre ++ x :: post).map XF.ent), Chunk.row (Kd.int .u8) 5 w0.heap.size x.S (.slice x.A x.p.b.length x.c) x.p.b, Chunk.files w0.heap.size (pre ++ post)]) (L := [Bk gd [.map (some gm), J (({ d with fuse := decF d.fuse } : PD).most), J (({ d with fuse := decF d.fuse } : PD).used), J (({ d with fuse := decF d.fuse } : PD).fuse), .bool (({ d with fuse := decF d.fuse } : PD).down)] 64, Bk x.g [.slice x.A x.p.b.length x.c, J x.p.sf] 74, Bk g115 [.pointer (some ⟨x.g, 0, none⟩)] 71]) ((Own.unbundle (A := [Bk g115 [.pointer (some ⟨x.g, 0, none⟩)] 71, R, Chunk.lmap Tryz.prog 9 gm ((pre ++ x :: post).map XF.ent), Bk x.g [.slice x.A x.p.b.length x.c, J x.p.sf] 74, Chunk.row (Kd.int .u8) 5 w0.heap.size x.S (.slice x.A x.p.b.length x.c) x.p.b, Chunk.files w0.heap.size (pre ++ post)]) (L := [Bk gd [.map (some gm), J (({ d with fuse := decF d.fuse } : PD).most), J (({ d with fuse := decF d.fuse } : PD).used), J (({ d with fuse := decF d.fuse } : PD).fuse), .bool (({ d with fuse := decF d.fuse } : PD).down)] 64]) (by exact h_)).sel [1, 2, 4, 5, 6, 3, 0] (by decide)))) (by exact O146)) ?_
 rintro e140 w141 (⟨hf1, rfl, hb142⟩ | ⟨hf1, rfl, hb142⟩)
 ·
  refine ⟨_, rfl, fun _ H144 => ?_⟩
  have O145 : Own w0 w141 [Bk g115 [.pointer (some ⟨x.g, 0, none⟩)] 71, R, Chunk.lmap Tryz.prog 9 gm ((pre ++ x :: post).map XF.ent), Bk x.g [.slice x.A x.p.b.length x.c, J x.p.sf] 74, Chunk.row (Kd.int .u8) 5 w0.heap.size x.S (.slice x.A x.p.b.length x.c) x.p.b, Chunk.files w0.heap.size (pre ++ post), Bk gd [.map (some gm), J d.most, J d.used, J 0, .bool true] 64] := Own.unbundle (A := [Bk g115 [.pointer (some ⟨x.g, 0, none⟩)] 71, R, Chunk.lmap Tryz.prog 9 gm ((pre ++ x :: post).map XF.ent), Bk x.g [.slice x.A x.p.b.length x.c, J x.p.sf] 74, Chunk.row (Kd.int .u8) 5 w0.heap.size x.S (.slice x.A x.p.b.length x.c) x.p.b, Chunk.files w0.heap.size (pre ++ post)]) (L := [Bk gd [.map (some gm), J d.most, J d.used, J 0, .bool true] 64]) (by exact hb142)
  clear O146 hb142
  clear H139 O124
  refine Va H144 fun _ H148 => ?_
  refine gE hK135 ?_
  refine wp_ret ?_
  clear H144
  refine gw_ret1 H148 rfl rfl ?_
  have O149 := Own.file_close (x := x) (pre := pre) (post := post) (by exact O145.sel [3, 4, 5, 0, 1, 2, 6] (by decide))
  exact disk_fin (gd := gd) (gm := gm) (d' := { d with fuse := 0, down := true }) (xs := pre ++ x :: post) ((sync_go hdn hgd).trans (step_off hf1)) hxs (by exact O149.sel [2, 4, 3, 0] (by decide))
 refine ⟨_, rfl, fun _ H144 => ?_⟩
 have O145 : Own w0 w141 [R, Chunk.lmap Tryz.prog 9 gm ((pre ++ x :: post).map XF.ent), Chunk.row (Kd.int .u8) 5 w0.heap.size x.S (.slice x.A x.p.b.length x.c) x.p.b, Chunk.files w0.heap.size (pre ++ post), Bk x.g [.slice x.A x.p.b.length x.c, J (x.p.b.length : Int)] 74, Bk gd [.map (some gm), J (({ d with fuse := decF d.fuse } : PD).most), J (({ d with fuse := decF d.fuse } : PD).used), J (({ d with fuse := decF d.fuse } : PD).fuse), .bool (({ d with fuse := decF d.fuse } : PD).down)] 64] := Own.unbundle (A := [R, Chunk.lmap Tryz.prog 9 gm ((pre ++ x :: post).map XF.ent), Chunk.row (Kd.int .u8) 5 w0.heap.size x.S (.slice x.A x.p.b.length x.c) x.p.b, Chunk.files w0.heap.size (pre ++ post)]) (L := [Bk x.g [.slice x.A x.p.b.length x.c, J (x.p.b.length : Int)] 74, Bk gd [.map (some gm), J (({ d with fuse := decF d.fuse } : PD).most), J (({ d with fuse := decF d.fuse } : PD).used), J (({ d with fuse := decF d.fuse } : PD).fuse), .bool (({ d with fuse := decF d.fuse } : PD).down)] 64]) hb142
 clear O146 hb142
 clear H139 O124
 refine Va H144 fun _ H151 => ?_
 refine gE hK135 ?_
 refine wp_ret ?_
 clear H144
 refine gw_ret1 H151 rfl rfl ?_
 have O152 := Own.file_close (x := (⟨⟨x.p.nm, x.p.b, (x.p.b.length : Int)⟩, x.g, x.A, x.c, x.S⟩ : XF)) (pre := pre) (post := post) (by exact O145.sel [4, 2, 3, 0, 1, 5] (by decide))
 have el_ : (pre ++ x :: post).map XF.ent = (pre ++ (⟨⟨x.p.nm, x.p.b, (x.p.b.length : Int)⟩, x.g, x.A, x.c, x.S⟩ : XF) :: post).map XF.ent := by simp [XF.ent]
 rw [el_] at O152
 exact disk_fin (gd := gd) (gm := gm) (d' := _) (xs := pre ++ (⟨⟨x.p.nm, x.p.b, (x.p.b.length : Int)⟩, x.g, x.A, x.c, x.S⟩ : XF) :: post) ((sync_go hdn hgd).trans (step_on hf1 hfu.1)) (by show _ = updF nm _ d.fs; rw [← hxs, upd_mid hnm hoth]; simp) (by exact O152.sel [1, 3, 2, 0] (by decide))
end GVfs2_
export GVfs2_ (append1 append_calls sync1 sync_calls)
namespace GVfs3_
theorem cut1 (w0 w : World) (R : Chunk) (gd gm : Nat) (d : PD) (x : XF) (bd bf bk : Nat) (n : Int) (hn0 : 0 ≤ n ∧ n ≤ x.p.b.length) (hu : 0 ≤ d.used ∧ d.used ≤ 9223372036854775807) (hub : (x.p.b.length : Int) ≤ d.used) (HO : Own w0 w [R, Bk gd [.map (some gm), .int .i64 d.most, .int .i64 d.used, .int .i64 d.fuse, .bool d.down] 64, Bk x.g [.slice x.A x.p.b.length x.c, .int .i64 x.p.sf] 74, Chunk.row (Kd.int .u8) 5 w0.heap.size x.S (.slice x.A x.p.b.length x.c) x.p.b, Bk bd [.pointer (some ⟨gd, 0, none⟩)] 23, Bk bf [.pointer (some ⟨x.g, 0, none⟩)] 71, Bk bk [.int .i64 n] 3]) :
    Calls Tryz.prog 58 #[.pointer (some ⟨bd, 0, none⟩), .pointer (some ⟨bf, 0, none⟩), .pointer (some ⟨bk, 0, none⟩)] w fun e w' => e = .returned (.tuple #[]) ∧ Own w0 w' [R, Chunk.blk x.g (.cells #[.slice x.A (x.p.b.take n.toNat).length x.c, .int .i64 (mn x.p.sf n)] 74 (0, 0)), Chunk.row (Kd.int .u8) 5 w0.heap.size x.S (.slice x.A (x.p.b.take n.toNat).length x.c) (x.p.b.take n.toNat), Chunk.blk gd (.cells (dcells gm { d with used := d.used - ((x.p.b.length : Int) - n) }) 64 (0, 0))] := by
 refine gw_startO (N := 35) (vs := [.pointer (some ⟨bd, 0, none⟩), .pointer (some ⟨bf, 0, none⟩), .pointer (some ⟨bk, 0, none⟩)]) Tryz.func58 rfl rfl (by simp) fun a HF => ?_
 refine gw_seq fun K1 hK1 => ?_
 refine gx_draw (M := [R, Bk gd [.map (some gm), J d.most, J d.used, J d.fuse, .bool d.down] 64, Bk x.g [.slice x.A x.p.b.length x.c, J x.p.sf] 74, Chunk.row (Kd.int .u8) 5 w0.heap.size x.S (.slice x.A x.p.b.length x.c) x.p.b, Bk bd [.pointer (some ⟨gd, 0, none⟩)] 23, Bk bf [.pointer (some ⟨x.g, 0, none⟩)] 71, Bk bk [J n] 3]) (fun j_ => j_ == 14) HO (by kernel_rfl) fun w2 O3 => ?_
 clear HO
 refine gx_take 0 rfl (by kernel_rfl) HF (by exact O3.sel [0, 1, 2, 3, 4, 5, 6] (by decide)) (want_none rfl) rfl (by decide) (fun wq HO => (op_load1 gwagg23 rfl (HF.ev rfl) (blk_at (HO.get 4 rfl) rfl))) ?_
 intro _ H5; clear HF
 refine gx_take 1 rfl (by kernel_rfl) H5 (by exact O3.sel [0, 1, 2, 3, 4, 5, 6] (by decide)) (want_none rfl) rfl (by decide) (fun wq HO => (op_nil rfl (H5.ev rfl))) ?_
 intro _ H7; clear H5
 refine gx_take 2 rfl (by kernel_rfl) H7 (by exact O3.sel [0, 1, 2, 3, 4, 5, 6] (by decide)) (want_none rfl) rfl (by decide) (fun wq HO => (op_field (gwfld64_2 _ _) rfl (H7.ev rfl))) ?_
 intro _ H9; clear H7
 refine gx_take 3 rfl (by kernel_rfl) H9 (by exact O3.sel [0, 1, 2, 3, 4, 5, 6] (by decide)) (want_none rfl) rfl (by decide) (fun wq HO => (op_load1 gwagg3 rfl (H9.ev rfl) (blk_at (HO.get 1 rfl) rfl))) ?_
 intro _ H11; clear H9
 refine gx_take 4 rfl (by kernel_rfl) H11 (by exact O3.sel [0, 1, 2, 3, 4, 5, 6] (by decide)) (want_none rfl) rfl (by decide) (fun wq HO => (op_load1 gwagg71 rfl (H11.ev rfl) (blk_at (HO.get 5 rfl) rfl))) ?_
 intro _ H13; clear H11
 refine gx_take 5 rfl (by kernel_rfl) H13 (by exact O3.sel [0, 1, 2, 3, 4, 5, 6] (by decide)) (want_none rfl) rfl (by decide) (fun wq HO => (op_nil rfl (H13.ev rfl))) ?_
 intro _ H15; clear H13
 refine gx_take 6 rfl (by kernel_rfl) H15 (by exact O3.sel [0, 1, 2, 3, 4, 5, 6] (by decide)) (want_none rfl) rfl (by decide) (fun wq HO => (op_field (gwfld74_0 _ _) rfl (H15.ev rfl))) ?_
 intro _ H17; clear H15
 refine gx_take 7 rfl (by kernel_rfl) H17 (by exact O3.sel [0, 1, 2, 3, 4, 5, 6] (by decide)) (want_none rfl) rfl (by decide) (fun wq HO => (op_load1 gwagg22 rfl (H17.ev rfl) (blk_at (HO.get 2 rfl) rfl))) ?_
 intro _ H19; clear H17
 refine gx_take 8 rfl (by kernel_rfl) H19 (by exact O3.sel [0, 1, 2, 3, 4, 5, 6] (by decide)) (want_none rfl) rfl (by decide) (fun wq HO => (op_len Tryz.underlying22 rfl (H19.ev rfl))) ?_
 intro _ H21; clear H19
 refine gx_take 9 rfl (by kernel_rfl) H21 (by exact O3.sel [0, 1, 2, 3, 4, 5, 6] (by decide)) (want_none rfl) rfl (by decide) (fun wq HO => (op_load1 gwagg3 rfl (H21.ev rfl) (blk_at (HO.get 6 rfl) rfl))) ?_
 intro _ H23; clear H21
 refine gx_take 10 rfl (by kernel_rfl) H23 (by exact O3.sel [0, 1, 2, 3, 4, 5, 6] (by decide)) (want_none rfl) rfl (by decide) (fun wq HO => (op_sub rfl (H23.ev rfl) (H23.ev rfl) (by omega))) ?_
 intro _ H25; clear H23
 refine gx_take 11 rfl (by kernel_rfl) H25 (by exact O3.sel [0, 1, 2, 3, 4, 5, 6] (by decide)) (want_none rfl) rfl (by decide) (fun wq HO => (op_sub rfl (H25.ev rfl) (H25.ev rfl) (by omega))) ?_
 intro _ H27; clear H25
 refine gx_step 12 rfl (by kernel_rfl) ?_
 refine Vz H27 fun _ H29 => ?_
 clear H27
 refine gx_on (i := 12) (B := (fun j_ => j_ == 14)) (fun _ => (by exact O3.sel [0, 1, 2, 3, 4, 5, 6] (by decide))) ?_
 refine gx_take 13 rfl (by kernel_rfl) H29 (by exact O3.sel [0, 1, 2, 3, 4, 5, 6] (by decide)) (want_none rfl) rfl (by decide) (fun wq HO => (op_field (gwfld64_2 _ _) rfl (H29.ev rfl))) ?_
 intro _ H31; clear H29
 refine gx_step 14 rfl (by kernel_rfl) ?_
 refine gw_set 1 H31 O3 rfl (want_none rfl) rfl (op_store1 gwsiz3 rfl (H31.ev rfl) (H31.ev rfl) rfl (blk_at (O3.get 1 rfl) rfl) (blkf (O3.get 1 rfl))) ?_
 intro _ w34 H33 O35; clear H31 O3
 refine gx_on (i := 14) (B := (fun j_ => j_ == 14)) (fun h_ => by cases h_) ?_
 refine gx_done (by kernel_rfl) ?_
 refine gw_nx (hK1 _ _ ?_)
 refine gw_seq fun K36 hK36 => ?_
 refine gx_draw (M := [R, Bk gd [.map (some gm), J d.most, J (d.used - ((x.p.b.length : Int) - n)), J d.fuse, .bool d.down] 64, Bk x.g [.slice x.A x.p.b.length x.c, J x.p.sf] 74, Chunk.row (Kd.int .u8) 5 w0.heap.size x.S (.slice x.A x.p.b.length x.c) x.p.b, Bk bd [.pointer (some ⟨gd, 0, none⟩)] 23, Bk bf [.pointer (some ⟨x.g, 0, none⟩)] 71, Bk bk [J n] 3]) (fun j_ => j_ == 9) O35 (by kernel_rfl) fun w37 O38 => ?_
 clear O35
 refine gx_take 0 rfl (by kernel_rfl) H33 (by exact O38.sel [0, 1, 2, 3, 4, 5, 6] (by decide)) (want_none rfl) rfl (by decide) (fun wq HO => (op_load1 gwagg71 rfl (H33.ev rfl) (blk_at (HO.get 5 rfl) rfl))) ?_
 intro _ H40; clear H33
 refine gx_take 1 rfl (by kernel_rfl) H40 (by exact O38.sel [0, 1, 2, 3, 4, 5, 6] (by decide)) (want_none rfl) rfl (by decide) (fun wq HO => (op_load1 gwagg71 rfl (H40.ev rfl) (blk_at (HO.get 5 rfl) rfl))) ?_
 intro _ H42; clear H40
 refine gx_take 2 rfl (by kernel_rfl) H42 (by exact O38.sel [0, 1, 2, 3, 4, 5, 6] (by decide)) (want_none rfl) rfl (by decide) (fun wq HO => (op_nil rfl (H42.ev rfl))) ?_
 intro _ H44; clear H42
 refine gx_take 3 rfl (by kernel_rfl) H44 (by exact O38.sel [0, 1, 2, 3, 4, 5, 6] (by decide)) (want_none rfl) rfl (by decide) (fun wq HO => (op_field (gwfld74_0 _ _) rfl (H44.ev rfl))) ?_
 intro _ H46; clear H44
 refine gx_take 4 rfl (by kernel_rfl) H46 (by exact O38.sel [0, 1, 2, 3, 4, 5, 6] (by decide)) (want_none rfl) rfl (by decide) (fun wq HO => (op_load1 gwagg22 rfl (H46.ev rfl) (blk_at (HO.get 2 rfl) rfl))) ?_
 intro _ H48; clear H46
 refine gx_take 5 rfl (by kernel_rfl) H48 (by exact O38.sel [0, 1, 2, 3, 4, 5, 6] (by decide)) (want_none rfl) rfl (by decide) (fun wq HO => (op_load1 gwagg3 rfl (H48.ev rfl) (blk_at (HO.get 6 rfl) rfl))) ?_
 intro _ H50; clear H48
 obtain ⟨hr51, hc52, hC53⟩ := cut_hi (P := Tryz.prog) (d := (Kd.int .u8)) (t := 22) (e := 5) Tryz.underlying22 gwsiz5 x.A x.c x.p.b (row_cap (O38.get 3 rfl)) n (by omega) (by omega)
 refine gx_take 6 rfl (by kernel_rfl) H50 (by exact O38.sel [0, 1, 2, 3, 4, 5, 6] (by decide)) (want_none rfl) rfl (by decide) (fun wq HO => (op_cut Tryz.underlying22 hr51 rfl (H50.ev rfl) rfl (some_ev (H50.ev rfl)))) ?_
 intro _ H55; clear H50
 refine gx_step 7 rfl (by kernel_rfl) ?_
 refine Vz H55 fun _ H57 => ?_
 clear H55
 refine gx_on (i := 7) (B := (fun j_ => j_ == 9)) (fun _ => (by exact O38.sel [0, 1, 2, 3, 4, 5, 6] (by decide))) ?_
 refine gx_take 8 rfl (by kernel_rfl) H57 (by exact O38.sel [0, 1, 2, 3, 4, 5, 6] (by decide)) (want_none rfl) rfl (by decide) (fun wq HO => (op_field (gwfld74_0 _ _) rfl (H57.ev rfl))) ?_
 intro _ H59; clear H57
 refine gx_step 9 rfl (by kernel_rfl) ?_
 refine gw_set 2 H59 O38 rfl (want_none rfl) rfl (op_store1 gwsiz22 rfl (H59.ev rfl) (H59.ev rfl) rfl (blk_at (O38.get 2 rfl) rfl) (blkf (O38.get 2 rfl))) ?_
 intro _ w62 H61 O63; clear H59 O38
 refine gx_on (i := 9) (B := (fun j_ => j_ == 9)) (fun h_ => by cases h_) ?_
 refine gx_done (by kernel_rfl) ?_
 have O64 := O63.row_takeL 3 rfl n.toNat (by omega)
 clear O63
 have O65 : Own w0 w62 [R, Bk gd [.map (some gm), J d.most, J (d.used - ((x.p.b.length : Int) - n)), J d.fuse, .bool d.down] 64, Bk x.g [.slice x.A ((x.p.b.take n.toNat).length) x.c, J x.p.sf] 74, Chunk.row (Kd.int .u8) 5 w0.heap.size x.S (.slice x.A ((x.p.b.take n.toNat).length) x.c) (x.p.b.take n.toNat), Bk bd [.pointer (some ⟨gd, 0, none⟩)] 23, Bk bf [.pointer (some ⟨x.g, 0, none⟩)] 71, Bk bk [J n] 3] := O64
 clear O64
 refine gw_nx (hK36 _ _ ?_)
 refine gx_draw (M := [R, Bk gd [.map (some gm), J d.most, J (d.used - ((x.p.b.length : Int) - n)), J d.fuse, .bool d.down] 64, Bk x.g [.slice x.A ((x.p.b.take n.toNat).length) x.c, J x.p.sf] 74, Chunk.row (Kd.int .u8) 5 w0.heap.size x.S (.slice x.A ((x.p.b.take n.toNat).length) x.c) (x.p.b.take n.toNat), Bk bd [.pointer (some ⟨gd, 0, none⟩)] 23, Bk bf [.pointer (some ⟨x.g, 0, none⟩)] 71, Bk bk [J n] 3]) (fun j_ => j_ == 9) O65 (by kernel_rfl) fun w66 O67 => ?_
 clear O65
 refine gx_take 0 rfl (by kernel_rfl) H61 (by exact O67.sel [0, 1, 2, 3, 4, 5, 6] (by decide)) (want_none rfl) rfl (by decide) (fun wq HO => (op_load1 gwagg71 rfl (H61.ev rfl) (blk_at (HO.get 5 rfl) rfl))) ?_
 intro _ H69; clear H61
 refine gx_take 1 rfl (by kernel_rfl) H69 (by exact O67.sel [0, 1, 2, 3, 4, 5, 6] (by decide)) (want_none rfl) rfl (by decide) (fun wq HO => (op_load1 gwagg71 rfl (H69.ev rfl) (blk_at (HO.get 5 rfl) rfl))) ?_
 intro _ H71; clear H69
 refine gx_take 2 rfl (by kernel_rfl) H71 (by exact O67.sel [0, 1, 2, 3, 4, 5, 6] (by decide)) (want_none rfl) rfl (by decide) (fun wq HO => (op_nil rfl (H71.ev rfl))) ?_
 intro _ H73; clear H71
 refine gx_take 3 rfl (by kernel_rfl) H73 (by exact O67.sel [0, 1, 2, 3, 4, 5, 6] (by decide)) (want_none rfl) rfl (by decide) (fun wq HO => (op_field (gwfld74_1 _ _) rfl (H73.ev rfl))) ?_
 intro _ H75; clear H73
 refine gx_take 4 rfl (by kernel_rfl) H75 (by exact O67.sel [0, 1, 2, 3, 4, 5, 6] (by decide)) (want_none rfl) rfl (by decide) (fun wq HO => (op_load1 gwagg3 rfl (H75.ev rfl) (blk_at (HO.get 2 rfl) rfl))) ?_
 intro _ H77; clear H75
 refine gx_take 5 rfl (by kernel_rfl) H77 (by exact O67.sel [0, 1, 2, 3, 4, 5, 6] (by decide)) (want_none rfl) rfl (by decide) (fun wq HO => (op_load1 gwagg3 rfl (H77.ev rfl) (blk_at (HO.get 6 rfl) rfl))) ?_
 intro _ H79; clear H77
 refine gx_take 6 rfl (by kernel_rfl) H79 (by exact O67.sel [0, 1, 2, 3, 4, 5, 6] (by decide)) (want_none rfl) rfl (by decide) (fun wq HO => (op_min rfl (H79.ev rfl) (H79.ev rfl))) ?_
 intro _ H81; clear H79
 refine gx_step 7 rfl (by kernel_rfl) ?_
 refine Vz H81 fun _ H83 => ?_
 clear H81
 refine gx_on (i := 7) (B := (fun j_ => j_ == 9)) (fun _ => (by exact O67.sel [0, 1, 2, 3, 4, 5, 6] (by decide))) ?_
 refine gx_take 8 rfl (by kernel_rfl) H83 (by exact O67.sel [0, 1, 2, 3, 4, 5, 6] (by decide)) (want_none rfl) rfl (by decide) (fun wq HO => (op_field (gwfld74_1 _ _) rfl (H83.ev rfl))) ?_
 intro _ H85; clear H83
 refine gx_step 9 rfl (by kernel_rfl) ?_
 refine gw_set 2 H85 O67 rfl (want_none rfl) rfl (op_store1 gwsiz3 rfl (H85.ev rfl) (H85.ev rfl) rfl (blk_at (O67.get 2 rfl) rfl) (blkf (O67.get 2 rfl))) ?_
 intro _ w88 H87 O89; clear H85 O67
 refine gx_on (i := 9) (B := (fun j_ => j_ == 9)) (fun h_ => by cases h_) ?_
 refine gx_done (by kernel_rfl) ?_
 refine gw_end0 H87 rfl ?_
 exact ⟨rfl, O89.sel [0, 2, 3, 1] (by decide)⟩
theorem cut_calls (w0 w : World) (R : Chunk) (gd : Nat) (S : Nat → Prop) (d : PD) (nm : ByteArray) (n : Int) (hw : wfD d) (hn : nm.size ≤ 9223372036854775807) (HO : Own w0 w [R, Chunk.disk w0.heap.size gd S d]) :
    Calls Tryz.prog 35 #[.pointer (some ⟨gd, 0, none⟩), .string nm, .int .i64 n] w fun e w' => e = .returned (.int .i64 (cutD nm n d).2) ∧ ∃ S', Own w0 w' [R, Chunk.disk w0.heap.size gd S' (cutD nm n d).1] := by
 have hu0 := hw.used
 have hm0 := hw.most
 have hfu := hw.fuse
 obtain ⟨gm, xs, hxs, hon, HO⟩ := disk_open2 HO
 refine gw_startO (N := 34) (vs := [.pointer (some ⟨gd, 0, none⟩), .string nm, J n]) Tryz.func35 rfl rfl (by simp) fun a HF => ?_
 rcases look3 nm d hxs hon with hdn | ⟨hdn, hl, hgd, hno⟩ | ⟨hdn, pre, x, post, rfl, hnm, hl, hgd, hoth⟩
 ·
  refine gR fun K1 hK1 => ?_
  refine gw_new HF HO (want_none rfl) rfl (by decide) (op_box rfl (HF.ev rfl)) ?_
  intro g2 _ w4 H5 O6; clear HF HO
  have O7 : Own w0 w4 [Bk g2 [.pointer (some ⟨gd, 0, none⟩)] 23, R, Bk gd [.map (some gm), J d.most, J d.used, J d.fuse, .bool d.down] 64, Chunk.lmap Tryz.prog 9 gm (xs.map XF.ent), Chunk.files w0.heap.size xs] := O6
  clear O6
  refine gw_new H5 O7 (want_none rfl) rfl (by decide) (op_box rfl (H5.ev rfl)) ?_
  intro g8 _ w10 H11 O12; clear H5 O7
  have O13 : Own w0 w10 [Bk g8 [J n] 3, Bk g2 [.pointer (some ⟨gd, 0, none⟩)] 23, R, Bk gd [.map (some gm), J d.most, J d.used, J d.fuse, .bool d.down] 64, Chunk.lmap Tryz.prog 9 gm (xs.map XF.ent), Chunk.files w0.heap.size xs] := O12
  clear O12
  refine Vc H11 fun _ H15 => ?_
  refine gE hK1 ?_
  refine gR fun K16 hK16 => ?_
  refine Vl H15 gwagg23 (O13.get 1 rfl) fun _ H18 => ?_
  refine Vm H18 fun _ H20 => ?_
  clear H11 H15 H18
  refine Wk H20 Tryz.func29 rfl (ar_cons (H20.ev rfl) (ar_cons (H20.ev rfl) ar_nil)) (find_down gd gm d nm (xs.map XF.ent) _ (by exact O13.get 3 rfl) (O13.get 4 rfl) hdn hn) ?_
  rintro e21 w22 ⟨rfl, hb23⟩
  refine ⟨_, rfl, fun _ H25 => ?_⟩
  have O26 := O13.after hb23
  clear H20 O13 hb23
  refine Vm H25 fun _ H29 => ?_
  refine Vx H29 fun _ H31 => ?_
  refine Vx H31 fun _ H33 => ?_
  clear H25 H29 H31
  refine gw_new H33 O26 (want_none rfl) rfl (by decide) (op_alloc gwzer71 rfl) ?_
  intro g34 _ w36 H37 O38; clear H33 O26
  have O39 : Own w0 w36 [Bk g34 [.pointer none] 71, Bk g8 [J n] 3, Bk g2 [.pointer (some ⟨gd, 0, none⟩)] 23, R, Bk gd [.map (some gm), J d.most, J d.used, J d.fuse, .bool d.down] 64, Chunk.lmap Tryz.prog 9 gm (xs.map XF.ent), Chunk.files w0.heap.size xs] := O38
  clear O38
  refine gw_set 0 H37 O39 rfl (want_none rfl) rfl (op_store1 gwsiz71 rfl (H37.ev rfl) (H37.ev rfl) rfl (blk_at (O39.get 0 rfl) rfl) (blkf (O39.get 0 rfl))) ?_
  intro _ w42 H41 O43; clear H37 O39
  refine Va H41 fun _ H45 => ?_
  refine gE hK16 ?_
  refine gw_seq fun K46 hK46 => ?_
  clear H41
  refine wp_block ?_
  refine gR fun K47 hK47 => ?_
  refine Vm H45 fun _ H49 => ?_
  refine V H49 (op_nei rfl (H49.ev rfl) (ev_c _ _)) fun _ H51 => ?_
  clear H45 H49
  have H52 := H51.lit (b := true) (by decide)
  clear H51
  refine Va H52 fun _ H54 => ?_
  refine gE hK47 ?_
  clear H52
  refine gw_cond H54 rfl (fun hb55 => ?_) (fun hb55 => ?_)
  rotate_left
  ·
   cases hb55
  refine gR fun K56 hK56 => ?_
  refine Vm H54 fun _ H58 => ?_
  refine Va H58 fun _ H60 => ?_
  refine gE hK56 ?_
  refine wp_ret ?_
  clear H54 H58
  refine gw_blr ?_
  refine gw_thr ?_
  refine gw_ret1 H60 rfl rfl ?_
  exact disk_fin (gd := gd) (gm := gm) (d' := d) (xs := xs) (with_down hdn) hxs (by exact O43.sel [3, 4, 5, 6] (by decide))
 ·
  refine gR fun K61 hK61 => ?_
  refine gw_new HF HO (want_none rfl) rfl (by decide) (op_box rfl (HF.ev rfl)) ?_
  intro g62 _ w64 H65 O66; clear HF HO
  have O67 : Own w0 w64 [Bk g62 [.pointer (some ⟨gd, 0, none⟩)] 23, R, Bk gd [.map (some gm), J d.most, J d.used, J d.fuse, .bool d.down] 64, Chunk.lmap Tryz.prog 9 gm (xs.map XF.ent), Chunk.files w0.heap.size xs] := O66
  clear O66
  refine gw_new H65 O67 (want_none rfl) rfl (by decide) (op_box rfl (H65.ev rfl)) ?_
  intro g68 _ w70 H71 O72; clear H65 O67
  have O73 : Own w0 w70 [Bk g68 [J n] 3, Bk g62 [.pointer (some ⟨gd, 0, none⟩)] 23, R, Bk gd [.map (some gm), J d.most, J d.used, J d.fuse, .bool d.down] 64, Chunk.lmap Tryz.prog 9 gm (xs.map XF.ent), Chunk.files w0.heap.size xs] := O72
  clear O72
  refine Vc H71 fun _ H75 => ?_
  refine gE hK61 ?_
  refine gR fun K76 hK76 => ?_
  refine Vl H75 gwagg23 (O73.get 1 rfl) fun _ H78 => ?_
  refine Vm H78 fun _ H80 => ?_
  clear H71 H75 H78
  refine Wk H80 Tryz.func29 rfl (ar_cons (H80.ev rfl) (ar_cons (H80.ev rfl) ar_nil)) (find_none gd gm d nm (xs.map XF.ent) _ (by exact O73.get 3 rfl) (O73.get 4 rfl) hdn hl hn) ?_
  rintro e81 w82 ⟨rfl, hb83⟩
  refine ⟨_, rfl, fun _ H85 => ?_⟩
  have O86 := O73.after hb83
  clear H80 O73 hb83
  refine Vm H85 fun _ H89 => ?_
  refine Vx H89 fun _ H91 => ?_
  refine Vx H91 fun _ H93 => ?_
  clear H85 H89 H91
  refine gw_new H93 O86 (want_none rfl) rfl (by decide) (op_alloc gwzer71 rfl) ?_
  intro g94 _ w96 H97 O98; clear H93 O86
  have O99 : Own w0 w96 [Bk g94 [.pointer none] 71, Bk g68 [J n] 3, Bk g62 [.pointer (some ⟨gd, 0, none⟩)] 23, R, Bk gd [.map (some gm), J d.most, J d.used, J d.fuse, .bool d.down] 64, Chunk.lmap Tryz.prog 9 gm (xs.map XF.ent), Chunk.files w0.heap.size xs] := O98
  clear O98
  refine gw_set 0 H97 O99 rfl (want_none rfl) rfl (op_store1 gwsiz71 rfl (H97.ev rfl) (H97.ev rfl) rfl (blk_at (O99.get 0 rfl) rfl) (blkf (O99.get 0 rfl))) ?_
  intro _ w102 H101 O103; clear H97 O99
  refine Va H101 fun _ H105 => ?_
  refine gE hK76 ?_
  refine gw_seq fun K106 hK106 => ?_
  clear H101
  refine wp_block ?_
  refine gR fun K107 hK107 => ?_
  refine Vm H105 fun _ H109 => ?_
  refine V H109 (op_nei rfl (H109.ev rfl) (ev_c _ _)) fun _ H111 => ?_
  clear H105 H109
  have H112 := H111.lit (b := true) (by decide)
  clear H111
  refine Va H112 fun _ H114 => ?_
  refine gE hK107 ?_
  clear H112
  refine gw_cond H114 rfl (fun hb115 => ?_) (fun hb115 => ?_)
  rotate_left
  ·
   cases hb115
  refine gR fun K116 hK116 => ?_
  refine Vm H114 fun _ H118 => ?_
  refine Va H118 fun _ H120 => ?_
  refine gE hK116 ?_
  refine wp_ret ?_
  clear H114 H118
  refine gw_blr ?_
  refine gw_thr ?_
  refine gw_ret1 H120 rfl rfl ?_
  exact disk_fin (gd := gd) (gm := gm) (d' := d) (xs := xs) (with_none hdn hgd) hxs (by exact O103.sel [3, 4, 5, 6] (by decide))
 have HO := Own.sel (Own.file_open (Own.sel HO [3, 0, 1, 2] (by decide))) [3, 4, 5, 0, 1, 2] (by decide)
 have hxl := wf_len hw (getF_mem hgd).1
 have hxs1 := hw.sf _ (getF_mem hgd).1
 have O121 : Own w0 w [R, Bk gd [.map (some gm), J d.most, J d.used, J d.fuse, .bool d.down] 64, Chunk.lmap Tryz.prog 9 gm ((pre ++ x :: post).map XF.ent), Bk x.g [.slice x.A x.p.b.length x.c, J x.p.sf] 74, Chunk.row (Kd.int .u8) 5 w0.heap.size x.S (.slice x.A x.p.b.length x.c) x.p.b, Chunk.files w0.heap.size (pre ++ post)] := HO
 clear HO
 refine gR fun K122 hK122 => ?_
 refine gw_new HF O121 (want_none rfl) rfl (by decide) (op_box rfl (HF.ev rfl)) ?_
 intro g123 _ w125 H126 O127; clear HF O121
 have O128 : Own w0 w125 [Bk g123 [.pointer (some ⟨gd, 0, none⟩)] 23, R, Bk gd [.map (some gm), J d.most, J d.used, J d.fuse, .bool d.down] 64, Chunk.lmap Tryz.prog 9 gm ((pre ++ x :: post).map XF.ent), Bk x.g [.slice x.A x.p.b.length x.c, J x.p.sf] 74, Chunk.row (Kd.int .u8) 5 w0.heap.size x.S (.slice x.A x.p.b.length x.c) x.p.b, Chunk.files w0.heap.size (pre ++ post)] := O127
 clear O127
 refine gw_new H126 O128 (want_none rfl) rfl (by decide) (op_box rfl (H126.ev rfl)) ?_
 intro g129 _ w131 H132 O133; clear H126 O128
 have O134 : Own w0 w131 [Bk g129 [J n] 3, Bk g123 [.pointer (some ⟨gd, 0, none⟩)] 23, R, Bk gd [.map (some gm), J d.most, J d.used, J d.fuse, .bool d.down] 64, Chunk.lmap Tryz.prog 9 gm ((pre ++ x :: post).map XF.ent), Bk x.g [.slice x.A x.p.b.length x.c, J x.p.sf] 74, Chunk.row (Kd.int .u8) 5 w0.heap.size x.S (.slice x.A x.p.b.length x.c) x.p.b, Chunk.files w0.heap.size (pre ++ post)] := O133
 clear O133
 refine Vc H132 fun _ H136 => ?_
 refine gE hK122 ?_
 refine gR fun K137 hK137 => ?_
 refine Vl H136 gwagg23 (O134.get 1 rfl) fun _ H139 => ?_
 refine Vm H139 fun _ H141 => ?_
 clear H132 H136 H139
 refine Wk H141 Tryz.func29 rfl (ar_cons (H141.ev rfl) (ar_cons (H141.ev rfl) ar_nil)) (find_some gd gm d nm ((pre ++ x :: post).map XF.ent) x.g _ (by exact O134.get 3 rfl) (O134.get 4 rfl) hdn hl hn) ?_
 rintro e142 w143 ⟨rfl, hb144⟩
 refine ⟨_, rfl, fun _ H146 => ?_⟩
 have O147 := O134.after hb144
 clear H141 O134 hb144
 refine Vm H146 fun _ H150 => ?_
 refine Vx H150 fun _ H152 => ?_
 refine Vx H152 fun _ H154 => ?_
 clear H146 H150 H152
 refine gw_new H154 O147 (want_none rfl) rfl (by decide) (op_alloc gwzer71 rfl) ?_
 intro g155 _ w157 H158 O159; clear H154 O147
 have O160 : Own w0 w157 [Bk g155 [.pointer none] 71, Bk g129 [J n] 3, Bk g123 [.pointer (some ⟨gd, 0, none⟩)] 23, R, Bk gd [.map (some gm), J d.most, J d.used, J d.fuse, .bool d.down] 64, Chunk.lmap Tryz.prog 9 gm ((pre ++ x :: post).map XF.ent), Bk x.g [.slice x.A x.p.b.length x.c, J x.p.sf] 74, Chunk.row (Kd.int .u8) 5 w0.heap.size x.S (.slice x.A x.p.b.length x.c) x.p.b, Chunk.files w0.heap.size (pre ++ post)] := O159
 clear O159
 refine gw_set 0 H158 O160 rfl (want_none rfl) rfl (op_store1 gwsiz71 rfl (H158.ev rfl) (H158.ev rfl) rfl (blk_at (O160.get 0 rfl) rfl) (blkf (O160.get 0 rfl))) ?_
 intro _ w163 H162 O164; clear H158 O160
 refine Va H162 fun _ H166 => ?_
 refine gE hK137 ?_
 refine gw_seq fun K167 hK167 => ?_
 clear H162
 refine wp_block ?_
 refine gR fun K168 hK168 => ?_
 refine Vm H166 fun _ H170 => ?_
 refine V H170 (op_nei rfl (H170.ev rfl) (ev_c _ _)) fun _ H172 => ?_
 clear H166 H170
 have H173 := H172.lit (b := false) (by decide)
 clear H172
 refine Va H173 fun _ H175 => ?_
 refine gE hK168 ?_
 clear H173
 refine gw_cond H175 rfl (fun hb176 => ?_) (fun hb176 => ?_)
 ·
  cases hb176
 refine gw_seq fun K177 hK177 => ?_
 refine gw_drawB O164 (by kernel_rfl) (by kernel_rfl) fun w178 O179 => ?_
 clear O164
 refine Vq H175 (fun wq hq => have HO := O179.after hq; op_load1 gwagg3 rfl (H175.ev rfl) (blk_at (HO.get 1 rfl) rfl)) fun _ H181 => ?_
 refine Vn H181 (op_lss rfl (H181.ev rfl) (ev_c _ _)) fun _ H183 => ?_
 refine Vn H183 (op_move rfl (H183.ev rfl)) fun _ H185 => ?_
 clear H175 H181 H183
 refine gq_evG H185 rfl rfl rfl rfl (on_f _) rfl (by decide) (fun h_ wq hq => have HO := O179.after hq; (op_load1 gwagg3 rfl (H185.ev rfl) (blk_at (HO.get 1 rfl) rfl))) ?_
 intro _ H187; clear H185
 refine gq_evG H187 rfl rfl rfl rfl (on_f _) rfl (by decide) (fun h_ wq hq => have HO := O179.after hq; (op_load1 gwagg71 rfl (H187.ev rfl) (blk_at (HO.get 0 rfl) rfl))) ?_
 intro _ H189; clear H187
 refine gq_evG H189 rfl rfl rfl rfl (on_f _) rfl (by decide) (fun h_ wq hq => have HO := O179.after hq; (op_nil rfl (ev_gv (H189.ev rfl) h_))) ?_
 intro _ H191; clear H189
 refine gq_evG H191 rfl rfl rfl rfl (on_f _) rfl (by decide) (fun h_ wq hq => have HO := O179.after hq; (op_field (gwfld74_0 _ _) rfl (ev_gv (H191.ev rfl) h_))) ?_
 intro _ H193; clear H191
 refine gq_evG H193 rfl rfl rfl rfl (on_f _) rfl (by decide) (fun h_ wq hq => have HO := O179.after hq; (op_load1 gwagg22 rfl (ev_gv (H193.ev rfl) h_) (blk_at (HO.get 6 rfl) rfl))) ?_
 intro _ H195; clear H193
 refine gq_evG H195 rfl rfl rfl rfl (on_f _) rfl (by decide) (fun h_ wq hq => have HO := O179.after hq; (op_len Tryz.underlying22 rfl (ev_gv (H195.ev rfl) h_))) ?_
 intro _ H197; clear H195
 refine gq_evG H197 rfl rfl rfl rfl (on_f _) rfl (by decide) (fun h_ wq hq => have HO := O179.after hq; (op_gtr rfl (ev_gv (H197.ev rfl) h_) (ev_gv (H197.ev rfl) h_))) ?_
 intro _ H199; clear H197
 refine Vn H199 (op_pick_or rfl (H199.ev rfl) (ev_c _ _) (fun hp_ => (ev_gv (H199.ev rfl) (not_t hp_)))) fun _ H201 => ?_
 refine Vn H201 (op_assign rfl (H201.ev rfl)) fun _ H203 => ?_
 clear H199 H201
 refine wpQuiet_nil ?_
 intro w204 hq
 have O205 := O179.after hq
 clear O179 hq
 refine gw_nx (hK177 _ _ ?_)
 refine gw_cond H203 rfl (fun hb206 => ?_) (fun hb206 => ?_)
 ·
  have H207 := H203.subst_ (d := 19) (b := true) rfl hb206
  clear H203
  (try simp only [Bool.or_eq_true, Bool.or_eq_false_iff, decide_eq_true_eq, decide_eq_false_iff_not, Int.not_lt] at hb206)
  refine gR fun K208 hK208 => ?_
  refine Vc H207 fun _ H210 => ?_
  refine gE hK208 ?_
  refine wp_ret ?_
  clear H207
  refine gw_blr ?_
  refine gw_thr ?_
  refine gw_ret1 H210 rfl rfl ?_
  have O211 := Own.file_close (x := x) (pre := pre) (post := post) (by exact O205.sel [6, 7, 8, 0, 1, 2, 3, 4, 5] (by decide))
  exact disk_fin (gd := gd) (gm := gm) (d' := d) (xs := pre ++ x :: post) (cut_bad hdn hgd (by omega)) hxs (by exact O211.sel [4, 5, 6, 0] (by decide))
 have H212 := H203.subst_ (d := 19) (b := false) rfl hb206
 clear H203
 (try simp only [Bool.or_eq_true, Bool.or_eq_false_iff, decide_eq_true_eq, decide_eq_false_iff_not, Int.not_lt] at hb206)
 refine wp_skip ?_
 refine gw_blk ?_
 refine gw_nx (hK167 _ _ ?_)
 refine gR fun K213 hK213 => ?_
 refine Vl H212 gwagg23 (O205.get 2 rfl) fun _ H215 => ?_
 refine V H215 (op_func rfl (ar_cons (H215.ev rfl) (ar_cons (H215.ev rfl) (ar_cons (H215.ev rfl) ar_nil)))) fun _ H217 => ?_
 clear H212 H215
 have O224 : Own w0 _ [(Chunk.all [Bk g155 [.pointer (some ⟨x.g, 0, none⟩)] 71, Bk g129 [J n] 3, Bk g123 [.pointer (some ⟨gd, 0, none⟩)] 23, R, Chunk.lmap Tryz.prog 9 gm ((pre ++ x :: post).map XF.ent), Bk x.g [.slice x.A x.p.b.length x.c, J x.p.sf] 74, Chunk.row (Kd.int .u8) 5 w0.heap.size x.S (.slice x.A x.p.b.length x.c) x.p.b, Chunk.files w0.heap.size (pre ++ post)]), Bk gd [.map (some gm), J d.most, J d.used, J d.fuse, .bool d.down] 64] := Own.bundle (O205.sel [0, 1, 2, 3, 5, 6, 7, 8, 4] (by decide))
 refine Wk H217 Tryz.func27 rfl (ar_cons (H217.ev rfl) (ar_cons (H217.ev rfl) ar_nil)) (step_calls w0 _ (Chunk.all [Bk g155 [.pointer (some ⟨x.g, 0, none⟩)] 71, Bk g129 [J n] 3, Bk g123 [.pointer (some ⟨gd, 0, none⟩)] 23, R, Chunk.lmap Tryz.prog 9 gm ((pre ++ x :: post).map XF.ent), Bk x.g [.slice x.A x.p.b.length x.c, J x.p.sf] 74, Chunk.row (Kd.int .u8) 5 w0.heap.size x.S (.slice x.A x.p.b.length x.c) x.p.b, Chunk.files w0.heap.size (pre ++ post)]) gd gm d 58 _ [.pointer (some ⟨g123, 0, none⟩), .pointer (some ⟨g155, 0, none⟩), .pointer (some ⟨g129, 0, none⟩)] (fun w_ => Own w0 w_ [(Chunk.all [R, Chunk.lmap Tryz.prog 9 gm ((pre ++ x :: post).map XF.ent), Chunk.files w0.heap.size (pre ++ post)]), Bk x.g [.slice x.A ((x.p.b.take n.toNat).length) x.c, J (mn x.p.sf n)] 74, Chunk.row (Kd.int .u8) 5 w0.heap.size x.S (.slice x.A ((x.p.b.take n.toNat).length) x.c) (x.p.b.take n.toNat), Bk gd [.map (some gm), J (({ d with fuse := decF d.fuse } : PD).most), J (d.used - ((x.p.b.length : Int) - n)), J (({ d with fuse := decF d.fuse } : PD).fuse), .bool (({ d with fuse := decF d.fuse } : PD).down)] 64]) Tryz.func58 (by kernel_rfl) rfl hfu (fun hf1 w1 h_ => cut1 w0 w1 (Chunk.all [R, Chunk.lmap Tryz.prog 9 gm ((pre ++ x :: post).map XF.ent), Chunk.files w0.heap.size (pre ++ post)]) gd gm ({ d with fuse := decF d.fuse } : PD) x g123 g155 g129 n (by omega) (by show 0 ≤ d.used ∧ d.used ≤ _; omega) (by show _ ≤ d.used; omega) (Own.bundle (A := [R, Chunk.lmap Tryz.prog 9 gm ((pre ++ x :: post).map XF.ent), Chunk.files w0.heap.size (pre ++ post)]) (L := [Bk gd [.map (some gm), J (({ d with fuse := decF d.fuse } : PD).most), J (({ d with fuse := decF d.fuse } : PD).used), J (({ d with fuse := decF d.fuse } : PD).fuse), .bool (({ d with fuse := decF d.fuse } : PD).down)] 64, Bk x.g [.slice x.A x.p.b.length x.c, J x.p.sf] 74, Chunk.row (Kd.int .u8) 5 w0.heap.size x.S (.slice x.A x.p.b.length x.c) x.p.b, Bk g123 [.pointer (some ⟨gd, 0, none⟩)] 23, Bk g155 [.pointer (some ⟨x.g, 0, none⟩)] 71, Bk g129 [J n] 3]) ((Own.unbundle (A := [Bk g155 [.pointer (some ⟨x.g, 0, none⟩)] 71, Bk g129 [J n] 3, Bk g123 [.pointer (some ⟨gd, 0, none⟩)] 23, R, Chunk.lmap Tryz.prog 9 gm ((pre ++ x :: post).map XF.ent), Bk x.g [.slice x.A x.p.b.length x.c, J x.p.sf] 74, Chunk.row (Kd.int .u8) 5 w0.heap.size x.S (.slice x.A x.p.b.length x.c) x.p.b, Chunk.files w0.heap.size (pre ++ post)]) (L := [Bk gd [.map (some gm), J (({ d with fuse := decF d.fuse } : PD).most), J (({ d with fuse := decF d.fuse } : PD).used), J (({ d with fuse := decF d.fuse } : PD).fuse), .bool (({ d with fuse := decF d.fuse } : PD).down)] 64]) (by exact h_)).sel [3, 4, 7, 8, 5, 6, 2, 0, 1] (by decide)))) (by exact O224)) ?_
 rintro e218 w219 (⟨hf1, rfl, hb220⟩ | ⟨hf1, rfl, hb220⟩)
 ·
  refine ⟨_, rfl, fun _ H222 => ?_⟩
  have O223 : Own w0 w219 [Bk g155 [.pointer (some ⟨x.g, 0, none⟩)] 71, Bk g129 [J n] 3, Bk g123 [.pointer (some ⟨gd, 0, none⟩)] 23, R, Chunk.lmap Tryz.prog 9 gm ((pre ++ x :: post).map XF.ent), Bk x.g [.slice x.A x.p.b.length x.c, J x.p.sf] 74, Chunk.row (Kd.int .u8) 5 w0.heap.size x.S (.slice x.A x.p.b.length x.c) x.p.b, Chunk.files w0.heap.size (pre ++ post), Bk gd [.map (some gm), J d.most, J d.used, J 0, .bool true] 64] := Own.unbundle (A := [Bk g155 [.pointer (some ⟨x.g, 0, none⟩)] 71, Bk g129 [J n] 3, Bk g123 [.pointer (some ⟨gd, 0, none⟩)] 23, R, Chunk.lmap Tryz.prog 9 gm ((pre ++ x :: post).map XF.ent), Bk x.g [.slice x.A x.p.b.length x.c, J x.p.sf] 74, Chunk.row (Kd.int .u8) 5 w0.heap.size x.S (.slice x.A x.p.b.length x.c) x.p.b, Chunk.files w0.heap.size (pre ++ post)]) (L := [Bk gd [.map (some gm), J d.most, J d.used, J 0, .bool true] 64]) (by exact hb220)
  clear O224 hb220
  clear H217 O205
  refine Va H222 fun _ H226 => ?_
  refine gE hK213 ?_
  refine wp_ret ?_
  clear H222
  refine gw_ret1 H226 rfl rfl ?_
  have O227 := Own.file_close (x := x) (pre := pre) (post := post) (by exact O223.sel [5, 6, 7, 0, 1, 2, 3, 4, 8] (by decide))
  exact disk_fin (gd := gd) (gm := gm) (d' := { d with fuse := 0, down := true }) (xs := pre ++ x :: post) ((cut_go hdn hgd (by omega)).trans (step_off hf1)) hxs (by exact O227.sel [4, 6, 5, 0] (by decide))
 refine ⟨_, rfl, fun _ H222 => ?_⟩
 have O223 : Own w0 w219 [R, Chunk.lmap Tryz.prog 9 gm ((pre ++ x :: post).map XF.ent), Chunk.files w0.heap.size (pre ++ post), Bk x.g [.slice x.A ((x.p.b.take n.toNat).length) x.c, J (mn x.p.sf n)] 74, Chunk.row (Kd.int .u8) 5 w0.heap.size x.S (.slice x.A ((x.p.b.take n.toNat).length) x.c) (x.p.b.take n.toNat), Bk gd [.map (some gm), J (({ d with fuse := decF d.fuse } : PD).most), J (d.used - ((x.p.b.length : Int) - n)), J (({ d with fuse := decF d.fuse } : PD).fuse), .bool (({ d with fuse := decF d.fuse } : PD).down)] 64] := Own.unbundle (A := [R, Chunk.lmap Tryz.prog 9 gm ((pre ++ x :: post).map XF.ent), Chunk.files w0.heap.size (pre ++ post)]) (L := [Bk x.g [.slice x.A ((x.p.b.take n.toNat).length) x.c, J (mn x.p.sf n)] 74, Chunk.row (Kd.int .u8) 5 w0.heap.size x.S (.slice x.A ((x.p.b.take n.toNat).length) x.c) (x.p.b.take n.toNat), Bk gd [.map (some gm), J (({ d with fuse := decF d.fuse } : PD).most), J (d.used - ((x.p.b.length : Int) - n)), J (({ d with fuse := decF d.fuse } : PD).fuse), .bool (({ d with fuse := decF d.fuse } : PD).down)] 64]) hb220
 clear O224 hb220
 clear H217 O205
 refine Va H222 fun _ H229 => ?_
 refine gE hK213 ?_
 refine wp_ret ?_
 clear H222
 refine gw_ret1 H229 rfl rfl ?_
 have O230 := Own.file_close (x := (⟨⟨x.p.nm, x.p.b.take n.toNat, mn x.p.sf n⟩, x.g, x.A, x.c, x.S⟩ : XF)) (pre := pre) (post := post) (by exact O223.sel [3, 4, 2, 0, 1, 5] (by decide))
 have el_ : (pre ++ x :: post).map XF.ent = (pre ++ (⟨⟨x.p.nm, x.p.b.take n.toNat, mn x.p.sf n⟩, x.g, x.A, x.c, x.S⟩ : XF) :: post).map XF.ent := by simp [XF.ent]
 rw [el_] at O230
 exact disk_fin (gd := gd) (gm := gm) (d' := _) (xs := pre ++ (⟨⟨x.p.nm, x.p.b.take n.toNat, mn x.p.sf n⟩, x.g, x.A, x.c, x.S⟩ : XF) :: post) ((cut_go hdn hgd (by omega)).trans (step_on hf1 hfu.1)) (by show _ = updF nm _ d.fs; rw [← hxs, upd_mid hnm hoth]; simp) (by exact O230.sel [1, 3, 2, 0] (by decide))
end GVfs3_
export GVfs3_ (cut_calls)
end Go.Proofs.YtkdahjnmldeklaaGreat.PA
section
namespace Go.Proofs
open Go.RowKit Go.Maps Go.Sort Go.Shelf
shelf_lay_g SlLaysZ.n7 Ggz 7 at Tryz 67 as Tryz.keys67
shelf_lay_g SlLaysZ.n6 Ggz 6 at Tryz 66 as Tryz.sorted66
shelf_lay_g SlLaysM.n6 Slgm 6 at Tryz 81 as Tryz.sort81
theorem Tryz.sorts66 (m : Nat) : AnyZ.SortsIn Tryz.prog Tryz.sorted66_ren Fence.wide m :=
  ⟨fun blk off cap ss W hH hblk hsz => callsIn_wide.2 (AnyM.slices_Sort_string Tryz.sort81 blk off cap ss W hH hblk hsz),
   fun p cap W => callsIn_wide.2 (AnyM.slices_Sort_string_none Tryz.sort81 p cap W)⟩
theorem Tryz.maps_Keys_67 (mb : Option Nat) (W : World) : CallsIn Fence.wide 5 Tryz.prog 67 #[.map mb] W fun e w' => e = .returned (.func (.func 82) #[] #[.pointer (some ⟨W.heap.size, 0, none⟩)]) ∧ w' = W.alloc (.cells #[.map mb] 62) :=
  AnyZ.keys_in Tryz.keys67 Fence.wide 5 trivial rfl mb W
set_option maxHeartbeats 1000000 in
theorem Tryz.slices_Sorted_keys_66_67 {H : Type} (b nn : Nat) (D0 : DataW H) (R : Value → Option (DataW H × List MemPlace)) (w : World) (hown : w.ownsMap Tryz.prog 9 R b nn D0) (hmax : Maps.size D0 ≤ maxLen) (hbytes : Maps.size D0 * 16 ≤ 140737488355328) :
    CallsIn Fence.wide 5 Tryz.prog 66 #[.func (.func 82) #[] #[.pointer (some ⟨w.heap.size, 0, none⟩)]] (w.alloc (.cells #[.map (some b)] 62)) fun e w' => ∃ (v : Value) (ss : List (List UInt8)), e = .returned v ∧ ss.Perm (strKeys D0) ∧
      w'.ownsRow (w.alloc (.cells #[.map (some b)] 62)).heap.size 9 1 v ss.length ((ss.mergeSort (fun x y => decide (x ≤ y))).map encStr) ∧ (v = .slice none 0 0 ↔ ss = []) ∧ Below (w.alloc (.cells #[.map (some b)] 62)).heap.size (w.alloc (.cells #[.map (some b)] 62)) w' := by
  have hbl := hown.lt
  have hseq : SeqGives Fence.wide 2 Tryz.prog 82 #[.pointer (some ⟨w.heap.size, 0, none⟩)] encStr (fun ss => ss.Perm (strKeys D0)) (Maps.size D0) (w.alloc (.cells #[.map (some b)] 62)) :=
    AnyZ.keys_gives (ρ := Tryz.keys67_ren) { Tryz.keys67 with } Fence.wide _ trivial rfl (by omega) w.heap.size b nn D0 _ (by simp) (by simp) (by
      obtain ⟨es, clock, hb, Ft, hs, hD⟩ := hown
      exact ⟨es, clock, (Below.heap_alloc _ _ b hbl).trans hb, Ft, hs, hD⟩)
  exact AnyZ.sorted_in Tryz.sorted66 Fence.wide 5 trivial trivial trivial trivial rfl (by omega) (Tryz.sorts66 _) (enters_of Tryz.func81 (by kernel_rfl) rfl) 82 #[.pointer (some ⟨w.heap.size, 0, none⟩)] trivial (enters_of Tryz.func82 (by kernel_rfl) rfl) _ _ hmax hbytes _ hseq
end Go.Proofs
end
namespace Go.Proofs.YtkdahjnmldeklaaGreat.PA
open Go.RowKit Go.Proofs.YtkdahjnmldeklaaGreatW.PrintWords Go.Proofs.YtkdahjnmldeklaaGreatW.PrintLast Go.Proofs.YtkdahjnmldeklaaGreatW.PrintMore
set_option linter.unusedVariables false
set_option linter.unusedSimpArgs false
set_option maxRecDepth 100000
set_option maxHeartbeats 8000000
section
open Go.Maps Go.Sort
theorem before_lt : ∀ (a b : List UInt8), bytesBefore a b = true → a < b
  | [], [], h => by simp [bytesBefore] at h
  | [], _ :: _, _ => List.nil_lt_cons _ _
  | _ :: _, [], h => by simp [bytesBefore] at h
  | a :: r, b :: s, h => by
    simp only [bytesBefore, Bool.or_eq_true, decide_eq_true_eq, Bool.and_eq_true, beq_iff_eq] at h
    rcases h with h | ⟨rfl, h⟩
    · exact List.cons_lt_cons_iff.2 (.inl h)
    · exact List.cons_lt_cons_iff.2 (.inr ⟨rfl, before_lt r s h⟩)
theorem keys_at (mb : Option Nat) (W : World) : Calls Tryz.prog 67 #[.map mb] W fun e w' => e = .returned (.func (.func 82) #[] #[.pointer (some ⟨W.heap.size, 0, none⟩)]) ∧ w' = W.alloc (.cells #[.map mb] 62) :=
  (callsIn_wide (n := 5)).1 (Tryz.maps_Keys_67 mb W)
theorem names_sorted {xs : List XF} (h : risingL (xs.map XF.ent)) : ((strKeys (lmap (xs.map XF.ent))).mergeSort (fun x y => decide (x ≤ y))).map encStr = encs Value.string (xs.map fun x => x.p.nm) := by
  have e1 : strKeys (lmap (xs.map XF.ent)) = xs.map fun x => x.p.nm.data.toList := by
    show ((xs.map XF.ent).map held1).map (fun p => strOf p.1) = _
    rw [List.map_map, List.map_map]
    rfl
  rw [e1]
  have hp : (xs.map fun x => x.p.nm.data.toList).Pairwise (fun x y => decide (x ≤ y) = true) := by
    refine List.pairwise_map.2 ((List.pairwise_map.1 h).imp fun {x y} hb => ?_)
    have hb' : bytesBefore x.p.nm.data.toList y.p.nm.data.toList = true := hb
    exact decide_eq_true (List.le_of_lt (before_lt _ _ hb'))
  rw [List.mergeSort_of_pairwise hp]
  unfold encs
  rw [List.map_map, List.map_map]
  exact List.map_congr_left fun x _ => by simp [encStr]
theorem sorted_at (b : Nat) (xs : List XF) (w : World) (hm : (Chunk.lmap Tryz.prog 9 b (xs.map XF.ent)).P w) (hl : xs.length ≤ 1000000) :
    Calls Tryz.prog 66 #[.func (.func 82) #[] #[.pointer (some ⟨w.heap.size, 0, none⟩)]] (w.alloc (.cells #[.map (some b)] 62)) fun e w' => ∃ A c S, e = .returned (.slice A (xs.map fun x => x.p.nm).length c) ∧ Out (w.alloc (.cells #[.map (some b)] 62)) w' (fun _ => False) [Chunk.row Kd.string 9 (w.alloc (.cells #[.map (some b)] 62)).heap.size S (.slice A (xs.map fun x => x.p.nm).length c) (xs.map fun x => x.p.nm)] := by
  have hr := (lmap_rising strKey hm).1
  have hm' : w.ownsMap Tryz.prog 9 anyR b (xs.map XF.ent).length (lmap (xs.map XF.ent)) := hm
  refine ((callsIn_wide (n := 5)).1 (Tryz.slices_Sorted_keys_66_67 b _ (lmap (xs.map XF.ent)) _ w hm' (by rw [lmap_size, List.length_map]; simp only [maxLen]; omega) (by rw [lmap_size, List.length_map]; omega))).mono fun e w' h => ?_
  obtain ⟨v, ss, rfl, hS, hrow, hnil, hb⟩ := h
  have hlen : (xs.map fun x => x.p.nm).length = ss.length := by
    rw [hS.length_eq]
    show _ = (((xs.map XF.ent).map held1).map (fun p => strOf p.1)).length
    simp only [List.length_map]
  rw [mergeSort_of_perm hS, names_sorted hr, ← hlen] at hrow
  obtain ⟨A, c, rfl⟩ := own_slice hrow
  exact ⟨A, c, _, rfl, Out.row (d := Kd.string) (ok := fun _ => True) (Kd.R_of_own hrow (fun _ _ => trivial)) hb⟩
end
namespace GVfs4_
theorem fail_calls (w0 w : World) (R : Chunk) (gd : Nat) (S : Nat → Prop) (d : PD) (n : Int) (HO : Own w0 w [R, Chunk.disk w0.heap.size gd S d]) :
    Calls Tryz.prog 19 #[.pointer (some ⟨gd, 0, none⟩), .int .i64 n] w fun e w' => e = .returned (.tuple #[]) ∧ ∃ S', Own w0 w' [R, Chunk.disk w0.heap.size gd S' { d with fuse := mx n 0 }] := by
 obtain ⟨gm, xs, hxs, hon, HO⟩ := disk_open2 HO
 refine gw_startO (N := 9) (vs := [.pointer (some ⟨gd, 0, none⟩), J n]) Tryz.func19 rfl rfl (by simp) fun a HF => ?_
 refine wp_region_lit ?_
 refine Vm HF ?_
 intro _ H2; clear HF
 refine Vm H2 fun _ H4 => ?_
 refine V H4 (op_max rfl (H4.ev rfl) (ev_c _ _)) fun _ H6 => ?_
 refine Vz H6 fun _ H8 => ?_
 refine Vf H8 (gwfld64_3 _ _) fun _ H10 => ?_
 clear H2 H4 H6 H8
 refine gw_set 1 H10 HO rfl (want_none rfl) rfl (op_store1 gwsiz3 rfl (H10.ev rfl) (H10.ev rfl) rfl (blk_at (HO.get 1 rfl) rfl) (blkf (HO.get 1 rfl))) ?_
 intro _ w13 H12 O14; clear H10 HO
 refine wpList_nil ?_
 refine gw_end0 H12 rfl ?_
 exact ⟨rfl, disk_close2 (d := { d with fuse := mx n 0 }) hxs (by exact O14.sel [0, 1, 2, 3] (by decide))⟩
theorem down_calls (base gd : Nat) (S : Nat → Prop) (d : PD) (w : World) (hD : (Chunk.disk base gd S d).P w) :
    Calls Tryz.prog 42 #[.pointer (some ⟨gd, 0, none⟩)] w fun e w' => e = .returned (.bool d.down) ∧ Below w.heap.size w w' := by
 obtain ⟨gm, xs, hxs, hon, hB, hL, hfs⟩ := disk_blk hD
 refine gw_start (N := 7) (vs := [.pointer (some ⟨gd, 0, none⟩)]) Tryz.func42 rfl rfl (by simp) fun a HF HO => ?_
 replace HO : Own w w [] := HO
 refine gR fun K1 hK1 => ?_
 refine Vc HF ?_
 intro _ H3; clear HF
 refine gE hK1 ?_
 refine gR fun K4 hK4 => ?_
 refine Vm H3 fun _ H6 => ?_
 refine Vz H6 fun _ H8 => ?_
 refine Vf H8 (gwfld64_4 _ _) fun _ H10 => ?_
 refine Vl H10 gwagg4 (argblk HO hB) fun _ H12 => ?_
 refine Va H12 fun _ H14 => ?_
 refine gE hK4 ?_
 refine wp_ret ?_
 clear H3 H6 H8 H10 H12
 refine gw_ret1 H14 rfl rfl ?_
 exact ⟨rfl, HO.below⟩
theorem read_calls (base gd : Nat) (S : Nat → Prop) (d : PD) (nm : ByteArray) (w : World) (hD : (Chunk.disk base gd S d).P w) (hn : nm.size ≤ 9223372036854775807) (hw : wfD d) (hroom : d.used ≤ 140737488355327) :
    Calls Tryz.prog 31 #[.pointer (some ⟨gd, 0, none⟩), .string nm] w fun e w' => ∃ A c S', e = .returned (.tuple #[.slice A (readD nm d).1.length c, .int .i64 (readD nm d).2]) ∧ Out w w' (fun _ => False) [Chunk.row (Kd.int .u8) 5 w.heap.size S' (.slice A (readD nm d).1.length c) (readD nm d).1] := by
 obtain ⟨gm, xs, hxs, hon, hB, hL, hfs⟩ := disk_blk hD
 refine gw_start (N := 22) (vs := [.pointer (some ⟨gd, 0, none⟩), .string nm]) Tryz.func31 rfl rfl (by simp) fun a HF HO => ?_
 replace HO : Own w w [] := HO
 rcases look3 nm d hxs hon with hdn | ⟨hdn, hl, hgd, hno⟩ | ⟨hdn, pre, x, post, rfl, hnm, hl, hgd, hoth⟩
 ·
  refine gR fun K1 hK1 => ?_
  refine Vc HF ?_
  intro _ H3; clear HF
  refine Vc H3 fun _ H5 => ?_
  refine gE hK1 ?_
  refine gR fun K6 hK6 => ?_
  refine Vm H5 fun _ H8 => ?_
  refine Vm H8 fun _ H10 => ?_
  clear H3 H5 H8
  refine Wk H10 Tryz.func29 rfl (ar_cons (H10.ev rfl) (ar_cons (H10.ev rfl) ar_nil)) (find_down gd gm d nm (xs.map XF.ent) _ (argblk HO hB) (lmap_arg HO hL) hdn hn) ?_
  rintro e11 w12 ⟨rfl, hb13⟩
  refine ⟨_, rfl, fun _ H15 => ?_⟩
  have O16 := HO.after hb13
  clear H10 HO hb13
  refine Vm H15 fun _ H19 => ?_
  refine Vx H19 fun _ H21 => ?_
  refine Vx H21 fun _ H23 => ?_
  refine Va H23 fun _ H25 => ?_
  refine Va H25 fun _ H27 => ?_
  refine gE hK6 ?_
  refine gw_seq fun K28 hK28 => ?_
  refine gR fun K29 hK29 => ?_
  refine Vm H27 fun _ H31 => ?_
  refine V H31 (op_nei rfl (H31.ev rfl) (ev_c _ _)) fun _ H33 => ?_
  clear H15 H19 H21 H23 H25 H27 H31
  have H34 := H33.lit (b := true) (by decide)
  clear H33
  refine gE hK29 ?_
  refine gw_cond H34 rfl (fun hb35 => ?_) (fun hb35 => ?_)
  rotate_left
  ·
   cases hb35
  refine gR fun K36 hK36 => ?_
  refine Vm H34 fun _ H38 => ?_
  refine Vc H38 fun _ H40 => ?_
  refine Va H40 fun _ H42 => ?_
  refine gE hK36 ?_
  refine wp_ret ?_
  clear H34 H38 H40
  refine gw_thr ?_
  refine gw_ret2 H42 rfl rfl rfl ?_
  rw [read_down hdn]
  exact ⟨none, 0, _, rfl, ((O16.row_nil (Kd.int .u8) 5 w.heap.size).sel [0] (by decide)).out⟩
 ·
  refine gR fun K43 hK43 => ?_
  refine Vc HF ?_
  intro _ H45; clear HF
  refine Vc H45 fun _ H47 => ?_
  refine gE hK43 ?_
  refine gR fun K48 hK48 => ?_
  refine Vm H47 fun _ H50 => ?_
  refine Vm H50 fun _ H52 => ?_
  clear H45 H47 H50
  refine Wk H52 Tryz.func29 rfl (ar_cons (H52.ev rfl) (ar_cons (H52.ev rfl) ar_nil)) (find_none gd gm d nm (xs.map XF.ent) _ (argblk HO hB) (lmap_arg HO hL) hdn hl hn) ?_
  rintro e53 w54 ⟨rfl, hb55⟩
  refine ⟨_, rfl, fun _ H57 => ?_⟩
  have O58 := HO.after hb55
  clear H52 HO hb55
  refine Vm H57 fun _ H61 => ?_
  refine Vx H61 fun _ H63 => ?_
  refine Vx H63 fun _ H65 => ?_
  refine Va H65 fun _ H67 => ?_
  refine Va H67 fun _ H69 => ?_
  refine gE hK48 ?_
  refine gw_seq fun K70 hK70 => ?_
  refine gR fun K71 hK71 => ?_
  refine Vm H69 fun _ H73 => ?_
  refine V H73 (op_nei rfl (H73.ev rfl) (ev_c _ _)) fun _ H75 => ?_
  clear H57 H61 H63 H65 H67 H69 H73
  have H76 := H75.lit (b := true) (by decide)
  clear H75
  refine gE hK71 ?_
  refine gw_cond H76 rfl (fun hb77 => ?_) (fun hb77 => ?_)
  rotate_left
  ·
   cases hb77
  refine gR fun K78 hK78 => ?_
  refine Vm H76 fun _ H80 => ?_
  refine Vc H80 fun _ H82 => ?_
  refine Va H82 fun _ H84 => ?_
  refine gE hK78 ?_
  refine wp_ret ?_
  clear H76 H80 H82
  refine gw_thr ?_
  refine gw_ret2 H84 rfl rfl rfl ?_
  rw [read_none hdn hgd]
  exact ⟨none, 0, _, rfl, ((O58.row_nil (Kd.int .u8) 5 w.heap.size).sel [0] (by decide)).out⟩
 obtain ⟨hB2, hC, hcx⟩ := hfs x (by simp)
 refine gR fun K85 hK85 => ?_
 refine Vc HF ?_
 intro _ H87; clear HF
 refine Vc H87 fun _ H89 => ?_
 refine gE hK85 ?_
 refine gR fun K90 hK90 => ?_
 refine Vm H89 fun _ H92 => ?_
 refine Vm H92 fun _ H94 => ?_
 clear H87 H89 H92
 refine Wk H94 Tryz.func29 rfl (ar_cons (H94.ev rfl) (ar_cons (H94.ev rfl) ar_nil)) (find_some gd gm d nm ((pre ++ x :: post).map XF.ent) x.g _ (argblk HO hB) (lmap_arg HO hL) hdn hl hn) ?_
 rintro e95 w96 ⟨rfl, hb97⟩
 refine ⟨_, rfl, fun _ H99 => ?_⟩
 have O100 := HO.after hb97
 clear H94 HO hb97
 refine Vm H99 fun _ H103 => ?_
 refine Vx H103 fun _ H105 => ?_
 refine Vx H105 fun _ H107 => ?_
 refine Va H107 fun _ H109 => ?_
 refine Va H109 fun _ H111 => ?_
 refine gE hK90 ?_
 refine gw_seq fun K112 hK112 => ?_
 refine gR fun K113 hK113 => ?_
 refine Vm H111 fun _ H115 => ?_
 refine V H115 (op_nei rfl (H115.ev rfl) (ev_c _ _)) fun _ H117 => ?_
 clear H99 H103 H105 H107 H109 H111 H115
 have H118 := H117.lit (b := false) (by decide)
 clear H117
 refine gE hK113 ?_
 refine gw_cond H118 rfl (fun hb119 => ?_) (fun hb119 => ?_)
 ·
  cases hb119
 refine gS hK112 ?_
 refine gR fun K120 hK120 => ?_
 refine Vm H118 fun _ H122 => ?_
 refine Vz H122 fun _ H124 => ?_
 refine Vf H124 (gwfld74_0 _ _) fun _ H126 => ?_
 refine Vl H126 gwagg22 (argblk O100 hB2) fun _ H128 => ?_
 clear H118 H122 H124 H126
 refine Wk H128 Tryz.func34 rfl (ar_cons (H128.ev rfl) ar_nil) (clone0 x.A x.c x.p.b _ (Kd.C_below hC O100.below) hcx (by have h_ := wf_len hw (getF_mem hgd).1; omega)) ?_
 rintro e132 w133 ⟨A129, c130, S131, rfl, hb134⟩
 refine ⟨_, rfl, fun _ H136 => ?_⟩
 have O137 := O100.fresh hb134
 have hbel138 := O100.below
 clear H128 O100 hb134
 have O139 := O137.lowrow 0 rfl (base' := w.heap.size) (Below.size hbel138)
 refine Va H136 fun _ H141 => ?_
 refine Vc H141 fun _ H143 => ?_
 refine gE hK120 ?_
 refine wp_ret ?_
 clear H136 H141
 refine gw_ret2 H143 rfl rfl rfl ?_
 rw [read_some hdn hgd]
 exact ⟨_, _, _, rfl, (O139.sel [0] (by decide)).out⟩
theorem names_calls (base gd : Nat) (S : Nat → Prop) (d : PD) (w : World) (hD : (Chunk.disk base gd S d).P w) (hlen : d.fs.length ≤ 1000000) :
    Calls Tryz.prog 45 #[.pointer (some ⟨gd, 0, none⟩)] w fun e w' => ∃ A c S', e = .returned (.slice A (namesD d).length c) ∧ Out w w' (fun _ => False) [Chunk.row Kd.string 9 w.heap.size S' (.slice A (namesD d).length c) (namesD d)] := by
 obtain ⟨gm, xs, hxs, hon, hB, hL, hfs⟩ := disk_blk hD
 have hxl : xs.length ≤ 1000000 := by rw [← hxs, List.length_map] at hlen; exact hlen
 have en_ : (xs.map fun x => x.p.nm) = namesD d := by unfold namesD; rw [← hxs, List.map_map]; rfl
 refine gw_start (N := 9) (vs := [.pointer (some ⟨gd, 0, none⟩)]) Tryz.func45 rfl rfl (by simp) fun a HF HO => ?_
 replace HO : Own w w [] := HO
 refine gR fun K1 hK1 => ?_
 refine Vc HF ?_
 intro _ H3; clear HF
 refine gE hK1 ?_
 refine gR fun K4 hK4 => ?_
 refine Vm H3 fun _ H6 => ?_
 refine Vz H6 fun _ H8 => ?_
 refine Vf H8 (gwfld64_0 _ _) fun _ H10 => ?_
 refine Vl H10 gwagg62 (argblk HO hB) fun _ H12 => ?_
 clear H3 H6 H8 H10
 have hOn := HO
 refine Wk H12 Tryz.func67 rfl (ar_cons (H12.ev rfl) ar_nil) (keys_at _ _) ?_
 rintro _ _ ⟨rfl, rfl⟩
 refine ⟨_, rfl, fun _ H17 => ?_⟩
 have O18 := HO.new (.cells #[.map (some gm)] 62)
 clear H12 HO
 have O19 : Own w (w.alloc (.cells #[.map (some gm)] 62)) [Bk w.heap.size [.map (some gm)] 62] := O18
 clear O18
 refine Wk H17 Tryz.func66 rfl (ar_cons (H17.ev rfl) ar_nil) (sorted_at gm xs _ (lmap_arg hOn hL) hxl) ?_
 rintro e23 w24 ⟨A20, c21, S22, rfl, hb25⟩
 refine ⟨_, rfl, fun _ H27 => ?_⟩
 have O28 := O19.fresh hb25
 have hbel29 := O19.below
 clear H17 O19 hb25
 have O30 := O28.lowrow 0 rfl (base' := w.heap.size) (Below.size hbel29)
 refine Va H27 fun _ H32 => ?_
 refine gE hK4 ?_
 refine wp_ret ?_
 clear H27
 refine gw_ret1 H32 rfl rfl ?_
 rw [← en_]
 exact ⟨_, _, _, rfl, (O30.sel [0] (by decide)).out⟩
end GVfs4_
export GVfs4_ (fail_calls down_calls read_calls names_calls)
namespace GVfs5_
theorem crash_calls (w0 w : World) (R : Chunk) (gd : Nat) (S : Nat → Prop) (d : PD) (Ak0 : Option Addr) (ck0 : Nat) (keep : List Int) (hk0 : ∀ w1, Own w0 w1 [R] → Kd.C (Kd.int .i64) w1 Ak0 keep.length keep) (hc0 : keep.length ≤ ck0) (hw : wfD d) (hlen : d.fs.length ≤ 1000000) (HO : Own w0 w [R, Chunk.disk w0.heap.size gd S d]) :
    Calls Tryz.prog 14 #[.pointer (some ⟨gd, 0, none⟩), .slice Ak0 keep.length ck0] w fun e w' => e = .returned (.tuple #[]) ∧ ∃ S', Own w0 w' [R, Chunk.disk w0.heap.size gd S' (crashD keep d)] := by
 have hu0 := hw.used
 have hm0 := hw.most
 have hfu := hw.fuse
 obtain ⟨gm, xs, hxs, hon, HO⟩ := disk_open2 HO
 have hnl : (xs.map fun x => x.p.nm).length ≤ 1000000 := by rw [← hxs, List.length_map] at hlen; rw [List.length_map]; exact hlen
 refine gw_startO (N := 84) (vs := [.pointer (some ⟨gd, 0, none⟩), .slice Ak0 keep.length ck0]) Tryz.func14 rfl rfl (by simp) fun a HF => ?_
 refine gR fun K1 hK1 => ?_
 refine Vm HF ?_
 intro _ H3; clear HF
 refine Vm H3 fun _ H5 => ?_
 refine Vz H5 fun _ H7 => ?_
 refine Vf H7 (gwfld64_4 _ _) fun _ H9 => ?_
 clear H3 H5 H7
 refine gw_set 1 H9 HO rfl (want_none rfl) rfl (op_store1 gwsiz4 rfl (H9.ev rfl) (ev_c _ _) rfl (blk_at (HO.get 1 rfl) rfl) (blkf (HO.get 1 rfl))) ?_
 intro _ w12 H11 O13; clear H9 HO
 refine Vz H11 fun _ H15 => ?_
 refine Vf H15 (gwfld64_3 _ _) fun _ H17 => ?_
 clear H11 H15
 refine gw_set 1 H17 O13 rfl (want_none rfl) rfl (op_store1 gwsiz3 rfl (H17.ev rfl) (ev_c _ _) rfl (blk_at (O13.get 1 rfl) rfl) (blkf (O13.get 1 rfl))) ?_
 intro _ w20 H19 O21; clear H17 O13
 refine gE hK1 ?_
 refine gR fun K22 hK22 => ?_
 refine Vm H19 fun _ H24 => ?_
 clear H19
 obtain ⟨S_d, HOd⟩ := disk_close2 (R := R) (base := w0.heap.size) (gd := gd) (gm := gm) (d := { d with down := false, fuse := 0 }) (xs := xs) hxs (by exact O21.sel [0, 1, 2, 3] (by decide))
 refine Wk H24 Tryz.func45 rfl (ar_cons (H24.ev rfl) ar_nil) (by have h_ := names_calls _ _ _ _ _ (HOd.get 1 rfl) hlen; rw [show namesD { d with down := false, fuse := 0 } = (xs.map fun x => x.p.nm) by (unfold namesD; show d.fs.map PF.nm = _; rw [← hxs, List.map_map]; rfl)] at h_; exact h_) ?_
 rintro e28 w29 ⟨A25, c26, S27, rfl, hb30⟩
 refine ⟨_, rfl, fun _ H32 => ?_⟩
 have O33 := O21.fresh hb30
 have hbel34 := O21.below
 clear H24 O21 hb30
 have O35 := O33.lowrow 0 rfl (base' := w0.heap.size) (Below.size hbel34)
 have O36 := O35.row_view 0 rfl
 clear O35
 have O37 : Own w0 w29 [Chunk.view Kd.string S27 A25 ((xs.map fun x => x.p.nm).length) c26 (xs.map fun x => x.p.nm), R, Bk gd [.map (some gm), J d.most, J d.used, J 0, .bool false] 64, Chunk.lmap Tryz.prog 9 gm (xs.map XF.ent), Chunk.files w0.heap.size xs] := O36
 clear O36
 refine V H32 (op_len Tryz.underlying99 rfl (H32.ev rfl)) fun _ H39 => ?_
 refine V H39 (op_move rfl (ev_c _ _)) fun _ H41 => ?_
 refine gE hK22 ?_
 clear H32 H39
 refine wp_block ?_
 refine gw_loop (fun m_ a_ w_ => ∃ (i : Int) (ys : List XF) (zs : List XF) (us : Int) (Ak : Option Addr) (ck : Nat) (kl : List Int), Fr 84 a_ [(18, J i), (1, .slice Ak kl.length ck), (0, .pointer (some ⟨gd, 0, none⟩)), (16, .slice A25 ((xs.map fun x => x.p.nm).length) c26), (17, J (((xs.map fun x => x.p.nm).length) : Int))] ∧ Own w0 w_ [R, Bk gd [.map (some gm), J d.most, J us, J 0, .bool false] 64, Chunk.lmap Tryz.prog 9 gm ((ys ++ zs).map XF.ent), Chunk.files w0.heap.size (ys ++ zs), Chunk.view Kd.string S27 A25 ((xs.map fun x => x.p.nm).length) c26 (xs.map fun x => x.p.nm)] ∧ (i = ys.length ∧ i ≤ (xs.map fun x => x.p.nm).length) ∧ ((xs.map fun x => x.p.nm) = (ys ++ zs).map fun x => x.p.nm) ∧ (onceX (ys ++ zs)) ∧ (us = (((ys ++ zs).map fun x => x.p.b.length).sum : Nat) ∧ us ≤ d.used) ∧ (∀ x ∈ zs, 0 ≤ x.p.sf ∧ x.p.sf ≤ x.p.b.length ∧ x.p.nm.size ≤ 40) ∧ ((crashF d.fs keep).1 = ys.map XF.p ++ (crashF (zs.map XF.p) kl).1 ∧ d.used - (crashF d.fs keep).2 = us - (crashF (zs.map XF.p) kl).2) ∧ (∀ w1, Own w0 w1 [R] → Kd.C (Kd.int .i64) w1 Ak kl.length kl) ∧ (kl.length ≤ ck) ∧ m_ = ((xs.map fun x => x.p.nm).length - i.toNat)) (((xs.map fun x => x.p.nm).length - (0 : Int).toNat)) ?_ ?_
 ·
  refine ⟨0, [], xs, d.used, Ak0, ck0, keep, (H41.pick (t := 18) rfl (H41.pick (t := 1) rfl (H41.pick (t := 0) rfl (H41.pick (t := 16) rfl (H41.pick (t := 17) rfl H41.nil))))), O37.sel [1, 2, 3, 4, 0] (by decide), ?_, ?_, ?_, ?_, ?_, ?_, ?_, ?_, rfl⟩
  ·
   simp
  ·
   simp
  ·
   exact hon
  ·
   rw [List.nil_append]; exact ⟨by rw [hw.used, ← hxs, List.map_map]; rfl, Int.le_refl _⟩
  ·
   intro x_ hx_; have h1_ : x_.p ∈ d.fs := by rw [← hxs]; exact List.mem_map_of_mem hx_
   exact ⟨(hw.sf _ h1_).1, (hw.sf _ h1_).2, hw.nm _ h1_⟩
  ·
   rw [hxs]; simp
  ·
   exact hk0
  exact hc0
 rintro m43 _ w45 ⟨i, ys, zs, us, Ak, ck, kl, H46, O47, hi, hnm, hon2, hus, hsf, hcr, hkc, hkl, hm48⟩
 refine gR fun K49 hK49 => ?_
 refine V H46 (op_lss rfl (H46.ev rfl) (H46.ev rfl)) fun _ H51 => ?_
 refine gE hK49 ?_
 refine gw_seq fun K52 hK52 => ?_
 clear H46
 refine gw_cond H51 rfl (fun hb53 => ?_) (fun hb53 => ?_)
 ·
  have H54 := H51.subst_ (d := 19) (b := true) rfl hb53
  clear H51
  (try simp only [decide_eq_true_eq] at hb53)
  have hb_ := hb53
  have hz_ : zs ≠ [] := by intro e; rw [hnm, e] at hb_; simp at hb_; omega
  obtain ⟨x, zs', rfl⟩ := List.exists_cons_of_ne_nil hz_
  clear hb_ hz_
  have hx1 := hsf x (List.mem_cons_self ..)
  have hus2 := hus
  rw [totalX_mid] at hus2
  have hex : (xs.map fun x => x.p.nm).getD i.toNat (⟨#[]⟩ : ByteArray) = x.p.nm := by rw [hnm]; simp [hi.1]
  have hl1 := look_mid hon2
  have O55 := Own.file_open (pre := ys) (x := x) (post := zs') (by exact O47.sel [3, 0, 1, 2, 4] (by decide))
  have O56 : Own w0 w45 [Bk x.g [.slice x.A x.p.b.length x.c, J x.p.sf] 74, Chunk.row (Kd.int .u8) 5 w0.heap.size x.S (.slice x.A x.p.b.length x.c) x.p.b, Chunk.files w0.heap.size (ys ++ zs'), R, Bk gd [.map (some gm), J d.most, J us, J 0, .bool false] 64, Chunk.lmap Tryz.prog 9 gm ((ys ++ x :: zs').map XF.ent), Chunk.view Kd.string S27 A25 ((xs.map fun x => x.p.nm).length) c26 (xs.map fun x => x.p.nm)] := O55
  clear O55
  refine gS hK52 ?_
  refine gw_seq fun K57 hK57 => ?_
  refine wp_block ?_
  refine gR fun K58 hK58 => ?_
  have O65 := O56.pin 6 rfl
  clear O56
  have O66 : Own w0 w45 [Bk x.g [.slice x.A x.p.b.length x.c, J x.p.sf] 74, Chunk.row (Kd.int .u8) 5 w0.heap.size x.S (.slice x.A x.p.b.length x.c) x.p.b, Chunk.files w0.heap.size (ys ++ zs'), R, Bk gd [.map (some gm), J d.most, J us, J 0, .bool false] 64, Chunk.lmap Tryz.prog 9 gm ((ys ++ x :: zs').map XF.ent), Chunk.viewAt w45 Kd.string S27 A25 ((xs.map fun x => x.p.nm).length) c26 (xs.map fun x => x.p.nm)] := O65
  clear O65
  obtain ⟨ad59, cs62, hA60, hl63, hK64, hc61, _⟩ := Kd.F_get (viewAt_F (O66.get 6 rfl)) (⟨#[]⟩ : ByteArray) i (by omega) (by omega)
  obtain rfl := str_openF hK64
  clear hl63
  refine V H54 (op_index Tryz.underlying99 gwsiz9 rfl (H54.ev rfl) (H54.ev rfl) hA60 (⟨by omega, by omega⟩)) fun _ H68 => ?_
  refine V H68 (op_load1 gwagg9 rfl (H68.ev rfl) (((pin_cells (O66.get 6 rfl) hA60 hc61) 0 _ rfl))) fun _ H70 => ?_
  clear H54 H68
  have H71 := H70.conv (v' := .string x.p.nm) (congrArg Value.string hex)
  clear H70
  refine Va H71 fun _ H73 => ?_
  refine gE hK58 ?_
  refine gR fun K74 hK74 => ?_
  refine Vm H73 fun _ H76 => ?_
  refine Vz H76 fun _ H78 => ?_
  refine Vf H78 (gwfld64_0 _ _) fun _ H80 => ?_
  refine Vl H80 gwagg62 (O66.get 4 rfl) fun _ H82 => ?_
  refine Vm H82 fun _ H84 => ?_
  refine V H84 (op_ml_some strKey Tryz.underlying62 gwzer71 rfl (H84.ev rfl) (H84.ev rfl) (keyS (by omega)) (O66.get 5 rfl) (hl1)) fun _ H86 => ?_
  refine Va H86 fun _ H88 => ?_
  clear H71 H73 H76 H78 H80 H82 H84 H86
  refine gE hK74 ?_
  refine gw_seq fun K89 hK89 => ?_
  refine gw_drawB O66 (by kernel_rfl) (by kernel_rfl) fun w90 O91 => ?_
  clear O66
  refine Vn H88 (op_move rfl (H88.ev rfl)) fun _ H93 => ?_
  refine Vn H93 (op_nil rfl (H93.ev rfl)) fun _ H95 => ?_
  refine Vn H95 (op_field (gwfld74_0 _ _) rfl (H95.ev rfl)) fun _ H97 => ?_
  refine Vq H97 (fun wq hq => have HO := O91.after hq; op_load1 gwagg22 rfl (H97.ev rfl) (blk_at (HO.get 0 rfl) rfl)) fun _ H99 => ?_
  refine Vn H99 (op_len Tryz.underlying22 rfl (H99.ev rfl)) fun _ H101 => ?_
  refine Vn H101 (op_move rfl (H101.ev rfl)) fun _ H103 => ?_
  refine Vn H103 (op_nil rfl (H103.ev rfl)) fun _ H105 => ?_
  refine Vn H105 (op_field (gwfld74_1 _ _) rfl (H105.ev rfl)) fun _ H107 => ?_
  clear H88 H93 H95 H97 H99 H101 H103 H105
  refine Vq H107 (fun wq hq => have HO := O91.after hq; op_load1 gwagg3 rfl (H107.ev rfl) (blk_at (HO.get 0 rfl) rfl)) fun _ H109 => ?_
  refine Vn H109 (op_sub rfl (H109.ev rfl) (H109.ev rfl) (by omega)) fun _ H111 => ?_
  refine Vn H111 (op_assign rfl (H111.ev rfl)) fun _ H113 => ?_
  clear H107 H109 H111
  refine wpQuiet_nil ?_
  intro w114 hq
  have O115 := O91.after hq
  clear O91 hq
  refine gw_nx (hK89 _ _ ?_)
  refine gw_seq fun K116 hK116 => ?_
  refine gR fun K117 hK117 => ?_
  refine Vm H113 fun _ H119 => ?_
  refine V H119 (op_eqi rfl (H119.ev rfl) (ev_c _ _)) fun _ H121 => ?_
  refine gE hK117 ?_
  clear H113 H119
  refine gw_cond H121 rfl (fun hb122 => ?_) (fun hb122 => ?_)
  ·
   have H123 := H121.subst_ (d := 39) (b := true) rfl hb122
   clear H121
   (try simp only [decide_eq_true_eq] at hb122)
   have h1z : (x.p.b.length : Int) - x.p.sf = 0 := by omega
   refine wp_exit ?_
   refine gw_thx ?_
   refine gw_in ?_
   refine gw_nx (hK57 _ _ ?_)
   refine wp_region_lit ?_
   refine V H123 (op_add rfl (H123.ev rfl) (ev_c _ _) (by omega)) fun _ H125 => ?_
   refine Vm H125 fun _ H127 => ?_
   clear H123 H125
   refine wpList_nil ?_
   have O128 := O115.unpin 6 rfl
   clear O115
   have O129 : Own w0 w114 [Bk x.g [.slice x.A x.p.b.length x.c, J x.p.sf] 74, Chunk.row (Kd.int .u8) 5 w0.heap.size x.S (.slice x.A x.p.b.length x.c) x.p.b, Chunk.files w0.heap.size (ys ++ zs'), R, Bk gd [.map (some gm), J d.most, J us, J 0, .bool false] 64, Chunk.lmap Tryz.prog 9 gm ((ys ++ x :: zs').map XF.ent), Chunk.view Kd.string S27 A25 ((xs.map fun x => x.p.nm).length) c26 (xs.map fun x => x.p.nm)] := O128
   clear O128
   have O130 := Own.file_close (x := x) (pre := ys) (post := zs') (by exact O129.sel [0, 1, 2, 3, 4, 5, 6] (by decide))
   have el_ : (ys ++ x :: zs').map XF.ent = (ys ++ x :: zs').map XF.ent := by simp [XF.ent]
   rw [el_] at O130
   have ea_ : ys ++ x :: zs' = (ys ++ [x]) ++ zs' := by simp
   rw [ea_] at O130
   refine gw_nx ⟨_, ?_, i + 1, ys ++ [x], zs', us, Ak, ck, kl, (H127.pick (t := 18) rfl (H127.pick (t := 1) rfl (H127.pick (t := 0) rfl (H127.pick (t := 16) rfl (H127.pick (t := 17) rfl H127.nil))))), O130.sel [1, 2, 3, 0, 4] (by decide), ?_, ?_, ?_, ?_, ?_, ?_, ?_, ?_, rfl⟩
   ·
    rw [hm48]; omega
   ·
    exact ⟨by rw [List.length_append, List.length_singleton]; omega, by omega⟩
   ·
    rw [hnm, ea_.symm]; try simp
   ·
    rw [← ea_]; exact once_same hon2 rfl
   ·
    rw [← ea_]; exact hus
   ·
    intro x_ hx_; exact hsf x_ (List.mem_cons_of_mem _ hx_)
   ·
    exact ⟨by rw [hcr.1, List.map_cons, crash_keep h1z]; simp, by rw [hcr.2, List.map_cons, crash_keep h1z]⟩
   ·
    intro w_ h_; exact hkc w_ h_
   exact hkl
  have H132 := H121.subst_ (d := 39) (b := false) rfl hb122
  clear H121
  (try simp only [decide_eq_false_iff_not] at hb122)
  have h1_ := hb122
  refine gS hK116 ?_
  refine gR fun K133 hK133 => ?_
  refine Vc H132 fun _ H135 => ?_
  refine gE hK133 ?_
  refine gw_seq fun K136 hK136 => ?_
  refine gR fun K137 hK137 => ?_
  refine Vm H135 fun _ H139 => ?_
  refine V H139 (op_len Tryz.underlying48 rfl (H139.ev rfl)) fun _ H141 => ?_
  refine V H141 (op_gtr rfl (H141.ev rfl) (ev_c _ _)) fun _ H143 => ?_
  refine gE hK137 ?_
  clear H132 H135 H139 H141
  refine gw_cond H143 rfl (fun hb144 => ?_) (fun hb144 => ?_)
  ·
   have H145 := H143.subst_ (d := 42) (b := true) rfl hb144
   clear H143
   (try simp only [decide_eq_true_eq] at hb144)
   have hke : 0 ≤ keepN kl ((x.p.b.length : Int) - x.p.sf) ∧ keepN kl ((x.p.b.length : Int) - x.p.sf) ≤ ((x.p.b.length : Int) - x.p.sf) := keepN_in kl (by omega)
   have hkn1 : keepN kl ((x.p.b.length : Int) - x.p.sf) = (keepN kl ((x.p.b.length : Int) - x.p.sf)) := rfl
   have hkd : kl.drop 1 = (kl.drop (1 : Int).toNat) := rfl
   have hl2 : ((x.p.b.take (x.p.sf + (keepN kl ((x.p.b.length : Int) - x.p.sf))).toNat).length : Int) = x.p.sf + (keepN kl ((x.p.b.length : Int) - x.p.sf)) := by rw [List.length_take]; omega
   refine gw_drawB O115 (by kernel_rfl) (by kernel_rfl) fun w146 O147 => ?_
   clear O115
   refine Vn H145 (op_move rfl (H145.ev rfl)) fun _ H149 => ?_
   clear H145
   obtain ⟨ad150, cs153, hA151, hl154, hK155, hc152⟩ := Kd.C_get (hkc _ (O147.sel [3] (by decide))) (0 : Int) 0 (by omega) (by omega)
   obtain rfl := id hK155
   clear hl154
   refine Vn H149 (op_index Tryz.underlying48 gwsiz3 rfl (H149.ev rfl) (ev_c _ _) hA151 (⟨by omega, by omega⟩)) fun _ H157 => ?_
   refine Vq H157 (fun wq hq => have HO := O147.after hq; op_load1 gwagg3 rfl (H157.ev rfl) ((cellb hq (at0 hc152)))) fun _ H159 => ?_
   refine Vn H159 (op_max rfl (H159.ev rfl) (ev_c _ _)) fun _ H161 => ?_
   refine Vn H161 (op_move rfl (H161.ev rfl)) fun _ H163 => ?_
   refine Vn H163 (op_min rfl (H163.ev rfl) (H163.ev rfl)) fun _ H165 => ?_
   clear H149 H157 H159 H161 H163
   have H166 := H165.conv (v' := J (keepN kl ((x.p.b.length : Int) - x.p.sf))) (congrArg (Value.int .i64) (keepN_pos (by omega)))
   clear H165
   refine Vn H166 (op_move rfl (H166.ev rfl)) fun _ H168 => ?_
   clear H166
   obtain ⟨A169, c170, hr171, hc172, hC173, hA174⟩ := cut_lo (P := Tryz.prog) (d := (Kd.int .i64)) (t := 48) (e := 3) Tryz.underlying48 gwsiz3 Ak ck kl hkl 1 (by omega) (by omega)
   refine Vn H168 (op_cut Tryz.underlying48 hr171 rfl (H168.ev rfl) (some_ev (ev_c _ _)) rfl) fun _ H176 => ?_
   refine Vn H176 (op_assign rfl (H176.ev rfl)) fun _ H178 => ?_
   refine Vn H178 (op_assign rfl (H178.ev rfl)) fun _ H180 => ?_
   clear H168 H176 H178
   refine wpQuiet_nil ?_
   intro w181 hq
   have O182 := O147.after hq
   clear O147 hq
   refine gw_nx (hK136 _ _ ?_)
   refine gR fun K183 hK183 => ?_
   refine Vm H180 fun _ H185 => ?_
   refine Vz H185 fun _ H187 => ?_
   refine Vf H187 (gwfld64_2 _ _) fun _ H189 => ?_
   refine Vl H189 gwagg3 (O182.get 4 rfl) fun _ H191 => ?_
   refine Vm H191 fun _ H193 => ?_
   refine Vm H193 fun _ H195 => ?_
   refine V H195 (op_sub rfl (H195.ev rfl) (H195.ev rfl) (by omega)) fun _ H197 => ?_
   refine V H197 (op_sub rfl (H197.ev rfl) (H197.ev rfl) (by omega)) fun _ H199 => ?_
   clear H180 H185 H187 H189 H191 H193 H195 H197
   refine Vz H199 fun _ H201 => ?_
   refine Vf H201 (gwfld64_2 _ _) fun _ H203 => ?_
   clear H199 H201
   refine gw_set 4 H203 O182 rfl (want_none rfl) rfl (op_store1 gwsiz3 rfl (H203.ev rfl) (H203.ev rfl) rfl (blk_at (O182.get 4 rfl) rfl) (blkf (O182.get 4 rfl))) ?_
   intro _ w206 H205 O207; clear H203 O182
   refine gE hK183 ?_
   refine gw_seq fun K208 hK208 => ?_
   refine gx_draw (M := [Bk x.g [.slice x.A x.p.b.length x.c, J x.p.sf] 74, Chunk.row (Kd.int .u8) 5 w0.heap.size x.S (.slice x.A x.p.b.length x.c) x.p.b, Chunk.files w0.heap.size (ys ++ zs'), R, Bk gd [.map (some gm), J d.most, J (us - (((x.p.b.length : Int) - x.p.sf) - (keepN kl ((x.p.b.length : Int) - x.p.sf)))), J 0, .bool false] 64, Chunk.lmap Tryz.prog 9 gm ((ys ++ x :: zs').map XF.ent), Chunk.viewAt w45 Kd.string S27 A25 ((xs.map fun x => x.p.nm).length) c26 (xs.map fun x => x.p.nm)]) (fun j_ => j_ == 14) O207 (by kernel_rfl) fun w209 O210 => ?_
   clear O207
   refine gx_take 0 rfl (by kernel_rfl) H205 (by exact O210.sel [0, 1, 2, 3, 4, 5, 6] (by decide)) (want_none rfl) rfl (by decide) (fun wq HO => (op_move rfl (H205.ev rfl))) ?_
   intro _ H212; clear H205
   refine gx_take 1 rfl (by kernel_rfl) H212 (by exact O210.sel [0, 1, 2, 3, 4, 5, 6] (by decide)) (want_none rfl) rfl (by decide) (fun wq HO => (op_move rfl (H212.ev rfl))) ?_
   intro _ H214; clear H212
   refine gx_take 2 rfl (by kernel_rfl) H214 (by exact O210.sel [0, 1, 2, 3, 4, 5, 6] (by decide)) (want_none rfl) rfl (by decide) (fun wq HO => (op_nil rfl (H214.ev rfl))) ?_
   intro _ H216; clear H214
   refine gx_take 3 rfl (by kernel_rfl) H216 (by exact O210.sel [0, 1, 2, 3, 4, 5, 6] (by decide)) (want_none rfl) rfl (by decide) (fun wq HO => (op_field (gwfld74_0 _ _) rfl (H216.ev rfl))) ?_
   intro _ H218; clear H216
   refine gx_take 4 rfl (by kernel_rfl) H218 (by exact O210.sel [0, 1, 2, 3, 4, 5, 6] (by decide)) (want_none rfl) rfl (by decide) (fun wq HO => (op_load1 gwagg22 rfl (H218.ev rfl) (blk_at (HO.get 0 rfl) rfl))) ?_
   intro _ H220; clear H218
   refine gx_take 5 rfl (by kernel_rfl) H220 (by exact O210.sel [0, 1, 2, 3, 4, 5, 6] (by decide)) (want_none rfl) rfl (by decide) (fun wq HO => (op_move rfl (H220.ev rfl))) ?_
   intro _ H222; clear H220
   refine gx_take 6 rfl (by kernel_rfl) H222 (by exact O210.sel [0, 1, 2, 3, 4, 5, 6] (by decide)) (want_none rfl) rfl (by decide) (fun wq HO => (op_nil rfl (H222.ev rfl))) ?_
   intro _ H224; clear H222
   refine gx_take 7 rfl (by kernel_rfl) H224 (by exact O210.sel [0, 1, 2, 3, 4, 5, 6] (by decide)) (want_none rfl) rfl (by decide) (fun wq HO => (op_field (gwfld74_1 _ _) rfl (H224.ev rfl))) ?_
   intro _ H226; clear H224
   refine gx_take 8 rfl (by kernel_rfl) H226 (by exact O210.sel [0, 1, 2, 3, 4, 5, 6] (by decide)) (want_none rfl) rfl (by decide) (fun wq HO => (op_load1 gwagg3 rfl (H226.ev rfl) (blk_at (HO.get 0 rfl) rfl))) ?_
   intro _ H228; clear H226
   refine gx_take 9 rfl (by kernel_rfl) H228 (by exact O210.sel [0, 1, 2, 3, 4, 5, 6] (by decide)) (want_none rfl) rfl (by decide) (fun wq HO => (op_move rfl (H228.ev rfl))) ?_
   intro _ H230; clear H228
   refine gx_take 10 rfl (by kernel_rfl) H230 (by exact O210.sel [0, 1, 2, 3, 4, 5, 6] (by decide)) (want_none rfl) rfl (by decide) (fun wq HO => (op_add rfl (H230.ev rfl) (H230.ev rfl) (by omega))) ?_
   intro _ H232; clear H230
   obtain ⟨hr233, hc234, hC235⟩ := cut_hi (P := Tryz.prog) (d := (Kd.int .u8)) (t := 22) (e := 5) Tryz.underlying22 gwsiz5 x.A x.c x.p.b (row_cap (O210.get 1 rfl)) (x.p.sf + (keepN kl ((x.p.b.length : Int) - x.p.sf))) (by omega) (by omega)
   refine gx_take 11 rfl (by kernel_rfl) H232 (by exact O210.sel [0, 1, 2, 3, 4, 5, 6] (by decide)) (want_none rfl) rfl (by decide) (fun wq HO => (op_cut Tryz.underlying22 hr233 rfl (H232.ev rfl) rfl (some_ev (H232.ev rfl)))) ?_
   intro _ H237; clear H232
   refine gx_step 12 rfl (by kernel_rfl) ?_
   refine Vz H237 fun _ H239 => ?_
   clear H237
   refine gx_on (i := 12) (B := (fun j_ => j_ == 14)) (fun _ => (by exact O210.sel [0, 1, 2, 3, 4, 5, 6] (by decide))) ?_
   refine gx_take 13 rfl (by kernel_rfl) H239 (by exact O210.sel [0, 1, 2, 3, 4, 5, 6] (by decide)) (want_none rfl) rfl (by decide) (fun wq HO => (op_field (gwfld74_0 _ _) rfl (H239.ev rfl))) ?_
   intro _ H241; clear H239
   refine gx_step 14 rfl (by kernel_rfl) ?_
   refine gw_set 0 H241 O210 rfl (want_none rfl) rfl (op_store1 gwsiz22 rfl (H241.ev rfl) (H241.ev rfl) rfl (blk_at (O210.get 0 rfl) rfl) (blkf (O210.get 0 rfl))) ?_
   intro _ w244 H243 O245; clear H241 O210
   refine gx_on (i := 14) (B := (fun j_ => j_ == 14)) (fun h_ => by cases h_) ?_
   refine gx_done (by kernel_rfl) ?_
   have O246 := O245.row_takeL 1 rfl ((x.p.sf + (keepN kl ((x.p.b.length : Int) - x.p.sf))).toNat) (by omega)
   clear O245
   have O247 : Own w0 w244 [Bk x.g [.slice x.A ((x.p.b.take (x.p.sf + (keepN kl ((x.p.b.length : Int) - x.p.sf))).toNat).length) x.c, J x.p.sf] 74, Chunk.row (Kd.int .u8) 5 w0.heap.size x.S (.slice x.A ((x.p.b.take (x.p.sf + (keepN kl ((x.p.b.length : Int) - x.p.sf))).toNat).length) x.c) (x.p.b.take (x.p.sf + (keepN kl ((x.p.b.length : Int) - x.p.sf))).toNat), Chunk.files w0.heap.size (ys ++ zs'), R, Bk gd [.map (some gm), J d.most, J (us - (((x.p.b.length : Int) - x.p.sf) - (keepN kl ((x.p.b.length : Int) - x.p.sf)))), J 0, .bool false] 64, Chunk.lmap Tryz.prog 9 gm ((ys ++ x :: zs').map XF.ent), Chunk.viewAt w45 Kd.string S27 A25 ((xs.map fun x => x.p.nm).length) c26 (xs.map fun x => x.p.nm)] := O246
   clear O246
   refine gw_nx (hK208 _ _ ?_)
   refine wp_region_lit ?_
   refine Vm H243 fun _ H249 => ?_
   refine Vm H249 fun _ H251 => ?_
   refine Vz H251 fun _ H253 => ?_
   refine Vf H253 (gwfld74_0 _ _) fun _ H255 => ?_
   refine Vl H255 gwagg22 (O247.get 0 rfl) fun _ H257 => ?_
   refine V H257 (op_len Tryz.underlying22 rfl (H257.ev rfl)) fun _ H259 => ?_
   clear H243 H249 H251 H253 H255 H257
   have H260 := H259.conv (v' := J (x.p.sf + (keepN kl ((x.p.b.length : Int) - x.p.sf)))) (congrArg (Value.int .i64) hl2)
   clear H259
   refine Vz H260 fun _ H262 => ?_
   refine Vf H262 (gwfld74_1 _ _) fun _ H264 => ?_
   clear H260 H262
   refine gw_set 0 H264 O247 rfl (want_none rfl) rfl (op_store1 gwsiz3 rfl (H264.ev rfl) (H264.ev rfl) rfl (blk_at (O247.get 0 rfl) rfl) (blkf (O247.get 0 rfl))) ?_
   intro _ w267 H266 O268; clear H264 O247
   refine wpList_nil ?_
   refine gw_blk ?_
   refine gw_nx (hK57 _ _ ?_)
   refine wp_region_lit ?_
   refine V H266 (op_add rfl (H266.ev rfl) (ev_c _ _) (by omega)) fun _ H270 => ?_
   refine Vm H270 fun _ H272 => ?_
   clear H266 H270
   refine wpList_nil ?_
   have O273 := O268.unpin 6 rfl
   clear O268
   have O274 : Own w0 w267 [Bk x.g [.slice x.A ((x.p.b.take (x.p.sf + (keepN kl ((x.p.b.length : Int) - x.p.sf))).toNat).length) x.c, J (x.p.sf + (keepN kl ((x.p.b.length : Int) - x.p.sf)))] 74, Chunk.row (Kd.int .u8) 5 w0.heap.size x.S (.slice x.A ((x.p.b.take (x.p.sf + (keepN kl ((x.p.b.length : Int) - x.p.sf))).toNat).length) x.c) (x.p.b.take (x.p.sf + (keepN kl ((x.p.b.length : Int) - x.p.sf))).toNat), Chunk.files w0.heap.size (ys ++ zs'), R, Bk gd [.map (some gm), J d.most, J (us - (((x.p.b.length : Int) - x.p.sf) - (keepN kl ((x.p.b.length : Int) - x.p.sf)))), J 0, .bool false] 64, Chunk.lmap Tryz.prog 9 gm ((ys ++ x :: zs').map XF.ent), Chunk.view Kd.string S27 A25 ((xs.map fun x => x.p.nm).length) c26 (xs.map fun x => x.p.nm)] := O273
   clear O273
   have O275 := Own.file_close (x := (⟨⟨x.p.nm, (x.p.b.take (x.p.sf + (keepN kl ((x.p.b.length : Int) - x.p.sf))).toNat), x.p.sf + (keepN kl ((x.p.b.length : Int) - x.p.sf))⟩, x.g, x.A, x.c, x.S⟩ : XF)) (pre := ys) (post := zs') (by exact O274.sel [0, 1, 2, 3, 4, 5, 6] (by decide))
   have el_ : (ys ++ x :: zs').map XF.ent = (ys ++ (⟨⟨x.p.nm, (x.p.b.take (x.p.sf + (keepN kl ((x.p.b.length : Int) - x.p.sf))).toNat), x.p.sf + (keepN kl ((x.p.b.length : Int) - x.p.sf))⟩, x.g, x.A, x.c, x.S⟩ : XF) :: zs').map XF.ent := by simp [XF.ent]
   rw [el_] at O275
   have ea_ : ys ++ (⟨⟨x.p.nm, (x.p.b.take (x.p.sf + (keepN kl ((x.p.b.length : Int) - x.p.sf))).toNat), x.p.sf + (keepN kl ((x.p.b.length : Int) - x.p.sf))⟩, x.g, x.A, x.c, x.S⟩ : XF) :: zs' = (ys ++ [(⟨⟨x.p.nm, (x.p.b.take (x.p.sf + (keepN kl ((x.p.b.length : Int) - x.p.sf))).toNat), x.p.sf + (keepN kl ((x.p.b.length : Int) - x.p.sf))⟩, x.g, x.A, x.c, x.S⟩ : XF)]) ++ zs' := by simp
   rw [ea_] at O275
   refine gw_nx ⟨_, ?_, i + 1, ys ++ [(⟨⟨x.p.nm, (x.p.b.take (x.p.sf + (keepN kl ((x.p.b.length : Int) - x.p.sf))).toNat), x.p.sf + (keepN kl ((x.p.b.length : Int) - x.p.sf))⟩, x.g, x.A, x.c, x.S⟩ : XF)], zs', (us - (((x.p.b.length : Int) - x.p.sf) - (keepN kl ((x.p.b.length : Int) - x.p.sf)))), A169, c170, (kl.drop (1 : Int).toNat), (H272.pick (t := 18) rfl (H272.pick (t := 1) rfl (H272.pick (t := 0) rfl (H272.pick (t := 16) rfl (H272.pick (t := 17) rfl H272.nil))))), O275.sel [1, 2, 3, 0, 4] (by decide), ?_, ?_, ?_, ?_, ?_, ?_, ?_, ?_, rfl⟩
   ·
    rw [hm48]; omega
   ·
    exact ⟨by rw [List.length_append, List.length_singleton]; omega, by omega⟩
   ·
    rw [hnm, ea_.symm]; try simp
   ·
    rw [← ea_]; exact once_same hon2 rfl
   ·
    rw [← ea_, totalX_mid]; exact ⟨by show _ = ((_ + (x.p.b.take (x.p.sf + (keepN kl ((x.p.b.length : Int) - x.p.sf))).toNat).length : Nat) : Int); omega, by omega⟩
   ·
    intro x_ hx_; exact hsf x_ (List.mem_cons_of_mem _ hx_)
   ·
    exact ⟨by rw [hcr.1, List.map_cons, crash_go h1_ hkn1 hkd]; simp, by rw [hcr.2, List.map_cons, crash_go h1_ hkn1 hkd]; show us - (_ + _) = _; omega⟩
   ·
    intro w_ h_; exact hC173 _ (hkc w_ h_)
   exact hc172
  have H277 := H143.subst_ (d := 42) (b := false) rfl hb144
  clear H143
  (try simp only [decide_eq_false_iff_not, Int.not_lt] at hb144)
  have hke : 0 ≤ keepN kl ((x.p.b.length : Int) - x.p.sf) ∧ keepN kl ((x.p.b.length : Int) - x.p.sf) ≤ ((x.p.b.length : Int) - x.p.sf) := keepN_in kl (by omega)
  have hkn1 : keepN kl ((x.p.b.length : Int) - x.p.sf) = 0 := keepN_zero (by omega)
  have hkd : kl.drop 1 = kl := List.drop_eq_nil_of_le (by omega) |>.trans (List.length_eq_zero_iff.1 (by omega)).symm
  have hl2 : ((x.p.b.take (x.p.sf + 0).toNat).length : Int) = x.p.sf + 0 := by rw [List.length_take]; omega
  refine gS hK136 ?_
  refine gR fun K278 hK278 => ?_
  refine Vm H277 fun _ H280 => ?_
  refine Vz H280 fun _ H282 => ?_
  refine Vf H282 (gwfld64_2 _ _) fun _ H284 => ?_
  refine Vl H284 gwagg3 (O115.get 4 rfl) fun _ H286 => ?_
  refine Vm H286 fun _ H288 => ?_
  refine Vm H288 fun _ H290 => ?_
  refine V H290 (op_sub rfl (H290.ev rfl) (H290.ev rfl) (by omega)) fun _ H292 => ?_
  refine V H292 (op_sub rfl (H292.ev rfl) (H292.ev rfl) (by omega)) fun _ H294 => ?_
  clear H277 H280 H282 H284 H286 H288 H290 H292
  refine Vz H294 fun _ H296 => ?_
  refine Vf H296 (gwfld64_2 _ _) fun _ H298 => ?_
  clear H294 H296
  refine gw_set 4 H298 O115 rfl (want_none rfl) rfl (op_store1 gwsiz3 rfl (H298.ev rfl) (H298.ev rfl) rfl (blk_at (O115.get 4 rfl) rfl) (blkf (O115.get 4 rfl))) ?_
  intro _ w301 H300 O302; clear H298 O115
  refine gE hK278 ?_
  refine gw_seq fun K303 hK303 => ?_
  refine gx_draw (M := [Bk x.g [.slice x.A x.p.b.length x.c, J x.p.sf] 74, Chunk.row (Kd.int .u8) 5 w0.heap.size x.S (.slice x.A x.p.b.length x.c) x.p.b, Chunk.files w0.heap.size (ys ++ zs'), R, Bk gd [.map (some gm), J d.most, J (us - (((x.p.b.length : Int) - x.p.sf) - 0)), J 0, .bool false] 64, Chunk.lmap Tryz.prog 9 gm ((ys ++ x :: zs').map XF.ent), Chunk.viewAt w45 Kd.string S27 A25 ((xs.map fun x => x.p.nm).length) c26 (xs.map fun x => x.p.nm)]) (fun j_ => j_ == 14) O302 (by kernel_rfl) fun w304 O305 => ?_
  clear O302
  refine gx_take 0 rfl (by kernel_rfl) H300 (by exact O305.sel [0, 1, 2, 3, 4, 5, 6] (by decide)) (want_none rfl) rfl (by decide) (fun wq HO => (op_move rfl (H300.ev rfl))) ?_
  intro _ H307; clear H300
  refine gx_take 1 rfl (by kernel_rfl) H307 (by exact O305.sel [0, 1, 2, 3, 4, 5, 6] (by decide)) (want_none rfl) rfl (by decide) (fun wq HO => (op_move rfl (H307.ev rfl))) ?_
  intro _ H309; clear H307
  refine gx_take 2 rfl (by kernel_rfl) H309 (by exact O305.sel [0, 1, 2, 3, 4, 5, 6] (by decide)) (want_none rfl) rfl (by decide) (fun wq HO => (op_nil rfl (H309.ev rfl))) ?_
  intro _ H311; clear H309
  refine gx_take 3 rfl (by kernel_rfl) H311 (by exact O305.sel [0, 1, 2, 3, 4, 5, 6] (by decide)) (want_none rfl) rfl (by decide) (fun wq HO => (op_field (gwfld74_0 _ _) rfl (H311.ev rfl))) ?_
  intro _ H313; clear H311
  refine gx_take 4 rfl (by kernel_rfl) H313 (by exact O305.sel [0, 1, 2, 3, 4, 5, 6] (by decide)) (want_none rfl) rfl (by decide) (fun wq HO => (op_load1 gwagg22 rfl (H313.ev rfl) (blk_at (HO.get 0 rfl) rfl))) ?_
  intro _ H315; clear H313
  refine gx_take 5 rfl (by kernel_rfl) H315 (by exact O305.sel [0, 1, 2, 3, 4, 5, 6] (by decide)) (want_none rfl) rfl (by decide) (fun wq HO => (op_move rfl (H315.ev rfl))) ?_
  intro _ H317; clear H315
  refine gx_take 6 rfl (by kernel_rfl) H317 (by exact O305.sel [0, 1, 2, 3, 4, 5, 6] (by decide)) (want_none rfl) rfl (by decide) (fun wq HO => (op_nil rfl (H317.ev rfl))) ?_
  intro _ H319; clear H317
  refine gx_take 7 rfl (by kernel_rfl) H319 (by exact O305.sel [0, 1, 2, 3, 4, 5, 6] (by decide)) (want_none rfl) rfl (by decide) (fun wq HO => (op_field (gwfld74_1 _ _) rfl (H319.ev rfl))) ?_
  intro _ H321; clear H319
  refine gx_take 8 rfl (by kernel_rfl) H321 (by exact O305.sel [0, 1, 2, 3, 4, 5, 6] (by decide)) (want_none rfl) rfl (by decide) (fun wq HO => (op_load1 gwagg3 rfl (H321.ev rfl) (blk_at (HO.get 0 rfl) rfl))) ?_
  intro _ H323; clear H321
  refine gx_take 9 rfl (by kernel_rfl) H323 (by exact O305.sel [0, 1, 2, 3, 4, 5, 6] (by decide)) (want_none rfl) rfl (by decide) (fun wq HO => (op_move rfl (H323.ev rfl))) ?_
  intro _ H325; clear H323
  refine gx_take 10 rfl (by kernel_rfl) H325 (by exact O305.sel [0, 1, 2, 3, 4, 5, 6] (by decide)) (want_none rfl) rfl (by decide) (fun wq HO => (op_add rfl (H325.ev rfl) (H325.ev rfl) (by omega))) ?_
  intro _ H327; clear H325
  obtain ⟨hr328, hc329, hC330⟩ := cut_hi (P := Tryz.prog) (d := (Kd.int .u8)) (t := 22) (e := 5) Tryz.underlying22 gwsiz5 x.A x.c x.p.b (row_cap (O305.get 1 rfl)) (x.p.sf + 0) (by omega) (by omega)
  refine gx_take 11 rfl (by kernel_rfl) H327 (by exact O305.sel [0, 1, 2, 3, 4, 5, 6] (by decide)) (want_none rfl) rfl (by decide) (fun wq HO => (op_cut Tryz.underlying22 hr328 rfl (H327.ev rfl) rfl (some_ev (H327.ev rfl)))) ?_
  intro _ H332; clear H327
  refine gx_step 12 rfl (by kernel_rfl) ?_
  refine Vz H332 fun _ H334 => ?_
  clear H332
  refine gx_on (i := 12) (B := (fun j_ => j_ == 14)) (fun _ => (by exact O305.sel [0, 1, 2, 3, 4, 5, 6] (by decide))) ?_
  refine gx_take 13 rfl (by kernel_rfl) H334 (by exact O305.sel [0, 1, 2, 3, 4, 5, 6] (by decide)) (want_none rfl) rfl (by decide) (fun wq HO => (op_field (gwfld74_0 _ _) rfl (H334.ev rfl))) ?_
  intro _ H336; clear H334
  refine gx_step 14 rfl (by kernel_rfl) ?_
  refine gw_set 0 H336 O305 rfl (want_none rfl) rfl (op_store1 gwsiz22 rfl (H336.ev rfl) (H336.ev rfl) rfl (blk_at (O305.get 0 rfl) rfl) (blkf (O305.get 0 rfl))) ?_
  intro _ w339 H338 O340; clear H336 O305
  refine gx_on (i := 14) (B := (fun j_ => j_ == 14)) (fun h_ => by cases h_) ?_
  refine gx_done (by kernel_rfl) ?_
  have O341 := O340.row_takeL 1 rfl ((x.p.sf + 0).toNat) (by omega)
  clear O340
  have O342 : Own w0 w339 [Bk x.g [.slice x.A ((x.p.b.take (x.p.sf + 0).toNat).length) x.c, J x.p.sf] 74, Chunk.row (Kd.int .u8) 5 w0.heap.size x.S (.slice x.A ((x.p.b.take (x.p.sf + 0).toNat).length) x.c) (x.p.b.take (x.p.sf + 0).toNat), Chunk.files w0.heap.size (ys ++ zs'), R, Bk gd [.map (some gm), J d.most, J (us - (((x.p.b.length : Int) - x.p.sf) - 0)), J 0, .bool false] 64, Chunk.lmap Tryz.prog 9 gm ((ys ++ x :: zs').map XF.ent), Chunk.viewAt w45 Kd.string S27 A25 ((xs.map fun x => x.p.nm).length) c26 (xs.map fun x => x.p.nm)] := O341
  clear O341
  refine gw_nx (hK303 _ _ ?_)
  refine wp_region_lit ?_
  refine Vm H338 fun _ H344 => ?_
  refine Vm H344 fun _ H346 => ?_
  refine Vz H346 fun _ H348 => ?_
  refine Vf H348 (gwfld74_0 _ _) fun _ H350 => ?_
  refine Vl H350 gwagg22 (O342.get 0 rfl) fun _ H352 => ?_
  refine V H352 (op_len Tryz.underlying22 rfl (H352.ev rfl)) fun _ H354 => ?_
  clear H338 H344 H346 H348 H350 H352
  have H355 := H354.conv (v' := J (x.p.sf + 0)) (congrArg (Value.int .i64) hl2)
  clear H354
  refine Vz H355 fun _ H357 => ?_
  refine Vf H357 (gwfld74_1 _ _) fun _ H359 => ?_
  clear H355 H357
  refine gw_set 0 H359 O342 rfl (want_none rfl) rfl (op_store1 gwsiz3 rfl (H359.ev rfl) (H359.ev rfl) rfl (blk_at (O342.get 0 rfl) rfl) (blkf (O342.get 0 rfl))) ?_
  intro _ w362 H361 O363; clear H359 O342
  refine wpList_nil ?_
  refine gw_blk ?_
  refine gw_nx (hK57 _ _ ?_)
  refine wp_region_lit ?_
  refine V H361 (op_add rfl (H361.ev rfl) (ev_c _ _) (by omega)) fun _ H365 => ?_
  refine Vm H365 fun _ H367 => ?_
  clear H361 H365
  refine wpList_nil ?_
  have O368 := O363.unpin 6 rfl
  clear O363
  have O369 : Own w0 w362 [Bk x.g [.slice x.A ((x.p.b.take (x.p.sf + 0).toNat).length) x.c, J (x.p.sf + 0)] 74, Chunk.row (Kd.int .u8) 5 w0.heap.size x.S (.slice x.A ((x.p.b.take (x.p.sf + 0).toNat).length) x.c) (x.p.b.take (x.p.sf + 0).toNat), Chunk.files w0.heap.size (ys ++ zs'), R, Bk gd [.map (some gm), J d.most, J (us - (((x.p.b.length : Int) - x.p.sf) - 0)), J 0, .bool false] 64, Chunk.lmap Tryz.prog 9 gm ((ys ++ x :: zs').map XF.ent), Chunk.view Kd.string S27 A25 ((xs.map fun x => x.p.nm).length) c26 (xs.map fun x => x.p.nm)] := O368
  clear O368
  have O370 := Own.file_close (x := (⟨⟨x.p.nm, (x.p.b.take (x.p.sf + 0).toNat), x.p.sf + 0⟩, x.g, x.A, x.c, x.S⟩ : XF)) (pre := ys) (post := zs') (by exact O369.sel [0, 1, 2, 3, 4, 5, 6] (by decide))
  have el_ : (ys ++ x :: zs').map XF.ent = (ys ++ (⟨⟨x.p.nm, (x.p.b.take (x.p.sf + 0).toNat), x.p.sf + 0⟩, x.g, x.A, x.c, x.S⟩ : XF) :: zs').map XF.ent := by simp [XF.ent]
  rw [el_] at O370
  have ea_ : ys ++ (⟨⟨x.p.nm, (x.p.b.take (x.p.sf + 0).toNat), x.p.sf + 0⟩, x.g, x.A, x.c, x.S⟩ : XF) :: zs' = (ys ++ [(⟨⟨x.p.nm, (x.p.b.take (x.p.sf + 0).toNat), x.p.sf + 0⟩, x.g, x.A, x.c, x.S⟩ : XF)]) ++ zs' := by simp
  rw [ea_] at O370
  refine gw_nx ⟨_, ?_, i + 1, ys ++ [(⟨⟨x.p.nm, (x.p.b.take (x.p.sf + 0).toNat), x.p.sf + 0⟩, x.g, x.A, x.c, x.S⟩ : XF)], zs', (us - (((x.p.b.length : Int) - x.p.sf) - 0)), Ak, ck, kl, (H367.pick (t := 18) rfl (H367.pick (t := 1) rfl (H367.pick (t := 0) rfl (H367.pick (t := 16) rfl (H367.pick (t := 17) rfl H367.nil))))), O370.sel [1, 2, 3, 0, 4] (by decide), ?_, ?_, ?_, ?_, ?_, ?_, ?_, ?_, rfl⟩
  ·
   rw [hm48]; omega
  ·
   exact ⟨by rw [List.length_append, List.length_singleton]; omega, by omega⟩
  ·
   rw [hnm, ea_.symm]; try simp
  ·
   rw [← ea_]; exact once_same hon2 rfl
  ·
   rw [← ea_, totalX_mid]; exact ⟨by show _ = ((_ + (x.p.b.take (x.p.sf + 0).toNat).length : Nat) : Int); omega, by omega⟩
  ·
   intro x_ hx_; exact hsf x_ (List.mem_cons_of_mem _ hx_)
  ·
   exact ⟨by rw [hcr.1, List.map_cons, crash_go h1_ hkn1 hkd]; simp, by rw [hcr.2, List.map_cons, crash_go h1_ hkn1 hkd]; show us - (_ + _) = _; omega⟩
  ·
   intro w_ h_; exact hkc w_ h_
  exact hkl
 have H372 := H51.subst_ (d := 19) (b := false) rfl hb53
 clear H51
 (try simp only [decide_eq_false_iff_not, Int.not_lt] at hb53)
 refine wp_exit ?_
 refine gw_thx ?_
 refine gw_thx ?_
 refine gw_in ?_
 refine gw_end0 H372 rfl ?_
 have hz0 : zs = [] := by cases zs with | nil => rfl | cons a r => exfalso; rw [hnm] at hb53; simp at hb53; omega
 subst hz0
 have hu_ : us = d.used - (crashF d.fs keep).2 := by rw [hcr.2]; simp [crash_nil]
 rw [hu_] at O47
 exact ⟨rfl, disk_close2 (d := crashD keep d) (xs := ys ++ []) (by show _ = (crashF d.fs keep).1; rw [hcr.1]; simp [crash_nil]) (by exact O47.sel [0, 1, 2, 3] (by decide))⟩
end GVfs5_
export GVfs5_ (crash_calls)
namespace GJour2_
theorem jsync_calls (w0 w : World) (R : Chunk) (gd gj : Nat) (S SJ : Nat → Prop) (d : PD) (nm : ByteArray) (is : List PI) (size : Int) (hw : wfD d) (hn : nm.size ≤ 9223372036854775807) (HO : Own w0 w [R, Chunk.disk w0.heap.size gd S d, Chunk.jour w0.heap.size gd gj nm SJ is size]) :
    Calls Tryz.prog 17 #[.pointer (some ⟨gj, 0, none⟩)] w fun e w' => e = .returned (.int .i64 (syncD nm d).2) ∧ ∃ S' SJ', Own w0 w' [R, Chunk.disk w0.heap.size gd S' (syncD nm d).1, Chunk.jour w0.heap.size gd gj nm SJ' is size] := by
 obtain ⟨gm, xs, hxs, hon, HO⟩ := jour_open2 HO
 refine gw_startO (N := 12) (vs := [.pointer (some ⟨gj, 0, none⟩)]) Tryz.func17 rfl rfl (by simp) fun a HF => ?_
 refine gR fun K1 hK1 => ?_
 refine Vc HF ?_
 intro _ H3; clear HF
 refine gE hK1 ?_
 refine gw_seq fun K4 hK4 => ?_
 refine gx_draw (M := [R, Bk gj [.pointer (some ⟨gd, 0, none⟩), .string nm, .map (some gm), J size] 79, Chunk.lmap Tryz.prog 2 gm (xs.map XJ.ent), Chunk.jrows w0.heap.size xs]) (fun j_ => false) HO (by kernel_rfl) fun w5 O6 => ?_
 clear HO
 refine gx_take 0 rfl (by kernel_rfl) H3 (by exact O6.sel [0, 2, 3, 4] (by decide)) (want_none rfl) rfl (by decide) (fun wq HO => (op_move rfl (H3.ev rfl))) ?_
 intro _ H8; clear H3
 refine gx_take 1 rfl (by kernel_rfl) H8 (by exact O6.sel [0, 2, 3, 4] (by decide)) (want_none rfl) rfl (by decide) (fun wq HO => (op_nil rfl (H8.ev rfl))) ?_
 intro _ H10; clear H8
 refine gx_take 2 rfl (by kernel_rfl) H10 (by exact O6.sel [0, 2, 3, 4] (by decide)) (want_none rfl) rfl (by decide) (fun wq HO => (op_field (gwfld79_0 _ _) rfl (H10.ev rfl))) ?_
 intro _ H12; clear H10
 refine gx_take 3 rfl (by kernel_rfl) H12 (by exact O6.sel [0, 2, 3, 4] (by decide)) (want_none rfl) rfl (by decide) (fun wq HO => (op_load1 gwagg23 rfl (H12.ev rfl) (blk_at (HO.get 1 rfl) rfl))) ?_
 intro _ H14; clear H12
 refine gx_take 4 rfl (by kernel_rfl) H14 (by exact O6.sel [0, 2, 3, 4] (by decide)) (want_none rfl) rfl (by decide) (fun wq HO => (op_move rfl (H14.ev rfl))) ?_
 intro _ H16; clear H14
 refine gx_take 5 rfl (by kernel_rfl) H16 (by exact O6.sel [0, 2, 3, 4] (by decide)) (want_none rfl) rfl (by decide) (fun wq HO => (op_nil rfl (H16.ev rfl))) ?_
 intro _ H18; clear H16
 refine gx_take 6 rfl (by kernel_rfl) H18 (by exact O6.sel [0, 2, 3, 4] (by decide)) (want_none rfl) rfl (by decide) (fun wq HO => (op_field (gwfld79_1 _ _) rfl (H18.ev rfl))) ?_
 intro _ H20; clear H18
 refine gx_take 7 rfl (by kernel_rfl) H20 (by exact O6.sel [0, 2, 3, 4] (by decide)) (want_none rfl) rfl (by decide) (fun wq HO => (op_load1 gwagg9 rfl (H20.ev rfl) (blk_at (HO.get 1 rfl) rfl))) ?_
 intro _ H22; clear H20
 refine gx_step 8 rfl (by kernel_rfl) ?_
 have O31 : Own w0 _ [(Chunk.all [R, Bk gj [.pointer (some ⟨gd, 0, none⟩), .string nm, .map (some gm), J size] 79, Chunk.lmap Tryz.prog 2 gm (xs.map XJ.ent), Chunk.jrows w0.heap.size xs]), Chunk.disk w0.heap.size gd S d] := Own.bundle (O6.sel [0, 2, 3, 4, 1] (by decide))
 refine Wk H22 Tryz.func36 rfl (ar_cons (H22.ev rfl) (ar_cons (H22.ev rfl) ar_nil)) (sync_calls w0 _ (Chunk.all [R, Bk gj [.pointer (some ⟨gd, 0, none⟩), .string nm, .map (some gm), J size] 79, Chunk.lmap Tryz.prog 2 gm (xs.map XJ.ent), Chunk.jrows w0.heap.size xs]) gd S d nm hw hn (by exact O31)) ?_
 rintro e25 w26 ⟨rfl, S23, hb27⟩
 refine ⟨_, rfl, fun _ H29 => ?_⟩
 have O30 : Own w0 w26 [R, Bk gj [.pointer (some ⟨gd, 0, none⟩), .string nm, .map (some gm), J size] 79, Chunk.lmap Tryz.prog 2 gm (xs.map XJ.ent), Chunk.jrows w0.heap.size xs, Chunk.disk w0.heap.size gd S23 ((syncD nm d).1)] := Own.unbundle (hb27.sel [0, 1] (by decide))
 clear O31
 clear H22 O6 hb27
 have hwf24 : wfD ((syncD nm d).1) := wf_sync hw
 refine gx_on (i := 8) (B := (fun j_ => false)) (fun _ => (by exact O30.sel [0, 1, 2, 3] (by decide))) ?_
 refine gx_take 9 rfl (by kernel_rfl) H29 (by exact O30.sel [0, 1, 2, 3] (by decide)) (want_none rfl) rfl (by decide) (fun wq HO => (op_assign rfl (H29.ev rfl))) ?_
 intro _ H34; clear H29
 refine gx_done (by kernel_rfl) ?_
 refine gw_nx (hK4 _ _ ?_)
 refine wp_ret ?_
 refine gw_ret1 H34 rfl rfl ?_
 obtain ⟨SJ', HOj⟩ := jour_close2 (xs := xs) hxs (by exact O30.sel [0, 4, 1, 2, 3] (by decide))
 exact ⟨rfl, _, SJ', HOj⟩
theorem put_calls (w0 w : World) (R : Chunk) (gd gj : Nat) (S SJ : Nat → Prop) (d : PD) (nm : ByteArray) (is : List PI) (size : Int) (hw : wfD d) (hn : nm.size ≤ 9223372036854775807) (key : Int) (hkw : (Lit.int .i64 key).wf = true) (Ab : Option Addr) (cb : Nat) (b : List Int) (hy : ∀ w1, Own w0 w1 [R] → Kd.C (Kd.int .u8) w1 Ab b.length b) (hcy : b.length ≤ cb) (hbb : ByteL b) (hbl : b.length ≤ 900000) (hroom : d.used + (recI (key, b)).length ≤ 140737488355327) (his : is.length ≤ 1000000) (hsz : 0 ≤ size ∧ size ≤ 140737488355327) (HO : Own w0 w [R, Chunk.disk w0.heap.size gd S d, Chunk.jour w0.heap.size gd gj nm SJ is size]) :
    Calls Tryz.prog 15 #[.pointer (some ⟨gj, 0, none⟩), .int .i64 key, .slice Ab b.length cb] w fun e w' => e = .returned (.int .i64 (putJ nm key b is size d).1.2) ∧ ∃ S' SJ', Own w0 w' [R, Chunk.disk w0.heap.size gd S' (putJ nm key b is size d).1.1, Chunk.jour w0.heap.size gd gj nm SJ' (putJ nm key b is size d).2.1 (putJ nm key b is size d).2.2] := by
 have hel := encN_len key
 have hrl : (recI (key, b)).length = (encN key).length + b.length + 8 := recI_len _
 refine gw_startO (N := 58) (vs := [.pointer (some ⟨gj, 0, none⟩), J key, .slice Ab b.length cb]) Tryz.func15 rfl rfl (by simp) fun a HF => ?_
 refine gR fun K1 hK1 => ?_
 refine Vc HF ?_
 intro _ H3; clear HF
 refine gE hK1 ?_
 refine gw_seq fun K4 hK4 => ?_
 refine wp_block ?_
 refine gR fun K5 hK5 => ?_
 refine Vm H3 fun _ H7 => ?_
 refine V H7 (op_lss rfl (H7.ev rfl) (ev_c _ _)) fun _ H9 => ?_
 refine Vm H9 fun _ H11 => ?_
 clear H3 H7 H9
 refine gw_evG H11 rfl rfl rfl rfl (on_f _) rfl (by decide) (fun h_ => (op_move rfl (H11.ev rfl))) ?_
 intro _ H13; clear H11
 refine gw_evG H13 rfl rfl rfl rfl (on_f _) rfl (by decide) (fun h_ => (op_gtr rfl (ev_gv (H13.ev rfl) h_) (ev_c _ _))) ?_
 intro _ H15; clear H13
 refine V H15 (op_pick_or rfl (H15.ev rfl) (ev_c _ _) (fun hp_ => (ev_gv (H15.ev rfl) (not_t hp_)))) fun _ H17 => ?_
 refine Va H17 fun _ H19 => ?_
 refine gE hK5 ?_
 clear H15 H17
 refine gw_cond H19 rfl (fun hb20 => ?_) (fun hb20 => ?_)
 ·
  have H21 := H19.subst_ (d := 9) (b := true) rfl hb20
  clear H19
  (try simp only [Bool.or_eq_true, Bool.or_eq_false_iff, decide_eq_true_eq, decide_eq_false_iff_not, Int.not_lt] at hb20)
  refine gR fun K22 hK22 => ?_
  refine Vc H21 fun _ H24 => ?_
  refine gE hK22 ?_
  refine wp_ret ?_
  clear H21
  refine gw_blr ?_
  refine gw_thr ?_
  refine gw_ret1 H24 rfl rfl ?_
  rw [put_arg (by omega)]
  exact ⟨rfl, _, _, HO⟩
 have H25 := H19.subst_ (d := 9) (b := false) rfl hb20
 clear H19
 (try simp only [Bool.or_eq_true, Bool.or_eq_false_iff, decide_eq_true_eq, decide_eq_false_iff_not, Int.not_lt] at hb20)
 refine gR fun K26 hK26 => ?_
 refine Vm H25 fun _ H28 => ?_
 refine V H28 (op_len Tryz.underlying22 rfl (H28.ev rfl)) fun _ H30 => ?_
 refine V H30 (op_gtr rfl (H30.ev rfl) (ev_c _ _)) fun _ H32 => ?_
 refine Va H32 fun _ H34 => ?_
 refine gE hK26 ?_
 clear H25 H28 H30 H32
 refine gw_cond H34 rfl (fun hb35 => ?_) (fun hb35 => ?_)
 ·
  have H36 := H34.subst_ (d := 16) (b := true) rfl hb35
  clear H34
  (try simp only [decide_eq_true_eq] at hb35)
  refine gR fun K37 hK37 => ?_
  refine Vc H36 fun _ H39 => ?_
  refine gE hK37 ?_
  refine wp_ret ?_
  clear H36
  refine gw_blr ?_
  refine gw_thr ?_
  refine gw_ret1 H39 rfl rfl ?_
  rw [put_long (by omega) (by omega)]
  exact ⟨rfl, _, _, HO⟩
 have H40 := H34.subst_ (d := 16) (b := false) rfl hb35
 clear H34
 (try simp only [decide_eq_false_iff_not, Int.not_lt] at hb35)
 refine gR fun K41 hK41 => ?_
 refine Vm H40 fun _ H43 => ?_
 refine Vm H43 fun _ H45 => ?_
 clear H40 H43
 refine Wk H45 Tryz.func21 rfl (ar_cons (H45.ev rfl) (ar_cons (H45.ev rfl) ar_nil)) (has_calls w0.heap.size gd gj nm SJ is size _ (HO.get 2 rfl) key hkw) ?_
 rintro e46 w47 ⟨rfl, hb48⟩
 refine ⟨_, rfl, fun _ H50 => ?_⟩
 have O51 := HO.after hb48
 clear H45 HO hb48
 refine Va H50 fun _ H54 => ?_
 refine gE hK41 ?_
 clear H50
 refine gw_cond H54 rfl (fun hb55 => ?_) (fun hb55 => ?_)
 ·
  have H56 := H54.subst_ (d := 20) (b := true) rfl hb55
  clear H54
  (try simp only [Bool.not_eq_true] at hb55)
  have hhas := hb55
  refine gR fun K57 hK57 => ?_
  refine Vc H56 fun _ H59 => ?_
  refine gE hK57 ?_
  refine wp_ret ?_
  clear H56
  refine gw_blr ?_
  refine gw_thr ?_
  refine gw_ret1 H59 rfl rfl ?_
  rw [put_twice (by omega) (by omega) hhas]
  exact ⟨rfl, _, _, O51⟩
 have H60 := H54.subst_ (d := 20) (b := false) rfl hb55
 clear H54
 (try simp only [Bool.not_eq_true] at hb55)
 have hhas := hb55
 obtain ⟨gm, xs, hxs, hon, O61⟩ := jour_open2 (by exact O51.sel [0, 1, 2] (by decide))
 have hno := none_key hxs hhas
 have hxn := hxs.length_eq
 rw [List.length_map] at hxn
 refine wp_skip ?_
 refine gw_blk ?_
 refine gw_nx (hK4 _ _ ?_)
 refine gR fun K62 hK62 => ?_
 refine Vm H60 fun _ H64 => ?_
 clear H60
 refine Wk H64 Tryz.func47 rfl (ar_cons (ev_c _ _) (ar_cons (H64.ev rfl) ar_nil)) (num_new key _) ?_
 rintro e68 w69 ⟨A65, c66, S67, rfl, hb70⟩
 refine ⟨_, rfl, fun _ H72 => ?_⟩
 have O73 := O61.fresh hb70
 have hbel74 := O61.below
 clear H64 O61 hb70
 have O75 := O73.lowrow 0 rfl (base' := w0.heap.size) (Below.size hbel74)
 refine Vm H72 fun _ H77 => ?_
 clear H72
 refine gw_append (Kd.int .u8) 0 H77 O75 (want_none rfl) rfl (by decide) rfl Tryz.underlying22 gwinfo5 rfl (by decide) (by decide) rfl (H77.ev rfl) (H77.ev rfl) (hy _ (O75.sel [1] (by decide))) (fun _ _ h => h) O75.below.size (by omega) ?_
 intro A78 c79 S80 _ w82 H83 O84; clear H77 O75
 have O85 : Own w0 w82 [Chunk.row (Kd.int .u8) 5 w0.heap.size S80 (.slice A78 (((encN key) ++ b).length) c79) ((encN key) ++ b), R, Chunk.disk w0.heap.size gd S d, Bk gj [.pointer (some ⟨gd, 0, none⟩), .string nm, .map (some gm), J size] 79, Chunk.lmap Tryz.prog 2 gm (xs.map XJ.ent), Chunk.jrows w0.heap.size xs] := O84
 clear O84
 refine Wk H83 Tryz.func46 rfl (ar_cons (H83.ev rfl) ar_nil) (recI_own key b A78 c79 _ (Kd.R_reads' (O85.get 0 rfl)).2.2 (row_cap (O85.get 0 rfl)) hbb hbl) ?_
 rintro e89 w90 ⟨A86, c87, S88, rfl, hb91⟩
 refine ⟨_, rfl, fun _ H93 => ?_⟩
 have O94 := O85.fresh hb91
 have hbel95 := O85.below
 clear H83 O85 hb91
 have O96 := O94.lowrow 0 rfl (base' := w0.heap.size) (Below.size hbel95)
 refine Va H93 fun _ H98 => ?_
 refine gE hK62 ?_
 refine gw_seq fun K99 hK99 => ?_
 refine gw_seq fun K100 hK100 => ?_
 clear H93
 refine gx_draw (M := [R, Bk gj [.pointer (some ⟨gd, 0, none⟩), .string nm, .map (some gm), J size] 79, Chunk.lmap Tryz.prog 2 gm (xs.map XJ.ent), Chunk.jrows w0.heap.size xs]) (fun j_ => false) O96 (by kernel_rfl) fun w101 O102 => ?_
 clear O96
 refine gx_take 0 rfl (by kernel_rfl) H98 (by exact O102.sel [2, 4, 5, 6] (by decide)) (want_none rfl) rfl (by decide) (fun wq HO => (op_move rfl (H98.ev rfl))) ?_
 intro _ H104; clear H98
 refine gx_take 1 rfl (by kernel_rfl) H104 (by exact O102.sel [2, 4, 5, 6] (by decide)) (want_none rfl) rfl (by decide) (fun wq HO => (op_nil rfl (H104.ev rfl))) ?_
 intro _ H106; clear H104
 refine gx_take 2 rfl (by kernel_rfl) H106 (by exact O102.sel [2, 4, 5, 6] (by decide)) (want_none rfl) rfl (by decide) (fun wq HO => (op_field (gwfld79_0 _ _) rfl (H106.ev rfl))) ?_
 intro _ H108; clear H106
 refine gx_take 3 rfl (by kernel_rfl) H108 (by exact O102.sel [2, 4, 5, 6] (by decide)) (want_none rfl) rfl (by decide) (fun wq HO => (op_load1 gwagg23 rfl (H108.ev rfl) (blk_at (HO.get 1 rfl) rfl))) ?_
 intro _ H110; clear H108
 refine gx_take 4 rfl (by kernel_rfl) H110 (by exact O102.sel [2, 4, 5, 6] (by decide)) (want_none rfl) rfl (by decide) (fun wq HO => (op_move rfl (H110.ev rfl))) ?_
 intro _ H112; clear H110
 refine gx_take 5 rfl (by kernel_rfl) H112 (by exact O102.sel [2, 4, 5, 6] (by decide)) (want_none rfl) rfl (by decide) (fun wq HO => (op_nil rfl (H112.ev rfl))) ?_
 intro _ H114; clear H112
 refine gx_take 6 rfl (by kernel_rfl) H114 (by exact O102.sel [2, 4, 5, 6] (by decide)) (want_none rfl) rfl (by decide) (fun wq HO => (op_field (gwfld79_1 _ _) rfl (H114.ev rfl))) ?_
 intro _ H116; clear H114
 refine gx_take 7 rfl (by kernel_rfl) H116 (by exact O102.sel [2, 4, 5, 6] (by decide)) (want_none rfl) rfl (by decide) (fun wq HO => (op_load1 gwagg9 rfl (H116.ev rfl) (blk_at (HO.get 1 rfl) rfl))) ?_
 intro _ H118; clear H116
 refine gx_take 8 rfl (by kernel_rfl) H118 (by exact O102.sel [2, 4, 5, 6] (by decide)) (want_none rfl) rfl (by decide) (fun wq HO => (op_move rfl (H118.ev rfl))) ?_
 intro _ H120; clear H118
 refine gx_step 9 rfl (by kernel_rfl) ?_
 have O129 : Own w0 _ [(Chunk.all [Chunk.row (Kd.int .u8) 5 w0.heap.size S88 (.slice A86 ((recI (key, b)).length) c87) (recI (key, b)), Chunk.row (Kd.int .u8) 5 w0.heap.size S80 (.slice A78 (((encN key) ++ b).length) c79) ((encN key) ++ b), R, Bk gj [.pointer (some ⟨gd, 0, none⟩), .string nm, .map (some gm), J size] 79, Chunk.lmap Tryz.prog 2 gm (xs.map XJ.ent), Chunk.jrows w0.heap.size xs]), Chunk.disk w0.heap.size gd S d] := Own.bundle (O102.sel [0, 1, 2, 4, 5, 6, 3] (by decide))
 refine Wk H120 Tryz.func8 rfl (ar_cons (H120.ev rfl) (ar_cons (H120.ev rfl) (ar_cons (H120.ev rfl) ar_nil))) (append_calls w0 _ (Chunk.all [Chunk.row (Kd.int .u8) 5 w0.heap.size S88 (.slice A86 ((recI (key, b)).length) c87) (recI (key, b)), Chunk.row (Kd.int .u8) 5 w0.heap.size S80 (.slice A78 (((encN key) ++ b).length) c79) ((encN key) ++ b), R, Bk gj [.pointer (some ⟨gd, 0, none⟩), .string nm, .map (some gm), J size] 79, Chunk.lmap Tryz.prog 2 gm (xs.map XJ.ent), Chunk.jrows w0.heap.size xs]) gd S d nm A86 c87 (recI (key, b)) (fun w_ h_ => (Kd.R_reads' ((Own.unbundle (A := [Chunk.row (Kd.int .u8) 5 w0.heap.size S88 (.slice A86 ((recI (key, b)).length) c87) (recI (key, b)), Chunk.row (Kd.int .u8) 5 w0.heap.size S80 (.slice A78 (((encN key) ++ b).length) c79) ((encN key) ++ b), R, Bk gj [.pointer (some ⟨gd, 0, none⟩), .string nm, .map (some gm), J size] 79, Chunk.lmap Tryz.prog 2 gm (xs.map XJ.ent), Chunk.jrows w0.heap.size xs]) (L := []) h_).get 0 rfl)).2.2) (row_cap (O102.get 0 rfl)) hw hn hroom (by exact O129)) ?_
 rintro e123 w124 ⟨rfl, S121, hb125⟩
 refine ⟨_, rfl, fun _ H127 => ?_⟩
 have O128 : Own w0 w124 [Chunk.row (Kd.int .u8) 5 w0.heap.size S88 (.slice A86 ((recI (key, b)).length) c87) (recI (key, b)), Chunk.row (Kd.int .u8) 5 w0.heap.size S80 (.slice A78 (((encN key) ++ b).length) c79) ((encN key) ++ b), R, Bk gj [.pointer (some ⟨gd, 0, none⟩), .string nm, .map (some gm), J size] 79, Chunk.lmap Tryz.prog 2 gm (xs.map XJ.ent), Chunk.jrows w0.heap.size xs, Chunk.disk w0.heap.size gd S121 ((appendD nm (recI (key, b)) d).1)] := Own.unbundle (hb125.sel [0, 1] (by decide))
 clear O129
 clear H120 O102 hb125
 have hwf122 : wfD ((appendD nm (recI (key, b)) d).1) := wf_append hw
 refine gx_on (i := 9) (B := (fun j_ => false)) (fun _ => (by exact O128.sel [2, 3, 4, 5] (by decide))) ?_
 refine gx_take 10 rfl (by kernel_rfl) H127 (by exact O128.sel [2, 3, 4, 5] (by decide)) (want_none rfl) rfl (by decide) (fun wq HO => (op_assign rfl (H127.ev rfl))) ?_
 intro _ H132; clear H127
 refine gx_done (by kernel_rfl) ?_
 refine gw_nx (hK100 _ _ ?_)
 refine gR fun K133 hK133 => ?_
 refine Vm H132 fun _ H135 => ?_
 refine V H135 (op_nei rfl (H135.ev rfl) (ev_c _ _)) fun _ H137 => ?_
 refine gE hK133 ?_
 clear H132 H135
 refine gw_cond H137 rfl (fun hb138 => ?_) (fun hb138 => ?_)
 ·
  have H139 := H137.subst_ (d := 40) (b := true) rfl hb138
  clear H137
  (try simp only [decide_eq_true_eq, ne_eq] at hb138)
  refine gR fun K140 hK140 => ?_
  refine Vm H139 fun _ H142 => ?_
  refine Va H142 fun _ H144 => ?_
  refine gE hK140 ?_
  refine wp_ret ?_
  clear H139 H142
  refine gw_thr ?_
  refine gw_ret1 H144 rfl rfl ?_
  obtain ⟨SJ', HOj⟩ := jour_close2 (xs := xs) hxs (by exact O128.sel [2, 6, 3, 4, 5] (by decide))
  rw [put_fail (by omega) (by omega) hhas (by omega)]
  exact ⟨rfl, _, SJ', HOj⟩
 have H145 := H137.subst_ (d := 40) (b := false) rfl hb138
 clear H137
 (try simp only [decide_eq_false_iff_not, ne_eq, Decidable.not_not] at hb138)
 have happ := hb138
 refine gS hK99 ?_
 refine gw_seq fun K146 hK146 => ?_
 refine gx_draw (M := [Chunk.row (Kd.int .u8) 5 w0.heap.size S88 (.slice A86 ((recI (key, b)).length) c87) (recI (key, b)), Chunk.row (Kd.int .u8) 5 w0.heap.size S80 (.slice A78 (((encN key) ++ b).length) c79) ((encN key) ++ b), R, Bk gj [.pointer (some ⟨gd, 0, none⟩), .string nm, .map (some gm), J size] 79, Chunk.lmap Tryz.prog 2 gm (xs.map XJ.ent), Chunk.jrows w0.heap.size xs, Chunk.disk w0.heap.size gd S121 ((appendD nm (recI (key, b)) d).1)]) (fun j_ => j_ == 7) O128 (by kernel_rfl) fun w147 O148 => ?_
 clear O128
 refine gx_take 0 rfl (by kernel_rfl) H145 (by exact O148.sel [0, 1, 2, 3, 4, 5, 6] (by decide)) (want_none rfl) rfl (by decide) (fun wq HO => (op_move rfl (H145.ev rfl))) ?_
 intro _ H150; clear H145
 refine gx_take 1 rfl (by kernel_rfl) H150 (by exact O148.sel [0, 1, 2, 3, 4, 5, 6] (by decide)) (want_none rfl) rfl (by decide) (fun wq HO => (op_nil rfl (H150.ev rfl))) ?_
 intro _ H152; clear H150
 refine gx_take 2 rfl (by kernel_rfl) H152 (by exact O148.sel [0, 1, 2, 3, 4, 5, 6] (by decide)) (want_none rfl) rfl (by decide) (fun wq HO => (op_field (gwfld79_2 _ _) rfl (H152.ev rfl))) ?_
 intro _ H154; clear H152
 refine gx_take 3 rfl (by kernel_rfl) H154 (by exact O148.sel [0, 1, 2, 3, 4, 5, 6] (by decide)) (want_none rfl) rfl (by decide) (fun wq HO => (op_load1 gwagg77 rfl (H154.ev rfl) (blk_at (HO.get 3 rfl) rfl))) ?_
 intro _ H156; clear H154
 refine gx_take 4 rfl (by kernel_rfl) H156 (by exact O148.sel [0, 1, 2, 3, 4, 5, 6] (by decide)) (want_none rfl) rfl (by decide) (fun wq HO => (op_move rfl (H156.ev rfl))) ?_
 intro _ H158; clear H156
 refine gx_take 5 rfl (by kernel_rfl) H158 (by exact O148.sel [0, 1, 2, 3, 4, 5, 6] (by decide)) (want_none rfl) rfl (by decide) (fun wq HO => (op_move rfl (H158.ev rfl))) ?_
 intro _ H160; clear H158
 refine gx_step 6 rfl (by kernel_rfl) ?_
 refine Wk H160 Tryz.func34 rfl (ar_cons (H160.ev rfl) ar_nil) (clone0 Ab cb b _ (hy _ (O148.sel [2] (by decide))) hcy (by omega)) ?_
 rintro e164 w165 ⟨A161, c162, S163, rfl, hb166⟩
 refine ⟨_, rfl, fun _ H168 => ?_⟩
 have O169 := O148.fresh hb166
 have hbel170 := O148.below
 clear H160 O148 hb166
 have O171 := O169.lowrow 0 rfl (base' := w0.heap.size) (Below.size hbel170)
 refine gx_on (i := 6) (B := (fun j_ => j_ == 7)) (fun _ => (by exact O171.sel [1, 2, 3, 4, 5, 6, 7] (by decide))) ?_
 refine gx_step 7 rfl (by kernel_rfl) ?_
 refine gw_mput 5 (Go.Maps.int_keyed Tryz.underlying2) Tryz.underlying77 H168 O171 rfl (want_none rfl) rfl rfl (H168.ev rfl) (H168.ev rfl) (H168.ev rfl) (Go.Maps.keyOf_int_mk Tryz.underlying2 (hkw)) (by rw [List.length_map]; omega) ?_
 intro _ w173 H174 O175; clear H168 O171
 have O176 : Own w0 w173 [Chunk.row (Kd.int .u8) 5 w0.heap.size S163 (.slice A161 b.length c162) b, Chunk.row (Kd.int .u8) 5 w0.heap.size S88 (.slice A86 ((recI (key, b)).length) c87) (recI (key, b)), Chunk.row (Kd.int .u8) 5 w0.heap.size S80 (.slice A78 (((encN key) ++ b).length) c79) ((encN key) ++ b), R, Bk gj [.pointer (some ⟨gd, 0, none⟩), .string nm, .map (some gm), J size] 79, Chunk.lmap Tryz.prog 2 gm (lput (Lit.int .i64 key) (.slice A161 b.length c162) (xs.map XJ.ent)), Chunk.jrows w0.heap.size xs, Chunk.disk w0.heap.size gd S121 ((appendD nm (recI (key, b)) d).1)] := O175
 clear O175
 have elp_ := lput_new (x := (⟨key, b, A161, c162, S163⟩ : XJ)) (xs := xs) hno
 have O177 : Own w0 w173 [Chunk.row (Kd.int .u8) 5 w0.heap.size S163 (.slice A161 b.length c162) b, Chunk.row (Kd.int .u8) 5 w0.heap.size S88 (.slice A86 ((recI (key, b)).length) c87) (recI (key, b)), Chunk.row (Kd.int .u8) 5 w0.heap.size S80 (.slice A78 (((encN key) ++ b).length) c79) ((encN key) ++ b), R, Bk gj [.pointer (some ⟨gd, 0, none⟩), .string nm, .map (some gm), J size] 79, Chunk.lmap Tryz.prog 2 gm ((insJ (⟨key, b, A161, c162, S163⟩ : XJ) xs).map XJ.ent), Chunk.jrows w0.heap.size xs, Chunk.disk w0.heap.size gd S121 ((appendD nm (recI (key, b)) d).1)] := by have h_ := O176; rw [show lput (Lit.int .i64 key) (.slice A161 b.length c162) (xs.map XJ.ent) = (insJ (⟨key, b, A161, c162, S163⟩ : XJ) xs).map XJ.ent from elp_] at h_; exact h_
 refine gx_on (i := 7) (B := (fun j_ => j_ == 7)) (fun h_ => by cases h_) ?_
 refine gx_done (by kernel_rfl) ?_
 refine gw_nx (hK146 _ _ ?_)
 refine gR fun K178 hK178 => ?_
 refine Vm H174 fun _ H180 => ?_
 refine Vz H180 fun _ H182 => ?_
 refine Vf H182 (gwfld79_3 _ _) fun _ H184 => ?_
 refine Vl H184 gwagg3 (O177.get 4 rfl) fun _ H186 => ?_
 refine Vm H186 fun _ H188 => ?_
 refine V H188 (op_len Tryz.underlying22 rfl (H188.ev rfl)) fun _ H190 => ?_
 refine V H190 (op_add rfl (H190.ev rfl) (H190.ev rfl) (by omega)) fun _ H192 => ?_
 refine Vz H192 fun _ H194 => ?_
 clear H174 H180 H182 H184 H186 H188 H190 H192
 refine Vf H194 (gwfld79_3 _ _) fun _ H196 => ?_
 clear H194
 refine gw_set 4 H196 O177 rfl (want_none rfl) rfl (op_store1 gwsiz3 rfl (H196.ev rfl) (H196.ev rfl) rfl (blk_at (O177.get 4 rfl) rfl) (blkf (O177.get 4 rfl))) ?_
 intro _ w199 H198 O200; clear H196 O177
 refine gE hK178 ?_
 refine gR fun K201 hK201 => ?_
 refine Vc H198 fun _ H203 => ?_
 refine gE hK201 ?_
 refine wp_ret ?_
 clear H198
 refine gw_ret1 H203 rfl rfl ?_
 have O204 := Own.jrow_in (x := (⟨key, b, A161, c162, S163⟩ : XJ)) (xs := xs) (by exact O200.sel [0, 6, 3, 7, 4, 5] (by decide))
 obtain ⟨SJ', HOj⟩ := jour_close2 (R := R) (xs := insJ (⟨key, b, A161, c162, S163⟩ : XJ) xs) (is := is ++ [(key, b)]) (ins_items hxs) (by exact O204.sel [1, 2, 3, 4, 0] (by decide))
 rw [put_ok (by omega) (by omega) hhas happ, happ]
 exact ⟨rfl, _, SJ', HOj⟩
end GJour2_
export GJour2_ (jsync_calls put_calls)
end Go.Proofs.YtkdahjnmldeklaaGreat.PA
