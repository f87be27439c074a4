/- The disk: New, step, find. Printed by a program of this session; Lean checks it. -/
import Derived.Test.YtkdahjnmldeklaaHVfs2
namespace Go.Proofs.Ytkdahjnmldeklaa.PA
open Go.RowKit Go.Proofs.YtkdahjnmldeklaaW.PrintWords Go.Proofs.YtkdahjnmldeklaaW.PrintLast Go.Proofs.YtkdahjnmldeklaaW.PrintMore
set_option linter.unusedVariables false
set_option linter.unusedSimpArgs false
namespace GVfs0_
theorem gwagg3 : ∀ w, (isAgg 3).run Try.prog w = .ok false w := fun _ => by kernel_rfl
theorem gwagg4 : ∀ w, (isAgg 4).run Try.prog w = .ok false w := fun _ => by kernel_rfl
theorem gwagg74 : ∀ w, (isAgg 74).run Try.prog w = .ok false w := fun _ => by kernel_rfl
theorem gwfld76_0 (g off : Nat) : ∀ w, (Instr.fieldAt 76 (.pointer (some ⟨g, off, none⟩)) 0).run Try.prog w = .ok (.pointer (some ⟨g, off + 0, none⟩)) w := fun _ => by kernel_rfl
theorem gwfld76_3 (g off : Nat) : ∀ w, (Instr.fieldAt 76 (.pointer (some ⟨g, off, none⟩)) 3).run Try.prog w = .ok (.pointer (some ⟨g, off + 3, none⟩)) w := fun _ => by kernel_rfl
theorem gwfld76_4 (g off : Nat) : ∀ w, (Instr.fieldAt 76 (.pointer (some ⟨g, off, none⟩)) 4).run Try.prog w = .ok (.pointer (some ⟨g, off + 4, none⟩)) w := fun _ => by kernel_rfl
theorem gwsiz3 : ∀ w, (sizeOf 3).run Try.prog w = .ok 1 w := fun _ => by kernel_rfl
theorem gwsiz4 : ∀ w, (sizeOf 4).run Try.prog w = .ok 1 w := fun _ => by kernel_rfl
theorem gwzer78 : ∀ w, (zeroValue 78).run Try.prog w = .ok (.pointer none) w := fun _ => by kernel_rfl
set_option maxHeartbeats 4000000 in
set_option maxRecDepth 100000 in
theorem named_calls (s : ByteArray) (w : World) :
    Calls Try.prog 39 #[.string s] w fun e w' => e = .returned (.bool (namedB s)) ∧ Below w.heap.size w w' := by
  refine gw_start (N := 11) (vs := [.string s]) Try.func39 rfl rfl (by simp) fun a HF HO => ?_
  replace HO : Own w w [] := HO
  refine gw_seq fun K1 hK1 => ?_
  refine wp_region_lit ?_
  refine gw_ev HF (want_none rfl) rfl (by decide) (op_assign rfl (ev_c _ _)) ?_
  intro a2 HF3; clear HF
  refine wpList_nil ?_
  refine gw_nx (hK1 _ _ ?_)
  refine gw_seq fun K4 hK4 => ?_
  refine wp_region_lit ?_
  refine gw_ev HF3 (want_none rfl) rfl (by decide) (op_move rfl (HF3.ev rfl)) ?_
  intro a5 HF6; clear HF3
  refine gw_ev HF6 (want_none rfl) rfl (by decide) (op_lens Try.underlying9 rfl (HF6.ev rfl)) ?_
  intro a7 HF8; clear HF6
  refine gw_ev HF8 (want_none rfl) rfl (by decide) (op_geq rfl (HF8.ev rfl) (ev_c _ _)) ?_
  intro a9 HF10; clear HF8
  refine gw_ev HF10 (want_none rfl) rfl (by decide) (op_move rfl (HF10.ev rfl)) ?_
  intro a11 HF12; clear HF10
  refine gw_evG HF12 rfl rfl rfl rfl (on_t _) rfl (by decide) (fun h_ => (op_move rfl (HF12.ev rfl))) ?_
  intro a13 HF14; clear HF12
  refine gw_evG HF14 rfl rfl rfl rfl (on_t _) rfl (by decide) (fun h_ => (op_lens Try.underlying9 rfl (ev_gv (HF14.ev rfl) h_))) ?_
  intro a15 HF16; clear HF14
  refine gw_evG HF16 rfl rfl rfl rfl (on_t _) rfl (by decide) (fun h_ => (op_leq rfl (ev_gv (HF16.ev rfl) h_) (ev_c _ _))) ?_
  intro a17 HF18; clear HF16
  refine gw_ev HF18 (want_none rfl) rfl (by decide) (op_pick_and rfl (HF18.ev rfl) (fun hp_ => (ev_gv (HF18.ev rfl) hp_)) (ev_c _ _)) ?_
  intro a19 HF20; clear HF18
  refine gw_ev HF20 (want_none rfl) rfl (by decide) (op_assign rfl (HF20.ev rfl)) ?_
  intro a21 HF22; clear HF20
  refine wpList_nil ?_
  refine gw_nx (hK4 _ _ ?_)
  refine wp_ret ?_
  refine gw_ret1 HF22 rfl rfl ?_
  exact ⟨by rw [named_i], HO.below⟩
set_option maxHeartbeats 4000000 in
set_option maxRecDepth 100000 in
theorem new_own (w0 w : World) (R : Chunk) (room : Int) (HO : Own w0 w [R]) :
    Calls Try.prog 11 #[.int .i64 room] w fun e w' => ∃ gd S, e = .returned (.pointer (some ⟨gd, 0, none⟩)) ∧ Own w0 w' [R, Chunk.disk w0.heap.size gd S (newD room)] := by
  refine gw_startO (N := 8) (vs := [.int .i64 room]) Try.func11 rfl rfl (by simp) fun a HF => ?_
  refine gw_seq fun K1 hK1 => ?_
  refine wp_region_lit ?_
  refine gw_ev HF (want_none rfl) rfl (by decide) (op_assign rfl (ev_c _ _)) ?_
  intro a2 HF3; clear HF
  refine wpList_nil ?_
  refine gw_nx (hK1 _ _ ?_)
  refine gw_seq fun K4 hK4 => ?_
  refine wp_region_lit ?_
  refine gw_mkmap (K := 9) HF3 HO (want_none rfl) rfl (by decide) rfl ?_
  intro g5 a6 w7 HF8 HO9; clear HF3 HO
  have HO10 : Own w0 w7 [Chunk.lmap Try.prog 9 g5 ([] : List (Lit × Value)), R] := HO9
  clear HO9
  refine gw_ev HF8 (want_none rfl) rfl (by decide) (op_move rfl (HF8.ev rfl)) ?_
  intro a11 HF12; clear HF8
  refine gw_ev HF12 (want_none rfl) rfl (by decide) (op_max rfl (HF12.ev rfl) (ev_c _ _)) ?_
  intro a13 HF14; clear HF12
  refine gw_ev HF14 (want_none rfl) rfl (by decide) (op_build (cells := #[.map (some g5), .int .i64 (mx room 0), .int .i64 0, .int .i64 0, .bool false]) rfl (pt_cons (HF14.ev rfl) (pt_cons (HF14.ev rfl) pt_nil)) (by kernel_rfl)) ?_
  intro a15 HF16; clear HF14
  refine gw_new HF16 HO10 (want_none rfl) rfl (by decide) (op_box rfl (HF16.ev rfl)) ?_
  intro g17 a18 w19 HF20 HO21; clear HF16 HO10
  have HO22 : Own w0 w19 [Chunk.blk g17 (.cells #[.map (some g5), .int .i64 (mx room 0), .int .i64 0, .int .i64 0, .bool false] 76 (0, 0)), Chunk.lmap Try.prog 9 g5 ([] : List (Lit × Value)), R] := HO21
  clear HO21
  refine gw_ev HF20 (want_none rfl) rfl (by decide) (op_assign rfl (HF20.ev rfl)) ?_
  intro a23 HF24; clear HF20
  refine wpList_nil ?_
  refine gw_nx (hK4 _ _ ?_)
  refine wp_ret ?_
  refine gw_ret1 HF24 rfl rfl ?_
  have HOf := Own.files_nil HO22 w0.heap.size
  obtain ⟨S', HOd⟩ := disk_close2 (R := R) (base := w0.heap.size) (gd := g17) (gm := g5) (d := newD room) (xs := []) rfl (by exact HOf.sel [3, 1, 2, 0] (by decide))
  exact ⟨_, S', rfl, HOd⟩
set_option maxHeartbeats 4000000 in
set_option maxRecDepth 100000 in
theorem step_calls (w0 w : World) (R : Chunk) (gd gm : Nat) (d : PD) (fid : Nat) (fn0 : Func) (cap : List Value) (Q : World → Prop) (h1 : Try.prog.funcs[fid]? = some fn0) (h2 : (fn0.name == "runtime.NumGoroutine") = false) (h3 : fn0.body.isSome = true) (hfu : 0 ≤ d.fuse ∧ d.fuse ≤ 9223372036854775807) (hdo : d.fuse ≠ 1 → ∀ w1, Own w0 w1 [R, Chunk.blk gd (.cells (dcells gm { d with fuse := decF d.fuse }) 76 (0, 0))] → Calls Try.prog fid cap.toArray w1 fun e w2 => e = .returned (.tuple #[]) ∧ Q w2) (HO : Own w0 w [R, Chunk.blk gd (.cells #[.map (some gm), .int .i64 d.most, .int .i64 d.used, .int .i64 d.fuse, .bool d.down] 76 (0, 0))]) :
    Calls Try.prog 40 #[.pointer (some ⟨gd, 0, none⟩), .func (.func fid) #[] cap.toArray] w fun e w' => (d.fuse = 1 ∧ e = .returned (.int .i64 70) ∧ Own w0 w' [R, Chunk.blk gd (.cells (dcells gm { d with fuse := 0, down := true }) 76 (0, 0))]) ∨ (d.fuse ≠ 1 ∧ e = .returned (.int .i64 0) ∧ Q w') := by
  refine gw_startO (N := 27) (vs := [.pointer (some ⟨gd, 0, none⟩), .func (.func fid) #[] cap.toArray]) Try.func40 rfl rfl (by simp) fun a HF => ?_
  refine gw_seq fun K1 hK1 => ?_
  refine wp_region_lit ?_
  refine gw_ev HF (want_none rfl) rfl (by decide) (op_assign rfl (ev_c _ _)) ?_
  intro a2 HF3; clear HF
  refine wpList_nil ?_
  refine gw_nx (hK1 _ _ ?_)
  refine gw_seq fun K4 hK4 => ?_
  refine gw_seq fun K5 hK5 => ?_
  refine wp_region_lit ?_
  refine gw_ev HF3 (want_none rfl) rfl (by decide) (op_move rfl (HF3.ev rfl)) ?_
  intro a6 HF7; clear HF3
  refine gw_ev HF7 (want_none rfl) rfl (by decide) (op_nil rfl (HF7.ev rfl)) ?_
  intro a8 HF9; clear HF7
  refine gw_ev HF9 (want_none rfl) rfl (by decide) (op_field (gwfld76_3 _ _) rfl (HF9.ev rfl)) ?_
  intro a10 HF11; clear HF9
  refine gw_ev HF11 (want_none rfl) rfl (by decide) (op_load1 gwagg3 rfl (HF11.ev rfl) (blk_at (HO.get 1 rfl) rfl)) ?_
  intro a12 HF13; clear HF11
  refine gw_ev HF13 (want_none rfl) rfl (by decide) (op_gtr rfl (HF13.ev rfl) (ev_c _ _)) ?_
  intro a14 HF15; clear HF13
  refine wpList_nil ?_
  refine gw_nx (hK5 _ _ ?_)
  refine gw_cond HF15 rfl (fun hb16 => ?_) (fun hb16 => ?_)
  · skip
    have HF17 := HF15.subst_ (d := 9) (b := true) rfl hb16
    clear HF15
    (try simp only [Bool.and_eq_true, Bool.or_eq_true, Bool.and_eq_false_iff, Bool.or_eq_false_iff, Bool.not_and, Bool.not_or, Bool.not_not, decide_eq_true_eq, decide_eq_false_iff_not, Bool.not_eq_true', Bool.not_eq_false', Bool.not_eq_true, Bool.not_eq_false, ne_eq, Decidable.not_not, Int.not_lt, Int.not_le, not_true_eq_false, not_false_eq_true, bne_iff_ne, beq_iff_eq, bne_eq_false_iff_eq, beq_eq_false_iff_ne] at hb16)
    refine gw_seq fun K18 hK18 => ?_
    refine wp_region_lit ?_
    refine gw_ev HF17 (want_none rfl) rfl (by decide) (op_move rfl (HF17.ev rfl)) ?_
    intro a19 HF20; clear HF17
    refine gw_ev HF20 (want_none rfl) rfl (by decide) (op_nil rfl (HF20.ev rfl)) ?_
    intro a21 HF22; clear HF20
    refine gw_ev HF22 (want_none rfl) rfl (by decide) (op_field (gwfld76_3 _ _) rfl (HF22.ev rfl)) ?_
    intro a23 HF24; clear HF22
    refine gw_ev HF24 (want_none rfl) rfl (by decide) (op_load1 gwagg3 rfl (HF24.ev rfl) (blk_at (HO.get 1 rfl) rfl)) ?_
    intro a25 HF26; clear HF24
    refine gw_ev HF26 (want_none rfl) rfl (by decide) (op_sub rfl (HF26.ev rfl) (ev_c _ _) (by omega)) ?_
    intro a27 HF28; clear HF26
    refine gw_ev HF28 (want_none rfl) rfl (by decide) (op_nil rfl (HF28.ev rfl)) ?_
    intro a29 HF30; clear HF28
    refine gw_ev HF30 (want_none rfl) rfl (by decide) (op_field (gwfld76_3 _ _) rfl (HF30.ev rfl)) ?_
    intro a31 HF32; clear HF30
    refine gw_set 1 HF32 HO rfl (want_none rfl) rfl (op_store1 gwsiz3 rfl (HF32.ev rfl) (HF32.ev rfl) rfl (blk_at (HO.get 1 rfl) rfl) (blkf (HO.get 1 rfl))) ?_
    intro a33 w35 HF34 HO36; clear HF32 HO
    have HO37 : Own w0 w35 [R, Chunk.blk gd (.cells #[.map (some gm), .int .i64 d.most, .int .i64 d.used, .int .i64 (d.fuse - 1), .bool d.down] 76 (0, 0))] := HO36
    clear HO36
    refine wpList_nil ?_
    refine gw_nx (hK18 _ _ ?_)
    refine gw_seq fun K38 hK38 => ?_
    refine wp_region_lit ?_
    refine gw_ev HF34 (want_none rfl) rfl (by decide) (op_move rfl (HF34.ev rfl)) ?_
    intro a39 HF40; clear HF34
    refine gw_ev HF40 (want_none rfl) rfl (by decide) (op_nil rfl (HF40.ev rfl)) ?_
    intro a41 HF42; clear HF40
    refine gw_ev HF42 (want_none rfl) rfl (by decide) (op_field (gwfld76_3 _ _) rfl (HF42.ev rfl)) ?_
    intro a43 HF44; clear HF42
    refine gw_ev HF44 (want_none rfl) rfl (by decide) (op_load1 gwagg3 rfl (HF44.ev rfl) (blk_at (HO37.get 1 rfl) rfl)) ?_
    intro a45 HF46; clear HF44
    refine gw_ev HF46 (want_none rfl) rfl (by decide) (op_eqi rfl (HF46.ev rfl) (ev_c _ _)) ?_
    intro a47 HF48; clear HF46
    refine wpList_nil ?_
    refine gw_nx (hK38 _ _ ?_)
    refine gw_cond HF48 rfl (fun hb49 => ?_) (fun hb49 => ?_)
    · skip
      have HF50 := HF48.subst_ (d := 21) (b := true) rfl hb49
      clear HF48
      (try simp only [Bool.and_eq_true, Bool.or_eq_true, Bool.and_eq_false_iff, Bool.or_eq_false_iff, Bool.not_and, Bool.not_or, Bool.not_not, decide_eq_true_eq, decide_eq_false_iff_not, Bool.not_eq_true', Bool.not_eq_false', Bool.not_eq_true, Bool.not_eq_false, ne_eq, Decidable.not_not, Int.not_lt, Int.not_le, not_true_eq_false, not_false_eq_true, bne_iff_ne, beq_iff_eq, bne_eq_false_iff_eq, beq_eq_false_iff_ne] at hb49)
      refine gw_seq fun K51 hK51 => ?_
      refine wp_region_lit ?_
      refine gw_ev HF50 (want_none rfl) rfl (by decide) (op_move rfl (HF50.ev rfl)) ?_
      intro a52 HF53; clear HF50
      refine gw_ev HF53 (want_none rfl) rfl (by decide) (op_nil rfl (HF53.ev rfl)) ?_
      intro a54 HF55; clear HF53
      refine gw_ev HF55 (want_none rfl) rfl (by decide) (op_field (gwfld76_4 _ _) rfl (HF55.ev rfl)) ?_
      intro a56 HF57; clear HF55
      refine gw_set 1 HF57 HO37 rfl (want_none rfl) rfl (op_store1 gwsiz4 rfl (HF57.ev rfl) (ev_c _ _) rfl (blk_at (HO37.get 1 rfl) rfl) (blkf (HO37.get 1 rfl))) ?_
      intro a58 w60 HF59 HO61; clear HF57 HO37
      have HO62 : Own w0 w60 [R, Chunk.blk gd (.cells #[.map (some gm), .int .i64 d.most, .int .i64 d.used, .int .i64 (d.fuse - 1), .bool true] 76 (0, 0))] := HO61
      clear HO61
      refine wpList_nil ?_
      refine gw_nx (hK51 _ _ ?_)
      refine gw_seq fun K63 hK63 => ?_
      refine wp_region_lit ?_
      refine gw_ev HF59 (want_none rfl) rfl (by decide) (op_assign rfl (ev_c _ _)) ?_
      intro a64 HF65; clear HF59
      refine wpList_nil ?_
      refine gw_nx (hK63 _ _ ?_)
      refine wp_ret ?_
      refine gw_thr ?_
      refine gw_ret1 HF65 rfl rfl ?_
      have e_ : d.fuse - 1 = 0 := by omega
      exact .inl ⟨by omega, rfl, by rw [e_] at HO62; exact HO62.sel [0, 1] (by decide)⟩
    · skip
      have HF66 := HF48.subst_ (d := 21) (b := false) rfl hb49
      clear HF48
      (try simp only [Bool.and_eq_true, Bool.or_eq_true, Bool.and_eq_false_iff, Bool.or_eq_false_iff, Bool.not_and, Bool.not_or, Bool.not_not, decide_eq_true_eq, decide_eq_false_iff_not, Bool.not_eq_true', Bool.not_eq_false', Bool.not_eq_true, Bool.not_eq_false, ne_eq, Decidable.not_not, Int.not_lt, Int.not_le, not_true_eq_false, not_false_eq_true, bne_iff_ne, beq_iff_eq, bne_eq_false_iff_eq, beq_eq_false_iff_ne] at hb49)
      refine wp_skip ?_
      refine gw_nx (hK4 _ _ ?_)
      refine gw_seq fun K67 hK67 => ?_
      refine wp_region_lit ?_
      refine gw_ev HF66 (want_none rfl) rfl (by decide) (op_move rfl (HF66.ev rfl)) ?_
      intro a68 HF69; clear HF66
      refine gw_call HF69 (want_none rfl) rfl (by decide) (op_callV h1 h2 h3 rfl (HF69.ev rfl) ar_nil) (hdo (by omega) _ (by rw [show decF d.fuse = d.fuse - 1 by (unfold decF; split <;> omega)]; exact HO37.sel [0, 1] (by decide))) ?_
      rintro _ w71 ⟨rfl, hq⟩
      refine ⟨_, rfl, fun a73 HF74 => ?_⟩
      clear HF69 HO37
      refine wpList_nil ?_
      refine gw_nx (hK67 _ _ ?_)
      refine gw_seq fun K76 hK76 => ?_
      refine wp_region_lit ?_
      refine gw_ev HF74 (want_none rfl) rfl (by decide) (op_assign rfl (ev_c _ _)) ?_
      intro a77 HF78; clear HF74
      refine wpList_nil ?_
      refine gw_nx (hK76 _ _ ?_)
      refine wp_ret ?_
      refine gw_ret1 HF78 rfl rfl ?_
      exact .inr ⟨by omega, rfl, hq⟩
  · skip
    have HF79 := HF15.subst_ (d := 9) (b := false) rfl hb16
    clear HF15
    (try simp only [Bool.and_eq_true, Bool.or_eq_true, Bool.and_eq_false_iff, Bool.or_eq_false_iff, Bool.not_and, Bool.not_or, Bool.not_not, decide_eq_true_eq, decide_eq_false_iff_not, Bool.not_eq_true', Bool.not_eq_false', Bool.not_eq_true, Bool.not_eq_false, ne_eq, Decidable.not_not, Int.not_lt, Int.not_le, not_true_eq_false, not_false_eq_true, bne_iff_ne, beq_iff_eq, bne_eq_false_iff_eq, beq_eq_false_iff_ne] at hb16)
    refine wp_skip ?_
    refine gw_nx (hK4 _ _ ?_)
    refine gw_seq fun K80 hK80 => ?_
    refine wp_region_lit ?_
    refine gw_ev HF79 (want_none rfl) rfl (by decide) (op_move rfl (HF79.ev rfl)) ?_
    intro a81 HF82; clear HF79
    refine gw_call HF82 (want_none rfl) rfl (by decide) (op_callV h1 h2 h3 rfl (HF82.ev rfl) ar_nil) (hdo (by omega) _ (by rw [show decF d.fuse = d.fuse by (unfold decF; split <;> omega)]; exact HO.sel [0, 1] (by decide))) ?_
    rintro _ w84 ⟨rfl, hq⟩
    refine ⟨_, rfl, fun a86 HF87 => ?_⟩
    clear HF82 HO
    refine wpList_nil ?_
    refine gw_nx (hK80 _ _ ?_)
    refine gw_seq fun K89 hK89 => ?_
    refine wp_region_lit ?_
    refine gw_ev HF87 (want_none rfl) rfl (by decide) (op_assign rfl (ev_c _ _)) ?_
    intro a90 HF91; clear HF87
    refine wpList_nil ?_
    refine gw_nx (hK89 _ _ ?_)
    refine wp_ret ?_
    refine gw_ret1 HF91 rfl rfl ?_
    exact .inr ⟨by omega, rfl, hq⟩
set_option maxHeartbeats 4000000 in
set_option maxRecDepth 100000 in
theorem find_down (gd gm : Nat) (d : PD) (nm : ByteArray) (M : List (Lit × Value)) (w : World) (hD : w.heap[gd]? = some (.cells (dcells gm d) 76 (0, 0))) (hL : (Chunk.lmap Try.prog 9 gm M).P w) (hdn : d.down = true) (hn : nm.size ≤ 9223372036854775807) :
    Calls Try.prog 42 #[.pointer (some ⟨gd, 0, none⟩), .string nm] w fun e w' => e = .returned (.tuple #[.pointer none, .int .i64 70]) ∧ Below w.heap.size w w' := by
  refine gw_start (N := 20) (vs := [.pointer (some ⟨gd, 0, none⟩), .string nm]) Try.func42 rfl rfl (by simp) fun a HF HO => ?_
  replace HO : Own w w [] := HO
  refine gw_seq fun K1 hK1 => ?_
  refine wp_region_lit ?_
  refine gw_ev HF (want_none rfl) rfl (by decide) (op_assign rfl (ev_c _ _)) ?_
  intro a2 HF3; clear HF
  refine gw_ev HF3 (want_none rfl) rfl (by decide) (op_assign rfl (ev_c _ _)) ?_
  intro a4 HF5; clear HF3
  refine wpList_nil ?_
  refine gw_nx (hK1 _ _ ?_)
  refine gw_seq fun K6 hK6 => ?_
  refine gw_seq fun K7 hK7 => ?_
  refine wp_region_lit ?_
  refine gw_ev HF5 (want_none rfl) rfl (by decide) (op_move rfl (HF5.ev rfl)) ?_
  intro a8 HF9; clear HF5
  refine gw_ev HF9 (want_none rfl) rfl (by decide) (op_nil rfl (HF9.ev rfl)) ?_
  intro a10 HF11; clear HF9
  refine gw_ev HF11 (want_none rfl) rfl (by decide) (op_field (gwfld76_4 _ _) rfl (HF11.ev rfl)) ?_
  intro a12 HF13; clear HF11
  refine gw_ev HF13 (want_none rfl) rfl (by decide) (op_load1 gwagg4 rfl (HF13.ev rfl) (blk_at (argblk HO hD) rfl)) ?_
  intro a14 HF15; clear HF13
  have HF16 := HF15.lit (b := true) (hdn)
  clear HF15
  refine wpList_nil ?_
  refine gw_nx (hK7 _ _ ?_)
  refine gw_cond HF16 rfl (fun hb17 => ?_) (fun hb17 => ?_)
  rotate_left
  · cases hb17
  refine gw_seq fun K18 hK18 => ?_
  refine wp_region_lit ?_
  refine gw_ev HF16 (want_none rfl) rfl (by decide) (op_assign rfl (ev_c _ _)) ?_
  intro a19 HF20; clear HF16
  refine gw_ev HF20 (want_none rfl) rfl (by decide) (op_assign rfl (ev_c _ _)) ?_
  intro a21 HF22; clear HF20
  refine wpList_nil ?_
  refine gw_nx (hK18 _ _ ?_)
  refine wp_ret ?_
  refine gw_thr ?_
  refine gw_ret2 HF22 rfl rfl rfl ?_
  exact ⟨rfl, HO.below⟩
set_option maxHeartbeats 4000000 in
set_option maxRecDepth 100000 in
theorem find_none (gd gm : Nat) (d : PD) (nm : ByteArray) (M : List (Lit × Value)) (w : World) (hD : w.heap[gd]? = some (.cells (dcells gm d) 76 (0, 0))) (hL : (Chunk.lmap Try.prog 9 gm M).P w) (hdn : d.down = false) (hl : lfind (litS nm) M = none) (hn : nm.size ≤ 9223372036854775807) :
    Calls Try.prog 42 #[.pointer (some ⟨gd, 0, none⟩), .string nm] w fun e w' => e = .returned (.tuple #[.pointer none, .int .i64 4]) ∧ Below w.heap.size w w' := by
  refine gw_start (N := 20) (vs := [.pointer (some ⟨gd, 0, none⟩), .string nm]) Try.func42 rfl rfl (by simp) fun a HF HO => ?_
  replace HO : Own w w [] := HO
  refine gw_seq fun K1 hK1 => ?_
  refine wp_region_lit ?_
  refine gw_ev HF (want_none rfl) rfl (by decide) (op_assign rfl (ev_c _ _)) ?_
  intro a2 HF3; clear HF
  refine gw_ev HF3 (want_none rfl) rfl (by decide) (op_assign rfl (ev_c _ _)) ?_
  intro a4 HF5; clear HF3
  refine wpList_nil ?_
  refine gw_nx (hK1 _ _ ?_)
  refine gw_seq fun K6 hK6 => ?_
  refine gw_seq fun K7 hK7 => ?_
  refine wp_region_lit ?_
  refine gw_ev HF5 (want_none rfl) rfl (by decide) (op_move rfl (HF5.ev rfl)) ?_
  intro a8 HF9; clear HF5
  refine gw_ev HF9 (want_none rfl) rfl (by decide) (op_nil rfl (HF9.ev rfl)) ?_
  intro a10 HF11; clear HF9
  refine gw_ev HF11 (want_none rfl) rfl (by decide) (op_field (gwfld76_4 _ _) rfl (HF11.ev rfl)) ?_
  intro a12 HF13; clear HF11
  refine gw_ev HF13 (want_none rfl) rfl (by decide) (op_load1 gwagg4 rfl (HF13.ev rfl) (blk_at (argblk HO hD) rfl)) ?_
  intro a14 HF15; clear HF13
  have HF16 := HF15.lit (b := false) (hdn)
  clear HF15
  refine wpList_nil ?_
  refine gw_nx (hK7 _ _ ?_)
  refine gw_cond HF16 rfl (fun hb17 => ?_) (fun hb17 => ?_)
  skip
  · cases hb17
  refine wp_skip ?_
  refine gw_nx (hK6 _ _ ?_)
  refine gw_seq fun K18 hK18 => ?_
  refine wp_region_lit ?_
  refine gw_ev HF16 (want_none rfl) rfl (by decide) (op_move rfl (HF16.ev rfl)) ?_
  intro a19 HF20; clear HF16
  refine gw_ev HF20 (want_none rfl) rfl (by decide) (op_nil rfl (HF20.ev rfl)) ?_
  intro a21 HF22; clear HF20
  refine gw_ev HF22 (want_none rfl) rfl (by decide) (op_field (gwfld76_0 _ _) rfl (HF22.ev rfl)) ?_
  intro a23 HF24; clear HF22
  refine gw_ev HF24 (want_none rfl) rfl (by decide) (op_load1 gwagg74 rfl (HF24.ev rfl) (blk_at (argblk HO hD) rfl)) ?_
  intro a25 HF26; clear HF24
  refine gw_ev HF26 (want_none rfl) rfl (by decide) (op_move rfl (HF26.ev rfl)) ?_
  intro a27 HF28; clear HF26
  refine gw_ev HF28 (want_none rfl) rfl (by decide) (op_ml_none strKey Try.underlying74 gwzer78 rfl (HF28.ev rfl) (HF28.ev rfl) (keyS (by omega)) (lmap_arg HO hL) (hl)) ?_
  intro a29 HF30; clear HF28
  refine gw_ev HF30 (want_none rfl) rfl (by decide) (op_assign rfl (HF30.ev rfl)) ?_
  intro a31 HF32; clear HF30
  refine wpList_nil ?_
  refine gw_nx (hK18 _ _ ?_)
  refine gw_seq fun K33 hK33 => ?_
  refine gw_seq fun K34 hK34 => ?_
  refine wp_region_lit ?_
  refine gw_ev HF32 (want_none rfl) rfl (by decide) (op_move rfl (HF32.ev rfl)) ?_
  intro a35 HF36; clear HF32
  refine gw_ev HF36 (want_none rfl) rfl (by decide) (op_eqp_nils Try.underlying78 rfl (HF36.ev rfl)) ?_
  intro a37 HF38; clear HF36
  refine wpList_nil ?_
  refine gw_nx (hK34 _ _ ?_)
  refine gw_cond HF38 rfl (fun hb39 => ?_) (fun hb39 => ?_)
  rotate_left
  · cases hb39
  refine gw_seq fun K40 hK40 => ?_
  refine wp_region_lit ?_
  refine gw_ev HF38 (want_none rfl) rfl (by decide) (op_assign rfl (ev_c _ _)) ?_
  intro a41 HF42; clear HF38
  refine gw_ev HF42 (want_none rfl) rfl (by decide) (op_assign rfl (ev_c _ _)) ?_
  intro a43 HF44; clear HF42
  refine wpList_nil ?_
  refine gw_nx (hK40 _ _ ?_)
  refine wp_ret ?_
  refine gw_thr ?_
  refine gw_ret2 HF44 rfl rfl rfl ?_
  exact ⟨rfl, HO.below⟩
set_option maxHeartbeats 4000000 in
set_option maxRecDepth 100000 in
theorem find_some (gd gm : Nat) (d : PD) (nm : ByteArray) (M : List (Lit × Value)) (g : Nat) (w : World) (hD : w.heap[gd]? = some (.cells (dcells gm d) 76 (0, 0))) (hL : (Chunk.lmap Try.prog 9 gm M).P w) (hdn : d.down = false) (hl : lfind (litS nm) M = some (.pointer (some ⟨g, 0, none⟩))) (hn : nm.size ≤ 9223372036854775807) :
    Calls Try.prog 42 #[.pointer (some ⟨gd, 0, none⟩), .string nm] w fun e w' => e = .returned (.tuple #[.pointer (some ⟨g, 0, none⟩), .int .i64 0]) ∧ Below w.heap.size w w' := by
  refine gw_start (N := 20) (vs := [.pointer (some ⟨gd, 0, none⟩), .string nm]) Try.func42 rfl rfl (by simp) fun a HF HO => ?_
  replace HO : Own w w [] := HO
  refine gw_seq fun K1 hK1 => ?_
  refine wp_region_lit ?_
  refine gw_ev HF (want_none rfl) rfl (by decide) (op_assign rfl (ev_c _ _)) ?_
  intro a2 HF3; clear HF
  refine gw_ev HF3 (want_none rfl) rfl (by decide) (op_assign rfl (ev_c _ _)) ?_
  intro a4 HF5; clear HF3
  refine wpList_nil ?_
  refine gw_nx (hK1 _ _ ?_)
  refine gw_seq fun K6 hK6 => ?_
  refine gw_seq fun K7 hK7 => ?_
  refine wp_region_lit ?_
  refine gw_ev HF5 (want_none rfl) rfl (by decide) (op_move rfl (HF5.ev rfl)) ?_
  intro a8 HF9; clear HF5
  refine gw_ev HF9 (want_none rfl) rfl (by decide) (op_nil rfl (HF9.ev rfl)) ?_
  intro a10 HF11; clear HF9
  refine gw_ev HF11 (want_none rfl) rfl (by decide) (op_field (gwfld76_4 _ _) rfl (HF11.ev rfl)) ?_
  intro a12 HF13; clear HF11
  refine gw_ev HF13 (want_none rfl) rfl (by decide) (op_load1 gwagg4 rfl (HF13.ev rfl) (blk_at (argblk HO hD) rfl)) ?_
  intro a14 HF15; clear HF13
  have HF16 := HF15.lit (b := false) (hdn)
  clear HF15
  refine wpList_nil ?_
  refine gw_nx (hK7 _ _ ?_)
  refine gw_cond HF16 rfl (fun hb17 => ?_) (fun hb17 => ?_)
  skip
  · cases hb17
  refine wp_skip ?_
  refine gw_nx (hK6 _ _ ?_)
  refine gw_seq fun K18 hK18 => ?_
  refine wp_region_lit ?_
  refine gw_ev HF16 (want_none rfl) rfl (by decide) (op_move rfl (HF16.ev rfl)) ?_
  intro a19 HF20; clear HF16
  refine gw_ev HF20 (want_none rfl) rfl (by decide) (op_nil rfl (HF20.ev rfl)) ?_
  intro a21 HF22; clear HF20
  refine gw_ev HF22 (want_none rfl) rfl (by decide) (op_field (gwfld76_0 _ _) rfl (HF22.ev rfl)) ?_
  intro a23 HF24; clear HF22
  refine gw_ev HF24 (want_none rfl) rfl (by decide) (op_load1 gwagg74 rfl (HF24.ev rfl) (blk_at (argblk HO hD) rfl)) ?_
  intro a25 HF26; clear HF24
  refine gw_ev HF26 (want_none rfl) rfl (by decide) (op_move rfl (HF26.ev rfl)) ?_
  intro a27 HF28; clear HF26
  refine gw_ev HF28 (want_none rfl) rfl (by decide) (op_ml_some strKey Try.underlying74 gwzer78 rfl (HF28.ev rfl) (HF28.ev rfl) (keyS (by omega)) (lmap_arg HO hL) (hl)) ?_
  intro a29 HF30; clear HF28
  refine gw_ev HF30 (want_none rfl) rfl (by decide) (op_assign rfl (HF30.ev rfl)) ?_
  intro a31 HF32; clear HF30
  refine wpList_nil ?_
  refine gw_nx (hK18 _ _ ?_)
  refine gw_seq fun K33 hK33 => ?_
  refine gw_seq fun K34 hK34 => ?_
  refine wp_region_lit ?_
  refine gw_ev HF32 (want_none rfl) rfl (by decide) (op_move rfl (HF32.ev rfl)) ?_
  intro a35 HF36; clear HF32
  refine gw_ev HF36 (want_none rfl) rfl (by decide) (op_eqp_nil Try.underlying78 rfl (HF36.ev rfl)) ?_
  intro a37 HF38; clear HF36
  refine wpList_nil ?_
  refine gw_nx (hK34 _ _ ?_)
  refine gw_cond HF38 rfl (fun hb39 => ?_) (fun hb39 => ?_)
  skip
  · cases hb39
  refine wp_skip ?_
  refine gw_nx (hK33 _ _ ?_)
  refine gw_seq fun K40 hK40 => ?_
  refine wp_region_lit ?_
  refine gw_ev HF38 (want_none rfl) rfl (by decide) (op_move rfl (HF38.ev rfl)) ?_
  intro a41 HF42; clear HF38
  refine gw_ev HF42 (want_none rfl) rfl (by decide) (op_assign rfl (HF42.ev rfl)) ?_
  intro a43 HF44; clear HF42
  refine gw_ev HF44 (want_none rfl) rfl (by decide) (op_assign rfl (ev_c _ _)) ?_
  intro a45 HF46; clear HF44
  refine wpList_nil ?_
  refine gw_nx (hK40 _ _ ?_)
  refine wp_ret ?_
  refine gw_ret2 HF46 rfl rfl rfl ?_
  exact ⟨rfl, HO.below⟩
end GVfs0_
export GVfs0_ (named_calls new_own step_calls find_down find_none find_some)
end Go.Proofs.Ytkdahjnmldeklaa.PA
