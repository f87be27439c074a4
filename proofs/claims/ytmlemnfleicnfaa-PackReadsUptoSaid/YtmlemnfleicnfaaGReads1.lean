/- Calls, one after the other. Printed by a program of this session; Lean checks it. -/
import Derived.Test.YtmlemnfleicnfaaHReads
namespace Go.Proofs.Ytmlemnfleicnfaa.PA
open Go.RowKit Go.Proofs.YtmlemnfleicnfaaW.PrintWords Go.Proofs.YtmlemnfleicnfaaW.PrintLast Go.Proofs.YtmlemnfleicnfaaW.PrintMore
set_option linter.unusedVariables false
set_option linter.unusedSimpArgs false
namespace GReads1_
theorem gwagg3 : ∀ w, (isAgg 3).run Try.prog w = .ok false w := fun _ => by kernel_rfl
theorem gwagg44 : ∀ w, (isAgg 44).run Try.prog w = .ok false w := fun _ => by kernel_rfl
theorem gwagg45 : ∀ w, (isAgg 45).run Try.prog w = .ok false w := fun _ => by kernel_rfl
theorem gwagg46 : ∀ w, (isAgg 46).run Try.prog w = .ok false w := fun _ => by kernel_rfl
theorem gwinfo2 : (Try.prog.info? 2).map (fun i => (i.zero, i.size, i.bytes)) = some (some (.int .i64 0), 1, 8) := by kernel_rfl
theorem gwinfo3 : (Try.prog.info? 3).map (fun i => (i.zero, i.size, i.bytes)) = some (some (.int .i64 0), 1, 8) := by kernel_rfl
theorem gwinfo9 : (Try.prog.info? 9).map (fun i => (i.zero, i.size, i.bytes)) = some (some (.string (⟨#[]⟩ : ByteArray)), 1, 16) := by kernel_rfl
theorem gwsiz3 : ∀ w, (sizeOf 3).run Try.prog w = .ok 1 w := fun _ => by kernel_rfl
theorem gwsiz44 : ∀ w, (sizeOf 44).run Try.prog w = .ok 1 w := fun _ => by kernel_rfl
theorem gwsiz45 : ∀ w, (sizeOf 45).run Try.prog w = .ok 1 w := fun _ => by kernel_rfl
theorem gwsiz46 : ∀ w, (sizeOf 46).run Try.prog w = .ok 1 w := fun _ => by kernel_rfl
set_option maxHeartbeats 4000000 in
set_option maxRecDepth 100000 in
theorem reads1_calls (w0 w : World) (R : Chunk) (g : Nat) (A : Option Addr) (c : Nat) (xs : List Int) (hx : ∀ w_, Own w0 w_ [R] → Kd.C (Kd.int .u8) w_ A xs.length xs) (hc : xs.length ≤ c) (hb : ByteL xs) (pc pn pt pl : Nat) (Ac : Option Addr) (cc : Nat) (calls : List Int) (hcx : ∀ w_, Own w0 w_ [R] → Kd.C (Kd.int .i64) w_ Ac calls.length calls) (hcc : calls.length ≤ cc) (hcl : calls.length ≤ 1048576) (An : Option Addr) (cn : Nat) (Sn : Nat → Prop) (At : Option Addr) (ct : Nat) (St : Nat → Prop) (Al : Option Addr) (cl : Nat) (Sl : Nat → Prop) (HO : Own w0 w [R, Chunk.blk g (.cells #[.slice A xs.length c] 80 (0, 0)), Chunk.blk pc (.cells #[.slice Ac calls.length cc] 44 (0, 0)), Chunk.blk pn (.cells #[.slice An (([] : List Int).length) cn] 45 (0, 0)), Chunk.row (Kd.int .i64) 2 w0.heap.size Sn (.slice An (([] : List Int).length) cn) ([] : List Int), Chunk.blk pt (.cells #[.slice At (([] : List ByteArray).length) ct] 46 (0, 0)), Chunk.row Kd.string 9 w0.heap.size St (.slice At (([] : List ByteArray).length) ct) ([] : List ByteArray), Chunk.blk pl (.cells #[.slice Al (([] : List Int).length) cl] 44 (0, 0)), Chunk.row (Kd.int .i64) 3 w0.heap.size Sl (.slice Al (([] : List Int).length) cl) ([] : List Int)]) :
    Calls Try.prog 34 #[.pointer (some ⟨g, 0, none⟩), .pointer (some ⟨pc, 0, none⟩), .pointer (some ⟨pn, 0, none⟩), .pointer (some ⟨pt, 0, none⟩), .pointer (some ⟨pl, 0, none⟩)] w fun e w' => (∃ A' c', ∃ s, ∃ An cn Sn At ct St Al cl Sl,  rrun calls calls.length ⟨xs, [], [], []⟩ = some s ∧ e = .returned (.tuple #[]) ∧ Own w0 w' [R, rblk g A' s.rest.length c', Chunk.blk pc (.cells #[.slice Ac calls.length cc] 44 (0, 0)), Chunk.blk pn (.cells #[.slice An s.nums.length cn] 45 (0, 0)), Chunk.row (Kd.int .i64) 2 w0.heap.size Sn (.slice An s.nums.length cn) s.nums, Chunk.blk pt (.cells #[.slice At s.texts.length ct] 46 (0, 0)), Chunk.row Kd.string 9 w0.heap.size St (.slice At s.texts.length ct) s.texts, Chunk.blk pl (.cells #[.slice Al s.left.length cl] 44 (0, 0)), Chunk.row (Kd.int .i64) 3 w0.heap.size Sl (.slice Al s.left.length cl) s.left]) ∨ (∃ j : Nat, ∃ s, ∃ An cn Sn At ct St Al cl Sl,  j < calls.length ∧ rrun calls j ⟨xs, [], [], []⟩ = some s ∧ rstep (calls.getD j 0) s = none ∧ e = .panicked badE ∧ Own w0 w' [R, Chunk.blk pc (.cells #[.slice Ac calls.length cc] 44 (0, 0)), Chunk.blk pn (.cells #[.slice An s.nums.length cn] 45 (0, 0)), Chunk.row (Kd.int .i64) 2 w0.heap.size Sn (.slice An s.nums.length cn) s.nums, Chunk.blk pt (.cells #[.slice At s.texts.length ct] 46 (0, 0)), Chunk.row Kd.string 9 w0.heap.size St (.slice At s.texts.length ct) s.texts, Chunk.blk pl (.cells #[.slice Al s.left.length cl] 44 (0, 0)), Chunk.row (Kd.int .i64) 3 w0.heap.size Sl (.slice Al s.left.length cl) s.left]) := by
  refine gw_startO (N := 42) (vs := [.pointer (some ⟨g, 0, none⟩), .pointer (some ⟨pc, 0, none⟩), .pointer (some ⟨pn, 0, none⟩), .pointer (some ⟨pt, 0, none⟩), .pointer (some ⟨pl, 0, none⟩)]) Try.func34 rfl rfl (by simp) fun a HF => ?_
  refine gw_seq fun K1 hK1 => ?_
  refine wp_region_lit ?_
  refine gw_ev HF (want_none rfl) rfl (by decide) (op_load1 gwagg44 rfl (HF.ev rfl) (blk_at (HO.get 2 rfl) rfl)) ?_
  intro a2 HF3; clear HF
  refine gw_ev HF3 (want_none rfl) rfl (by decide) (op_len Try.underlying44 rfl (HF3.ev rfl)) ?_
  intro a4 HF5; clear HF3
  refine gw_ev HF5 (want_none rfl) rfl (by decide) (op_move rfl (ev_c _ _)) ?_
  intro a6 HF7; clear HF5
  refine wpList_nil ?_
  refine gw_nx (hK1 _ _ ?_)
  refine wp_block ?_
  refine gw_loop (fun m_ a_ w_ => ∃ (i : Int) (xs' : List Int) (ns : List Int) (ts : List ByteArray) (ls : List Int) (A' : Option Addr) (c' : Nat) (An' : Option Addr) (cn' : Nat) (Sn' : Nat → Prop) (At' : Option Addr) (ct' : Nat) (St' : Nat → Prop) (Al' : Option Addr) (cl' : Nat) (Sl' : Nat → Prop), Fr 42 a_ [(10, .int .i64 i), (0, .pointer (some ⟨g, 0, none⟩)), (2, .pointer (some ⟨pn, 0, none⟩)), (3, .pointer (some ⟨pt, 0, none⟩)), (4, .pointer (some ⟨pl, 0, none⟩)), (8, .slice Ac calls.length cc), (9, .int .i64 (calls.length : Int))] ∧ Own w0 w_ [R, Chunk.blk g (.cells #[.slice A' xs'.length c'] 80 (0, 0)), Chunk.blk pc (.cells #[.slice Ac calls.length cc] 44 (0, 0)), Chunk.blk pn (.cells #[.slice An' ns.length cn'] 45 (0, 0)), Chunk.row (Kd.int .i64) 2 w0.heap.size Sn' (.slice An' ns.length cn') ns, Chunk.blk pt (.cells #[.slice At' ts.length ct'] 46 (0, 0)), Chunk.row Kd.string 9 w0.heap.size St' (.slice At' ts.length ct') ts, Chunk.blk pl (.cells #[.slice Al' ls.length cl'] 44 (0, 0)), Chunk.row (Kd.int .i64) 3 w0.heap.size Sl' (.slice Al' ls.length cl') ls] ∧ (0 ≤ i ∧ i ≤ calls.length) ∧ (rrun calls i.toNat ⟨xs, [], [], []⟩ = some ⟨xs', ns, ts, ls⟩) ∧ (∀ W, Kd.C (Kd.int .u8) W A xs.length xs → Kd.C (Kd.int .u8) W A' xs'.length xs') ∧ (xs'.length ≤ c') ∧ (ByteL xs') ∧ ((ns.length : Int) ≤ i ∧ (ts.length : Int) ≤ i ∧ (ls.length : Int) ≤ i) ∧ m_ = (calls.length - i.toNat)) ((calls.length - (0 : Int).toNat)) ?_ ?_
  · refine ⟨0, xs, [], [], [], A, c, An, cn, Sn, At, ct, St, Al, cl, Sl, (HF7.pick (t := 10) rfl (HF7.pick (t := 0) rfl (HF7.pick (t := 2) rfl (HF7.pick (t := 3) rfl (HF7.pick (t := 4) rfl (HF7.pick (t := 8) rfl (HF7.pick (t := 9) rfl HF7.nil))))))), HO.sel [0, 1, 2, 3, 4, 5, 6, 7, 8] (by decide), ?_, ?_, ?_, ?_, ?_, ?_, rfl⟩
    · (first | omega | (simp only [List.length_append, List.length_cons, List.length_nil] at *; omega))
    · rfl
    · intro W h; exact h
    · exact hc
    · exact hb
    · simp
  · rintro m9 a10 w11 ⟨i, xs', ns, ts, ls, A', c', An', cn', Sn', At', ct', St', Al', cl', Sl', HF12, HO13, hi, hrun, hC, hcap, hbx, hll, hm14⟩
    refine gw_seq fun K15 hK15 => ?_
    refine wp_region_lit ?_
    refine gw_ev HF12 (want_none rfl) rfl (by decide) (op_lss rfl (HF12.ev rfl) (HF12.ev rfl)) ?_
    intro a16 HF17; clear HF12
    refine wpList_nil ?_
    refine gw_nx (hK15 _ _ ?_)
    refine gw_seq fun K18 hK18 => ?_
    refine gw_cond HF17 rfl (fun hb19 => ?_) (fun hb19 => ?_)
    · skip
      have HF20 := HF17.subst_ (d := 11) (b := true) rfl hb19
      clear HF17
      (try simp only [Bool.and_eq_true, Bool.or_eq_true, Bool.and_eq_false_iff, Bool.or_eq_false_iff, Bool.not_and, Bool.not_or, Bool.not_not, decide_eq_true_eq, decide_eq_false_iff_not, Bool.not_eq_true', Bool.not_eq_false', Bool.not_eq_true, Bool.not_eq_false, ne_eq, Decidable.not_not, Int.not_lt, Int.not_le, not_true_eq_false, not_false_eq_true, bne_iff_ne, beq_iff_eq, bne_eq_false_iff_eq, beq_eq_false_iff_ne] at hb19)
      refine wp_skip ?_
      refine gw_nx (hK18 _ _ ?_)
      refine gw_seq fun K21 hK21 => ?_
      refine wp_block ?_
      refine gw_seq fun K22 hK22 => ?_
      refine wp_region_lit ?_
      obtain ⟨ad23, cs26, hA24, hl27, hK28, hc25⟩ := Kd.C_get (hcx _ (HO13.sel [0] (by decide))) (0 : Int) i (by (first | omega | (simp only [List.length_append, List.length_cons, List.length_nil] at *; omega))) (by (first | omega | (simp only [List.length_append, List.length_cons, List.length_nil] at *; omega)))
      obtain rfl := id hK28
      clear hl27
      refine gw_ev HF20 (want_none rfl) rfl (by decide) (op_index Try.underlying44 gwsiz3 rfl (HF20.ev rfl) (HF20.ev rfl) hA24 (⟨by (first | omega | (simp only [List.length_append, List.length_cons, List.length_nil] at *; omega)), by (first | omega | (simp only [List.length_append, List.length_cons, List.length_nil] at *; omega))⟩)) ?_
      intro a29 HF30; clear HF20
      refine gw_ev HF30 (want_none rfl) rfl (by decide) (op_load1 gwagg3 rfl (HF30.ev rfl) ((at0 hc25))) ?_
      intro a31 HF32; clear HF30
      refine gw_ev HF32 (want_none rfl) rfl (by decide) (op_assign rfl (HF32.ev rfl)) ?_
      intro a33 HF34; clear HF32
      refine wpList_nil ?_
      refine gw_nx (hK22 _ _ ?_)
      refine gw_seq fun K35 hK35 => ?_
      refine gw_seq fun K36 hK36 => ?_
      refine wp_region_lit ?_
      refine gw_ev HF34 (want_none rfl) rfl (by decide) (op_move rfl (HF34.ev rfl)) ?_
      intro a37 HF38; clear HF34
      refine wpList_nil ?_
      refine gw_nx (hK36 _ _ ?_)
      refine wp_block ?_
      refine gw_seq fun K39 hK39 => ?_
      refine wp_region_lit ?_
      refine gw_ev HF38 (want_none rfl) rfl (by decide) (op_eqi rfl (HF38.ev rfl) (ev_c _ _)) ?_
      intro a40 HF41; clear HF38
      refine gw_ev HF41 (want_none rfl) rfl (by decide) (op_assign rfl (HF41.ev rfl)) ?_
      intro a42 HF43; clear HF41
      refine wpList_nil ?_
      refine gw_nx (hK39 _ _ ?_)
      refine gw_cond HF43 rfl (fun hb44 => ?_) (fun hb44 => ?_)
      · skip
        have HF45 := HF43.subst_ (d := 15) (b := true) rfl hb44
        clear HF43
        (try simp only [Bool.and_eq_true, Bool.or_eq_true, Bool.and_eq_false_iff, Bool.or_eq_false_iff, Bool.not_and, Bool.not_or, Bool.not_not, decide_eq_true_eq, decide_eq_false_iff_not, Bool.not_eq_true', Bool.not_eq_false', Bool.not_eq_true, Bool.not_eq_false, ne_eq, Decidable.not_not, Int.not_lt, Int.not_le, not_true_eq_false, not_false_eq_true, bne_iff_ne, beq_iff_eq, bne_eq_false_iff_eq, beq_eq_false_iff_ne] at hb44)
        refine gp_draw (M := [Chunk.blk pn (.cells #[.slice An' ns.length cn'] 45 (0, 0))]) (fun j_ => j_ == 5) HO13 (by kernel_rfl) fun w46 HO47 => ?_
        clear HO13
        refine gp_take (by repeat (first | exact bl_body | exact bl_bodyD | refine bl_then ?_ | refine bl_blk ?_)) 0 rfl (by kernel_rfl) HF45 (by exact HO47.sel [3] (by decide)) (want_none rfl) rfl (by decide) (fun wq HO => (op_load1 gwagg45 rfl (HF45.ev rfl) (blk_at (HO.get 0 rfl) rfl))) ?_
        intro a48 HF49; clear HF45
        refine gp_take (by repeat (first | exact bl_body | exact bl_bodyD | refine bl_then ?_ | refine bl_blk ?_)) 1 rfl (by kernel_rfl) HF49 (by exact HO47.sel [3] (by decide)) (want_none rfl) rfl (by decide) (fun wq HO => (op_move rfl (HF49.ev rfl))) ?_
        intro a50 HF51; clear HF49
        refine gp_step 2 rfl (by kernel_rfl) ?_
        have HO67 : Own w0 _ [(Chunk.all [R, Chunk.blk pc (.cells #[.slice Ac calls.length cc] 44 (0, 0)), Chunk.blk pn (.cells #[.slice An' ns.length cn'] 45 (0, 0)), Chunk.row (Kd.int .i64) 2 w0.heap.size Sn' (.slice An' ns.length cn') ns, Chunk.blk pt (.cells #[.slice At' ts.length ct'] 46 (0, 0)), Chunk.row Kd.string 9 w0.heap.size St' (.slice At' ts.length ct') ts, Chunk.blk pl (.cells #[.slice Al' ls.length cl'] 44 (0, 0)), Chunk.row (Kd.int .i64) 3 w0.heap.size Sl' (.slice Al' ls.length cl') ls]), Chunk.blk g (.cells #[.slice A' xs'.length c'] 80 (0, 0))] := Own.bundle (A := [R, Chunk.blk pc (.cells #[.slice Ac calls.length cc] 44 (0, 0)), Chunk.blk pn (.cells #[.slice An' ns.length cn'] 45 (0, 0)), Chunk.row (Kd.int .i64) 2 w0.heap.size Sn' (.slice An' ns.length cn') ns, Chunk.blk pt (.cells #[.slice At' ts.length ct'] 46 (0, 0)), Chunk.row Kd.string 9 w0.heap.size St' (.slice At' ts.length ct') ts, Chunk.blk pl (.cells #[.slice Al' ls.length cl'] 44 (0, 0)), Chunk.row (Kd.int .i64) 3 w0.heap.size Sl' (.slice Al' ls.length cl') ls]) (L := [Chunk.blk g (.cells #[.slice A' xs'.length c'] 80 (0, 0))]) (HO47.sel [0, 2, 3, 4, 5, 6, 7, 8, 1] (by decide))
        refine gw_callP HF51 (want_none rfl) rfl (by decide) (op_callL Try.func35 (by kernel_rfl) rfl rfl (ar_cons (HF51.ev rfl) ar_nil)) (GRead_.num_calls w0 _ (Chunk.all [R, Chunk.blk pc (.cells #[.slice Ac calls.length cc] 44 (0, 0)), Chunk.blk pn (.cells #[.slice An' ns.length cn'] 45 (0, 0)), Chunk.row (Kd.int .i64) 2 w0.heap.size Sn' (.slice An' ns.length cn') ns, Chunk.blk pt (.cells #[.slice At' ts.length ct'] 46 (0, 0)), Chunk.row Kd.string 9 w0.heap.size St' (.slice At' ts.length ct') ts, Chunk.blk pl (.cells #[.slice Al' ls.length cl'] 44 (0, 0)), Chunk.row (Kd.int .i64) 3 w0.heap.size Sl' (.slice Al' ls.length cl') ls]) g A' c' xs' (fun w_ h_ => (hC _ (hx _ ((Own.unbundle (A := [R, Chunk.blk pc (.cells #[.slice Ac calls.length cc] 44 (0, 0)), Chunk.blk pn (.cells #[.slice An' ns.length cn'] 45 (0, 0)), Chunk.row (Kd.int .i64) 2 w0.heap.size Sn' (.slice An' ns.length cn') ns, Chunk.blk pt (.cells #[.slice At' ts.length ct'] 46 (0, 0)), Chunk.row Kd.string 9 w0.heap.size St' (.slice At' ts.length ct') ts, Chunk.blk pl (.cells #[.slice Al' ls.length cl'] 44 (0, 0)), Chunk.row (Kd.int .i64) 3 w0.heap.size Sl' (.slice Al' ls.length cl') ls]) (L := []) h_).sel [0] (by decide))))) hcap (by first | exact hbx | assumption) HO67) ?_
        rintro e61 w62 (⟨n52, k53, A54, c55, hg56, rfl, hC57, hc58, hb63⟩ | ⟨hg56, rfl, hb63⟩)
        rotate_left
        · skip
          refine .inr ⟨_, rfl, ?_⟩
          have HO68 : Own w0 w62 [R, Chunk.blk pc (.cells #[.slice Ac calls.length cc] 44 (0, 0)), Chunk.blk pn (.cells #[.slice An' ns.length cn'] 45 (0, 0)), Chunk.row (Kd.int .i64) 2 w0.heap.size Sn' (.slice An' ns.length cn') ns, Chunk.blk pt (.cells #[.slice At' ts.length ct'] 46 (0, 0)), Chunk.row Kd.string 9 w0.heap.size St' (.slice At' ts.length ct') ts, Chunk.blk pl (.cells #[.slice Al' ls.length cl'] 44 (0, 0)), Chunk.row (Kd.int .i64) 3 w0.heap.size Sl' (.slice Al' ls.length cl') ls] := Own.unbundle (A := [R, Chunk.blk pc (.cells #[.slice Ac calls.length cc] 44 (0, 0)), Chunk.blk pn (.cells #[.slice An' ns.length cn'] 45 (0, 0)), Chunk.row (Kd.int .i64) 2 w0.heap.size Sn' (.slice An' ns.length cn') ns, Chunk.blk pt (.cells #[.slice At' ts.length ct'] 46 (0, 0)), Chunk.row Kd.string 9 w0.heap.size St' (.slice At' ts.length ct') ts, Chunk.blk pl (.cells #[.slice Al' ls.length cl'] 44 (0, 0)), Chunk.row (Kd.int .i64) 3 w0.heap.size Sl' (.slice Al' ls.length cl') ls]) (L := []) hb63
          refine gw_pap ?_
          refine gw_blp ?_
          refine gw_thp ?_
          refine gw_blp ?_
          refine gw_thp ?_
          refine gw_thp ?_
          refine gw_blp ?_
          refine gw_pan HF51 ?_
          exact .inr ⟨i.toNat, ⟨xs', ns, ts, ls⟩, _, _, _, _, _, _, _, _, _, by (first | omega | (simp only [List.length_append, List.length_cons, List.length_nil] at *; omega)), hrun, rs_num_no (by assumption) hg56, rfl, HO68.sel [0, 1, 2, 3, 4, 5, 6, 7] (by decide)⟩
        refine .inl ⟨_, rfl, fun a64 HF65 => ?_⟩
        have HO66 : Own w0 w62 [R, Chunk.blk pc (.cells #[.slice Ac calls.length cc] 44 (0, 0)), Chunk.blk pn (.cells #[.slice An' ns.length cn'] 45 (0, 0)), Chunk.row (Kd.int .i64) 2 w0.heap.size Sn' (.slice An' ns.length cn') ns, Chunk.blk pt (.cells #[.slice At' ts.length ct'] 46 (0, 0)), Chunk.row Kd.string 9 w0.heap.size St' (.slice At' ts.length ct') ts, Chunk.blk pl (.cells #[.slice Al' ls.length cl'] 44 (0, 0)), Chunk.row (Kd.int .i64) 3 w0.heap.size Sl' (.slice Al' ls.length cl') ls, Chunk.blk g (.cells #[.slice A54 ((xs'.drop k53).length) c55] 80 (0, 0))] := Own.unbundle (A := [R, Chunk.blk pc (.cells #[.slice Ac calls.length cc] 44 (0, 0)), Chunk.blk pn (.cells #[.slice An' ns.length cn'] 45 (0, 0)), Chunk.row (Kd.int .i64) 2 w0.heap.size Sn' (.slice An' ns.length cn') ns, Chunk.blk pt (.cells #[.slice At' ts.length ct'] 46 (0, 0)), Chunk.row Kd.string 9 w0.heap.size St' (.slice At' ts.length ct') ts, Chunk.blk pl (.cells #[.slice Al' ls.length cl'] 44 (0, 0)), Chunk.row (Kd.int .i64) 3 w0.heap.size Sl' (.slice Al' ls.length cl') ls]) (L := [Chunk.blk g (.cells #[.slice A54 ((xs'.drop k53).length) c55] 80 (0, 0))]) (hb63.sel [0, 1] (by decide))
        clear HO67
        clear HF51 HO47 hb63
        have HO70 : Own w0 w62 [R, Chunk.blk pc (.cells #[.slice Ac calls.length cc] 44 (0, 0)), Chunk.blk pn (.cells #[.slice An' ns.length cn'] 45 (0, 0)), Chunk.row (Kd.int .i64) 2 w0.heap.size Sn' (.slice An' ns.length cn') ns, Chunk.blk pt (.cells #[.slice At' ts.length ct'] 46 (0, 0)), Chunk.row Kd.string 9 w0.heap.size St' (.slice At' ts.length ct') ts, Chunk.blk pl (.cells #[.slice Al' ls.length cl'] 44 (0, 0)), Chunk.row (Kd.int .i64) 3 w0.heap.size Sl' (.slice Al' ls.length cl') ls, Chunk.blk g (.cells #[.slice A54 ((xs'.drop k53).length) c55] 80 (0, 0))] := HO66
        clear HO66
        have hgs60 := gnum_some hg56
        refine gp_on (i := 2) (B := (fun j_ => j_ == 5)) (M := [Chunk.blk pn (.cells #[.slice An' ns.length cn'] 45 (0, 0))]) (fun _ => (by exact HO70.sel [2] (by decide))) ?_
        refine gp_step 3 rfl (by kernel_rfl) ?_
        refine gw_lit (enc := Value.int .i64) (fun _ => rfl) (xs := [n52]) (e := 2) HF65 HO70 (want_none rfl) rfl (by decide) (op_bslice (by kernel_rfl) rfl (pt_cons (HF65.ev rfl) pt_nil)) (by simp) ?_
        intro A71 S72 a73 w74 HF75 HO76; clear HF65 HO70
        have HO77 : Own w0 w74 [Chunk.row (Kd.int .i64) 2 w0.heap.size S72 (.slice A71 (([n52]).length) (([n52]).length)) ([n52]), R, Chunk.blk pc (.cells #[.slice Ac calls.length cc] 44 (0, 0)), Chunk.blk pn (.cells #[.slice An' ns.length cn'] 45 (0, 0)), Chunk.row (Kd.int .i64) 2 w0.heap.size Sn' (.slice An' ns.length cn') ns, Chunk.blk pt (.cells #[.slice At' ts.length ct'] 46 (0, 0)), Chunk.row Kd.string 9 w0.heap.size St' (.slice At' ts.length ct') ts, Chunk.blk pl (.cells #[.slice Al' ls.length cl'] 44 (0, 0)), Chunk.row (Kd.int .i64) 3 w0.heap.size Sl' (.slice Al' ls.length cl') ls, Chunk.blk g (.cells #[.slice A54 ((xs'.drop k53).length) c55] 80 (0, 0))] := HO76
        clear HO76
        refine gp_on (i := 3) (B := (fun j_ => j_ == 5)) (M := [Chunk.blk pn (.cells #[.slice An' ns.length cn'] 45 (0, 0))]) (fun _ => (by exact HO77.sel [3] (by decide))) ?_
        refine gp_step 4 rfl (by kernel_rfl) ?_
        refine gw_append (Kd.int .i64) 4 HF75 HO77 (want_none rfl) rfl (by decide) rfl Try.underlying45 gwinfo2 rfl (by decide) (by decide) rfl (HF75.ev rfl) (HF75.ev rfl) (Kd.R_reads' (HO77.get 0 rfl)).2.2 (fun _ _ h => h) HO77.below.size (by (first | omega | (simp only [List.length_append, List.length_cons, List.length_nil] at *; omega))) ?_
        intro A78 c79 S80 a81 w82 HF83 HO84; clear HF75 HO77
        have HO85 : Own w0 w82 [Chunk.row (Kd.int .i64) 2 w0.heap.size S72 (.slice A71 (([n52]).length) (([n52]).length)) ([n52]), R, Chunk.blk pc (.cells #[.slice Ac calls.length cc] 44 (0, 0)), Chunk.blk pn (.cells #[.slice An' ns.length cn'] 45 (0, 0)), Chunk.row (Kd.int .i64) 2 w0.heap.size S80 (.slice A78 ((ns ++ [n52]).length) c79) (ns ++ [n52]), Chunk.blk pt (.cells #[.slice At' ts.length ct'] 46 (0, 0)), Chunk.row Kd.string 9 w0.heap.size St' (.slice At' ts.length ct') ts, Chunk.blk pl (.cells #[.slice Al' ls.length cl'] 44 (0, 0)), Chunk.row (Kd.int .i64) 3 w0.heap.size Sl' (.slice Al' ls.length cl') ls, Chunk.blk g (.cells #[.slice A54 ((xs'.drop k53).length) c55] 80 (0, 0))] := HO84
        clear HO84
        refine gp_on (i := 4) (B := (fun j_ => j_ == 5)) (M := [Chunk.blk pn (.cells #[.slice An' ns.length cn'] 45 (0, 0))]) (fun _ => (by exact HO85.sel [3] (by decide))) ?_
        refine gp_step 5 rfl (by kernel_rfl) ?_
        refine gw_set 3 HF83 HO85 rfl (want_none rfl) rfl (op_store1 gwsiz45 rfl (HF83.ev rfl) (HF83.ev rfl) rfl (blk_at (HO85.get 3 rfl) rfl) (blkf (HO85.get 3 rfl))) ?_
        intro a86 w88 HF87 HO89; clear HF83 HO85
        have HO90 : Own w0 w88 [Chunk.row (Kd.int .i64) 2 w0.heap.size S72 (.slice A71 (([n52]).length) (([n52]).length)) ([n52]), R, Chunk.blk pc (.cells #[.slice Ac calls.length cc] 44 (0, 0)), Chunk.blk pn (.cells #[.slice A78 ((ns ++ [n52]).length) c79] 45 (0, 0)), Chunk.row (Kd.int .i64) 2 w0.heap.size S80 (.slice A78 ((ns ++ [n52]).length) c79) (ns ++ [n52]), Chunk.blk pt (.cells #[.slice At' ts.length ct'] 46 (0, 0)), Chunk.row Kd.string 9 w0.heap.size St' (.slice At' ts.length ct') ts, Chunk.blk pl (.cells #[.slice Al' ls.length cl'] 44 (0, 0)), Chunk.row (Kd.int .i64) 3 w0.heap.size Sl' (.slice Al' ls.length cl') ls, Chunk.blk g (.cells #[.slice A54 ((xs'.drop k53).length) c55] 80 (0, 0))] := HO89
        clear HO89
        refine gp_on (i := 5) (B := (fun j_ => j_ == 5)) (M := [Chunk.blk pn (.cells #[.slice An' ns.length cn'] 45 (0, 0))]) (fun h_ => by cases h_) ?_
        refine gp_done (by kernel_rfl) ?_
        refine gw_blk ?_
        refine gw_nx (hK35 _ _ ?_)
        refine gp_draw (M := [Chunk.blk pl (.cells #[.slice Al' ls.length cl'] 44 (0, 0))]) (fun j_ => j_ == 5) HO90 (by kernel_rfl) fun w91 HO92 => ?_
        clear HO90
        refine gp_take (by repeat (first | exact bl_body | exact bl_bodyD | refine bl_then ?_ | refine bl_blk ?_)) 0 rfl (by kernel_rfl) HF87 (by exact HO92.sel [7] (by decide)) (want_none rfl) rfl (by decide) (fun wq HO => (op_load1 gwagg44 rfl (HF87.ev rfl) (blk_at (HO.get 0 rfl) rfl))) ?_
        intro a93 HF94; clear HF87
        refine gp_take (by repeat (first | exact bl_body | exact bl_bodyD | refine bl_then ?_ | refine bl_blk ?_)) 1 rfl (by kernel_rfl) HF94 (by exact HO92.sel [7] (by decide)) (want_none rfl) rfl (by decide) (fun wq HO => (op_move rfl (HF94.ev rfl))) ?_
        intro a95 HF96; clear HF94
        refine gp_step 2 rfl (by kernel_rfl) ?_
        refine gw_call HF96 (want_none rfl) rfl (by decide) (op_callL Try.func38 (by kernel_rfl) rfl rfl (ar_cons (HF96.ev rfl) ar_nil)) (GRead_.left_calls g A54 ((xs'.drop k53).length) c55 _ (HO92.get 9 rfl)) ?_
        rintro e97 w98 ⟨rfl, hb99⟩
        refine ⟨_, rfl, fun a100 HF101 => ?_⟩
        have HO102 := HO92.after hb99
        clear HF96 HO92 hb99
        refine gp_on (i := 2) (B := (fun j_ => j_ == 5)) (M := [Chunk.blk pl (.cells #[.slice Al' ls.length cl'] 44 (0, 0))]) (fun _ => (by exact HO102.sel [7] (by decide))) ?_
        refine gp_step 3 rfl (by kernel_rfl) ?_
        refine gw_lit (enc := Value.int .i64) (fun _ => rfl) (xs := [(((xs'.drop k53).length) : Int)]) (e := 3) HF101 HO102 (want_none rfl) rfl (by decide) (op_bslice (by kernel_rfl) rfl (pt_cons (HF101.ev rfl) pt_nil)) (by simp) ?_
        intro A104 S105 a106 w107 HF108 HO109; clear HF101 HO102
        have HO110 : Own w0 w107 [Chunk.row (Kd.int .i64) 3 w0.heap.size S105 (.slice A104 (([(((xs'.drop k53).length) : Int)]).length) (([(((xs'.drop k53).length) : Int)]).length)) ([(((xs'.drop k53).length) : Int)]), Chunk.row (Kd.int .i64) 2 w0.heap.size S72 (.slice A71 (([n52]).length) (([n52]).length)) ([n52]), R, Chunk.blk pc (.cells #[.slice Ac calls.length cc] 44 (0, 0)), Chunk.blk pn (.cells #[.slice A78 ((ns ++ [n52]).length) c79] 45 (0, 0)), Chunk.row (Kd.int .i64) 2 w0.heap.size S80 (.slice A78 ((ns ++ [n52]).length) c79) (ns ++ [n52]), Chunk.blk pt (.cells #[.slice At' ts.length ct'] 46 (0, 0)), Chunk.row Kd.string 9 w0.heap.size St' (.slice At' ts.length ct') ts, Chunk.blk pl (.cells #[.slice Al' ls.length cl'] 44 (0, 0)), Chunk.row (Kd.int .i64) 3 w0.heap.size Sl' (.slice Al' ls.length cl') ls, Chunk.blk g (.cells #[.slice A54 ((xs'.drop k53).length) c55] 80 (0, 0))] := HO109
        clear HO109
        refine gp_on (i := 3) (B := (fun j_ => j_ == 5)) (M := [Chunk.blk pl (.cells #[.slice Al' ls.length cl'] 44 (0, 0))]) (fun _ => (by exact HO110.sel [8] (by decide))) ?_
        refine gp_step 4 rfl (by kernel_rfl) ?_
        refine gw_append (Kd.int .i64) 9 HF108 HO110 (want_none rfl) rfl (by decide) rfl Try.underlying44 gwinfo3 rfl (by decide) (by decide) rfl (HF108.ev rfl) (HF108.ev rfl) (Kd.R_reads' (HO110.get 0 rfl)).2.2 (fun _ _ h => h) HO110.below.size (by (first | omega | (simp only [List.length_append, List.length_cons, List.length_nil] at *; omega))) ?_
        intro A111 c112 S113 a114 w115 HF116 HO117; clear HF108 HO110
        have HO118 : Own w0 w115 [Chunk.row (Kd.int .i64) 3 w0.heap.size S105 (.slice A104 (([(((xs'.drop k53).length) : Int)]).length) (([(((xs'.drop k53).length) : Int)]).length)) ([(((xs'.drop k53).length) : Int)]), Chunk.row (Kd.int .i64) 2 w0.heap.size S72 (.slice A71 (([n52]).length) (([n52]).length)) ([n52]), R, Chunk.blk pc (.cells #[.slice Ac calls.length cc] 44 (0, 0)), Chunk.blk pn (.cells #[.slice A78 ((ns ++ [n52]).length) c79] 45 (0, 0)), Chunk.row (Kd.int .i64) 2 w0.heap.size S80 (.slice A78 ((ns ++ [n52]).length) c79) (ns ++ [n52]), Chunk.blk pt (.cells #[.slice At' ts.length ct'] 46 (0, 0)), Chunk.row Kd.string 9 w0.heap.size St' (.slice At' ts.length ct') ts, Chunk.blk pl (.cells #[.slice Al' ls.length cl'] 44 (0, 0)), Chunk.row (Kd.int .i64) 3 w0.heap.size S113 (.slice A111 ((ls ++ [(((xs'.drop k53).length) : Int)]).length) c112) (ls ++ [(((xs'.drop k53).length) : Int)]), Chunk.blk g (.cells #[.slice A54 ((xs'.drop k53).length) c55] 80 (0, 0))] := HO117
        clear HO117
        refine gp_on (i := 4) (B := (fun j_ => j_ == 5)) (M := [Chunk.blk pl (.cells #[.slice Al' ls.length cl'] 44 (0, 0))]) (fun _ => (by exact HO118.sel [8] (by decide))) ?_
        refine gp_step 5 rfl (by kernel_rfl) ?_
        refine gw_set 8 HF116 HO118 rfl (want_none rfl) rfl (op_store1 gwsiz44 rfl (HF116.ev rfl) (HF116.ev rfl) rfl (blk_at (HO118.get 8 rfl) rfl) (blkf (HO118.get 8 rfl))) ?_
        intro a119 w121 HF120 HO122; clear HF116 HO118
        have HO123 : Own w0 w121 [Chunk.row (Kd.int .i64) 3 w0.heap.size S105 (.slice A104 (([(((xs'.drop k53).length) : Int)]).length) (([(((xs'.drop k53).length) : Int)]).length)) ([(((xs'.drop k53).length) : Int)]), Chunk.row (Kd.int .i64) 2 w0.heap.size S72 (.slice A71 (([n52]).length) (([n52]).length)) ([n52]), R, Chunk.blk pc (.cells #[.slice Ac calls.length cc] 44 (0, 0)), Chunk.blk pn (.cells #[.slice A78 ((ns ++ [n52]).length) c79] 45 (0, 0)), Chunk.row (Kd.int .i64) 2 w0.heap.size S80 (.slice A78 ((ns ++ [n52]).length) c79) (ns ++ [n52]), Chunk.blk pt (.cells #[.slice At' ts.length ct'] 46 (0, 0)), Chunk.row Kd.string 9 w0.heap.size St' (.slice At' ts.length ct') ts, Chunk.blk pl (.cells #[.slice A111 ((ls ++ [(((xs'.drop k53).length) : Int)]).length) c112] 44 (0, 0)), Chunk.row (Kd.int .i64) 3 w0.heap.size S113 (.slice A111 ((ls ++ [(((xs'.drop k53).length) : Int)]).length) c112) (ls ++ [(((xs'.drop k53).length) : Int)]), Chunk.blk g (.cells #[.slice A54 ((xs'.drop k53).length) c55] 80 (0, 0))] := HO122
        clear HO122
        refine gp_on (i := 5) (B := (fun j_ => j_ == 5)) (M := [Chunk.blk pl (.cells #[.slice Al' ls.length cl'] 44 (0, 0))]) (fun h_ => by cases h_) ?_
        refine gp_done (by kernel_rfl) ?_
        refine gw_blk ?_
        refine gw_nx (hK21 _ _ ?_)
        refine wp_region_lit ?_
        refine gw_ev HF120 (want_none rfl) rfl (by decide) (op_add rfl (HF120.ev rfl) (ev_c _ _) (by (first | omega | (simp only [List.length_append, List.length_cons, List.length_nil] at *; omega)))) ?_
        intro a124 HF125; clear HF120
        refine gw_ev HF125 (want_none rfl) rfl (by decide) (op_move rfl (HF125.ev rfl)) ?_
        intro a126 HF127; clear HF125
        refine wpList_nil ?_
        refine gw_nx ⟨_, ?_, i + 1, (xs'.drop k53), (ns ++ [n52]), ts, (ls ++ [(((xs'.drop k53).length) : Int)]), A54, c55, A78, c79, _, At', ct', _, A111, c112, _, (HF127.pick (t := 10) rfl (HF127.pick (t := 0) rfl (HF127.pick (t := 2) rfl (HF127.pick (t := 3) rfl (HF127.pick (t := 4) rfl (HF127.pick (t := 8) rfl (HF127.pick (t := 9) rfl HF127.nil))))))), HO123.sel [2, 10, 3, 4, 5, 6, 7, 8, 9] (by decide), ?_, ?_, ?_, ?_, ?_, ?_, rfl⟩
        · rw [hm14]; (first | omega | (simp only [List.length_append, List.length_cons, List.length_nil] at *; omega))
        · (first | omega | (simp only [List.length_append, List.length_cons, List.length_nil] at *; omega))
        · rw [rrun_succ hi.1 hrun]; exact rs_num (by assumption) hg56
        · intro W h; exact hC57 W (hC W h)
        · exact hc58
        · first | exact hbx | exact hbx.drop _
        · simp only [List.length_append, List.length_cons, List.length_nil]; (first | omega | (simp only [List.length_append, List.length_cons, List.length_nil] at *; omega))
      · skip
        have HF128 := HF43.subst_ (d := 15) (b := false) rfl hb44
        clear HF43
        (try simp only [Bool.and_eq_true, Bool.or_eq_true, Bool.and_eq_false_iff, Bool.or_eq_false_iff, Bool.not_and, Bool.not_or, Bool.not_not, decide_eq_true_eq, decide_eq_false_iff_not, Bool.not_eq_true', Bool.not_eq_false', Bool.not_eq_true, Bool.not_eq_false, ne_eq, Decidable.not_not, Int.not_lt, Int.not_le, not_true_eq_false, not_false_eq_true, bne_iff_ne, beq_iff_eq, bne_eq_false_iff_eq, beq_eq_false_iff_ne] at hb44)
        refine gw_seq fun K129 hK129 => ?_
        refine wp_region_lit ?_
        refine gw_ev HF128 (want_none rfl) rfl (by decide) (op_eqi rfl (HF128.ev rfl) (ev_c _ _)) ?_
        intro a130 HF131; clear HF128
        refine gw_ev HF131 (want_none rfl) rfl (by decide) (op_assign rfl (HF131.ev rfl)) ?_
        intro a132 HF133; clear HF131
        refine wpList_nil ?_
        refine gw_nx (hK129 _ _ ?_)
        refine gw_cond HF133 rfl (fun hb134 => ?_) (fun hb134 => ?_)
        · skip
          have HF135 := HF133.subst_ (d := 22) (b := true) rfl hb134
          clear HF133
          (try simp only [Bool.and_eq_true, Bool.or_eq_true, Bool.and_eq_false_iff, Bool.or_eq_false_iff, Bool.not_and, Bool.not_or, Bool.not_not, decide_eq_true_eq, decide_eq_false_iff_not, Bool.not_eq_true', Bool.not_eq_false', Bool.not_eq_true, Bool.not_eq_false, ne_eq, Decidable.not_not, Int.not_lt, Int.not_le, not_true_eq_false, not_false_eq_true, bne_iff_ne, beq_iff_eq, bne_eq_false_iff_eq, beq_eq_false_iff_ne] at hb134)
          refine gp_draw (M := [Chunk.blk pn (.cells #[.slice An' ns.length cn'] 45 (0, 0))]) (fun j_ => j_ == 5) HO13 (by kernel_rfl) fun w136 HO137 => ?_
          clear HO13
          refine gp_take (by repeat (first | exact bl_body | exact bl_bodyD | refine bl_then ?_ | refine bl_blk ?_)) 0 rfl (by kernel_rfl) HF135 (by exact HO137.sel [3] (by decide)) (want_none rfl) rfl (by decide) (fun wq HO => (op_load1 gwagg45 rfl (HF135.ev rfl) (blk_at (HO.get 0 rfl) rfl))) ?_
          intro a138 HF139; clear HF135
          refine gp_take (by repeat (first | exact bl_body | exact bl_bodyD | refine bl_then ?_ | refine bl_blk ?_)) 1 rfl (by kernel_rfl) HF139 (by exact HO137.sel [3] (by decide)) (want_none rfl) rfl (by decide) (fun wq HO => (op_move rfl (HF139.ev rfl))) ?_
          intro a140 HF141; clear HF139
          refine gp_step 2 rfl (by kernel_rfl) ?_
          have HO157 : Own w0 _ [(Chunk.all [R, Chunk.blk pc (.cells #[.slice Ac calls.length cc] 44 (0, 0)), Chunk.blk pn (.cells #[.slice An' ns.length cn'] 45 (0, 0)), Chunk.row (Kd.int .i64) 2 w0.heap.size Sn' (.slice An' ns.length cn') ns, Chunk.blk pt (.cells #[.slice At' ts.length ct'] 46 (0, 0)), Chunk.row Kd.string 9 w0.heap.size St' (.slice At' ts.length ct') ts, Chunk.blk pl (.cells #[.slice Al' ls.length cl'] 44 (0, 0)), Chunk.row (Kd.int .i64) 3 w0.heap.size Sl' (.slice Al' ls.length cl') ls]), Chunk.blk g (.cells #[.slice A' xs'.length c'] 80 (0, 0))] := Own.bundle (A := [R, Chunk.blk pc (.cells #[.slice Ac calls.length cc] 44 (0, 0)), Chunk.blk pn (.cells #[.slice An' ns.length cn'] 45 (0, 0)), Chunk.row (Kd.int .i64) 2 w0.heap.size Sn' (.slice An' ns.length cn') ns, Chunk.blk pt (.cells #[.slice At' ts.length ct'] 46 (0, 0)), Chunk.row Kd.string 9 w0.heap.size St' (.slice At' ts.length ct') ts, Chunk.blk pl (.cells #[.slice Al' ls.length cl'] 44 (0, 0)), Chunk.row (Kd.int .i64) 3 w0.heap.size Sl' (.slice Al' ls.length cl') ls]) (L := [Chunk.blk g (.cells #[.slice A' xs'.length c'] 80 (0, 0))]) (HO137.sel [0, 2, 3, 4, 5, 6, 7, 8, 1] (by decide))
          refine gw_callP HF141 (want_none rfl) rfl (by decide) (op_callL Try.func36 (by kernel_rfl) rfl rfl (ar_cons (HF141.ev rfl) (ar_cons (ev_c _ _) ar_nil))) (GRead_.int_calls w0 _ (Chunk.all [R, Chunk.blk pc (.cells #[.slice Ac calls.length cc] 44 (0, 0)), Chunk.blk pn (.cells #[.slice An' ns.length cn'] 45 (0, 0)), Chunk.row (Kd.int .i64) 2 w0.heap.size Sn' (.slice An' ns.length cn') ns, Chunk.blk pt (.cells #[.slice At' ts.length ct'] 46 (0, 0)), Chunk.row Kd.string 9 w0.heap.size St' (.slice At' ts.length ct') ts, Chunk.blk pl (.cells #[.slice Al' ls.length cl'] 44 (0, 0)), Chunk.row (Kd.int .i64) 3 w0.heap.size Sl' (.slice Al' ls.length cl') ls]) g A' c' xs' (fun w_ h_ => (hC _ (hx _ ((Own.unbundle (A := [R, Chunk.blk pc (.cells #[.slice Ac calls.length cc] 44 (0, 0)), Chunk.blk pn (.cells #[.slice An' ns.length cn'] 45 (0, 0)), Chunk.row (Kd.int .i64) 2 w0.heap.size Sn' (.slice An' ns.length cn') ns, Chunk.blk pt (.cells #[.slice At' ts.length ct'] 46 (0, 0)), Chunk.row Kd.string 9 w0.heap.size St' (.slice At' ts.length ct') ts, Chunk.blk pl (.cells #[.slice Al' ls.length cl'] 44 (0, 0)), Chunk.row (Kd.int .i64) 3 w0.heap.size Sl' (.slice Al' ls.length cl') ls]) (L := []) h_).sel [0] (by decide))))) hcap (by first | exact hbx | assumption) 1000 HO157) ?_
          rintro e151 w152 (⟨n142, k143, A144, c145, hg146, hl149, rfl, hC147, hc148, hb153⟩ | ⟨hg146, rfl, hb153⟩)
          rotate_left
          · skip
            refine .inr ⟨_, rfl, ?_⟩
            have HO158 : Own w0 w152 [R, Chunk.blk pc (.cells #[.slice Ac calls.length cc] 44 (0, 0)), Chunk.blk pn (.cells #[.slice An' ns.length cn'] 45 (0, 0)), Chunk.row (Kd.int .i64) 2 w0.heap.size Sn' (.slice An' ns.length cn') ns, Chunk.blk pt (.cells #[.slice At' ts.length ct'] 46 (0, 0)), Chunk.row Kd.string 9 w0.heap.size St' (.slice At' ts.length ct') ts, Chunk.blk pl (.cells #[.slice Al' ls.length cl'] 44 (0, 0)), Chunk.row (Kd.int .i64) 3 w0.heap.size Sl' (.slice Al' ls.length cl') ls] := Own.unbundle (A := [R, Chunk.blk pc (.cells #[.slice Ac calls.length cc] 44 (0, 0)), Chunk.blk pn (.cells #[.slice An' ns.length cn'] 45 (0, 0)), Chunk.row (Kd.int .i64) 2 w0.heap.size Sn' (.slice An' ns.length cn') ns, Chunk.blk pt (.cells #[.slice At' ts.length ct'] 46 (0, 0)), Chunk.row Kd.string 9 w0.heap.size St' (.slice At' ts.length ct') ts, Chunk.blk pl (.cells #[.slice Al' ls.length cl'] 44 (0, 0)), Chunk.row (Kd.int .i64) 3 w0.heap.size Sl' (.slice Al' ls.length cl') ls]) (L := []) hb153
            refine gw_pap ?_
            refine gw_blp ?_
            refine gw_thp ?_
            refine gw_blp ?_
            refine gw_thp ?_
            refine gw_thp ?_
            refine gw_blp ?_
            refine gw_pan HF141 ?_
            exact .inr ⟨i.toNat, ⟨xs', ns, ts, ls⟩, _, _, _, _, _, _, _, _, _, by (first | omega | (simp only [List.length_append, List.length_cons, List.length_nil] at *; omega)), hrun, rs_int_no (by assumption) hg146, rfl, HO158.sel [0, 1, 2, 3, 4, 5, 6, 7] (by decide)⟩
          refine .inl ⟨_, rfl, fun a154 HF155 => ?_⟩
          have HO156 : Own w0 w152 [R, Chunk.blk pc (.cells #[.slice Ac calls.length cc] 44 (0, 0)), Chunk.blk pn (.cells #[.slice An' ns.length cn'] 45 (0, 0)), Chunk.row (Kd.int .i64) 2 w0.heap.size Sn' (.slice An' ns.length cn') ns, Chunk.blk pt (.cells #[.slice At' ts.length ct'] 46 (0, 0)), Chunk.row Kd.string 9 w0.heap.size St' (.slice At' ts.length ct') ts, Chunk.blk pl (.cells #[.slice Al' ls.length cl'] 44 (0, 0)), Chunk.row (Kd.int .i64) 3 w0.heap.size Sl' (.slice Al' ls.length cl') ls, Chunk.blk g (.cells #[.slice A144 ((xs'.drop k143).length) c145] 80 (0, 0))] := Own.unbundle (A := [R, Chunk.blk pc (.cells #[.slice Ac calls.length cc] 44 (0, 0)), Chunk.blk pn (.cells #[.slice An' ns.length cn'] 45 (0, 0)), Chunk.row (Kd.int .i64) 2 w0.heap.size Sn' (.slice An' ns.length cn') ns, Chunk.blk pt (.cells #[.slice At' ts.length ct'] 46 (0, 0)), Chunk.row Kd.string 9 w0.heap.size St' (.slice At' ts.length ct') ts, Chunk.blk pl (.cells #[.slice Al' ls.length cl'] 44 (0, 0)), Chunk.row (Kd.int .i64) 3 w0.heap.size Sl' (.slice Al' ls.length cl') ls]) (L := [Chunk.blk g (.cells #[.slice A144 ((xs'.drop k143).length) c145] 80 (0, 0))]) (hb153.sel [0, 1] (by decide))
          clear HO157
          clear HF141 HO137 hb153
          have HO160 : Own w0 w152 [R, Chunk.blk pc (.cells #[.slice Ac calls.length cc] 44 (0, 0)), Chunk.blk pn (.cells #[.slice An' ns.length cn'] 45 (0, 0)), Chunk.row (Kd.int .i64) 2 w0.heap.size Sn' (.slice An' ns.length cn') ns, Chunk.blk pt (.cells #[.slice At' ts.length ct'] 46 (0, 0)), Chunk.row Kd.string 9 w0.heap.size St' (.slice At' ts.length ct') ts, Chunk.blk pl (.cells #[.slice Al' ls.length cl'] 44 (0, 0)), Chunk.row (Kd.int .i64) 3 w0.heap.size Sl' (.slice Al' ls.length cl') ls, Chunk.blk g (.cells #[.slice A144 ((xs'.drop k143).length) c145] 80 (0, 0))] := HO156
          clear HO156
          have hgs150 := gnum_some hg146
          refine gp_on (i := 2) (B := (fun j_ => j_ == 5)) (M := [Chunk.blk pn (.cells #[.slice An' ns.length cn'] 45 (0, 0))]) (fun _ => (by exact HO160.sel [2] (by decide))) ?_
          refine gp_step 3 rfl (by kernel_rfl) ?_
          refine gw_lit (enc := Value.int .i64) (fun _ => rfl) (xs := [n142]) (e := 2) HF155 HO160 (want_none rfl) rfl (by decide) (op_bslice (by kernel_rfl) rfl (pt_cons (HF155.ev rfl) pt_nil)) (by simp) ?_
          intro A161 S162 a163 w164 HF165 HO166; clear HF155 HO160
          have HO167 : Own w0 w164 [Chunk.row (Kd.int .i64) 2 w0.heap.size S162 (.slice A161 (([n142]).length) (([n142]).length)) ([n142]), R, Chunk.blk pc (.cells #[.slice Ac calls.length cc] 44 (0, 0)), Chunk.blk pn (.cells #[.slice An' ns.length cn'] 45 (0, 0)), Chunk.row (Kd.int .i64) 2 w0.heap.size Sn' (.slice An' ns.length cn') ns, Chunk.blk pt (.cells #[.slice At' ts.length ct'] 46 (0, 0)), Chunk.row Kd.string 9 w0.heap.size St' (.slice At' ts.length ct') ts, Chunk.blk pl (.cells #[.slice Al' ls.length cl'] 44 (0, 0)), Chunk.row (Kd.int .i64) 3 w0.heap.size Sl' (.slice Al' ls.length cl') ls, Chunk.blk g (.cells #[.slice A144 ((xs'.drop k143).length) c145] 80 (0, 0))] := HO166
          clear HO166
          refine gp_on (i := 3) (B := (fun j_ => j_ == 5)) (M := [Chunk.blk pn (.cells #[.slice An' ns.length cn'] 45 (0, 0))]) (fun _ => (by exact HO167.sel [3] (by decide))) ?_
          refine gp_step 4 rfl (by kernel_rfl) ?_
          refine gw_append (Kd.int .i64) 4 HF165 HO167 (want_none rfl) rfl (by decide) rfl Try.underlying45 gwinfo2 rfl (by decide) (by decide) rfl (HF165.ev rfl) (HF165.ev rfl) (Kd.R_reads' (HO167.get 0 rfl)).2.2 (fun _ _ h => h) HO167.below.size (by (first | omega | (simp only [List.length_append, List.length_cons, List.length_nil] at *; omega))) ?_
          intro A168 c169 S170 a171 w172 HF173 HO174; clear HF165 HO167
          have HO175 : Own w0 w172 [Chunk.row (Kd.int .i64) 2 w0.heap.size S162 (.slice A161 (([n142]).length) (([n142]).length)) ([n142]), R, Chunk.blk pc (.cells #[.slice Ac calls.length cc] 44 (0, 0)), Chunk.blk pn (.cells #[.slice An' ns.length cn'] 45 (0, 0)), Chunk.row (Kd.int .i64) 2 w0.heap.size S170 (.slice A168 ((ns ++ [n142]).length) c169) (ns ++ [n142]), Chunk.blk pt (.cells #[.slice At' ts.length ct'] 46 (0, 0)), Chunk.row Kd.string 9 w0.heap.size St' (.slice At' ts.length ct') ts, Chunk.blk pl (.cells #[.slice Al' ls.length cl'] 44 (0, 0)), Chunk.row (Kd.int .i64) 3 w0.heap.size Sl' (.slice Al' ls.length cl') ls, Chunk.blk g (.cells #[.slice A144 ((xs'.drop k143).length) c145] 80 (0, 0))] := HO174
          clear HO174
          refine gp_on (i := 4) (B := (fun j_ => j_ == 5)) (M := [Chunk.blk pn (.cells #[.slice An' ns.length cn'] 45 (0, 0))]) (fun _ => (by exact HO175.sel [3] (by decide))) ?_
          refine gp_step 5 rfl (by kernel_rfl) ?_
          refine gw_set 3 HF173 HO175 rfl (want_none rfl) rfl (op_store1 gwsiz45 rfl (HF173.ev rfl) (HF173.ev rfl) rfl (blk_at (HO175.get 3 rfl) rfl) (blkf (HO175.get 3 rfl))) ?_
          intro a176 w178 HF177 HO179; clear HF173 HO175
          have HO180 : Own w0 w178 [Chunk.row (Kd.int .i64) 2 w0.heap.size S162 (.slice A161 (([n142]).length) (([n142]).length)) ([n142]), R, Chunk.blk pc (.cells #[.slice Ac calls.length cc] 44 (0, 0)), Chunk.blk pn (.cells #[.slice A168 ((ns ++ [n142]).length) c169] 45 (0, 0)), Chunk.row (Kd.int .i64) 2 w0.heap.size S170 (.slice A168 ((ns ++ [n142]).length) c169) (ns ++ [n142]), Chunk.blk pt (.cells #[.slice At' ts.length ct'] 46 (0, 0)), Chunk.row Kd.string 9 w0.heap.size St' (.slice At' ts.length ct') ts, Chunk.blk pl (.cells #[.slice Al' ls.length cl'] 44 (0, 0)), Chunk.row (Kd.int .i64) 3 w0.heap.size Sl' (.slice Al' ls.length cl') ls, Chunk.blk g (.cells #[.slice A144 ((xs'.drop k143).length) c145] 80 (0, 0))] := HO179
          clear HO179
          refine gp_on (i := 5) (B := (fun j_ => j_ == 5)) (M := [Chunk.blk pn (.cells #[.slice An' ns.length cn'] 45 (0, 0))]) (fun h_ => by cases h_) ?_
          refine gp_done (by kernel_rfl) ?_
          refine gw_blk ?_
          refine gw_nx (hK35 _ _ ?_)
          refine gp_draw (M := [Chunk.blk pl (.cells #[.slice Al' ls.length cl'] 44 (0, 0))]) (fun j_ => j_ == 5) HO180 (by kernel_rfl) fun w181 HO182 => ?_
          clear HO180
          refine gp_take (by repeat (first | exact bl_body | exact bl_bodyD | refine bl_then ?_ | refine bl_blk ?_)) 0 rfl (by kernel_rfl) HF177 (by exact HO182.sel [7] (by decide)) (want_none rfl) rfl (by decide) (fun wq HO => (op_load1 gwagg44 rfl (HF177.ev rfl) (blk_at (HO.get 0 rfl) rfl))) ?_
          intro a183 HF184; clear HF177
          refine gp_take (by repeat (first | exact bl_body | exact bl_bodyD | refine bl_then ?_ | refine bl_blk ?_)) 1 rfl (by kernel_rfl) HF184 (by exact HO182.sel [7] (by decide)) (want_none rfl) rfl (by decide) (fun wq HO => (op_move rfl (HF184.ev rfl))) ?_
          intro a185 HF186; clear HF184
          refine gp_step 2 rfl (by kernel_rfl) ?_
          refine gw_call HF186 (want_none rfl) rfl (by decide) (op_callL Try.func38 (by kernel_rfl) rfl rfl (ar_cons (HF186.ev rfl) ar_nil)) (GRead_.left_calls g A144 ((xs'.drop k143).length) c145 _ (HO182.get 9 rfl)) ?_
          rintro e187 w188 ⟨rfl, hb189⟩
          refine ⟨_, rfl, fun a190 HF191 => ?_⟩
          have HO192 := HO182.after hb189
          clear HF186 HO182 hb189
          refine gp_on (i := 2) (B := (fun j_ => j_ == 5)) (M := [Chunk.blk pl (.cells #[.slice Al' ls.length cl'] 44 (0, 0))]) (fun _ => (by exact HO192.sel [7] (by decide))) ?_
          refine gp_step 3 rfl (by kernel_rfl) ?_
          refine gw_lit (enc := Value.int .i64) (fun _ => rfl) (xs := [(((xs'.drop k143).length) : Int)]) (e := 3) HF191 HO192 (want_none rfl) rfl (by decide) (op_bslice (by kernel_rfl) rfl (pt_cons (HF191.ev rfl) pt_nil)) (by simp) ?_
          intro A194 S195 a196 w197 HF198 HO199; clear HF191 HO192
          have HO200 : Own w0 w197 [Chunk.row (Kd.int .i64) 3 w0.heap.size S195 (.slice A194 (([(((xs'.drop k143).length) : Int)]).length) (([(((xs'.drop k143).length) : Int)]).length)) ([(((xs'.drop k143).length) : Int)]), Chunk.row (Kd.int .i64) 2 w0.heap.size S162 (.slice A161 (([n142]).length) (([n142]).length)) ([n142]), R, Chunk.blk pc (.cells #[.slice Ac calls.length cc] 44 (0, 0)), Chunk.blk pn (.cells #[.slice A168 ((ns ++ [n142]).length) c169] 45 (0, 0)), Chunk.row (Kd.int .i64) 2 w0.heap.size S170 (.slice A168 ((ns ++ [n142]).length) c169) (ns ++ [n142]), Chunk.blk pt (.cells #[.slice At' ts.length ct'] 46 (0, 0)), Chunk.row Kd.string 9 w0.heap.size St' (.slice At' ts.length ct') ts, Chunk.blk pl (.cells #[.slice Al' ls.length cl'] 44 (0, 0)), Chunk.row (Kd.int .i64) 3 w0.heap.size Sl' (.slice Al' ls.length cl') ls, Chunk.blk g (.cells #[.slice A144 ((xs'.drop k143).length) c145] 80 (0, 0))] := HO199
          clear HO199
          refine gp_on (i := 3) (B := (fun j_ => j_ == 5)) (M := [Chunk.blk pl (.cells #[.slice Al' ls.length cl'] 44 (0, 0))]) (fun _ => (by exact HO200.sel [8] (by decide))) ?_
          refine gp_step 4 rfl (by kernel_rfl) ?_
          refine gw_append (Kd.int .i64) 9 HF198 HO200 (want_none rfl) rfl (by decide) rfl Try.underlying44 gwinfo3 rfl (by decide) (by decide) rfl (HF198.ev rfl) (HF198.ev rfl) (Kd.R_reads' (HO200.get 0 rfl)).2.2 (fun _ _ h => h) HO200.below.size (by (first | omega | (simp only [List.length_append, List.length_cons, List.length_nil] at *; omega))) ?_
          intro A201 c202 S203 a204 w205 HF206 HO207; clear HF198 HO200
          have HO208 : Own w0 w205 [Chunk.row (Kd.int .i64) 3 w0.heap.size S195 (.slice A194 (([(((xs'.drop k143).length) : Int)]).length) (([(((xs'.drop k143).length) : Int)]).length)) ([(((xs'.drop k143).length) : Int)]), Chunk.row (Kd.int .i64) 2 w0.heap.size S162 (.slice A161 (([n142]).length) (([n142]).length)) ([n142]), R, Chunk.blk pc (.cells #[.slice Ac calls.length cc] 44 (0, 0)), Chunk.blk pn (.cells #[.slice A168 ((ns ++ [n142]).length) c169] 45 (0, 0)), Chunk.row (Kd.int .i64) 2 w0.heap.size S170 (.slice A168 ((ns ++ [n142]).length) c169) (ns ++ [n142]), Chunk.blk pt (.cells #[.slice At' ts.length ct'] 46 (0, 0)), Chunk.row Kd.string 9 w0.heap.size St' (.slice At' ts.length ct') ts, Chunk.blk pl (.cells #[.slice Al' ls.length cl'] 44 (0, 0)), Chunk.row (Kd.int .i64) 3 w0.heap.size S203 (.slice A201 ((ls ++ [(((xs'.drop k143).length) : Int)]).length) c202) (ls ++ [(((xs'.drop k143).length) : Int)]), Chunk.blk g (.cells #[.slice A144 ((xs'.drop k143).length) c145] 80 (0, 0))] := HO207
          clear HO207
          refine gp_on (i := 4) (B := (fun j_ => j_ == 5)) (M := [Chunk.blk pl (.cells #[.slice Al' ls.length cl'] 44 (0, 0))]) (fun _ => (by exact HO208.sel [8] (by decide))) ?_
          refine gp_step 5 rfl (by kernel_rfl) ?_
          refine gw_set 8 HF206 HO208 rfl (want_none rfl) rfl (op_store1 gwsiz44 rfl (HF206.ev rfl) (HF206.ev rfl) rfl (blk_at (HO208.get 8 rfl) rfl) (blkf (HO208.get 8 rfl))) ?_
          intro a209 w211 HF210 HO212; clear HF206 HO208
          have HO213 : Own w0 w211 [Chunk.row (Kd.int .i64) 3 w0.heap.size S195 (.slice A194 (([(((xs'.drop k143).length) : Int)]).length) (([(((xs'.drop k143).length) : Int)]).length)) ([(((xs'.drop k143).length) : Int)]), Chunk.row (Kd.int .i64) 2 w0.heap.size S162 (.slice A161 (([n142]).length) (([n142]).length)) ([n142]), R, Chunk.blk pc (.cells #[.slice Ac calls.length cc] 44 (0, 0)), Chunk.blk pn (.cells #[.slice A168 ((ns ++ [n142]).length) c169] 45 (0, 0)), Chunk.row (Kd.int .i64) 2 w0.heap.size S170 (.slice A168 ((ns ++ [n142]).length) c169) (ns ++ [n142]), Chunk.blk pt (.cells #[.slice At' ts.length ct'] 46 (0, 0)), Chunk.row Kd.string 9 w0.heap.size St' (.slice At' ts.length ct') ts, Chunk.blk pl (.cells #[.slice A201 ((ls ++ [(((xs'.drop k143).length) : Int)]).length) c202] 44 (0, 0)), Chunk.row (Kd.int .i64) 3 w0.heap.size S203 (.slice A201 ((ls ++ [(((xs'.drop k143).length) : Int)]).length) c202) (ls ++ [(((xs'.drop k143).length) : Int)]), Chunk.blk g (.cells #[.slice A144 ((xs'.drop k143).length) c145] 80 (0, 0))] := HO212
          clear HO212
          refine gp_on (i := 5) (B := (fun j_ => j_ == 5)) (M := [Chunk.blk pl (.cells #[.slice Al' ls.length cl'] 44 (0, 0))]) (fun h_ => by cases h_) ?_
          refine gp_done (by kernel_rfl) ?_
          refine gw_blk ?_
          refine gw_nx (hK21 _ _ ?_)
          refine wp_region_lit ?_
          refine gw_ev HF210 (want_none rfl) rfl (by decide) (op_add rfl (HF210.ev rfl) (ev_c _ _) (by (first | omega | (simp only [List.length_append, List.length_cons, List.length_nil] at *; omega)))) ?_
          intro a214 HF215; clear HF210
          refine gw_ev HF215 (want_none rfl) rfl (by decide) (op_move rfl (HF215.ev rfl)) ?_
          intro a216 HF217; clear HF215
          refine wpList_nil ?_
          refine gw_nx ⟨_, ?_, i + 1, (xs'.drop k143), (ns ++ [n142]), ts, (ls ++ [(((xs'.drop k143).length) : Int)]), A144, c145, A168, c169, _, At', ct', _, A201, c202, _, (HF217.pick (t := 10) rfl (HF217.pick (t := 0) rfl (HF217.pick (t := 2) rfl (HF217.pick (t := 3) rfl (HF217.pick (t := 4) rfl (HF217.pick (t := 8) rfl (HF217.pick (t := 9) rfl HF217.nil))))))), HO213.sel [2, 10, 3, 4, 5, 6, 7, 8, 9] (by decide), ?_, ?_, ?_, ?_, ?_, ?_, rfl⟩
          · rw [hm14]; (first | omega | (simp only [List.length_append, List.length_cons, List.length_nil] at *; omega))
          · (first | omega | (simp only [List.length_append, List.length_cons, List.length_nil] at *; omega))
          · rw [rrun_succ hi.1 hrun]; exact rs_int (by assumption) hg146 (by (first | omega | (simp only [List.length_append, List.length_cons, List.length_nil] at *; omega)))
          · intro W h; exact hC147 W (hC W h)
          · exact hc148
          · first | exact hbx | exact hbx.drop _
          · simp only [List.length_append, List.length_cons, List.length_nil]; (first | omega | (simp only [List.length_append, List.length_cons, List.length_nil] at *; omega))
        · skip
          have HF218 := HF133.subst_ (d := 22) (b := false) rfl hb134
          clear HF133
          (try simp only [Bool.and_eq_true, Bool.or_eq_true, Bool.and_eq_false_iff, Bool.or_eq_false_iff, Bool.not_and, Bool.not_or, Bool.not_not, decide_eq_true_eq, decide_eq_false_iff_not, Bool.not_eq_true', Bool.not_eq_false', Bool.not_eq_true, Bool.not_eq_false, ne_eq, Decidable.not_not, Int.not_lt, Int.not_le, not_true_eq_false, not_false_eq_true, bne_iff_ne, beq_iff_eq, bne_eq_false_iff_eq, beq_eq_false_iff_ne] at hb134)
          refine gw_seq fun K219 hK219 => ?_
          refine wp_region_lit ?_
          refine gw_ev HF218 (want_none rfl) rfl (by decide) (op_eqi rfl (HF218.ev rfl) (ev_c _ _)) ?_
          intro a220 HF221; clear HF218
          refine gw_ev HF221 (want_none rfl) rfl (by decide) (op_assign rfl (HF221.ev rfl)) ?_
          intro a222 HF223; clear HF221
          refine wpList_nil ?_
          refine gw_nx (hK219 _ _ ?_)
          refine gw_cond HF223 rfl (fun hb224 => ?_) (fun hb224 => ?_)
          · skip
            have HF225 := HF223.subst_ (d := 29) (b := true) rfl hb224
            clear HF223
            (try simp only [Bool.and_eq_true, Bool.or_eq_true, Bool.and_eq_false_iff, Bool.or_eq_false_iff, Bool.not_and, Bool.not_or, Bool.not_not, decide_eq_true_eq, decide_eq_false_iff_not, Bool.not_eq_true', Bool.not_eq_false', Bool.not_eq_true, Bool.not_eq_false, ne_eq, Decidable.not_not, Int.not_lt, Int.not_le, not_true_eq_false, not_false_eq_true, bne_iff_ne, beq_iff_eq, bne_eq_false_iff_eq, beq_eq_false_iff_ne] at hb224)
            refine gp_draw (M := [Chunk.blk pt (.cells #[.slice At' ts.length ct'] 46 (0, 0))]) (fun j_ => j_ == 5) HO13 (by kernel_rfl) fun w226 HO227 => ?_
            clear HO13
            refine gp_take (by repeat (first | exact bl_body | exact bl_bodyD | refine bl_then ?_ | refine bl_blk ?_)) 0 rfl (by kernel_rfl) HF225 (by exact HO227.sel [5] (by decide)) (want_none rfl) rfl (by decide) (fun wq HO => (op_load1 gwagg46 rfl (HF225.ev rfl) (blk_at (HO.get 0 rfl) rfl))) ?_
            intro a228 HF229; clear HF225
            refine gp_take (by repeat (first | exact bl_body | exact bl_bodyD | refine bl_then ?_ | refine bl_blk ?_)) 1 rfl (by kernel_rfl) HF229 (by exact HO227.sel [5] (by decide)) (want_none rfl) rfl (by decide) (fun wq HO => (op_move rfl (HF229.ev rfl))) ?_
            intro a230 HF231; clear HF229
            refine gp_step 2 rfl (by kernel_rfl) ?_
            have HO247 : Own w0 _ [(Chunk.all [R, Chunk.blk pc (.cells #[.slice Ac calls.length cc] 44 (0, 0)), Chunk.blk pn (.cells #[.slice An' ns.length cn'] 45 (0, 0)), Chunk.row (Kd.int .i64) 2 w0.heap.size Sn' (.slice An' ns.length cn') ns, Chunk.blk pt (.cells #[.slice At' ts.length ct'] 46 (0, 0)), Chunk.row Kd.string 9 w0.heap.size St' (.slice At' ts.length ct') ts, Chunk.blk pl (.cells #[.slice Al' ls.length cl'] 44 (0, 0)), Chunk.row (Kd.int .i64) 3 w0.heap.size Sl' (.slice Al' ls.length cl') ls]), Chunk.blk g (.cells #[.slice A' xs'.length c'] 80 (0, 0))] := Own.bundle (A := [R, Chunk.blk pc (.cells #[.slice Ac calls.length cc] 44 (0, 0)), Chunk.blk pn (.cells #[.slice An' ns.length cn'] 45 (0, 0)), Chunk.row (Kd.int .i64) 2 w0.heap.size Sn' (.slice An' ns.length cn') ns, Chunk.blk pt (.cells #[.slice At' ts.length ct'] 46 (0, 0)), Chunk.row Kd.string 9 w0.heap.size St' (.slice At' ts.length ct') ts, Chunk.blk pl (.cells #[.slice Al' ls.length cl'] 44 (0, 0)), Chunk.row (Kd.int .i64) 3 w0.heap.size Sl' (.slice Al' ls.length cl') ls]) (L := [Chunk.blk g (.cells #[.slice A' xs'.length c'] 80 (0, 0))]) (HO227.sel [0, 2, 3, 4, 5, 6, 7, 8, 1] (by decide))
            refine gw_callP HF231 (want_none rfl) rfl (by decide) (op_callL Try.func37 (by kernel_rfl) rfl rfl (ar_cons (HF231.ev rfl) (ar_cons (ev_c _ _) ar_nil))) (GRead_.text_calls w0 _ (Chunk.all [R, Chunk.blk pc (.cells #[.slice Ac calls.length cc] 44 (0, 0)), Chunk.blk pn (.cells #[.slice An' ns.length cn'] 45 (0, 0)), Chunk.row (Kd.int .i64) 2 w0.heap.size Sn' (.slice An' ns.length cn') ns, Chunk.blk pt (.cells #[.slice At' ts.length ct'] 46 (0, 0)), Chunk.row Kd.string 9 w0.heap.size St' (.slice At' ts.length ct') ts, Chunk.blk pl (.cells #[.slice Al' ls.length cl'] 44 (0, 0)), Chunk.row (Kd.int .i64) 3 w0.heap.size Sl' (.slice Al' ls.length cl') ls]) g A' c' xs' (fun w_ h_ => (hC _ (hx _ ((Own.unbundle (A := [R, Chunk.blk pc (.cells #[.slice Ac calls.length cc] 44 (0, 0)), Chunk.blk pn (.cells #[.slice An' ns.length cn'] 45 (0, 0)), Chunk.row (Kd.int .i64) 2 w0.heap.size Sn' (.slice An' ns.length cn') ns, Chunk.blk pt (.cells #[.slice At' ts.length ct'] 46 (0, 0)), Chunk.row Kd.string 9 w0.heap.size St' (.slice At' ts.length ct') ts, Chunk.blk pl (.cells #[.slice Al' ls.length cl'] 44 (0, 0)), Chunk.row (Kd.int .i64) 3 w0.heap.size Sl' (.slice Al' ls.length cl') ls]) (L := []) h_).sel [0] (by decide))))) hcap (by first | exact hbx | assumption) 40 HO247) ?_
            rintro e241 w242 (⟨n232, k233, A234, c235, hg236, rfl, hC237, hc238, hb243⟩ | ⟨hg236, rfl, hb243⟩)
            rotate_left
            · skip
              refine .inr ⟨_, rfl, ?_⟩
              have HO248 : Own w0 w242 [R, Chunk.blk pc (.cells #[.slice Ac calls.length cc] 44 (0, 0)), Chunk.blk pn (.cells #[.slice An' ns.length cn'] 45 (0, 0)), Chunk.row (Kd.int .i64) 2 w0.heap.size Sn' (.slice An' ns.length cn') ns, Chunk.blk pt (.cells #[.slice At' ts.length ct'] 46 (0, 0)), Chunk.row Kd.string 9 w0.heap.size St' (.slice At' ts.length ct') ts, Chunk.blk pl (.cells #[.slice Al' ls.length cl'] 44 (0, 0)), Chunk.row (Kd.int .i64) 3 w0.heap.size Sl' (.slice Al' ls.length cl') ls] := Own.unbundle (A := [R, Chunk.blk pc (.cells #[.slice Ac calls.length cc] 44 (0, 0)), Chunk.blk pn (.cells #[.slice An' ns.length cn'] 45 (0, 0)), Chunk.row (Kd.int .i64) 2 w0.heap.size Sn' (.slice An' ns.length cn') ns, Chunk.blk pt (.cells #[.slice At' ts.length ct'] 46 (0, 0)), Chunk.row Kd.string 9 w0.heap.size St' (.slice At' ts.length ct') ts, Chunk.blk pl (.cells #[.slice Al' ls.length cl'] 44 (0, 0)), Chunk.row (Kd.int .i64) 3 w0.heap.size Sl' (.slice Al' ls.length cl') ls]) (L := []) hb243
              refine gw_pap ?_
              refine gw_blp ?_
              refine gw_thp ?_
              refine gw_blp ?_
              refine gw_thp ?_
              refine gw_thp ?_
              refine gw_blp ?_
              refine gw_pan HF231 ?_
              exact .inr ⟨i.toNat, ⟨xs', ns, ts, ls⟩, _, _, _, _, _, _, _, _, _, by (first | omega | (simp only [List.length_append, List.length_cons, List.length_nil] at *; omega)), hrun, rs_text_no (by assumption) hg236, rfl, HO248.sel [0, 1, 2, 3, 4, 5, 6, 7] (by decide)⟩
            refine .inl ⟨_, rfl, fun a244 HF245 => ?_⟩
            have HO246 : Own w0 w242 [R, Chunk.blk pc (.cells #[.slice Ac calls.length cc] 44 (0, 0)), Chunk.blk pn (.cells #[.slice An' ns.length cn'] 45 (0, 0)), Chunk.row (Kd.int .i64) 2 w0.heap.size Sn' (.slice An' ns.length cn') ns, Chunk.blk pt (.cells #[.slice At' ts.length ct'] 46 (0, 0)), Chunk.row Kd.string 9 w0.heap.size St' (.slice At' ts.length ct') ts, Chunk.blk pl (.cells #[.slice Al' ls.length cl'] 44 (0, 0)), Chunk.row (Kd.int .i64) 3 w0.heap.size Sl' (.slice Al' ls.length cl') ls, Chunk.blk g (.cells #[.slice A234 ((xs'.drop k233).length) c235] 80 (0, 0))] := Own.unbundle (A := [R, Chunk.blk pc (.cells #[.slice Ac calls.length cc] 44 (0, 0)), Chunk.blk pn (.cells #[.slice An' ns.length cn'] 45 (0, 0)), Chunk.row (Kd.int .i64) 2 w0.heap.size Sn' (.slice An' ns.length cn') ns, Chunk.blk pt (.cells #[.slice At' ts.length ct'] 46 (0, 0)), Chunk.row Kd.string 9 w0.heap.size St' (.slice At' ts.length ct') ts, Chunk.blk pl (.cells #[.slice Al' ls.length cl'] 44 (0, 0)), Chunk.row (Kd.int .i64) 3 w0.heap.size Sl' (.slice Al' ls.length cl') ls]) (L := [Chunk.blk g (.cells #[.slice A234 ((xs'.drop k233).length) c235] 80 (0, 0))]) (hb243.sel [0, 1] (by decide))
            clear HO247
            clear HF231 HO227 hb243
            have HO250 : Own w0 w242 [R, Chunk.blk pc (.cells #[.slice Ac calls.length cc] 44 (0, 0)), Chunk.blk pn (.cells #[.slice An' ns.length cn'] 45 (0, 0)), Chunk.row (Kd.int .i64) 2 w0.heap.size Sn' (.slice An' ns.length cn') ns, Chunk.blk pt (.cells #[.slice At' ts.length ct'] 46 (0, 0)), Chunk.row Kd.string 9 w0.heap.size St' (.slice At' ts.length ct') ts, Chunk.blk pl (.cells #[.slice Al' ls.length cl'] 44 (0, 0)), Chunk.row (Kd.int .i64) 3 w0.heap.size Sl' (.slice Al' ls.length cl') ls, Chunk.blk g (.cells #[.slice A234 ((xs'.drop k233).length) c235] 80 (0, 0))] := HO246
            clear HO246
            have hgs240 := gtext_some hg236
            refine gp_on (i := 2) (B := (fun j_ => j_ == 5)) (M := [Chunk.blk pt (.cells #[.slice At' ts.length ct'] 46 (0, 0))]) (fun _ => (by exact HO250.sel [4] (by decide))) ?_
            refine gp_step 3 rfl (by kernel_rfl) ?_
            refine gw_lit (enc := Value.string) (fun _ => rfl) (xs := [strOfNums n232]) (e := 9) HF245 HO250 (want_none rfl) rfl (by decide) (op_bslice (by kernel_rfl) rfl (pt_cons (HF245.ev rfl) pt_nil)) (by simp) ?_
            intro A251 S252 a253 w254 HF255 HO256; clear HF245 HO250
            have HO257 : Own w0 w254 [Chunk.row Kd.string 9 w0.heap.size S252 (.slice A251 (([strOfNums n232]).length) (([strOfNums n232]).length)) ([strOfNums n232]), R, Chunk.blk pc (.cells #[.slice Ac calls.length cc] 44 (0, 0)), Chunk.blk pn (.cells #[.slice An' ns.length cn'] 45 (0, 0)), Chunk.row (Kd.int .i64) 2 w0.heap.size Sn' (.slice An' ns.length cn') ns, Chunk.blk pt (.cells #[.slice At' ts.length ct'] 46 (0, 0)), Chunk.row Kd.string 9 w0.heap.size St' (.slice At' ts.length ct') ts, Chunk.blk pl (.cells #[.slice Al' ls.length cl'] 44 (0, 0)), Chunk.row (Kd.int .i64) 3 w0.heap.size Sl' (.slice Al' ls.length cl') ls, Chunk.blk g (.cells #[.slice A234 ((xs'.drop k233).length) c235] 80 (0, 0))] := HO256
            clear HO256
            refine gp_on (i := 3) (B := (fun j_ => j_ == 5)) (M := [Chunk.blk pt (.cells #[.slice At' ts.length ct'] 46 (0, 0))]) (fun _ => (by exact HO257.sel [5] (by decide))) ?_
            refine gp_step 4 rfl (by kernel_rfl) ?_
            refine gw_append Kd.string 6 HF255 HO257 (want_none rfl) rfl (by decide) rfl Try.underlying46 gwinfo9 rfl (by decide) (by decide) rfl (HF255.ev rfl) (HF255.ev rfl) (Kd.R_reads' (HO257.get 0 rfl)).2.2 (fun _ _ h => h) HO257.below.size (by (first | omega | (simp only [List.length_append, List.length_cons, List.length_nil] at *; omega))) ?_
            intro A258 c259 S260 a261 w262 HF263 HO264; clear HF255 HO257
            have HO265 : Own w0 w262 [Chunk.row Kd.string 9 w0.heap.size S252 (.slice A251 (([strOfNums n232]).length) (([strOfNums n232]).length)) ([strOfNums n232]), R, Chunk.blk pc (.cells #[.slice Ac calls.length cc] 44 (0, 0)), Chunk.blk pn (.cells #[.slice An' ns.length cn'] 45 (0, 0)), Chunk.row (Kd.int .i64) 2 w0.heap.size Sn' (.slice An' ns.length cn') ns, Chunk.blk pt (.cells #[.slice At' ts.length ct'] 46 (0, 0)), Chunk.row Kd.string 9 w0.heap.size S260 (.slice A258 ((ts ++ [strOfNums n232]).length) c259) (ts ++ [strOfNums n232]), Chunk.blk pl (.cells #[.slice Al' ls.length cl'] 44 (0, 0)), Chunk.row (Kd.int .i64) 3 w0.heap.size Sl' (.slice Al' ls.length cl') ls, Chunk.blk g (.cells #[.slice A234 ((xs'.drop k233).length) c235] 80 (0, 0))] := HO264
            clear HO264
            refine gp_on (i := 4) (B := (fun j_ => j_ == 5)) (M := [Chunk.blk pt (.cells #[.slice At' ts.length ct'] 46 (0, 0))]) (fun _ => (by exact HO265.sel [5] (by decide))) ?_
            refine gp_step 5 rfl (by kernel_rfl) ?_
            refine gw_set 5 HF263 HO265 rfl (want_none rfl) rfl (op_store1 gwsiz46 rfl (HF263.ev rfl) (HF263.ev rfl) rfl (blk_at (HO265.get 5 rfl) rfl) (blkf (HO265.get 5 rfl))) ?_
            intro a266 w268 HF267 HO269; clear HF263 HO265
            have HO270 : Own w0 w268 [Chunk.row Kd.string 9 w0.heap.size S252 (.slice A251 (([strOfNums n232]).length) (([strOfNums n232]).length)) ([strOfNums n232]), R, Chunk.blk pc (.cells #[.slice Ac calls.length cc] 44 (0, 0)), Chunk.blk pn (.cells #[.slice An' ns.length cn'] 45 (0, 0)), Chunk.row (Kd.int .i64) 2 w0.heap.size Sn' (.slice An' ns.length cn') ns, Chunk.blk pt (.cells #[.slice A258 ((ts ++ [strOfNums n232]).length) c259] 46 (0, 0)), Chunk.row Kd.string 9 w0.heap.size S260 (.slice A258 ((ts ++ [strOfNums n232]).length) c259) (ts ++ [strOfNums n232]), Chunk.blk pl (.cells #[.slice Al' ls.length cl'] 44 (0, 0)), Chunk.row (Kd.int .i64) 3 w0.heap.size Sl' (.slice Al' ls.length cl') ls, Chunk.blk g (.cells #[.slice A234 ((xs'.drop k233).length) c235] 80 (0, 0))] := HO269
            clear HO269
            refine gp_on (i := 5) (B := (fun j_ => j_ == 5)) (M := [Chunk.blk pt (.cells #[.slice At' ts.length ct'] 46 (0, 0))]) (fun h_ => by cases h_) ?_
            refine gp_done (by kernel_rfl) ?_
            refine gw_blk ?_
            refine gw_nx (hK35 _ _ ?_)
            refine gp_draw (M := [Chunk.blk pl (.cells #[.slice Al' ls.length cl'] 44 (0, 0))]) (fun j_ => j_ == 5) HO270 (by kernel_rfl) fun w271 HO272 => ?_
            clear HO270
            refine gp_take (by repeat (first | exact bl_body | exact bl_bodyD | refine bl_then ?_ | refine bl_blk ?_)) 0 rfl (by kernel_rfl) HF267 (by exact HO272.sel [7] (by decide)) (want_none rfl) rfl (by decide) (fun wq HO => (op_load1 gwagg44 rfl (HF267.ev rfl) (blk_at (HO.get 0 rfl) rfl))) ?_
            intro a273 HF274; clear HF267
            refine gp_take (by repeat (first | exact bl_body | exact bl_bodyD | refine bl_then ?_ | refine bl_blk ?_)) 1 rfl (by kernel_rfl) HF274 (by exact HO272.sel [7] (by decide)) (want_none rfl) rfl (by decide) (fun wq HO => (op_move rfl (HF274.ev rfl))) ?_
            intro a275 HF276; clear HF274
            refine gp_step 2 rfl (by kernel_rfl) ?_
            refine gw_call HF276 (want_none rfl) rfl (by decide) (op_callL Try.func38 (by kernel_rfl) rfl rfl (ar_cons (HF276.ev rfl) ar_nil)) (GRead_.left_calls g A234 ((xs'.drop k233).length) c235 _ (HO272.get 9 rfl)) ?_
            rintro e277 w278 ⟨rfl, hb279⟩
            refine ⟨_, rfl, fun a280 HF281 => ?_⟩
            have HO282 := HO272.after hb279
            clear HF276 HO272 hb279
            refine gp_on (i := 2) (B := (fun j_ => j_ == 5)) (M := [Chunk.blk pl (.cells #[.slice Al' ls.length cl'] 44 (0, 0))]) (fun _ => (by exact HO282.sel [7] (by decide))) ?_
            refine gp_step 3 rfl (by kernel_rfl) ?_
            refine gw_lit (enc := Value.int .i64) (fun _ => rfl) (xs := [(((xs'.drop k233).length) : Int)]) (e := 3) HF281 HO282 (want_none rfl) rfl (by decide) (op_bslice (by kernel_rfl) rfl (pt_cons (HF281.ev rfl) pt_nil)) (by simp) ?_
            intro A284 S285 a286 w287 HF288 HO289; clear HF281 HO282
            have HO290 : Own w0 w287 [Chunk.row (Kd.int .i64) 3 w0.heap.size S285 (.slice A284 (([(((xs'.drop k233).length) : Int)]).length) (([(((xs'.drop k233).length) : Int)]).length)) ([(((xs'.drop k233).length) : Int)]), Chunk.row Kd.string 9 w0.heap.size S252 (.slice A251 (([strOfNums n232]).length) (([strOfNums n232]).length)) ([strOfNums n232]), R, Chunk.blk pc (.cells #[.slice Ac calls.length cc] 44 (0, 0)), Chunk.blk pn (.cells #[.slice An' ns.length cn'] 45 (0, 0)), Chunk.row (Kd.int .i64) 2 w0.heap.size Sn' (.slice An' ns.length cn') ns, Chunk.blk pt (.cells #[.slice A258 ((ts ++ [strOfNums n232]).length) c259] 46 (0, 0)), Chunk.row Kd.string 9 w0.heap.size S260 (.slice A258 ((ts ++ [strOfNums n232]).length) c259) (ts ++ [strOfNums n232]), Chunk.blk pl (.cells #[.slice Al' ls.length cl'] 44 (0, 0)), Chunk.row (Kd.int .i64) 3 w0.heap.size Sl' (.slice Al' ls.length cl') ls, Chunk.blk g (.cells #[.slice A234 ((xs'.drop k233).length) c235] 80 (0, 0))] := HO289
            clear HO289
            refine gp_on (i := 3) (B := (fun j_ => j_ == 5)) (M := [Chunk.blk pl (.cells #[.slice Al' ls.length cl'] 44 (0, 0))]) (fun _ => (by exact HO290.sel [8] (by decide))) ?_
            refine gp_step 4 rfl (by kernel_rfl) ?_
            refine gw_append (Kd.int .i64) 9 HF288 HO290 (want_none rfl) rfl (by decide) rfl Try.underlying44 gwinfo3 rfl (by decide) (by decide) rfl (HF288.ev rfl) (HF288.ev rfl) (Kd.R_reads' (HO290.get 0 rfl)).2.2 (fun _ _ h => h) HO290.below.size (by (first | omega | (simp only [List.length_append, List.length_cons, List.length_nil] at *; omega))) ?_
            intro A291 c292 S293 a294 w295 HF296 HO297; clear HF288 HO290
            have HO298 : Own w0 w295 [Chunk.row (Kd.int .i64) 3 w0.heap.size S285 (.slice A284 (([(((xs'.drop k233).length) : Int)]).length) (([(((xs'.drop k233).length) : Int)]).length)) ([(((xs'.drop k233).length) : Int)]), Chunk.row Kd.string 9 w0.heap.size S252 (.slice A251 (([strOfNums n232]).length) (([strOfNums n232]).length)) ([strOfNums n232]), R, Chunk.blk pc (.cells #[.slice Ac calls.length cc] 44 (0, 0)), Chunk.blk pn (.cells #[.slice An' ns.length cn'] 45 (0, 0)), Chunk.row (Kd.int .i64) 2 w0.heap.size Sn' (.slice An' ns.length cn') ns, Chunk.blk pt (.cells #[.slice A258 ((ts ++ [strOfNums n232]).length) c259] 46 (0, 0)), Chunk.row Kd.string 9 w0.heap.size S260 (.slice A258 ((ts ++ [strOfNums n232]).length) c259) (ts ++ [strOfNums n232]), Chunk.blk pl (.cells #[.slice Al' ls.length cl'] 44 (0, 0)), Chunk.row (Kd.int .i64) 3 w0.heap.size S293 (.slice A291 ((ls ++ [(((xs'.drop k233).length) : Int)]).length) c292) (ls ++ [(((xs'.drop k233).length) : Int)]), Chunk.blk g (.cells #[.slice A234 ((xs'.drop k233).length) c235] 80 (0, 0))] := HO297
            clear HO297
            refine gp_on (i := 4) (B := (fun j_ => j_ == 5)) (M := [Chunk.blk pl (.cells #[.slice Al' ls.length cl'] 44 (0, 0))]) (fun _ => (by exact HO298.sel [8] (by decide))) ?_
            refine gp_step 5 rfl (by kernel_rfl) ?_
            refine gw_set 8 HF296 HO298 rfl (want_none rfl) rfl (op_store1 gwsiz44 rfl (HF296.ev rfl) (HF296.ev rfl) rfl (blk_at (HO298.get 8 rfl) rfl) (blkf (HO298.get 8 rfl))) ?_
            intro a299 w301 HF300 HO302; clear HF296 HO298
            have HO303 : Own w0 w301 [Chunk.row (Kd.int .i64) 3 w0.heap.size S285 (.slice A284 (([(((xs'.drop k233).length) : Int)]).length) (([(((xs'.drop k233).length) : Int)]).length)) ([(((xs'.drop k233).length) : Int)]), Chunk.row Kd.string 9 w0.heap.size S252 (.slice A251 (([strOfNums n232]).length) (([strOfNums n232]).length)) ([strOfNums n232]), R, Chunk.blk pc (.cells #[.slice Ac calls.length cc] 44 (0, 0)), Chunk.blk pn (.cells #[.slice An' ns.length cn'] 45 (0, 0)), Chunk.row (Kd.int .i64) 2 w0.heap.size Sn' (.slice An' ns.length cn') ns, Chunk.blk pt (.cells #[.slice A258 ((ts ++ [strOfNums n232]).length) c259] 46 (0, 0)), Chunk.row Kd.string 9 w0.heap.size S260 (.slice A258 ((ts ++ [strOfNums n232]).length) c259) (ts ++ [strOfNums n232]), Chunk.blk pl (.cells #[.slice A291 ((ls ++ [(((xs'.drop k233).length) : Int)]).length) c292] 44 (0, 0)), Chunk.row (Kd.int .i64) 3 w0.heap.size S293 (.slice A291 ((ls ++ [(((xs'.drop k233).length) : Int)]).length) c292) (ls ++ [(((xs'.drop k233).length) : Int)]), Chunk.blk g (.cells #[.slice A234 ((xs'.drop k233).length) c235] 80 (0, 0))] := HO302
            clear HO302
            refine gp_on (i := 5) (B := (fun j_ => j_ == 5)) (M := [Chunk.blk pl (.cells #[.slice Al' ls.length cl'] 44 (0, 0))]) (fun h_ => by cases h_) ?_
            refine gp_done (by kernel_rfl) ?_
            refine gw_blk ?_
            refine gw_nx (hK21 _ _ ?_)
            refine wp_region_lit ?_
            refine gw_ev HF300 (want_none rfl) rfl (by decide) (op_add rfl (HF300.ev rfl) (ev_c _ _) (by (first | omega | (simp only [List.length_append, List.length_cons, List.length_nil] at *; omega)))) ?_
            intro a304 HF305; clear HF300
            refine gw_ev HF305 (want_none rfl) rfl (by decide) (op_move rfl (HF305.ev rfl)) ?_
            intro a306 HF307; clear HF305
            refine wpList_nil ?_
            refine gw_nx ⟨_, ?_, i + 1, (xs'.drop k233), ns, (ts ++ [strOfNums n232]), (ls ++ [(((xs'.drop k233).length) : Int)]), A234, c235, An', cn', _, A258, c259, _, A291, c292, _, (HF307.pick (t := 10) rfl (HF307.pick (t := 0) rfl (HF307.pick (t := 2) rfl (HF307.pick (t := 3) rfl (HF307.pick (t := 4) rfl (HF307.pick (t := 8) rfl (HF307.pick (t := 9) rfl HF307.nil))))))), HO303.sel [2, 10, 3, 4, 5, 6, 7, 8, 9] (by decide), ?_, ?_, ?_, ?_, ?_, ?_, rfl⟩
            · rw [hm14]; (first | omega | (simp only [List.length_append, List.length_cons, List.length_nil] at *; omega))
            · (first | omega | (simp only [List.length_append, List.length_cons, List.length_nil] at *; omega))
            · rw [rrun_succ hi.1 hrun]; exact rs_text (by assumption) hg236
            · intro W h; exact hC237 W (hC W h)
            · exact hc238
            · first | exact hbx | exact hbx.drop _
            · simp only [List.length_append, List.length_cons, List.length_nil]; (first | omega | (simp only [List.length_append, List.length_cons, List.length_nil] at *; omega))
          · skip
            have HF308 := HF223.subst_ (d := 29) (b := false) rfl hb224
            clear HF223
            (try simp only [Bool.and_eq_true, Bool.or_eq_true, Bool.and_eq_false_iff, Bool.or_eq_false_iff, Bool.not_and, Bool.not_or, Bool.not_not, decide_eq_true_eq, decide_eq_false_iff_not, Bool.not_eq_true', Bool.not_eq_false', Bool.not_eq_true, Bool.not_eq_false, ne_eq, Decidable.not_not, Int.not_lt, Int.not_le, not_true_eq_false, not_false_eq_true, bne_iff_ne, beq_iff_eq, bne_eq_false_iff_eq, beq_eq_false_iff_ne] at hb224)
            refine wp_skip ?_
            refine gw_blk ?_
            refine gw_nx (hK35 _ _ ?_)
            refine gp_draw (M := [Chunk.blk pl (.cells #[.slice Al' ls.length cl'] 44 (0, 0))]) (fun j_ => j_ == 5) HO13 (by kernel_rfl) fun w309 HO310 => ?_
            clear HO13
            refine gp_take (by repeat (first | exact bl_body | exact bl_bodyD | refine bl_then ?_ | refine bl_blk ?_)) 0 rfl (by kernel_rfl) HF308 (by exact HO310.sel [7] (by decide)) (want_none rfl) rfl (by decide) (fun wq HO => (op_load1 gwagg44 rfl (HF308.ev rfl) (blk_at (HO.get 0 rfl) rfl))) ?_
            intro a311 HF312; clear HF308
            refine gp_take (by repeat (first | exact bl_body | exact bl_bodyD | refine bl_then ?_ | refine bl_blk ?_)) 1 rfl (by kernel_rfl) HF312 (by exact HO310.sel [7] (by decide)) (want_none rfl) rfl (by decide) (fun wq HO => (op_move rfl (HF312.ev rfl))) ?_
            intro a313 HF314; clear HF312
            refine gp_step 2 rfl (by kernel_rfl) ?_
            refine gw_call HF314 (want_none rfl) rfl (by decide) (op_callL Try.func38 (by kernel_rfl) rfl rfl (ar_cons (HF314.ev rfl) ar_nil)) (GRead_.left_calls g A' xs'.length c' _ (HO310.get 1 rfl)) ?_
            rintro e315 w316 ⟨rfl, hb317⟩
            refine ⟨_, rfl, fun a318 HF319 => ?_⟩
            have HO320 := HO310.after hb317
            clear HF314 HO310 hb317
            refine gp_on (i := 2) (B := (fun j_ => j_ == 5)) (M := [Chunk.blk pl (.cells #[.slice Al' ls.length cl'] 44 (0, 0))]) (fun _ => (by exact HO320.sel [7] (by decide))) ?_
            refine gp_step 3 rfl (by kernel_rfl) ?_
            refine gw_lit (enc := Value.int .i64) (fun _ => rfl) (xs := [(xs'.length : Int)]) (e := 3) HF319 HO320 (want_none rfl) rfl (by decide) (op_bslice (by kernel_rfl) rfl (pt_cons (HF319.ev rfl) pt_nil)) (by simp) ?_
            intro A322 S323 a324 w325 HF326 HO327; clear HF319 HO320
            have HO328 : Own w0 w325 [Chunk.row (Kd.int .i64) 3 w0.heap.size S323 (.slice A322 (([(xs'.length : Int)]).length) (([(xs'.length : Int)]).length)) ([(xs'.length : Int)]), R, Chunk.blk g (.cells #[.slice A' xs'.length c'] 80 (0, 0)), Chunk.blk pc (.cells #[.slice Ac calls.length cc] 44 (0, 0)), Chunk.blk pn (.cells #[.slice An' ns.length cn'] 45 (0, 0)), Chunk.row (Kd.int .i64) 2 w0.heap.size Sn' (.slice An' ns.length cn') ns, Chunk.blk pt (.cells #[.slice At' ts.length ct'] 46 (0, 0)), Chunk.row Kd.string 9 w0.heap.size St' (.slice At' ts.length ct') ts, Chunk.blk pl (.cells #[.slice Al' ls.length cl'] 44 (0, 0)), Chunk.row (Kd.int .i64) 3 w0.heap.size Sl' (.slice Al' ls.length cl') ls] := HO327
            clear HO327
            refine gp_on (i := 3) (B := (fun j_ => j_ == 5)) (M := [Chunk.blk pl (.cells #[.slice Al' ls.length cl'] 44 (0, 0))]) (fun _ => (by exact HO328.sel [8] (by decide))) ?_
            refine gp_step 4 rfl (by kernel_rfl) ?_
            refine gw_append (Kd.int .i64) 9 HF326 HO328 (want_none rfl) rfl (by decide) rfl Try.underlying44 gwinfo3 rfl (by decide) (by decide) rfl (HF326.ev rfl) (HF326.ev rfl) (Kd.R_reads' (HO328.get 0 rfl)).2.2 (fun _ _ h => h) HO328.below.size (by (first | omega | (simp only [List.length_append, List.length_cons, List.length_nil] at *; omega))) ?_
            intro A329 c330 S331 a332 w333 HF334 HO335; clear HF326 HO328
            have HO336 : Own w0 w333 [Chunk.row (Kd.int .i64) 3 w0.heap.size S323 (.slice A322 (([(xs'.length : Int)]).length) (([(xs'.length : Int)]).length)) ([(xs'.length : Int)]), R, Chunk.blk g (.cells #[.slice A' xs'.length c'] 80 (0, 0)), Chunk.blk pc (.cells #[.slice Ac calls.length cc] 44 (0, 0)), Chunk.blk pn (.cells #[.slice An' ns.length cn'] 45 (0, 0)), Chunk.row (Kd.int .i64) 2 w0.heap.size Sn' (.slice An' ns.length cn') ns, Chunk.blk pt (.cells #[.slice At' ts.length ct'] 46 (0, 0)), Chunk.row Kd.string 9 w0.heap.size St' (.slice At' ts.length ct') ts, Chunk.blk pl (.cells #[.slice Al' ls.length cl'] 44 (0, 0)), Chunk.row (Kd.int .i64) 3 w0.heap.size S331 (.slice A329 ((ls ++ [(xs'.length : Int)]).length) c330) (ls ++ [(xs'.length : Int)])] := HO335
            clear HO335
            refine gp_on (i := 4) (B := (fun j_ => j_ == 5)) (M := [Chunk.blk pl (.cells #[.slice Al' ls.length cl'] 44 (0, 0))]) (fun _ => (by exact HO336.sel [8] (by decide))) ?_
            refine gp_step 5 rfl (by kernel_rfl) ?_
            refine gw_set 8 HF334 HO336 rfl (want_none rfl) rfl (op_store1 gwsiz44 rfl (HF334.ev rfl) (HF334.ev rfl) rfl (blk_at (HO336.get 8 rfl) rfl) (blkf (HO336.get 8 rfl))) ?_
            intro a337 w339 HF338 HO340; clear HF334 HO336
            have HO341 : Own w0 w339 [Chunk.row (Kd.int .i64) 3 w0.heap.size S323 (.slice A322 (([(xs'.length : Int)]).length) (([(xs'.length : Int)]).length)) ([(xs'.length : Int)]), R, Chunk.blk g (.cells #[.slice A' xs'.length c'] 80 (0, 0)), Chunk.blk pc (.cells #[.slice Ac calls.length cc] 44 (0, 0)), Chunk.blk pn (.cells #[.slice An' ns.length cn'] 45 (0, 0)), Chunk.row (Kd.int .i64) 2 w0.heap.size Sn' (.slice An' ns.length cn') ns, Chunk.blk pt (.cells #[.slice At' ts.length ct'] 46 (0, 0)), Chunk.row Kd.string 9 w0.heap.size St' (.slice At' ts.length ct') ts, Chunk.blk pl (.cells #[.slice A329 ((ls ++ [(xs'.length : Int)]).length) c330] 44 (0, 0)), Chunk.row (Kd.int .i64) 3 w0.heap.size S331 (.slice A329 ((ls ++ [(xs'.length : Int)]).length) c330) (ls ++ [(xs'.length : Int)])] := HO340
            clear HO340
            refine gp_on (i := 5) (B := (fun j_ => j_ == 5)) (M := [Chunk.blk pl (.cells #[.slice Al' ls.length cl'] 44 (0, 0))]) (fun h_ => by cases h_) ?_
            refine gp_done (by kernel_rfl) ?_
            refine gw_blk ?_
            refine gw_nx (hK21 _ _ ?_)
            refine wp_region_lit ?_
            refine gw_ev HF338 (want_none rfl) rfl (by decide) (op_add rfl (HF338.ev rfl) (ev_c _ _) (by (first | omega | (simp only [List.length_append, List.length_cons, List.length_nil] at *; omega)))) ?_
            intro a342 HF343; clear HF338
            refine gw_ev HF343 (want_none rfl) rfl (by decide) (op_move rfl (HF343.ev rfl)) ?_
            intro a344 HF345; clear HF343
            refine wpList_nil ?_
            refine gw_nx ⟨_, ?_, i + 1, xs', ns, ts, (ls ++ [(xs'.length : Int)]), A', c', An', cn', _, At', ct', _, A329, c330, _, (HF345.pick (t := 10) rfl (HF345.pick (t := 0) rfl (HF345.pick (t := 2) rfl (HF345.pick (t := 3) rfl (HF345.pick (t := 4) rfl (HF345.pick (t := 8) rfl (HF345.pick (t := 9) rfl HF345.nil))))))), HO341.sel [1, 2, 3, 4, 5, 6, 7, 8, 9] (by decide), ?_, ?_, ?_, ?_, ?_, ?_, rfl⟩
            · rw [hm14]; (first | omega | (simp only [List.length_append, List.length_cons, List.length_nil] at *; omega))
            · (first | omega | (simp only [List.length_append, List.length_cons, List.length_nil] at *; omega))
            · rw [rrun_succ hi.1 hrun]; exact rs_skip (by assumption) (by assumption) (by assumption)
            · intro W h; exact hC W h
            · exact hcap
            · first | exact hbx | exact hbx.drop _
            · simp only [List.length_append, List.length_cons, List.length_nil]; (first | omega | (simp only [List.length_append, List.length_cons, List.length_nil] at *; omega))
    · skip
      have HF346 := HF17.subst_ (d := 11) (b := false) rfl hb19
      clear HF17
      (try simp only [Bool.and_eq_true, Bool.or_eq_true, Bool.and_eq_false_iff, Bool.or_eq_false_iff, Bool.not_and, Bool.not_or, Bool.not_not, decide_eq_true_eq, decide_eq_false_iff_not, Bool.not_eq_true', Bool.not_eq_false', Bool.not_eq_true, Bool.not_eq_false, ne_eq, Decidable.not_not, Int.not_lt, Int.not_le, not_true_eq_false, not_false_eq_true, bne_iff_ne, beq_iff_eq, bne_eq_false_iff_eq, beq_eq_false_iff_ne] at hb19)
      refine wp_exit ?_
      refine gw_thx ?_
      refine gw_thx ?_
      refine gw_in ?_
      refine gw_end0 HF346 rfl ?_
      exact .inl ⟨_, _, ⟨xs', ns, ts, ls⟩, _, _, _, _, _, _, _, _, _, by rw [← hrun]; congr 1; omega, rfl, HO13.sel [0, 1, 2, 3, 4, 5, 6, 7, 8] (by decide)⟩
end GReads1_
end Go.Proofs.Ytmlemnfleicnfaa.PA
