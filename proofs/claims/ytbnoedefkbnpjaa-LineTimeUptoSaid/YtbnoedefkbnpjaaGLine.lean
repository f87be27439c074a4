/- A session with a board. Printed by a program of this session; Lean checks it. -/
import Derived.Test.YtbnoedefkbnpjaaHLine
namespace Go.Proofs.Ytbnoedefkbnpjaa.PA
open Go.RowKit Go.Proofs.YtbnoedefkbnpjaaW.PrintWords Go.Proofs.YtbnoedefkbnpjaaW.PrintLast Go.Proofs.YtbnoedefkbnpjaaW.PrintMore
set_option linter.unusedVariables false
set_option linter.unusedSimpArgs false
namespace GLine_
theorem gwagg2 : ∀ w, (isAgg 2).run Try.prog w = .ok false w := fun _ => by kernel_rfl
theorem gwagg26 : ∀ w, (isAgg 26).run Try.prog w = .ok false w := fun _ => by kernel_rfl
theorem gwagg3 : ∀ w, (isAgg 3).run Try.prog w = .ok false w := fun _ => by kernel_rfl
theorem gwagg46 : ∀ w, (isAgg 46).run Try.prog w = .ok false w := fun _ => by kernel_rfl
theorem gwagg48 : ∀ w, (isAgg 48).run Try.prog w = .ok true w := fun _ => by kernel_rfl
theorem gwagg52 : ∀ w, (isAgg 52).run Try.prog w = .ok true w := fun _ => by kernel_rfl
theorem gwfld48_0 (g off : Nat) : ∀ w, (Instr.fieldAt 48 (.pointer (some ⟨g, off, none⟩)) 0).run Try.prog w = .ok (.pointer (some ⟨g, off + 0, none⟩)) w := fun _ => by kernel_rfl
theorem gwfld48_1 (g off : Nat) : ∀ w, (Instr.fieldAt 48 (.pointer (some ⟨g, off, none⟩)) 1).run Try.prog w = .ok (.pointer (some ⟨g, off + 1, none⟩)) w := fun _ => by kernel_rfl
theorem gwfld48_2 (g off : Nat) : ∀ w, (Instr.fieldAt 48 (.pointer (some ⟨g, off, none⟩)) 2).run Try.prog w = .ok (.pointer (some ⟨g, off + 2, none⟩)) w := fun _ => by kernel_rfl
theorem gwfld52_0 (g off : Nat) : ∀ w, (Instr.fieldAt 52 (.pointer (some ⟨g, off, none⟩)) 0).run Try.prog w = .ok (.pointer (some ⟨g, off + 0, none⟩)) w := fun _ => by kernel_rfl
theorem gwfld52_1 (g off : Nat) : ∀ w, (Instr.fieldAt 52 (.pointer (some ⟨g, off, none⟩)) 1).run Try.prog w = .ok (.pointer (some ⟨g, off + 1, none⟩)) w := fun _ => by kernel_rfl
theorem gwfld83_0 (g off : Nat) : ∀ w, (Instr.fieldAt 83 (.pointer (some ⟨g, off, none⟩)) 0).run Try.prog w = .ok (.pointer (some ⟨g, off + 0, none⟩)) w := fun _ => by kernel_rfl
theorem gwfld83_1 (g off : Nat) : ∀ w, (Instr.fieldAt 83 (.pointer (some ⟨g, off, none⟩)) 1).run Try.prog w = .ok (.pointer (some ⟨g, off + 3, none⟩)) w := fun _ => by kernel_rfl
theorem gwfld83_2 (g off : Nat) : ∀ w, (Instr.fieldAt 83 (.pointer (some ⟨g, off, none⟩)) 2).run Try.prog w = .ok (.pointer (some ⟨g, off + 4, none⟩)) w := fun _ => by kernel_rfl
theorem gwfld83_3 (g off : Nat) : ∀ w, (Instr.fieldAt 83 (.pointer (some ⟨g, off, none⟩)) 3).run Try.prog w = .ok (.pointer (some ⟨g, off + 5, none⟩)) w := fun _ => by kernel_rfl
theorem gwfld83_4 (g off : Nat) : ∀ w, (Instr.fieldAt 83 (.pointer (some ⟨g, off, none⟩)) 4).run Try.prog w = .ok (.pointer (some ⟨g, off + 6, none⟩)) w := fun _ => by kernel_rfl
theorem gwflda52_0 (ad : Addr) : ∀ w, (Instr.fieldAt 52 (.pointer (some ad)) 0).run Try.prog w = .ok (.pointer (some (ad.add 0))) w := fun _ => by kernel_rfl
theorem gwflda52_1 (ad : Addr) : ∀ w, (Instr.fieldAt 52 (.pointer (some ad)) 1).run Try.prog w = .ok (.pointer (some (ad.add 1))) w := fun _ => by kernel_rfl
theorem gwinfo5 : (Try.prog.info? 5).map (fun i => (i.zero, i.size, i.bytes)) = some (some (.int .u8 0), 1, 1) := by kernel_rfl
theorem gwinfo52 : (Try.prog.info? 52).map (fun i => (i.zero, i.size, i.bytes)) = some (some (.agg #[.int .i64 0, .slice none 0 0]), 2, 32) := by kernel_rfl
theorem gwsiz2 : ∀ w, (sizeOf 2).run Try.prog w = .ok 1 w := fun _ => by kernel_rfl
theorem gwsiz26 : ∀ w, (sizeOf 26).run Try.prog w = .ok 1 w := fun _ => by kernel_rfl
theorem gwsiz3 : ∀ w, (sizeOf 3).run Try.prog w = .ok 1 w := fun _ => by kernel_rfl
theorem gwsiz46 : ∀ w, (sizeOf 46).run Try.prog w = .ok 1 w := fun _ => by kernel_rfl
theorem gwsiz48 : ∀ w, (sizeOf 48).run Try.prog w = .ok 3 w := fun _ => by kernel_rfl
theorem gwsiz52 : ∀ w, (sizeOf 52).run Try.prog w = .ok 2 w := fun _ => by kernel_rfl
theorem gwzer48 : ∀ w, (zeroValue 48).run Try.prog w = .ok (.agg #[.slice none 0 0, .int .i64 0, .int .i64 0]) w := fun _ => by kernel_rfl
theorem gwzer52 : ∀ w, (zeroValue 52).run Try.prog w = .ok (.agg #[.int .i64 0, .slice none 0 0]) w := fun _ => by kernel_rfl
set_option maxHeartbeats 4000000 in
set_option maxRecDepth 100000 in
theorem ticks_calls (n : Int) (w : World) :
    Calls Try.prog 45 #[.int .i64 n] w fun e w' => e = .returned (.int .i64 (mn (mx n 0) 1000000)) ∧ Below w.heap.size w w' := by
  refine gw_start (N := 6) (vs := [.int .i64 n]) Try.func45 rfl rfl (by simp) fun a HF HO => ?_
  replace HO : Own w w [] := HO
  refine gw_seq fun K1 hK1 => ?_
  refine wp_region_lit ?_
  refine gw_ev HF (want_none rfl) rfl (by decide) (op_assign rfl (ev_c _ _)) ?_
  intro a2 HF3; clear HF
  refine wpList_nil ?_
  refine gw_nx (hK1 _ _ ?_)
  refine gw_seq fun K4 hK4 => ?_
  refine wp_region_lit ?_
  refine gw_ev HF3 (want_none rfl) rfl (by decide) (op_move rfl (HF3.ev rfl)) ?_
  intro a5 HF6; clear HF3
  refine gw_ev HF6 (want_none rfl) rfl (by decide) (op_max rfl (HF6.ev rfl) (ev_c _ _)) ?_
  intro a7 HF8; clear HF6
  refine gw_ev HF8 (want_none rfl) rfl (by decide) (op_min rfl (HF8.ev rfl) (ev_c _ _)) ?_
  intro a9 HF10; clear HF8
  refine gw_ev HF10 (want_none rfl) rfl (by decide) (op_assign rfl (HF10.ev rfl)) ?_
  intro a11 HF12; clear HF10
  refine wpList_nil ?_
  refine gw_nx (hK4 _ _ ?_)
  refine wp_ret ?_
  refine gw_ret1 HF12 rfl rfl ?_
  exact ⟨rfl, HO.below⟩
set_option maxHeartbeats 4000000 in
set_option maxRecDepth 100000 in
theorem now_calls (l : Nat) (Ac : Option Addr) (cc : Nat) (chs : List S52) (en wt at_ now last : Int) (As : Option Addr) (cs_ : Nat) (sent : List Int) (w : World) (hb : w.heap[l]? = some (.cells #[.slice Ac chs.length cc, .int .i64 en, .int .i64 wt, .int .i64 at_, .int .i64 now, .int .i64 last, .slice As sent.length cs_] 83 (0, 0))) :
    Calls Try.prog 25 #[.pointer (some ⟨l, 0, none⟩)] w fun e w' => e = .returned (.int .i64 now) ∧ Below w.heap.size w w' := by
  refine gw_start (N := 7) (vs := [.pointer (some ⟨l, 0, none⟩)]) Try.func25 rfl rfl (by simp) fun a HF HO => ?_
  replace HO : Own w w [] := HO
  refine gw_seq fun K1 hK1 => ?_
  refine wp_region_lit ?_
  refine gw_ev HF (want_none rfl) rfl (by decide) (op_assign rfl (ev_c _ _)) ?_
  intro a2 HF3; clear HF
  refine wpList_nil ?_
  refine gw_nx (hK1 _ _ ?_)
  refine gw_seq fun K4 hK4 => ?_
  refine wp_region_lit ?_
  refine gw_ev HF3 (want_none rfl) rfl (by decide) (op_move rfl (HF3.ev rfl)) ?_
  intro a5 HF6; clear HF3
  refine gw_ev HF6 (want_none rfl) rfl (by decide) (op_nil rfl (HF6.ev rfl)) ?_
  intro a7 HF8; clear HF6
  refine gw_ev HF8 (want_none rfl) rfl (by decide) (op_field (gwfld83_2 _ _) rfl (HF8.ev rfl)) ?_
  intro a9 HF10; clear HF8
  refine gw_ev HF10 (want_none rfl) rfl (by decide) (op_load1 gwagg2 rfl (HF10.ev rfl) (blk_at (argblk HO hb) rfl)) ?_
  intro a11 HF12; clear HF10
  refine gw_ev HF12 (want_none rfl) rfl (by decide) (op_assign rfl (HF12.ev rfl)) ?_
  intro a13 HF14; clear HF12
  refine wpList_nil ?_
  refine gw_nx (hK4 _ _ ?_)
  refine wp_ret ?_
  refine gw_ret1 HF14 rfl rfl ?_
  exact ⟨rfl, HO.below⟩
set_option maxHeartbeats 4000000 in
set_option maxRecDepth 100000 in
theorem rest_calls (l : Nat) (Ac : Option Addr) (cc : Nat) (chs : List S52) (en wt at_ now last : Int) (As : Option Addr) (cs_ : Nat) (sent : List Int) (w : World) (hb : w.heap[l]? = some (.cells #[.slice Ac chs.length cc, .int .i64 en, .int .i64 wt, .int .i64 at_, .int .i64 now, .int .i64 last, .slice As sent.length cs_] 83 (0, 0))) (hat : 0 ≤ at_ ∧ at_ ≤ chs.length) (hlast : 0 ≤ last ∧ last ≤ 1000000 * at_) (hlen : chs.length ≤ 4398046511102) :
    Calls Try.prog 26 #[.pointer (some ⟨l, 0, none⟩)] w fun e w' => e = .returned (.int .i64 ((chs.length : Int) - at_)) ∧ Below w.heap.size w w' := by
  refine gw_start (N := 14) (vs := [.pointer (some ⟨l, 0, none⟩)]) Try.func26 rfl rfl (by simp) fun a HF HO => ?_
  replace HO : Own w w [] := HO
  refine gw_seq fun K1 hK1 => ?_
  refine wp_region_lit ?_
  refine gw_ev HF (want_none rfl) rfl (by decide) (op_assign rfl (ev_c _ _)) ?_
  intro a2 HF3; clear HF
  refine wpList_nil ?_
  refine gw_nx (hK1 _ _ ?_)
  refine gw_seq fun K4 hK4 => ?_
  refine gw_drawB HO (by kernel_rfl) (by kernel_rfl) fun w5 HO6 => ?_
  clear HO
  refine gq_ev HF3 (want_none rfl) rfl (by decide) (fun wq hq => have HO := HO6.after hq; (op_move rfl (HF3.ev rfl))) ?_
  intro a7 HF8; clear HF3
  refine gq_ev HF8 (want_none rfl) rfl (by decide) (fun wq hq => have HO := HO6.after hq; (op_nil rfl (HF8.ev rfl))) ?_
  intro a9 HF10; clear HF8
  refine gq_ev HF10 (want_none rfl) rfl (by decide) (fun wq hq => have HO := HO6.after hq; (op_field (gwfld83_0 _ _) rfl (HF10.ev rfl))) ?_
  intro a11 HF12; clear HF10
  refine gq_ev HF12 (want_none rfl) rfl (by decide) (fun wq hq => have HO := HO6.after hq; (op_field (gwfld48_0 _ _) rfl (HF12.ev rfl))) ?_
  intro a13 HF14; clear HF12
  refine gq_ev HF14 (want_none rfl) rfl (by decide) (fun wq hq => have HO := HO6.after hq; (op_load1 gwagg46 rfl (HF14.ev rfl) (blk_at (argblk HO hb) rfl))) ?_
  intro a15 HF16; clear HF14
  refine gq_ev HF16 (want_none rfl) rfl (by decide) (fun wq hq => have HO := HO6.after hq; (op_len Try.underlying46 rfl (HF16.ev rfl))) ?_
  intro a17 HF18; clear HF16
  refine gq_ev HF18 (want_none rfl) rfl (by decide) (fun wq hq => have HO := HO6.after hq; (op_move rfl (HF18.ev rfl))) ?_
  intro a19 HF20; clear HF18
  refine gq_ev HF20 (want_none rfl) rfl (by decide) (fun wq hq => have HO := HO6.after hq; (op_nil rfl (HF20.ev rfl))) ?_
  intro a21 HF22; clear HF20
  refine gq_ev HF22 (want_none rfl) rfl (by decide) (fun wq hq => have HO := HO6.after hq; (op_field (gwfld83_1 _ _) rfl (HF22.ev rfl))) ?_
  intro a23 HF24; clear HF22
  refine gq_ev HF24 (want_none rfl) rfl (by decide) (fun wq hq => have HO := HO6.after hq; (op_load1 gwagg3 rfl (HF24.ev rfl) (blk_at (argblk HO hb) rfl))) ?_
  intro a25 HF26; clear HF24
  refine gq_ev HF26 (want_none rfl) rfl (by decide) (fun wq hq => have HO := HO6.after hq; (op_sub rfl (HF26.ev rfl) (HF26.ev rfl) (by (first | omega | ((try have h1_ := tk_b (chs.getD at_.toNat z52).f0); (try have h2_ := tk_b wt); (try have h3_ := due_b chs en wt at_ last (by (first | omega))); first | omega | ((try simp only [List.length_append, List.length_take, List.length_drop, List.length_nil, List.length_cons, List.length_set] at *); omega)))))) ?_
  intro a27 HF28; clear HF26
  refine gq_ev HF28 (want_none rfl) rfl (by decide) (fun wq hq => have HO := HO6.after hq; (op_assign rfl (HF28.ev rfl))) ?_
  intro a29 HF30; clear HF28
  refine wpQuiet_nil ?_
  intro w31 hq
  have HO32 := HO6.after hq
  clear HO6 hq
  refine gw_nx (hK4 _ _ ?_)
  refine wp_ret ?_
  refine gw_ret1 HF30 rfl rfl ?_
  exact ⟨rfl, HO32.below⟩
set_option maxHeartbeats 4000000 in
set_option maxRecDepth 100000 in
theorem due_calls (l : Nat) (Ac : Option Addr) (cc : Nat) (chs : List S52) (en wt at_ now last : Int) (As : Option Addr) (cs_ : Nat) (sent : List Int) (w : World) (hb : w.heap[l]? = some (.cells #[.slice Ac chs.length cc, .int .i64 en, .int .i64 wt, .int .i64 at_, .int .i64 now, .int .i64 last, .slice As sent.length cs_] 83 (0, 0))) (hat : 0 ≤ at_ ∧ at_ ≤ chs.length) (hlast : 0 ≤ last ∧ last ≤ 1000000 * at_) (hlen : chs.length ≤ 4398046511102) (hr : Kd.C k52 w Ac chs.length chs) (hc : chs.length ≤ cc) :
    Calls Try.prog 37 #[.pointer (some ⟨l, 0, none⟩)] w fun e w' => e = .returned (.tuple #[.int .i64 (dueL chs en wt at_ last).1, .int .i64 (dueL chs en wt at_ last).2]) ∧ Below w.heap.size w w' := by
  refine gw_start (N := 64) (vs := [.pointer (some ⟨l, 0, none⟩)]) Try.func37 rfl rfl (by simp) fun a HF HO => ?_
  replace HO : Own w w [] := HO
  refine gw_seq fun K1 hK1 => ?_
  refine wp_region_lit ?_
  refine gw_ev HF (want_none rfl) rfl (by decide) (op_assign rfl (ev_c _ _)) ?_
  intro a2 HF3; clear HF
  refine gw_ev HF3 (want_none rfl) rfl (by decide) (op_assign rfl (ev_c _ _)) ?_
  intro a4 HF5; clear HF3
  refine wpList_nil ?_
  refine gw_nx (hK1 _ _ ?_)
  refine gw_seq fun K6 hK6 => ?_
  refine gw_seq fun K7 hK7 => ?_
  refine gw_drawB HO (by kernel_rfl) (by kernel_rfl) fun w8 HO9 => ?_
  clear HO
  refine gq_ev HF5 (want_none rfl) rfl (by decide) (fun wq hq => have HO := HO9.after hq; (op_move rfl (HF5.ev rfl))) ?_
  intro a10 HF11; clear HF5
  refine gq_ev HF11 (want_none rfl) rfl (by decide) (fun wq hq => have HO := HO9.after hq; (op_nil rfl (HF11.ev rfl))) ?_
  intro a12 HF13; clear HF11
  refine gq_ev HF13 (want_none rfl) rfl (by decide) (fun wq hq => have HO := HO9.after hq; (op_field (gwfld83_1 _ _) rfl (HF13.ev rfl))) ?_
  intro a14 HF15; clear HF13
  refine gq_ev HF15 (want_none rfl) rfl (by decide) (fun wq hq => have HO := HO9.after hq; (op_load1 gwagg3 rfl (HF15.ev rfl) (blk_at (argblk HO hb) rfl))) ?_
  intro a16 HF17; clear HF15
  refine gq_ev HF17 (want_none rfl) rfl (by decide) (fun wq hq => have HO := HO9.after hq; (op_move rfl (HF17.ev rfl))) ?_
  intro a18 HF19; clear HF17
  refine gq_ev HF19 (want_none rfl) rfl (by decide) (fun wq hq => have HO := HO9.after hq; (op_nil rfl (HF19.ev rfl))) ?_
  intro a20 HF21; clear HF19
  refine gq_ev HF21 (want_none rfl) rfl (by decide) (fun wq hq => have HO := HO9.after hq; (op_field (gwfld83_0 _ _) rfl (HF21.ev rfl))) ?_
  intro a22 HF23; clear HF21
  refine gq_ev HF23 (want_none rfl) rfl (by decide) (fun wq hq => have HO := HO9.after hq; (op_field (gwfld48_0 _ _) rfl (HF23.ev rfl))) ?_
  intro a24 HF25; clear HF23
  refine gq_ev HF25 (want_none rfl) rfl (by decide) (fun wq hq => have HO := HO9.after hq; (op_load1 gwagg46 rfl (HF25.ev rfl) (blk_at (argblk HO hb) rfl))) ?_
  intro a26 HF27; clear HF25
  refine gq_ev HF27 (want_none rfl) rfl (by decide) (fun wq hq => have HO := HO9.after hq; (op_len Try.underlying46 rfl (HF27.ev rfl))) ?_
  intro a28 HF29; clear HF27
  refine gq_ev HF29 (want_none rfl) rfl (by decide) (fun wq hq => have HO := HO9.after hq; (op_lss rfl (HF29.ev rfl) (HF29.ev rfl))) ?_
  intro a30 HF31; clear HF29
  refine wpQuiet_nil ?_
  intro w32 hq
  have HO33 := HO9.after hq
  clear HO9 hq
  refine gw_nx (hK7 _ _ ?_)
  refine gw_cond HF31 rfl (fun hb34 => ?_) (fun hb34 => ?_)
  · skip
    have HF35 := HF31.subst_ (d := 14) (b := true) rfl hb34
    clear HF31
    (try simp only [decide_eq_true_eq, decide_eq_false_iff_not, Bool.not_eq_true', Bool.not_eq_false', Bool.not_eq_true, Bool.not_eq_false, ne_eq, Decidable.not_not, Int.not_lt, Int.not_le, not_true_eq_false, not_false_eq_true, bne_iff_ne, beq_iff_eq, bne_eq_false_iff_eq, beq_eq_false_iff_ne] at hb34)
    refine gw_seq fun K36 hK36 => ?_
    refine gw_drawB HO33 (by kernel_rfl) (by kernel_rfl) fun w37 HO38 => ?_
    clear HO33
    refine gq_ev HF35 (want_none rfl) rfl (by decide) (fun wq hq => have HO := HO38.after hq; (op_move rfl (HF35.ev rfl))) ?_
    intro a39 HF40; clear HF35
    refine gq_ev HF40 (want_none rfl) rfl (by decide) (fun wq hq => have HO := HO38.after hq; (op_nil rfl (HF40.ev rfl))) ?_
    intro a41 HF42; clear HF40
    refine gq_ev HF42 (want_none rfl) rfl (by decide) (fun wq hq => have HO := HO38.after hq; (op_field (gwfld83_3 _ _) rfl (HF42.ev rfl))) ?_
    intro a43 HF44; clear HF42
    refine gq_ev HF44 (want_none rfl) rfl (by decide) (fun wq hq => have HO := HO38.after hq; (op_load1 gwagg2 rfl (HF44.ev rfl) (blk_at (argblk HO hb) rfl))) ?_
    intro a45 HF46; clear HF44
    refine gq_ev HF46 (want_none rfl) rfl (by decide) (fun wq hq => have HO := HO38.after hq; (op_move rfl (HF46.ev rfl))) ?_
    intro a47 HF48; clear HF46
    refine gq_ev HF48 (want_none rfl) rfl (by decide) (fun wq hq => have HO := HO38.after hq; (op_nil rfl (HF48.ev rfl))) ?_
    intro a49 HF50; clear HF48
    refine gq_ev HF50 (want_none rfl) rfl (by decide) (fun wq hq => have HO := HO38.after hq; (op_field (gwfld83_0 _ _) rfl (HF50.ev rfl))) ?_
    intro a51 HF52; clear HF50
    refine gq_ev HF52 (want_none rfl) rfl (by decide) (fun wq hq => have HO := HO38.after hq; (op_field (gwfld48_0 _ _) rfl (HF52.ev rfl))) ?_
    intro a53 HF54; clear HF52
    refine gq_ev HF54 (want_none rfl) rfl (by decide) (fun wq hq => have HO := HO38.after hq; (op_load1 gwagg46 rfl (HF54.ev rfl) (blk_at (argblk HO hb) rfl))) ?_
    intro a55 HF56; clear HF54
    refine gq_ev HF56 (want_none rfl) rfl (by decide) (fun wq hq => have HO := HO38.after hq; (op_move rfl (HF56.ev rfl))) ?_
    intro a57 HF58; clear HF56
    refine gq_ev HF58 (want_none rfl) rfl (by decide) (fun wq hq => have HO := HO38.after hq; (op_nil rfl (HF58.ev rfl))) ?_
    intro a59 HF60; clear HF58
    refine gq_ev HF60 (want_none rfl) rfl (by decide) (fun wq hq => have HO := HO38.after hq; (op_field (gwfld83_1 _ _) rfl (HF60.ev rfl))) ?_
    intro a61 HF62; clear HF60
    refine gq_ev HF62 (want_none rfl) rfl (by decide) (fun wq hq => have HO := HO38.after hq; (op_load1 gwagg3 rfl (HF62.ev rfl) (blk_at (argblk HO hb) rfl))) ?_
    intro a63 HF64; clear HF62
    obtain ⟨ad65, cs68, hA66, hl69, hK70, hc67⟩ := Kd.C_get hr z52 at_ (by (first | omega | ((try have h1_ := tk_b (chs.getD at_.toNat z52).f0); (try have h2_ := tk_b wt); (try have h3_ := due_b chs en wt at_ last (by (first | omega))); first | omega | ((try simp only [List.length_append, List.length_take, List.length_drop, List.length_nil, List.length_cons, List.length_set] at *); omega)))) (by (first | omega | ((try have h1_ := tk_b (chs.getD at_.toNat z52).f0); (try have h2_ := tk_b wt); (try have h3_ := due_b chs en wt at_ last (by (first | omega))); first | omega | ((try simp only [List.length_append, List.length_take, List.length_drop, List.length_nil, List.length_cons, List.length_set] at *); omega))))
    obtain ⟨A71, c72, rfl, hl73, hC74⟩ := k52_open hK70
    clear hl69
    refine gq_ev HF64 (want_none rfl) rfl (by decide) (fun wq hq => have HO := HO38.after hq; (op_index Try.underlying46 gwsiz52 rfl (HF64.ev rfl) (HF64.ev rfl) hA66 (⟨by (first | omega | ((try have h1_ := tk_b (chs.getD at_.toNat z52).f0); (try have h2_ := tk_b wt); (try have h3_ := due_b chs en wt at_ last (by (first | omega))); first | omega | ((try simp only [List.length_append, List.length_take, List.length_drop, List.length_nil, List.length_cons, List.length_set] at *); omega))), by (first | omega | ((try have h1_ := tk_b (chs.getD at_.toNat z52).f0); (try have h2_ := tk_b wt); (try have h3_ := due_b chs en wt at_ last (by (first | omega))); first | omega | ((try simp only [List.length_append, List.length_take, List.length_drop, List.length_nil, List.length_cons, List.length_set] at *); omega)))⟩))) ?_
    intro a75 HF76; clear HF64
    refine gq_ev HF76 (want_none rfl) rfl (by decide) (fun wq hq => have HO := HO38.after hq; (op_field (gwflda52_0 _) rfl (HF76.ev rfl))) ?_
    intro a77 HF78; clear HF76
    refine gq_ev HF78 (want_none rfl) rfl (by decide) (fun wq hq => have HO := HO38.after hq; (op_load1 gwagg3 rfl (HF78.ev rfl) ((cells0 HO hc67 0 _ rfl)))) ?_
    intro a79 HF80; clear HF78
    refine gq_call HF80 (want_none rfl) rfl (by decide) (fun wq hq => have HO := HO38.after hq; (op_callL Try.func45 (by kernel_rfl) rfl rfl (ar_cons (HF80.ev rfl) ar_nil))) (fun wq hq => have HO := HO38.after hq; (GLine_.ticks_calls ((chs.getD at_.toNat z52).f0) _).mono fun e w' h => ⟨h.1, below_then hq h.2⟩) ?_
    intro a81 HF82; clear HF80
    refine gq_ev HF82 (want_none rfl) rfl (by decide) (fun wq hq => have HO := HO38.after hq; (op_add rfl (HF82.ev rfl) (HF82.ev rfl) (by (first | omega | ((try have h1_ := tk_b (chs.getD at_.toNat z52).f0); (try have h2_ := tk_b wt); (try have h3_ := due_b chs en wt at_ last (by (first | omega))); first | omega | ((try simp only [List.length_append, List.length_take, List.length_drop, List.length_nil, List.length_cons, List.length_set] at *); omega)))))) ?_
    intro a83 HF84; clear HF82
    refine gq_ev HF84 (want_none rfl) rfl (by decide) (fun wq hq => have HO := HO38.after hq; (op_assign rfl (HF84.ev rfl))) ?_
    intro a85 HF86; clear HF84
    refine gq_ev HF86 (want_none rfl) rfl (by decide) (fun wq hq => have HO := HO38.after hq; (op_assign rfl (ev_c _ _))) ?_
    intro a87 HF88; clear HF86
    refine wpQuiet_nil ?_
    intro w89 hq
    have HO90 := HO38.after hq
    clear HO38 hq
    refine gw_nx (hK36 _ _ ?_)
    refine wp_ret ?_
    refine gw_thr ?_
    refine gw_ret2 HF88 rfl rfl rfl ?_
    exact ⟨by unfold dueL; (repeat' split) <;> first | rfl | (exfalso; omega), HO90.below⟩
  · skip
    have HF91 := HF31.subst_ (d := 14) (b := false) rfl hb34
    clear HF31
    (try simp only [decide_eq_true_eq, decide_eq_false_iff_not, Bool.not_eq_true', Bool.not_eq_false', Bool.not_eq_true, Bool.not_eq_false, ne_eq, Decidable.not_not, Int.not_lt, Int.not_le, not_true_eq_false, not_false_eq_true, bne_iff_ne, beq_iff_eq, bne_eq_false_iff_eq, beq_eq_false_iff_ne] at hb34)
    refine wp_skip ?_
    refine gw_nx (hK6 _ _ ?_)
    refine gw_seq fun K92 hK92 => ?_
    refine gw_seq fun K93 hK93 => ?_
    refine wp_region_lit ?_
    refine gw_ev HF91 (want_none rfl) rfl (by decide) (op_move rfl (HF91.ev rfl)) ?_
    intro a94 HF95; clear HF91
    refine gw_ev HF95 (want_none rfl) rfl (by decide) (op_nil rfl (HF95.ev rfl)) ?_
    intro a96 HF97; clear HF95
    refine gw_ev HF97 (want_none rfl) rfl (by decide) (op_field (gwfld83_0 _ _) rfl (HF97.ev rfl)) ?_
    intro a98 HF99; clear HF97
    refine gw_ev HF99 (want_none rfl) rfl (by decide) (op_field (gwfld48_1 _ _) rfl (HF99.ev rfl)) ?_
    intro a100 HF101; clear HF99
    refine gw_ev HF101 (want_none rfl) rfl (by decide) (op_load1 gwagg3 rfl (HF101.ev rfl) (blk_at (argblk HO33 hb) rfl)) ?_
    intro a102 HF103; clear HF101
    refine wpList_nil ?_
    refine gw_nx (hK93 _ _ ?_)
    refine wp_block ?_
    refine gw_seq fun K104 hK104 => ?_
    refine wp_region_lit ?_
    refine gw_ev HF103 (want_none rfl) rfl (by decide) (op_eqi rfl (HF103.ev rfl) (ev_c _ _)) ?_
    intro a105 HF106; clear HF103
    refine gw_ev HF106 (want_none rfl) rfl (by decide) (op_assign rfl (HF106.ev rfl)) ?_
    intro a107 HF108; clear HF106
    refine wpList_nil ?_
    refine gw_nx (hK104 _ _ ?_)
    refine gw_cond HF108 rfl (fun hb109 => ?_) (fun hb109 => ?_)
    · skip
      have HF110 := HF108.subst_ (d := 38) (b := true) rfl hb109
      clear HF108
      (try simp only [decide_eq_true_eq, decide_eq_false_iff_not, Bool.not_eq_true', Bool.not_eq_false', Bool.not_eq_true, Bool.not_eq_false, ne_eq, Decidable.not_not, Int.not_lt, Int.not_le, not_true_eq_false, not_false_eq_true, bne_iff_ne, beq_iff_eq, bne_eq_false_iff_eq, beq_eq_false_iff_ne] at hb109)
      refine gw_seq fun K111 hK111 => ?_
      refine gw_drawB HO33 (by kernel_rfl) (by kernel_rfl) fun w112 HO113 => ?_
      clear HO33
      refine gq_ev HF110 (want_none rfl) rfl (by decide) (fun wq hq => have HO := HO113.after hq; (op_move rfl (HF110.ev rfl))) ?_
      intro a114 HF115; clear HF110
      refine gq_ev HF115 (want_none rfl) rfl (by decide) (fun wq hq => have HO := HO113.after hq; (op_nil rfl (HF115.ev rfl))) ?_
      intro a116 HF117; clear HF115
      refine gq_ev HF117 (want_none rfl) rfl (by decide) (fun wq hq => have HO := HO113.after hq; (op_field (gwfld83_3 _ _) rfl (HF117.ev rfl))) ?_
      intro a118 HF119; clear HF117
      refine gq_ev HF119 (want_none rfl) rfl (by decide) (fun wq hq => have HO := HO113.after hq; (op_load1 gwagg2 rfl (HF119.ev rfl) (blk_at (argblk HO hb) rfl))) ?_
      intro a120 HF121; clear HF119
      refine gq_ev HF121 (want_none rfl) rfl (by decide) (fun wq hq => have HO := HO113.after hq; (op_move rfl (HF121.ev rfl))) ?_
      intro a122 HF123; clear HF121
      refine gq_ev HF123 (want_none rfl) rfl (by decide) (fun wq hq => have HO := HO113.after hq; (op_nil rfl (HF123.ev rfl))) ?_
      intro a124 HF125; clear HF123
      refine gq_ev HF125 (want_none rfl) rfl (by decide) (fun wq hq => have HO := HO113.after hq; (op_field (gwfld83_0 _ _) rfl (HF125.ev rfl))) ?_
      intro a126 HF127; clear HF125
      refine gq_ev HF127 (want_none rfl) rfl (by decide) (fun wq hq => have HO := HO113.after hq; (op_field (gwfld48_2 _ _) rfl (HF127.ev rfl))) ?_
      intro a128 HF129; clear HF127
      refine gq_ev HF129 (want_none rfl) rfl (by decide) (fun wq hq => have HO := HO113.after hq; (op_load1 gwagg3 rfl (HF129.ev rfl) (blk_at (argblk HO hb) rfl))) ?_
      intro a130 HF131; clear HF129
      refine gq_call HF131 (want_none rfl) rfl (by decide) (fun wq hq => have HO := HO113.after hq; (op_callL Try.func45 (by kernel_rfl) rfl rfl (ar_cons (HF131.ev rfl) ar_nil))) (fun wq hq => have HO := HO113.after hq; (GLine_.ticks_calls wt _).mono fun e w' h => ⟨h.1, below_then hq h.2⟩) ?_
      intro a132 HF133; clear HF131
      refine gq_ev HF133 (want_none rfl) rfl (by decide) (fun wq hq => have HO := HO113.after hq; (op_add rfl (HF133.ev rfl) (HF133.ev rfl) (by (first | omega | ((try have h1_ := tk_b (chs.getD at_.toNat z52).f0); (try have h2_ := tk_b wt); (try have h3_ := due_b chs en wt at_ last (by (first | omega))); first | omega | ((try simp only [List.length_append, List.length_take, List.length_drop, List.length_nil, List.length_cons, List.length_set] at *); omega)))))) ?_
      intro a134 HF135; clear HF133
      refine gq_ev HF135 (want_none rfl) rfl (by decide) (fun wq hq => have HO := HO113.after hq; (op_assign rfl (HF135.ev rfl))) ?_
      intro a136 HF137; clear HF135
      refine gq_ev HF137 (want_none rfl) rfl (by decide) (fun wq hq => have HO := HO113.after hq; (op_assign rfl (ev_c _ _))) ?_
      intro a138 HF139; clear HF137
      refine wpQuiet_nil ?_
      intro w140 hq
      have HO141 := HO113.after hq
      clear HO113 hq
      refine gw_nx (hK111 _ _ ?_)
      refine wp_ret ?_
      refine gw_blr ?_
      refine gw_thr ?_
      refine gw_ret2 HF139 rfl rfl rfl ?_
      exact ⟨by unfold dueL; (repeat' split) <;> first | rfl | (exfalso; omega), HO141.below⟩
    · skip
      have HF142 := HF108.subst_ (d := 38) (b := false) rfl hb109
      clear HF108
      (try simp only [decide_eq_true_eq, decide_eq_false_iff_not, Bool.not_eq_true', Bool.not_eq_false', Bool.not_eq_true, Bool.not_eq_false, ne_eq, Decidable.not_not, Int.not_lt, Int.not_le, not_true_eq_false, not_false_eq_true, bne_iff_ne, beq_iff_eq, bne_eq_false_iff_eq, beq_eq_false_iff_ne] at hb109)
      refine gw_seq fun K143 hK143 => ?_
      refine wp_region_lit ?_
      refine gw_ev HF142 (want_none rfl) rfl (by decide) (op_eqi rfl (HF142.ev rfl) (ev_c _ _)) ?_
      intro a144 HF145; clear HF142
      refine gw_ev HF145 (want_none rfl) rfl (by decide) (op_assign rfl (HF145.ev rfl)) ?_
      intro a146 HF147; clear HF145
      refine wpList_nil ?_
      refine gw_nx (hK143 _ _ ?_)
      refine gw_cond HF147 rfl (fun hb148 => ?_) (fun hb148 => ?_)
      · skip
        have HF149 := HF147.subst_ (d := 51) (b := true) rfl hb148
        clear HF147
        (try simp only [decide_eq_true_eq, decide_eq_false_iff_not, Bool.not_eq_true', Bool.not_eq_false', Bool.not_eq_true, Bool.not_eq_false, ne_eq, Decidable.not_not, Int.not_lt, Int.not_le, not_true_eq_false, not_false_eq_true, bne_iff_ne, beq_iff_eq, bne_eq_false_iff_eq, beq_eq_false_iff_ne] at hb148)
        refine gw_seq fun K150 hK150 => ?_
        refine gw_drawB HO33 (by kernel_rfl) (by kernel_rfl) fun w151 HO152 => ?_
        clear HO33
        refine gq_ev HF149 (want_none rfl) rfl (by decide) (fun wq hq => have HO := HO152.after hq; (op_move rfl (HF149.ev rfl))) ?_
        intro a153 HF154; clear HF149
        refine gq_ev HF154 (want_none rfl) rfl (by decide) (fun wq hq => have HO := HO152.after hq; (op_nil rfl (HF154.ev rfl))) ?_
        intro a155 HF156; clear HF154
        refine gq_ev HF156 (want_none rfl) rfl (by decide) (fun wq hq => have HO := HO152.after hq; (op_field (gwfld83_3 _ _) rfl (HF156.ev rfl))) ?_
        intro a157 HF158; clear HF156
        refine gq_ev HF158 (want_none rfl) rfl (by decide) (fun wq hq => have HO := HO152.after hq; (op_load1 gwagg2 rfl (HF158.ev rfl) (blk_at (argblk HO hb) rfl))) ?_
        intro a159 HF160; clear HF158
        refine gq_ev HF160 (want_none rfl) rfl (by decide) (fun wq hq => have HO := HO152.after hq; (op_move rfl (HF160.ev rfl))) ?_
        intro a161 HF162; clear HF160
        refine gq_ev HF162 (want_none rfl) rfl (by decide) (fun wq hq => have HO := HO152.after hq; (op_nil rfl (HF162.ev rfl))) ?_
        intro a163 HF164; clear HF162
        refine gq_ev HF164 (want_none rfl) rfl (by decide) (fun wq hq => have HO := HO152.after hq; (op_field (gwfld83_0 _ _) rfl (HF164.ev rfl))) ?_
        intro a165 HF166; clear HF164
        refine gq_ev HF166 (want_none rfl) rfl (by decide) (fun wq hq => have HO := HO152.after hq; (op_field (gwfld48_2 _ _) rfl (HF166.ev rfl))) ?_
        intro a167 HF168; clear HF166
        refine gq_ev HF168 (want_none rfl) rfl (by decide) (fun wq hq => have HO := HO152.after hq; (op_load1 gwagg3 rfl (HF168.ev rfl) (blk_at (argblk HO hb) rfl))) ?_
        intro a169 HF170; clear HF168
        refine gq_call HF170 (want_none rfl) rfl (by decide) (fun wq hq => have HO := HO152.after hq; (op_callL Try.func45 (by kernel_rfl) rfl rfl (ar_cons (HF170.ev rfl) ar_nil))) (fun wq hq => have HO := HO152.after hq; (GLine_.ticks_calls wt _).mono fun e w' h => ⟨h.1, below_then hq h.2⟩) ?_
        intro a171 HF172; clear HF170
        refine gq_ev HF172 (want_none rfl) rfl (by decide) (fun wq hq => have HO := HO152.after hq; (op_add rfl (HF172.ev rfl) (HF172.ev rfl) (by (first | omega | ((try have h1_ := tk_b (chs.getD at_.toNat z52).f0); (try have h2_ := tk_b wt); (try have h3_ := due_b chs en wt at_ last (by (first | omega))); first | omega | ((try simp only [List.length_append, List.length_take, List.length_drop, List.length_nil, List.length_cons, List.length_set] at *); omega)))))) ?_
        intro a173 HF174; clear HF172
        refine gq_ev HF174 (want_none rfl) rfl (by decide) (fun wq hq => have HO := HO152.after hq; (op_assign rfl (HF174.ev rfl))) ?_
        intro a175 HF176; clear HF174
        refine gq_ev HF176 (want_none rfl) rfl (by decide) (fun wq hq => have HO := HO152.after hq; (op_assign rfl (ev_c _ _))) ?_
        intro a177 HF178; clear HF176
        refine wpQuiet_nil ?_
        intro w179 hq
        have HO180 := HO152.after hq
        clear HO152 hq
        refine gw_nx (hK150 _ _ ?_)
        refine wp_ret ?_
        refine gw_blr ?_
        refine gw_thr ?_
        refine gw_ret2 HF178 rfl rfl rfl ?_
        exact ⟨by unfold dueL; (repeat' split) <;> first | rfl | (exfalso; omega), HO180.below⟩
      · skip
        have HF181 := HF147.subst_ (d := 51) (b := false) rfl hb148
        clear HF147
        (try simp only [decide_eq_true_eq, decide_eq_false_iff_not, Bool.not_eq_true', Bool.not_eq_false', Bool.not_eq_true, Bool.not_eq_false, ne_eq, Decidable.not_not, Int.not_lt, Int.not_le, not_true_eq_false, not_false_eq_true, bne_iff_ne, beq_iff_eq, bne_eq_false_iff_eq, beq_eq_false_iff_ne] at hb148)
        refine wp_skip ?_
        refine gw_blk ?_
        refine gw_nx (hK92 _ _ ?_)
        refine gw_seq fun K182 hK182 => ?_
        refine wp_region_lit ?_
        refine gw_ev HF181 (want_none rfl) rfl (by decide) (op_assign rfl (ev_c _ _)) ?_
        intro a183 HF184; clear HF181
        refine gw_ev HF184 (want_none rfl) rfl (by decide) (op_assign rfl (ev_c _ _)) ?_
        intro a185 HF186; clear HF184
        refine wpList_nil ?_
        refine gw_nx (hK182 _ _ ?_)
        refine wp_ret ?_
        refine gw_ret2 HF186 rfl rfl rfl ?_
        exact ⟨by unfold dueL; (repeat' split) <;> first | rfl | (exfalso; omega), HO33.below⟩
set_option maxHeartbeats 4000000 in
set_option maxRecDepth 100000 in
theorem sent_calls (l : Nat) (Ac : Option Addr) (cc : Nat) (chs : List S52) (en wt at_ now last : Int) (As : Option Addr) (cs_ : Nat) (sent : List Int) (w : World) (hb : w.heap[l]? = some (.cells #[.slice Ac chs.length cc, .int .i64 en, .int .i64 wt, .int .i64 at_, .int .i64 now, .int .i64 last, .slice As sent.length cs_] 83 (0, 0))) (hs : Kd.C (Kd.int .u8) w As sent.length sent) (hcs : sent.length ≤ cs_) (hl : sent.length < 140737488355328) :
    Calls Try.prog 28 #[.pointer (some ⟨l, 0, none⟩)] w fun e w' => ∃ A c S, e = .returned (.slice A sent.length c) ∧ Out w w' (fun _ => False) [Chunk.row (Kd.int .u8) 5 w.heap.size S (.slice A sent.length c) sent] := by
  refine gw_start (N := 8) (vs := [.pointer (some ⟨l, 0, none⟩)]) Try.func28 rfl rfl (by simp) fun a HF HO => ?_
  replace HO : Own w w [] := HO
  refine gw_seq fun K1 hK1 => ?_
  refine wp_region_lit ?_
  refine gw_ev HF (want_none rfl) rfl (by decide) (op_assign rfl (ev_c _ _)) ?_
  intro a2 HF3; clear HF
  refine wpList_nil ?_
  refine gw_nx (hK1 _ _ ?_)
  refine gw_seq fun K4 hK4 => ?_
  refine wp_region_lit ?_
  refine gw_ev HF3 (want_none rfl) rfl (by decide) (op_move rfl (HF3.ev rfl)) ?_
  intro a5 HF6; clear HF3
  refine gw_ev HF6 (want_none rfl) rfl (by decide) (op_nil rfl (HF6.ev rfl)) ?_
  intro a7 HF8; clear HF6
  refine gw_ev HF8 (want_none rfl) rfl (by decide) (op_field (gwfld83_4 _ _) rfl (HF8.ev rfl)) ?_
  intro a9 HF10; clear HF8
  refine gw_ev HF10 (want_none rfl) rfl (by decide) (op_load1 gwagg26 rfl (HF10.ev rfl) (blk_at (argblk HO hb) rfl)) ?_
  intro a11 HF12; clear HF10
  refine gw_call HF12 (want_none rfl) rfl (by decide) (op_callL Try.func36 (by kernel_rfl) rfl rfl (ar_cons (HF12.ev rfl) ar_nil)) (clone0 As cs_ sent _ (Kd.C_below hs HO.below) hcs (by omega)) ?_
  rintro e16 w17 ⟨A13, c14, S15, rfl, hb18⟩
  refine ⟨_, rfl, fun a19 HF20 => ?_⟩
  have HO21 := HO.fresh hb18
  have hbel22 := HO.below
  clear HF12 HO hb18
  have HO23 := HO21.lowrow 0 rfl (base' := w.heap.size) (Below.size hbel22)
  have HO24 : Own w w17 [Chunk.row (Kd.int .u8) 5 w.heap.size S15 (.slice A13 sent.length c14) sent] := HO23
  clear HO23
  refine gw_ev HF20 (want_none rfl) rfl (by decide) (op_assign rfl (HF20.ev rfl)) ?_
  intro a25 HF26; clear HF20
  refine wpList_nil ?_
  refine gw_nx (hK4 _ _ ?_)
  refine wp_ret ?_
  refine gw_ret1 HF26 rfl rfl ?_
  exact ⟨_, _, _, rfl, (HO24.sel [0] (by decide)).out⟩
set_option maxHeartbeats 4000000 in
set_option maxRecDepth 100000 in
theorem next_calls (w0 w : World) (R : Chunk) (l : Nat) (Ac : Option Addr) (cc : Nat) (chs : List S52) (en wt at_ now last : Int) (As : Option Addr) (cs_ : Nat) (sent : List Int) (Sv : Nat → Prop) (limit : Int) (hat : 0 ≤ at_ ∧ at_ ≤ chs.length) (hlast : 0 ≤ last ∧ last ≤ 1000000 * at_) (hlen : chs.length ≤ 4398046511102) (hz : ∀ x ∈ chs, x.f1.length ≤ 140737488351232) (HO : Own w0 w [R, Chunk.blk l (.cells #[.slice Ac chs.length cc, .int .i64 en, .int .i64 wt, .int .i64 at_, .int .i64 now, .int .i64 last, .slice As sent.length cs_] 83 (0, 0)), Chunk.view k52 Sv Ac chs.length cc chs]) :
    Calls Try.prog 24 #[.pointer (some ⟨l, 0, none⟩), .int .i64 limit] w fun e w' => ∃ A c S, e = .returned (.tuple #[.int .i64 (nextL chs en wt at_ now last limit).k, .slice A (nextL chs en wt at_ now last limit).b.length c]) ∧ Own w0 w' [Chunk.row (Kd.int .u8) 5 w0.heap.size S (.slice A (nextL chs en wt at_ now last limit).b.length c) (nextL chs en wt at_ now last limit).b, R, Chunk.blk l (.cells #[.slice Ac chs.length cc, .int .i64 en, .int .i64 wt, .int .i64 ((nextL chs en wt at_ now last limit).at_), .int .i64 ((nextL chs en wt at_ now last limit).now), .int .i64 ((nextL chs en wt at_ now last limit).last), .slice As sent.length cs_] 83 (0, 0)), Chunk.view k52 Sv Ac chs.length cc chs] := by
  refine gw_startO (N := 72) (vs := [.pointer (some ⟨l, 0, none⟩), .int .i64 limit]) Try.func24 rfl rfl (by simp) fun a HF => ?_
  refine gw_seq fun K1 hK1 => ?_
  refine wp_region_lit ?_
  refine gw_ev HF (want_none rfl) rfl (by decide) (op_assign rfl (ev_c _ _)) ?_
  intro a2 HF3; clear HF
  refine gw_ev HF3 (want_none rfl) rfl (by decide) (op_assign rfl (ev_c _ _)) ?_
  intro a4 HF5; clear HF3
  refine wpList_nil ?_
  refine gw_nx (hK1 _ _ ?_)
  refine gw_seq fun K6 hK6 => ?_
  refine wp_region_lit ?_
  refine gw_ev HF5 (want_none rfl) rfl (by decide) (op_move rfl (HF5.ev rfl)) ?_
  intro a7 HF8; clear HF5
  refine gw_call HF8 (want_none rfl) rfl (by decide) (op_callL Try.func37 (by kernel_rfl) rfl rfl (ar_cons (HF8.ev rfl) ar_nil)) (GLine_.due_calls l Ac cc chs en wt at_ now last As cs_ sent _ (HO.get 1 rfl) (by (first | omega | ((try have h1_ := tk_b (chs.getD at_.toNat z52).f0); (try have h2_ := tk_b wt); (try have h3_ := due_b chs en wt at_ last (by (first | omega))); first | omega | ((try simp only [List.length_append, List.length_take, List.length_drop, List.length_nil, List.length_cons, List.length_set] at *); omega)))) (by (first | omega | ((try have h1_ := tk_b (chs.getD at_.toNat z52).f0); (try have h2_ := tk_b wt); (try have h3_ := due_b chs en wt at_ last (by (first | omega))); first | omega | ((try simp only [List.length_append, List.length_take, List.length_drop, List.length_nil, List.length_cons, List.length_set] at *); omega)))) (by (first | omega | ((try have h1_ := tk_b (chs.getD at_.toNat z52).f0); (try have h2_ := tk_b wt); (try have h3_ := due_b chs en wt at_ last (by (first | omega))); first | omega | ((try simp only [List.length_append, List.length_take, List.length_drop, List.length_nil, List.length_cons, List.length_set] at *); omega)))) (view_C (HO.get 2 rfl)) (view_le (HO.get 2 rfl))) ?_
  rintro e9 w10 ⟨rfl, hb11⟩
  refine ⟨_, rfl, fun a12 HF13 => ?_⟩
  have HO14 := HO.after hb11
  clear HF8 HO hb11
  refine gw_ev HF13 (want_none rfl) rfl (by decide) (op_move rfl (HF13.ev rfl)) ?_
  intro a16 HF17; clear HF13
  refine gw_ev HF17 (want_none rfl) rfl (by decide) (op_extract rfl (HF17.ev rfl) rfl) ?_
  intro a18 HF19; clear HF17
  refine gw_ev HF19 (want_none rfl) rfl (by decide) (op_extract rfl (HF19.ev rfl) rfl) ?_
  intro a20 HF21; clear HF19
  refine gw_ev HF21 (want_none rfl) rfl (by decide) (op_assign rfl (HF21.ev rfl)) ?_
  intro a22 HF23; clear HF21
  refine gw_ev HF23 (want_none rfl) rfl (by decide) (op_assign rfl (HF23.ev rfl)) ?_
  intro a24 HF25; clear HF23
  refine wpList_nil ?_
  refine gw_nx (hK6 _ _ ?_)
  refine gw_seq fun K26 hK26 => ?_
  refine gw_seq fun K27 hK27 => ?_
  refine wp_region_lit ?_
  refine gw_ev HF25 (want_none rfl) rfl (by decide) (op_move rfl (HF25.ev rfl)) ?_
  intro a28 HF29; clear HF25
  refine gw_ev HF29 (want_none rfl) rfl (by decide) (op_eqi rfl (HF29.ev rfl) (ev_c _ _)) ?_
  intro a30 HF31; clear HF29
  refine gw_ev HF31 (want_none rfl) rfl (by decide) (op_move rfl (HF31.ev rfl)) ?_
  intro a32 HF33; clear HF31
  rcases Bool.eq_false_or_eq_true (decide (((dueL chs en wt at_ last).2) = 4)) with hb34 | hb34
  · skip
    have HF35 := HF33.subst_ (d := 16) (b := true) rfl hb34
    clear HF33
    (try simp only [decide_eq_true_eq, decide_eq_false_iff_not, Bool.not_eq_true', Bool.not_eq_false', Bool.not_eq_true, Bool.not_eq_false, ne_eq, Decidable.not_not, Int.not_lt, Int.not_le, not_true_eq_false, not_false_eq_true, bne_iff_ne, beq_iff_eq, bne_eq_false_iff_eq, beq_eq_false_iff_ne] at hb34)
    refine gw_off HF35 (want_no HF35 rfl rfl rfl rfl (by decide)) rfl (by decide) ?_
    intro a36 HF37; clear HF35
    refine gw_off HF37 (want_no HF37 rfl rfl rfl rfl (by decide)) rfl (by decide) ?_
    intro a38 HF39; clear HF37
    refine gw_off HF39 (want_no HF39 rfl rfl rfl rfl (by decide)) rfl (by decide) ?_
    intro a40 HF41; clear HF39
    refine gw_off HF41 (want_no HF41 rfl rfl rfl rfl (by decide)) rfl (by decide) ?_
    intro a42 HF43; clear HF41
    refine gw_off HF43 (want_no HF43 rfl rfl rfl rfl (by decide)) rfl (by decide) ?_
    intro a44 HF45; clear HF43
    refine gw_off HF45 (want_no HF45 rfl rfl rfl rfl (by decide)) rfl (by decide) ?_
    intro a46 HF47; clear HF45
    refine gw_off HF47 (want_no HF47 rfl rfl rfl rfl (by decide)) rfl (by decide) ?_
    intro a48 HF49; clear HF47
    refine gw_off HF49 (want_no HF49 rfl rfl rfl rfl (by decide)) rfl (by decide) ?_
    intro a50 HF51; clear HF49
    refine gw_ev HF51 (want_none rfl) rfl (by decide) (op_pick_t rfl (HF51.ev rfl) (ev_c _ _)) ?_
    intro a52 HF53; clear HF51
    refine wpList_nil ?_
    refine gw_nx (hK27 _ _ ?_)
    refine gw_cond HF53 rfl (fun hb54 => ?_) (fun hb54 => ?_)
    rotate_left
    · cases hb54
    refine gw_seq fun K55 hK55 => ?_
    refine wp_region_lit ?_
    refine gw_ev HF53 (want_none rfl) rfl (by decide) (op_move rfl (HF53.ev rfl)) ?_
    intro a56 HF57; clear HF53
    refine gw_ev HF57 (want_none rfl) rfl (by decide) (op_move rfl (HF57.ev rfl)) ?_
    intro a58 HF59; clear HF57
    refine gw_ev HF59 (want_none rfl) rfl (by decide) (op_nil rfl (HF59.ev rfl)) ?_
    intro a60 HF61; clear HF59
    refine gw_ev HF61 (want_none rfl) rfl (by decide) (op_field (gwfld83_2 _ _) rfl (HF61.ev rfl)) ?_
    intro a62 HF63; clear HF61
    refine gw_ev HF63 (want_none rfl) rfl (by decide) (op_load1 gwagg2 rfl (HF63.ev rfl) (blk_at (HO14.get 1 rfl) rfl)) ?_
    intro a64 HF65; clear HF63
    refine gw_ev HF65 (want_none rfl) rfl (by decide) (op_move rfl (HF65.ev rfl)) ?_
    intro a66 HF67; clear HF65
    refine gw_ev HF67 (want_none rfl) rfl (by decide) (op_max rfl (HF67.ev rfl) (HF67.ev rfl)) ?_
    intro a68 HF69; clear HF67
    refine gw_ev HF69 (want_none rfl) rfl (by decide) (op_nil rfl (HF69.ev rfl)) ?_
    intro a70 HF71; clear HF69
    refine gw_ev HF71 (want_none rfl) rfl (by decide) (op_field (gwfld83_2 _ _) rfl (HF71.ev rfl)) ?_
    intro a72 HF73; clear HF71
    refine gw_set 1 HF73 HO14 rfl (want_none rfl) rfl (op_store1 gwsiz2 rfl (HF73.ev rfl) (HF73.ev rfl) rfl (blk_at (HO14.get 1 rfl) rfl) (blkf (HO14.get 1 rfl))) ?_
    intro a74 w76 HF75 HO77; clear HF73 HO14
    have HO78 : Own w0 w76 [R, Chunk.blk l (.cells #[.slice Ac chs.length cc, .int .i64 en, .int .i64 wt, .int .i64 at_, .int .i64 (mx now limit), .int .i64 last, .slice As sent.length cs_] 83 (0, 0)), Chunk.view k52 Sv Ac chs.length cc chs] := HO77
    clear HO77
    refine wpList_nil ?_
    refine gw_nx (hK55 _ _ ?_)
    refine gw_seq fun K79 hK79 => ?_
    refine wp_region_lit ?_
    refine gw_ev HF75 (want_none rfl) rfl (by decide) (op_assign rfl (ev_c _ _)) ?_
    intro a80 HF81; clear HF75
    refine gw_ev HF81 (want_none rfl) rfl (by decide) (op_assign rfl (ev_c _ _)) ?_
    intro a82 HF83; clear HF81
    refine wpList_nil ?_
    refine gw_nx (hK79 _ _ ?_)
    refine wp_ret ?_
    refine gw_thr ?_
    refine gw_ret2 HF83 rfl rfl rfl ?_
    have hn : (nextL chs en wt at_ now last limit) = ⟨4, at_, mx now limit, last, []⟩ := by unfold nextL; (repeat' split) <;> first | rfl | (exfalso; omega)
    rw [hn]
    exact ⟨_, _, _, rfl, (HO78.row_nil (Kd.int .u8) 5 w0.heap.size).sel [0, 1, 2, 3] (by decide)⟩
  · skip
    have HF84 := HF33.subst_ (d := 16) (b := false) rfl hb34
    clear HF33
    (try simp only [decide_eq_true_eq, decide_eq_false_iff_not, Bool.not_eq_true', Bool.not_eq_false', Bool.not_eq_true, Bool.not_eq_false, ne_eq, Decidable.not_not, Int.not_lt, Int.not_le, not_true_eq_false, not_false_eq_true, bne_iff_ne, beq_iff_eq, bne_eq_false_iff_eq, beq_eq_false_iff_ne] at hb34)
    refine gw_ev HF84 (want_yes HF84 rfl rfl rfl rfl) rfl (by decide) (op_move rfl (HF84.ev rfl)) ?_
    intro a85 HF86; clear HF84
    refine gw_ev HF86 (want_yes HF86 rfl rfl rfl rfl) rfl (by decide) (op_move rfl (HF86.ev rfl)) ?_
    intro a87 HF88; clear HF86
    refine gw_ev HF88 (want_yes HF88 rfl rfl rfl rfl) rfl (by decide) (op_move rfl (HF88.ev rfl)) ?_
    intro a89 HF90; clear HF88
    refine gw_ev HF90 (want_yes HF90 rfl rfl rfl rfl) rfl (by decide) (op_nil rfl (HF90.ev rfl)) ?_
    intro a91 HF92; clear HF90
    refine gw_ev HF92 (want_yes HF92 rfl rfl rfl rfl) rfl (by decide) (op_field (gwfld83_2 _ _) rfl (HF92.ev rfl)) ?_
    intro a93 HF94; clear HF92
    refine gw_ev HF94 (want_yes HF94 rfl rfl rfl rfl) rfl (by decide) (op_load1 gwagg2 rfl (HF94.ev rfl) (blk_at (HO14.get 1 rfl) rfl)) ?_
    intro a95 HF96; clear HF94
    refine gw_ev HF96 (want_yes HF96 rfl rfl rfl rfl) rfl (by decide) (op_max rfl (HF96.ev rfl) (HF96.ev rfl)) ?_
    intro a97 HF98; clear HF96
    refine gw_ev HF98 (want_yes HF98 rfl rfl rfl rfl) rfl (by decide) (op_gtr rfl (HF98.ev rfl) (HF98.ev rfl)) ?_
    intro a99 HF100; clear HF98
    refine gw_ev HF100 (want_none rfl) rfl (by decide) (op_pick_f rfl (HF100.ev rfl) (HF100.ev rfl)) ?_
    intro a101 HF102; clear HF100
    refine wpList_nil ?_
    refine gw_nx (hK27 _ _ ?_)
    refine gw_cond HF102 rfl (fun hb103 => ?_) (fun hb103 => ?_)
    · skip
      have HF104 := HF102.subst_ (d := 25) (b := true) rfl hb103
      clear HF102
      (try simp only [decide_eq_true_eq, decide_eq_false_iff_not, Bool.not_eq_true', Bool.not_eq_false', Bool.not_eq_true, Bool.not_eq_false, ne_eq, Decidable.not_not, Int.not_lt, Int.not_le, not_true_eq_false, not_false_eq_true, bne_iff_ne, beq_iff_eq, bne_eq_false_iff_eq, beq_eq_false_iff_ne] at hb103)
      refine gw_seq fun K105 hK105 => ?_
      refine wp_region_lit ?_
      refine gw_ev HF104 (want_none rfl) rfl (by decide) (op_move rfl (HF104.ev rfl)) ?_
      intro a106 HF107; clear HF104
      refine gw_ev HF107 (want_none rfl) rfl (by decide) (op_move rfl (HF107.ev rfl)) ?_
      intro a108 HF109; clear HF107
      refine gw_ev HF109 (want_none rfl) rfl (by decide) (op_nil rfl (HF109.ev rfl)) ?_
      intro a110 HF111; clear HF109
      refine gw_ev HF111 (want_none rfl) rfl (by decide) (op_field (gwfld83_2 _ _) rfl (HF111.ev rfl)) ?_
      intro a112 HF113; clear HF111
      refine gw_ev HF113 (want_none rfl) rfl (by decide) (op_load1 gwagg2 rfl (HF113.ev rfl) (blk_at (HO14.get 1 rfl) rfl)) ?_
      intro a114 HF115; clear HF113
      refine gw_ev HF115 (want_none rfl) rfl (by decide) (op_move rfl (HF115.ev rfl)) ?_
      intro a116 HF117; clear HF115
      refine gw_ev HF117 (want_none rfl) rfl (by decide) (op_max rfl (HF117.ev rfl) (HF117.ev rfl)) ?_
      intro a118 HF119; clear HF117
      refine gw_ev HF119 (want_none rfl) rfl (by decide) (op_nil rfl (HF119.ev rfl)) ?_
      intro a120 HF121; clear HF119
      refine gw_ev HF121 (want_none rfl) rfl (by decide) (op_field (gwfld83_2 _ _) rfl (HF121.ev rfl)) ?_
      intro a122 HF123; clear HF121
      refine gw_set 1 HF123 HO14 rfl (want_none rfl) rfl (op_store1 gwsiz2 rfl (HF123.ev rfl) (HF123.ev rfl) rfl (blk_at (HO14.get 1 rfl) rfl) (blkf (HO14.get 1 rfl))) ?_
      intro a124 w126 HF125 HO127; clear HF123 HO14
      have HO128 : Own w0 w126 [R, Chunk.blk l (.cells #[.slice Ac chs.length cc, .int .i64 en, .int .i64 wt, .int .i64 at_, .int .i64 (mx now limit), .int .i64 last, .slice As sent.length cs_] 83 (0, 0)), Chunk.view k52 Sv Ac chs.length cc chs] := HO127
      clear HO127
      refine wpList_nil ?_
      refine gw_nx (hK105 _ _ ?_)
      refine gw_seq fun K129 hK129 => ?_
      refine wp_region_lit ?_
      refine gw_ev HF125 (want_none rfl) rfl (by decide) (op_assign rfl (ev_c _ _)) ?_
      intro a130 HF131; clear HF125
      refine gw_ev HF131 (want_none rfl) rfl (by decide) (op_assign rfl (ev_c _ _)) ?_
      intro a132 HF133; clear HF131
      refine wpList_nil ?_
      refine gw_nx (hK129 _ _ ?_)
      refine wp_ret ?_
      refine gw_thr ?_
      refine gw_ret2 HF133 rfl rfl rfl ?_
      have hn : (nextL chs en wt at_ now last limit) = ⟨4, at_, mx now limit, last, []⟩ := by unfold nextL; (repeat' split) <;> first | rfl | (exfalso; omega)
      rw [hn]
      exact ⟨_, _, _, rfl, (HO128.row_nil (Kd.int .u8) 5 w0.heap.size).sel [0, 1, 2, 3] (by decide)⟩
    · skip
      have HF134 := HF102.subst_ (d := 25) (b := false) rfl hb103
      clear HF102
      (try simp only [decide_eq_true_eq, decide_eq_false_iff_not, Bool.not_eq_true', Bool.not_eq_false', Bool.not_eq_true, Bool.not_eq_false, ne_eq, Decidable.not_not, Int.not_lt, Int.not_le, not_true_eq_false, not_false_eq_true, bne_iff_ne, beq_iff_eq, bne_eq_false_iff_eq, beq_eq_false_iff_ne] at hb103)
      refine wp_skip ?_
      refine gw_nx (hK26 _ _ ?_)
      refine gw_seq fun K135 hK135 => ?_
      refine wp_region_lit ?_
      refine gw_ev HF134 (want_none rfl) rfl (by decide) (op_move rfl (HF134.ev rfl)) ?_
      intro a136 HF137; clear HF134
      refine gw_ev HF137 (want_none rfl) rfl (by decide) (op_move rfl (HF137.ev rfl)) ?_
      intro a138 HF139; clear HF137
      refine gw_ev HF139 (want_none rfl) rfl (by decide) (op_nil rfl (HF139.ev rfl)) ?_
      intro a140 HF141; clear HF139
      refine gw_ev HF141 (want_none rfl) rfl (by decide) (op_field (gwfld83_2 _ _) rfl (HF141.ev rfl)) ?_
      intro a142 HF143; clear HF141
      refine gw_ev HF143 (want_none rfl) rfl (by decide) (op_load1 gwagg2 rfl (HF143.ev rfl) (blk_at (HO14.get 1 rfl) rfl)) ?_
      intro a144 HF145; clear HF143
      refine gw_ev HF145 (want_none rfl) rfl (by decide) (op_move rfl (HF145.ev rfl)) ?_
      intro a146 HF147; clear HF145
      refine gw_ev HF147 (want_none rfl) rfl (by decide) (op_max rfl (HF147.ev rfl) (HF147.ev rfl)) ?_
      intro a148 HF149; clear HF147
      refine gw_ev HF149 (want_none rfl) rfl (by decide) (op_nil rfl (HF149.ev rfl)) ?_
      intro a150 HF151; clear HF149
      refine gw_ev HF151 (want_none rfl) rfl (by decide) (op_field (gwfld83_2 _ _) rfl (HF151.ev rfl)) ?_
      intro a152 HF153; clear HF151
      refine gw_set 1 HF153 HO14 rfl (want_none rfl) rfl (op_store1 gwsiz2 rfl (HF153.ev rfl) (HF153.ev rfl) rfl (blk_at (HO14.get 1 rfl) rfl) (blkf (HO14.get 1 rfl))) ?_
      intro a154 w156 HF155 HO157; clear HF153 HO14
      have HO158 : Own w0 w156 [R, Chunk.blk l (.cells #[.slice Ac chs.length cc, .int .i64 en, .int .i64 wt, .int .i64 at_, .int .i64 (mx now ((dueL chs en wt at_ last).1)), .int .i64 last, .slice As sent.length cs_] 83 (0, 0)), Chunk.view k52 Sv Ac chs.length cc chs] := HO157
      clear HO157
      refine wpList_nil ?_
      refine gw_nx (hK135 _ _ ?_)
      refine gw_seq fun K159 hK159 => ?_
      refine gw_seq fun K160 hK160 => ?_
      refine wp_region_lit ?_
      refine gw_ev HF155 (want_none rfl) rfl (by decide) (op_move rfl (HF155.ev rfl)) ?_
      intro a161 HF162; clear HF155
      refine gw_ev HF162 (want_none rfl) rfl (by decide) (op_nei rfl (HF162.ev rfl) (ev_c _ _)) ?_
      intro a163 HF164; clear HF162
      refine wpList_nil ?_
      refine gw_nx (hK160 _ _ ?_)
      refine gw_cond HF164 rfl (fun hb165 => ?_) (fun hb165 => ?_)
      · skip
        have HF166 := HF164.subst_ (d := 45) (b := true) rfl hb165
        clear HF164
        (try simp only [decide_eq_true_eq, decide_eq_false_iff_not, Bool.not_eq_true', Bool.not_eq_false', Bool.not_eq_true, Bool.not_eq_false, ne_eq, Decidable.not_not, Int.not_lt, Int.not_le, not_true_eq_false, not_false_eq_true, bne_iff_ne, beq_iff_eq, bne_eq_false_iff_eq, beq_eq_false_iff_ne] at hb165)
        refine gw_seq fun K167 hK167 => ?_
        refine wp_region_lit ?_
        refine gw_ev HF166 (want_none rfl) rfl (by decide) (op_move rfl (HF166.ev rfl)) ?_
        intro a168 HF169; clear HF166
        refine gw_ev HF169 (want_none rfl) rfl (by decide) (op_assign rfl (HF169.ev rfl)) ?_
        intro a170 HF171; clear HF169
        refine gw_ev HF171 (want_none rfl) rfl (by decide) (op_assign rfl (ev_c _ _)) ?_
        intro a172 HF173; clear HF171
        refine wpList_nil ?_
        refine gw_nx (hK167 _ _ ?_)
        refine wp_ret ?_
        refine gw_thr ?_
        refine gw_ret2 HF173 rfl rfl rfl ?_
        have hn : (nextL chs en wt at_ now last limit) = ⟨(dueL chs en wt at_ last).2, at_, mx now ((dueL chs en wt at_ last).1), last, []⟩ := by unfold nextL; (repeat' split) <;> first | rfl | (exfalso; omega)
        rw [hn]
        exact ⟨_, _, _, rfl, (HO158.row_nil (Kd.int .u8) 5 w0.heap.size).sel [0, 1, 2, 3] (by decide)⟩
      · skip
        have HF174 := HF164.subst_ (d := 45) (b := false) rfl hb165
        clear HF164
        (try simp only [decide_eq_true_eq, decide_eq_false_iff_not, Bool.not_eq_true', Bool.not_eq_false', Bool.not_eq_true, Bool.not_eq_false, ne_eq, Decidable.not_not, Int.not_lt, Int.not_le, not_true_eq_false, not_false_eq_true, bne_iff_ne, beq_iff_eq, bne_eq_false_iff_eq, beq_eq_false_iff_ne] at hb165)
        have hat2 := due_one hb165
        refine wp_skip ?_
        refine gw_nx (hK159 _ _ ?_)
        refine gw_seq fun K175 hK175 => ?_
        refine gw_drawB HO158 (by kernel_rfl) (by kernel_rfl) fun w176 HO177 => ?_
        clear HO158
        refine gq_ev HF174 (want_none rfl) rfl (by decide) (fun wq hq => have HO := HO177.after hq; (op_move rfl (HF174.ev rfl))) ?_
        intro a178 HF179; clear HF174
        refine gq_ev HF179 (want_none rfl) rfl (by decide) (fun wq hq => have HO := HO177.after hq; (op_nil rfl (HF179.ev rfl))) ?_
        intro a180 HF181; clear HF179
        refine gq_ev HF181 (want_none rfl) rfl (by decide) (fun wq hq => have HO := HO177.after hq; (op_field (gwfld83_0 _ _) rfl (HF181.ev rfl))) ?_
        intro a182 HF183; clear HF181
        refine gq_ev HF183 (want_none rfl) rfl (by decide) (fun wq hq => have HO := HO177.after hq; (op_field (gwfld48_0 _ _) rfl (HF183.ev rfl))) ?_
        intro a184 HF185; clear HF183
        refine gq_ev HF185 (want_none rfl) rfl (by decide) (fun wq hq => have HO := HO177.after hq; (op_load1 gwagg46 rfl (HF185.ev rfl) (blk_at (HO.get 1 rfl) rfl))) ?_
        intro a186 HF187; clear HF185
        refine gq_ev HF187 (want_none rfl) rfl (by decide) (fun wq hq => have HO := HO177.after hq; (op_move rfl (HF187.ev rfl))) ?_
        intro a188 HF189; clear HF187
        refine gq_ev HF189 (want_none rfl) rfl (by decide) (fun wq hq => have HO := HO177.after hq; (op_nil rfl (HF189.ev rfl))) ?_
        intro a190 HF191; clear HF189
        refine gq_ev HF191 (want_none rfl) rfl (by decide) (fun wq hq => have HO := HO177.after hq; (op_field (gwfld83_1 _ _) rfl (HF191.ev rfl))) ?_
        intro a192 HF193; clear HF191
        refine gq_ev HF193 (want_none rfl) rfl (by decide) (fun wq hq => have HO := HO177.after hq; (op_load1 gwagg3 rfl (HF193.ev rfl) (blk_at (HO.get 1 rfl) rfl))) ?_
        intro a194 HF195; clear HF193
        have HO202 := HO177.pin 2 rfl
        clear HO177
        have HO203 : Own w0 w176 [R, Chunk.blk l (.cells #[.slice Ac chs.length cc, .int .i64 en, .int .i64 wt, .int .i64 at_, .int .i64 (mx now ((dueL chs en wt at_ last).1)), .int .i64 last, .slice As sent.length cs_] 83 (0, 0)), Chunk.viewAt w176 k52 Sv Ac chs.length cc chs] := HO202
        clear HO202
        obtain ⟨ad196, cs199, hA197, hl200, hK201, hc198, _⟩ := Kd.F_get (viewAt_F (HO203.get 2 rfl)) z52 at_ (by (first | omega | ((try have h1_ := tk_b (chs.getD at_.toNat z52).f0); (try have h2_ := tk_b wt); (try have h3_ := due_b chs en wt at_ last (by (first | omega))); first | omega | ((try simp only [List.length_append, List.length_take, List.length_drop, List.length_nil, List.length_cons, List.length_set] at *); omega)))) (by (first | omega | ((try have h1_ := tk_b (chs.getD at_.toNat z52).f0); (try have h2_ := tk_b wt); (try have h3_ := due_b chs en wt at_ last (by (first | omega))); first | omega | ((try simp only [List.length_append, List.length_take, List.length_drop, List.length_nil, List.length_cons, List.length_set] at *); omega))))
        obtain ⟨A204, c205, rfl, hl206, hC207⟩ := k52_openF hK201
        clear hl200
        refine gq_ev HF195 (want_none rfl) rfl (by decide) (fun wq hq => have HO := HO203.after hq; (op_index Try.underlying46 gwsiz52 rfl (HF195.ev rfl) (HF195.ev rfl) hA197 (⟨by (first | omega | ((try have h1_ := tk_b (chs.getD at_.toNat z52).f0); (try have h2_ := tk_b wt); (try have h3_ := due_b chs en wt at_ last (by (first | omega))); first | omega | ((try simp only [List.length_append, List.length_take, List.length_drop, List.length_nil, List.length_cons, List.length_set] at *); omega))), by (first | omega | ((try have h1_ := tk_b (chs.getD at_.toNat z52).f0); (try have h2_ := tk_b wt); (try have h3_ := due_b chs en wt at_ last (by (first | omega))); first | omega | ((try simp only [List.length_append, List.length_take, List.length_drop, List.length_nil, List.length_cons, List.length_set] at *); omega)))⟩))) ?_
        intro a208 HF209; clear HF195
        refine gq_ev HF209 (want_none rfl) rfl (by decide) (fun wq hq => have HO := HO203.after hq; (op_field (gwflda52_1 _) rfl (HF209.ev rfl))) ?_
        intro a210 HF211; clear HF209
        refine gq_ev HF211 (want_none rfl) rfl (by decide) (fun wq hq => have HO := HO203.after hq; (op_load1 gwagg26 rfl (HF211.ev rfl) (((pin_cells (HO.get 2 rfl) hA197 hc198) 1 _ rfl)))) ?_
        intro a212 HF213; clear HF211
        refine gq_ev HF213 (want_none rfl) rfl (by decide) (fun wq hq => have HO := HO203.after hq; (op_assign rfl (HF213.ev rfl))) ?_
        intro a214 HF215; clear HF213
        refine wpQuiet_nil ?_
        intro w216 hq
        have HO217 := HO203.after hq
        clear HO203 hq
        refine gw_nx (hK175 _ _ ?_)
        refine gw_seq fun K218 hK218 => ?_
        refine wp_region_lit ?_
        refine gw_ev HF215 (want_none rfl) rfl (by decide) (op_move rfl (HF215.ev rfl)) ?_
        intro a219 HF220; clear HF215
        refine gw_ev HF220 (want_none rfl) rfl (by decide) (op_nil rfl (HF220.ev rfl)) ?_
        intro a221 HF222; clear HF220
        refine gw_ev HF222 (want_none rfl) rfl (by decide) (op_field (gwfld83_1 _ _) rfl (HF222.ev rfl)) ?_
        intro a223 HF224; clear HF222
        refine gw_ev HF224 (want_none rfl) rfl (by decide) (op_load1 gwagg3 rfl (HF224.ev rfl) (blk_at (HO217.get 1 rfl) rfl)) ?_
        intro a225 HF226; clear HF224
        refine gw_ev HF226 (want_none rfl) rfl (by decide) (op_add rfl (HF226.ev rfl) (ev_c _ _) (by (first | omega | ((try have h1_ := tk_b (chs.getD at_.toNat z52).f0); (try have h2_ := tk_b wt); (try have h3_ := due_b chs en wt at_ last (by (first | omega))); first | omega | ((try simp only [List.length_append, List.length_take, List.length_drop, List.length_nil, List.length_cons, List.length_set] at *); omega))))) ?_
        intro a227 HF228; clear HF226
        refine gw_ev HF228 (want_none rfl) rfl (by decide) (op_nil rfl (HF228.ev rfl)) ?_
        intro a229 HF230; clear HF228
        refine gw_ev HF230 (want_none rfl) rfl (by decide) (op_field (gwfld83_1 _ _) rfl (HF230.ev rfl)) ?_
        intro a231 HF232; clear HF230
        refine gw_set 1 HF232 HO217 rfl (want_none rfl) rfl (op_store1 gwsiz3 rfl (HF232.ev rfl) (HF232.ev rfl) rfl (blk_at (HO217.get 1 rfl) rfl) (blkf (HO217.get 1 rfl))) ?_
        intro a233 w235 HF234 HO236; clear HF232 HO217
        have HO237 : Own w0 w235 [R, Chunk.blk l (.cells #[.slice Ac chs.length cc, .int .i64 en, .int .i64 wt, .int .i64 (at_ + 1), .int .i64 (mx now ((dueL chs en wt at_ last).1)), .int .i64 last, .slice As sent.length cs_] 83 (0, 0)), Chunk.viewAt w176 k52 Sv Ac chs.length cc chs] := HO236
        clear HO236
        refine wpList_nil ?_
        refine gw_nx (hK218 _ _ ?_)
        refine gw_seq fun K238 hK238 => ?_
        refine wp_region_lit ?_
        refine gw_ev HF234 (want_none rfl) rfl (by decide) (op_move rfl (HF234.ev rfl)) ?_
        intro a239 HF240; clear HF234
        refine gw_ev HF240 (want_none rfl) rfl (by decide) (op_move rfl (HF240.ev rfl)) ?_
        intro a241 HF242; clear HF240
        refine gw_ev HF242 (want_none rfl) rfl (by decide) (op_nil rfl (HF242.ev rfl)) ?_
        intro a243 HF244; clear HF242
        refine gw_ev HF244 (want_none rfl) rfl (by decide) (op_field (gwfld83_3 _ _) rfl (HF244.ev rfl)) ?_
        intro a245 HF246; clear HF244
        refine gw_set 1 HF246 HO237 rfl (want_none rfl) rfl (op_store1 gwsiz2 rfl (HF246.ev rfl) (HF246.ev rfl) rfl (blk_at (HO237.get 1 rfl) rfl) (blkf (HO237.get 1 rfl))) ?_
        intro a247 w249 HF248 HO250; clear HF246 HO237
        have HO251 : Own w0 w249 [R, Chunk.blk l (.cells #[.slice Ac chs.length cc, .int .i64 en, .int .i64 wt, .int .i64 (at_ + 1), .int .i64 (mx now ((dueL chs en wt at_ last).1)), .int .i64 ((dueL chs en wt at_ last).1), .slice As sent.length cs_] 83 (0, 0)), Chunk.viewAt w176 k52 Sv Ac chs.length cc chs] := HO250
        clear HO250
        refine wpList_nil ?_
        refine gw_nx (hK238 _ _ ?_)
        refine gw_seq fun K252 hK252 => ?_
        refine wp_region_lit ?_
        refine gw_ev HF248 (want_none rfl) rfl (by decide) (op_move rfl (HF248.ev rfl)) ?_
        intro a253 HF254; clear HF248
        refine gw_call HF254 (want_none rfl) rfl (by decide) (op_callL Try.func36 (by kernel_rfl) rfl rfl (ar_cons (HF254.ev rfl) ar_nil)) (clone0 A204 c205 ((chs.getD at_.toNat z52).f1) _ (pinC (HO251.get 2 rfl) hC207) hl206 (by have := hz _ (getD_mem (z := z52) chs at_.toNat (by (first | omega | ((try have h1_ := tk_b (chs.getD at_.toNat z52).f0); (try have h2_ := tk_b wt); (try have h3_ := due_b chs en wt at_ last (by (first | omega))); first | omega | ((try simp only [List.length_append, List.length_take, List.length_drop, List.length_nil, List.length_cons, List.length_set] at *); omega))))); omega)) ?_
        rintro e258 w259 ⟨A255, c256, S257, rfl, hb260⟩
        refine ⟨_, rfl, fun a261 HF262 => ?_⟩
        have HO263 := HO251.fresh hb260
        have hbel264 := HO251.below
        clear HF254 HO251 hb260
        have HO265 := HO263.lowrow 0 rfl (base' := w0.heap.size) (Below.size hbel264)
        have HO266 : Own w0 w259 [Chunk.row (Kd.int .u8) 5 w0.heap.size S257 (.slice A255 (((chs.getD at_.toNat z52).f1).length) c256) ((chs.getD at_.toNat z52).f1), R, Chunk.blk l (.cells #[.slice Ac chs.length cc, .int .i64 en, .int .i64 wt, .int .i64 (at_ + 1), .int .i64 (mx now ((dueL chs en wt at_ last).1)), .int .i64 ((dueL chs en wt at_ last).1), .slice As sent.length cs_] 83 (0, 0)), Chunk.viewAt w176 k52 Sv Ac chs.length cc chs] := HO265
        clear HO265
        refine gw_ev HF262 (want_none rfl) rfl (by decide) (op_assign rfl (ev_c _ _)) ?_
        intro a267 HF268; clear HF262
        refine gw_ev HF268 (want_none rfl) rfl (by decide) (op_assign rfl (HF268.ev rfl)) ?_
        intro a269 HF270; clear HF268
        refine wpList_nil ?_
        refine gw_nx (hK252 _ _ ?_)
        refine wp_ret ?_
        have HO271 := HO266.unpin 3 rfl
        clear HO266
        have HO272 : Own w0 w259 [Chunk.row (Kd.int .u8) 5 w0.heap.size S257 (.slice A255 (((chs.getD at_.toNat z52).f1).length) c256) ((chs.getD at_.toNat z52).f1), R, Chunk.blk l (.cells #[.slice Ac chs.length cc, .int .i64 en, .int .i64 wt, .int .i64 (at_ + 1), .int .i64 (mx now ((dueL chs en wt at_ last).1)), .int .i64 ((dueL chs en wt at_ last).1), .slice As sent.length cs_] 83 (0, 0)), Chunk.view k52 Sv Ac chs.length cc chs] := HO271
        clear HO271
        refine gw_ret2 HF270 rfl rfl rfl ?_
        have hn : (nextL chs en wt at_ now last limit) = ⟨1, at_ + 1, mx now ((dueL chs en wt at_ last).1), (dueL chs en wt at_ last).1, (chs.getD at_.toNat z52).f1⟩ := by unfold nextL; (repeat' split) <;> first | rfl | (exfalso; omega)
        rw [hn]
        exact ⟨_, _, _, rfl, HO272.sel [0, 1, 2, 3] (by decide)⟩
set_option maxHeartbeats 4000000 in
set_option maxRecDepth 100000 in
theorem send_calls (w0 w : World) (R : Chunk) (l : Nat) (Ac : Option Addr) (cc : Nat) (chs : List S52) (en wt at_ now last : Int) (As : Option Addr) (cs_ : Nat) (sent : List Int) (Ss : Nat → Prop) (Ax : Option Addr) (cx : Nat) (x : List Int) (hx : ∀ w', Own w0 w' [R] → Kd.C (Kd.int .u8) w' Ax x.length x) (hcx : x.length ≤ cx) (hs : sent.length + x.length ≤ 140737488355328) (HO : Own w0 w [R, Chunk.blk l (.cells #[.slice Ac chs.length cc, .int .i64 en, .int .i64 wt, .int .i64 at_, .int .i64 now, .int .i64 last, .slice As sent.length cs_] 83 (0, 0)), Chunk.row (Kd.int .u8) 5 w0.heap.size Ss (.slice As sent.length cs_) sent]) :
    Calls Try.prog 27 #[.pointer (some ⟨l, 0, none⟩), .slice Ax x.length cx] w fun e w' => ∃ A c S, e = .returned (.tuple #[]) ∧ Own w0 w' [R, Chunk.blk l (.cells #[.slice Ac chs.length cc, .int .i64 en, .int .i64 wt, .int .i64 at_, .int .i64 now, .int .i64 last, .slice A ((sent ++ x).length) c] 83 (0, 0)), Chunk.row (Kd.int .u8) 5 w0.heap.size S (.slice A (sent ++ x).length c) (sent ++ x)] := by
  refine gw_startO (N := 13) (vs := [.pointer (some ⟨l, 0, none⟩), .slice Ax x.length cx]) Try.func27 rfl rfl (by simp) fun a HF => ?_
  refine wp_region_lit ?_
  refine gw_ev HF (want_none rfl) rfl (by decide) (op_move rfl (HF.ev rfl)) ?_
  intro a1 HF2; clear HF
  refine gw_ev HF2 (want_none rfl) rfl (by decide) (op_move rfl (HF2.ev rfl)) ?_
  intro a3 HF4; clear HF2
  refine gw_ev HF4 (want_none rfl) rfl (by decide) (op_nil rfl (HF4.ev rfl)) ?_
  intro a5 HF6; clear HF4
  refine gw_ev HF6 (want_none rfl) rfl (by decide) (op_field (gwfld83_4 _ _) rfl (HF6.ev rfl)) ?_
  intro a7 HF8; clear HF6
  refine gw_ev HF8 (want_none rfl) rfl (by decide) (op_load1 gwagg26 rfl (HF8.ev rfl) (blk_at (HO.get 1 rfl) rfl)) ?_
  intro a9 HF10; clear HF8
  refine gw_ev HF10 (want_none rfl) rfl (by decide) (op_move rfl (HF10.ev rfl)) ?_
  intro a11 HF12; clear HF10
  refine gw_append (Kd.int .u8) 2 HF12 HO (want_none rfl) rfl (by decide) rfl Try.underlying26 gwinfo5 rfl (by decide) (by decide) rfl (HF12.ev rfl) (HF12.ev rfl) (hx _ (HO.sel [0] (by decide))) (fun _ _ h => h) HO.below.size (by omega) ?_
  intro A13 c14 S15 a16 w17 HF18 HO19; clear HF12 HO
  have HO20 : Own w0 w17 [R, Chunk.blk l (.cells #[.slice Ac chs.length cc, .int .i64 en, .int .i64 wt, .int .i64 at_, .int .i64 now, .int .i64 last, .slice As sent.length cs_] 83 (0, 0)), Chunk.row (Kd.int .u8) 5 w0.heap.size S15 (.slice A13 ((sent ++ x).length) c14) (sent ++ x)] := HO19
  clear HO19
  refine gw_ev HF18 (want_none rfl) rfl (by decide) (op_nil rfl (HF18.ev rfl)) ?_
  intro a21 HF22; clear HF18
  refine gw_ev HF22 (want_none rfl) rfl (by decide) (op_field (gwfld83_4 _ _) rfl (HF22.ev rfl)) ?_
  intro a23 HF24; clear HF22
  refine gw_set 1 HF24 HO20 rfl (want_none rfl) rfl (op_store1 gwsiz26 rfl (HF24.ev rfl) (HF24.ev rfl) rfl (blk_at (HO20.get 1 rfl) rfl) (blkf (HO20.get 1 rfl))) ?_
  intro a25 w27 HF26 HO28; clear HF24 HO20
  have HO29 : Own w0 w27 [R, Chunk.blk l (.cells #[.slice Ac chs.length cc, .int .i64 en, .int .i64 wt, .int .i64 at_, .int .i64 now, .int .i64 last, .slice A13 ((sent ++ x).length) c14] 83 (0, 0)), Chunk.row (Kd.int .u8) 5 w0.heap.size S15 (.slice A13 ((sent ++ x).length) c14) (sent ++ x)] := HO28
  clear HO28
  refine wpList_nil ?_
  refine gw_end0 HF26 rfl ?_
  exact ⟨_, _, _, rfl, HO29.sel [0, 1, 2] (by decide)⟩
set_option maxHeartbeats 4000000 in
set_option maxRecDepth 100000 in
theorem open_calls (base : Nat) (Ac : Option Addr) (cc : Nat) (chs : List S52) (en wt : Int) (w : World) (hr : Kd.C k52 w Ac chs.length chs) (hc : chs.length ≤ cc) (hlen : chs.length ≤ 4398046511102) (hz : ∀ x ∈ chs, x.f1.length ≤ 140737488351232) :
    Calls Try.prog 22 #[.agg #[.slice Ac chs.length cc, .int .i64 en, .int .i64 wt]] w fun e w' => ∃ l A c S, e = .returned (.pointer (some ⟨l, 0, none⟩)) ∧ Out w w' (fun _ => False) [Chunk.blk l (.cells #[.slice A chs.length c, .int .i64 en, .int .i64 wt, .int .i64 0, .int .i64 0, .int .i64 0, .slice none 0 0] 83 (0, 0)), Chunk.view k52 S A chs.length c chs, Chunk.row (Kd.int .u8) 5 base (fun _ => False) (.slice none 0 0) []] := by
  refine gw_start (N := 30) (vs := [.agg #[.slice Ac chs.length cc, .int .i64 en, .int .i64 wt]]) Try.func22 rfl rfl (by simp) fun a HF HO => ?_
  replace HO : Own w w [] := HO
  refine gw_seq fun K1 hK1 => ?_
  refine wp_region_lit ?_
  refine gw_new HF HO (want_none rfl) rfl (by decide) (op_box rfl (HF.ev rfl)) ?_
  intro g2 a3 w4 HF5 HO6; clear HF HO
  have HO7 : Own w w4 [Chunk.blk g2 (.cells #[.slice Ac chs.length cc, .int .i64 en, .int .i64 wt] 48 (0, 0))] := HO6
  clear HO6
  refine gw_ev HF5 (want_none rfl) rfl (by decide) (op_assign rfl (ev_c _ _)) ?_
  intro a8 HF9; clear HF5
  refine wpList_nil ?_
  refine gw_nx (hK1 _ _ ?_)
  refine gw_seq fun K10 hK10 => ?_
  refine wp_region_lit ?_
  refine gw_ev HF9 (want_none rfl) rfl (by decide) (op_loadn gwagg48 gwsiz48 rfl (HF9.ev rfl) (HO7.get 0 rfl) rfl rfl) ?_
  intro a11 HF12; clear HF9
  refine gw_new HF12 HO7 (want_none rfl) rfl (by decide) (op_alloc gwzer48 rfl) ?_
  intro g13 a14 w15 HF16 HO17; clear HF12 HO7
  have HO18 : Own w w15 [Chunk.blk g13 (.cells #[.slice none 0 0, .int .i64 0, .int .i64 0] 48 (0, 0)), Chunk.blk g2 (.cells #[.slice Ac chs.length cc, .int .i64 en, .int .i64 wt] 48 (0, 0))] := HO17
  clear HO17
  refine gw_setn 0 HF16 HO18 rfl (want_none rfl) rfl (op_storen gwsiz48 rfl (HF16.ev rfl) (HF16.ev rfl) (HO18.get 0 rfl) rfl (by simp) (by simp [Value.oneCell'])) ?_
  intro a19 w21 HF20 HO22; clear HF16 HO18
  have HO23 : Own w w21 [Chunk.blk g13 (.cells #[.slice Ac chs.length cc, .int .i64 en, .int .i64 wt] 48 (0, 0)), Chunk.blk g2 (.cells #[.slice Ac chs.length cc, .int .i64 en, .int .i64 wt] 48 (0, 0))] := HO22
  clear HO22
  refine wpList_nil ?_
  refine gw_nx (hK10 _ _ ?_)
  refine gw_seq fun K24 hK24 => ?_
  refine wp_region_lit ?_
  refine gw_ev HF20 (want_none rfl) rfl (by decide) (op_field (gwfld48_0 _ _) rfl (HF20.ev rfl)) ?_
  intro a25 HF26; clear HF20
  refine gw_set 0 HF26 HO23 rfl (want_none rfl) rfl (op_store1 gwsiz46 rfl (HF26.ev rfl) (ev_c _ _) rfl (blk_at (HO23.get 0 rfl) rfl) (blkf (HO23.get 0 rfl))) ?_
  intro a27 w29 HF28 HO30; clear HF26 HO23
  have HO31 : Own w w29 [Chunk.blk g13 (.cells #[.slice none 0 0, .int .i64 en, .int .i64 wt] 48 (0, 0)), Chunk.blk g2 (.cells #[.slice Ac chs.length cc, .int .i64 en, .int .i64 wt] 48 (0, 0))] := HO30
  clear HO30
  refine wpList_nil ?_
  refine gw_nx (hK24 _ _ ?_)
  refine gw_seq fun K32 hK32 => ?_
  refine gw_seq fun K33 hK33 => ?_
  refine wp_region_lit ?_
  refine gw_ev HF28 (want_none rfl) rfl (by decide) (op_field (gwfld48_0 _ _) rfl (HF28.ev rfl)) ?_
  intro a34 HF35; clear HF28
  refine gw_ev HF35 (want_none rfl) rfl (by decide) (op_load1 gwagg46 rfl (HF35.ev rfl) (blk_at (HO31.get 1 rfl) rfl)) ?_
  intro a36 HF37; clear HF35
  refine gw_ev HF37 (want_none rfl) rfl (by decide) (op_len Try.underlying46 rfl (HF37.ev rfl)) ?_
  intro a38 HF39; clear HF37
  refine gw_ev HF39 (want_none rfl) rfl (by decide) (op_move rfl (ev_c _ _)) ?_
  intro a40 HF41; clear HF39
  refine wpList_nil ?_
  refine gw_nx (hK33 _ _ ?_)
  refine wp_block ?_
  have HO42 := HO31.row_nil k52 52 w.heap.size
  clear HO31
  refine gw_loop (fun m_ a_ w_ => ∃ (i : Int) (Ad : Option Addr) (cd : Nat) (Sr : Nat → Prop), Fr 30 a_ [(11, .int .i64 i), (2, .pointer none), (3, .pointer (some ⟨g13, 0, none⟩)), (9, .slice Ac chs.length cc), (10, .int .i64 (chs.length : Int))] ∧ Own w w_ [Chunk.row k52 52 w.heap.size Sr (.slice Ad ((chs.take i.toNat).length) cd) (chs.take i.toNat), Chunk.blk g13 (.cells #[.slice Ad ((chs.take i.toNat).length) cd, .int .i64 en, .int .i64 wt] 48 (0, 0)), Chunk.blk g2 (.cells #[.slice Ac chs.length cc, .int .i64 en, .int .i64 wt] 48 (0, 0))] ∧ (0 ≤ i ∧ i ≤ chs.length) ∧ m_ = (chs.length - i.toNat)) ((chs.length - (0 : Int).toNat)) ?_ ?_
  · refine ⟨0, none, _, _, (HF41.pick (t := 11) rfl (HF41.pick (t := 2) rfl (HF41.pick (t := 3) rfl (HF41.pick (t := 9) rfl (HF41.pick (t := 10) rfl HF41.nil))))), HO42.sel [0, 1, 2] (by decide), ?_, rfl⟩
    · (first | omega | ((try simp only [List.length_append, List.length_take, List.length_drop, List.length_nil, List.length_cons, List.length_set] at *); omega))
  · rintro m44 a45 w46 ⟨i, Ad, cd, Sr, HF47, HO48, hi, hm49⟩
    refine gw_seq fun K50 hK50 => ?_
    refine wp_region_lit ?_
    refine gw_ev HF47 (want_none rfl) rfl (by decide) (op_lss rfl (HF47.ev rfl) (HF47.ev rfl)) ?_
    intro a51 HF52; clear HF47
    refine wpList_nil ?_
    refine gw_nx (hK50 _ _ ?_)
    refine gw_seq fun K53 hK53 => ?_
    refine gw_cond HF52 rfl (fun hb54 => ?_) (fun hb54 => ?_)
    · skip
      have HF55 := HF52.subst_ (d := 12) (b := true) rfl hb54
      clear HF52
      (try simp only [decide_eq_true_eq, decide_eq_false_iff_not, Bool.not_eq_true', Bool.not_eq_false', Bool.not_eq_true, Bool.not_eq_false, ne_eq, Decidable.not_not, Int.not_lt, Int.not_le, not_true_eq_false, not_false_eq_true, bne_iff_ne, beq_iff_eq, bne_eq_false_iff_eq, beq_eq_false_iff_ne] at hb54)
      refine wp_skip ?_
      refine gw_nx (hK53 _ _ ?_)
      refine gw_seq fun K56 hK56 => ?_
      refine wp_block ?_
      refine gw_seq fun K57 hK57 => ?_
      refine wp_region_lit ?_
      obtain ⟨ad58, cs61, hA59, hl62, hK63, hc60⟩ := Kd.C_get hr z52 i (by (first | omega | ((try simp only [List.length_append, List.length_take, List.length_drop, List.length_nil, List.length_cons, List.length_set] at *); omega))) (by (first | omega | ((try simp only [List.length_append, List.length_take, List.length_drop, List.length_nil, List.length_cons, List.length_set] at *); omega)))
      obtain ⟨A64, c65, rfl, hl66, hC67⟩ := k52_open hK63
      clear hl62
      refine gw_ev HF55 (want_none rfl) rfl (by decide) (op_index Try.underlying46 gwsiz52 rfl (HF55.ev rfl) (HF55.ev rfl) hA59 (⟨by (first | omega | ((try simp only [List.length_append, List.length_take, List.length_drop, List.length_nil, List.length_cons, List.length_set] at *); omega)), by (first | omega | ((try simp only [List.length_append, List.length_take, List.length_drop, List.length_nil, List.length_cons, List.length_set] at *); omega))⟩)) ?_
      intro a68 HF69; clear HF55
      refine gw_ev HF69 (want_none rfl) rfl (by decide) (op_loadc gwagg52 gwsiz52 rfl (HF69.ev rfl) rfl (cells0 HO48 hc60)) ?_
      intro a70 HF71; clear HF69
      refine gw_new HF71 HO48 (want_none rfl) rfl (by decide) (op_alloc gwzer52 rfl) ?_
      intro g72 a73 w74 HF75 HO76; clear HF71 HO48
      have HO77 : Own w w74 [Chunk.blk g72 (.cells #[.int .i64 0, .slice none 0 0] 52 (0, 0)), Chunk.row k52 52 w.heap.size Sr (.slice Ad ((chs.take i.toNat).length) cd) (chs.take i.toNat), Chunk.blk g13 (.cells #[.slice Ad ((chs.take i.toNat).length) cd, .int .i64 en, .int .i64 wt] 48 (0, 0)), Chunk.blk g2 (.cells #[.slice Ac chs.length cc, .int .i64 en, .int .i64 wt] 48 (0, 0))] := HO76
      clear HO76
      refine gw_setn 0 HF75 HO77 rfl (want_none rfl) rfl (op_storen gwsiz52 rfl (HF75.ev rfl) (HF75.ev rfl) (HO77.get 0 rfl) rfl (by simp) (by simp [Value.oneCell'])) ?_
      intro a78 w80 HF79 HO81; clear HF75 HO77
      have HO82 : Own w w80 [Chunk.blk g72 (.cells #[.int .i64 ((chs.getD i.toNat z52).f0), .slice A64 ((chs.getD i.toNat z52).f1.length) c65] 52 (0, 0)), Chunk.row k52 52 w.heap.size Sr (.slice Ad ((chs.take i.toNat).length) cd) (chs.take i.toNat), Chunk.blk g13 (.cells #[.slice Ad ((chs.take i.toNat).length) cd, .int .i64 en, .int .i64 wt] 48 (0, 0)), Chunk.blk g2 (.cells #[.slice Ac chs.length cc, .int .i64 en, .int .i64 wt] 48 (0, 0))] := HO81
      clear HO81
      refine wpList_nil ?_
      refine gw_nx (hK57 _ _ ?_)
      refine gx_draw (M := [Chunk.blk g72 (.cells #[.int .i64 ((chs.getD i.toNat z52).f0), .slice A64 ((chs.getD i.toNat z52).f1.length) c65] 52 (0, 0)), Chunk.blk g13 (.cells #[.slice Ad ((chs.take i.toNat).length) cd, .int .i64 en, .int .i64 wt] 48 (0, 0))]) (fun j_ => j_ == 11) HO82 (by kernel_rfl) fun w83 HO84 => ?_
      clear HO82
      refine gx_take 0 rfl (by kernel_rfl) HF79 (by exact HO84.sel [0, 2] (by decide)) (want_none rfl) rfl (by decide) (fun wq HO => (op_field (gwfld48_0 _ _) rfl (HF79.ev rfl))) ?_
      intro a85 HF86; clear HF79
      refine gx_take 1 rfl (by kernel_rfl) HF86 (by exact HO84.sel [0, 2] (by decide)) (want_none rfl) rfl (by decide) (fun wq HO => (op_load1 gwagg46 rfl (HF86.ev rfl) (blk_at (HO.get 1 rfl) rfl))) ?_
      intro a87 HF88; clear HF86
      refine gx_take 2 rfl (by kernel_rfl) HF88 (by exact HO84.sel [0, 2] (by decide)) (want_none rfl) rfl (by decide) (fun wq HO => (op_field (gwfld52_0 _ _) rfl (HF88.ev rfl))) ?_
      intro a89 HF90; clear HF88
      refine gx_take 3 rfl (by kernel_rfl) HF90 (by exact HO84.sel [0, 2] (by decide)) (want_none rfl) rfl (by decide) (fun wq HO => (op_load1 gwagg3 rfl (HF90.ev rfl) (blk_at (HO.get 0 rfl) rfl))) ?_
      intro a91 HF92; clear HF90
      refine gx_take 4 rfl (by kernel_rfl) HF92 (by exact HO84.sel [0, 2] (by decide)) (want_none rfl) rfl (by decide) (fun wq HO => (op_field (gwfld52_1 _ _) rfl (HF92.ev rfl))) ?_
      intro a93 HF94; clear HF92
      refine gx_take 5 rfl (by kernel_rfl) HF94 (by exact HO84.sel [0, 2] (by decide)) (want_none rfl) rfl (by decide) (fun wq HO => (op_load1 gwagg26 rfl (HF94.ev rfl) (blk_at (HO.get 0 rfl) rfl))) ?_
      intro a95 HF96; clear HF94
      refine gx_step 6 rfl (by kernel_rfl) ?_
      refine gw_call HF96 (want_none rfl) rfl (by decide) (op_callL Try.func36 (by kernel_rfl) rfl rfl (ar_cons (HF96.ev rfl) ar_nil)) (clone0 A64 c65 ((chs.getD i.toNat z52).f1) _ (Kd.C_below hC67 HO84.below) hl66 (by have := hz _ (getD_mem (z := z52) chs i.toNat (by (first | omega | ((try simp only [List.length_append, List.length_take, List.length_drop, List.length_nil, List.length_cons, List.length_set] at *); omega)))); omega)) ?_
      rintro e100 w101 ⟨A97, c98, S99, rfl, hb102⟩
      refine ⟨_, rfl, fun a103 HF104 => ?_⟩
      have HO105 := HO84.fresh hb102
      have hbel106 := HO84.below
      clear HF96 HO84 hb102
      have HO107 := HO105.lowrow 0 rfl (base' := w.heap.size) (Below.size hbel106)
      have HO108 : Own w w101 [Chunk.row (Kd.int .u8) 5 w.heap.size S99 (.slice A97 (((chs.getD i.toNat z52).f1).length) c98) ((chs.getD i.toNat z52).f1), Chunk.blk g72 (.cells #[.int .i64 ((chs.getD i.toNat z52).f0), .slice A64 ((chs.getD i.toNat z52).f1.length) c65] 52 (0, 0)), Chunk.row k52 52 w.heap.size Sr (.slice Ad ((chs.take i.toNat).length) cd) (chs.take i.toNat), Chunk.blk g13 (.cells #[.slice Ad ((chs.take i.toNat).length) cd, .int .i64 en, .int .i64 wt] 48 (0, 0)), Chunk.blk g2 (.cells #[.slice Ac chs.length cc, .int .i64 en, .int .i64 wt] 48 (0, 0))] := HO107
      clear HO107
      refine gx_on (i := 6) (B := (fun j_ => j_ == 11)) (M := [Chunk.blk g72 (.cells #[.int .i64 ((chs.getD i.toNat z52).f0), .slice A64 ((chs.getD i.toNat z52).f1.length) c65] 52 (0, 0)), Chunk.blk g13 (.cells #[.slice Ad ((chs.take i.toNat).length) cd, .int .i64 en, .int .i64 wt] 48 (0, 0))]) (fun _ => (by exact HO108.sel [1, 3] (by decide))) ?_
      refine gx_take 7 rfl (by kernel_rfl) HF104 (by exact HO108.sel [1, 3] (by decide)) (want_none rfl) rfl (by decide) (fun wq HO => (op_build (cells := #[.int .i64 ((chs.getD i.toNat z52).f0), .slice A97 (((chs.getD i.toNat z52).f1).length) c98]) rfl (pt_cons (HF104.ev rfl) (pt_cons (HF104.ev rfl) pt_nil)) (by kernel_rfl))) ?_
      intro a109 HF110; clear HF104
      refine gx_step 8 rfl (by kernel_rfl) ?_
      refine gw_news (O := .cells #[.int .i64 ((chs.getD i.toNat z52).f0), .slice A97 (((chs.getD i.toNat z52).f1).length) c98] 52 (0, 0)) (n := 1) HF110 HO108 (want_none rfl) rfl (by decide) (op_bslice (by kernel_rfl) rfl (pt_cons (HF110.ev rfl) pt_nil)) ?_
      intro g111 a112 w113 HF114 HO115; clear HF110 HO108
      have HO116 : Own w w113 [Chunk.blk g111 (.cells #[.int .i64 ((chs.getD i.toNat z52).f0), .slice A97 (((chs.getD i.toNat z52).f1).length) c98] 52 (0, 0)), Chunk.row (Kd.int .u8) 5 w.heap.size S99 (.slice A97 (((chs.getD i.toNat z52).f1).length) c98) ((chs.getD i.toNat z52).f1), Chunk.blk g72 (.cells #[.int .i64 ((chs.getD i.toNat z52).f0), .slice A64 ((chs.getD i.toNat z52).f1.length) c65] 52 (0, 0)), Chunk.row k52 52 w.heap.size Sr (.slice Ad ((chs.take i.toNat).length) cd) (chs.take i.toNat), Chunk.blk g13 (.cells #[.slice Ad ((chs.take i.toNat).length) cd, .int .i64 en, .int .i64 wt] 48 (0, 0)), Chunk.blk g2 (.cells #[.slice Ac chs.length cc, .int .i64 en, .int .i64 wt] 48 (0, 0))] := HO115
      clear HO115
      refine gx_on (i := 8) (B := (fun j_ => j_ == 11)) (M := [Chunk.blk g72 (.cells #[.int .i64 ((chs.getD i.toNat z52).f0), .slice A64 ((chs.getD i.toNat z52).f1.length) c65] 52 (0, 0)), Chunk.blk g13 (.cells #[.slice Ad ((chs.take i.toNat).length) cd, .int .i64 en, .int .i64 wt] 48 (0, 0))]) (fun _ => (by exact HO116.sel [2, 4] (by decide))) ?_
      refine gx_step 9 rfl (by kernel_rfl) ?_
      have HO117 : Own w _ [Chunk.row k52 52 w.heap.size Sr (.slice Ad ((chs.take i.toNat).length) cd) (chs.take i.toNat), Chunk.row (Kd.int .u8) 5 w.heap.size S99 (.slice A97 (((chs.getD i.toNat z52).f1).length) c98) ((chs.getD i.toNat z52).f1), Chunk.blk g111 (.cells #[.int .i64 ((chs.getD i.toNat z52).f0), .slice A97 (((chs.getD i.toNat z52).f1).length) c98] 52 (0, 0)), Chunk.blk g72 (.cells #[.int .i64 ((chs.getD i.toNat z52).f0), .slice A64 ((chs.getD i.toNat z52).f1.length) c65] 52 (0, 0)), Chunk.blk g13 (.cells #[.slice Ad ((chs.take i.toNat).length) cd, .int .i64 en, .int .i64 wt] 48 (0, 0)), Chunk.blk g2 (.cells #[.slice Ac chs.length cc, .int .i64 en, .int .i64 wt] 48 (0, 0))] := HO116.sel [3, 1, 0, 2, 4, 5] (by decide)
      refine gw_append1 k52 0 (p := (⟨(chs.getD i.toNat z52).f0, (chs.getD i.toNat z52).f1⟩ : S52)) (cs := [.int .i64 ((chs.getD i.toNat z52).f0), .slice A97 (((chs.getD i.toNat z52).f1).length) c98]) HF114 HO117 (want_none rfl) rfl (by decide) rfl Try.underlying46 gwinfo52 rfl (by decide) (by decide) rfl (HF114.ev rfl) (HF114.ev rfl) (fun w_ h_ => k52_mkM w_ _ _ (⟨(chs.getD i.toNat z52).f0, (chs.getD i.toNat z52).f1⟩ : S52) h_) HO117.below.size (by (first | omega | ((try simp only [List.length_append, List.length_take, List.length_drop, List.length_nil, List.length_cons, List.length_set] at *); omega))) ?_
      intro A118 c119 S120 a121 w122 HF123 HO124; clear HF114 HO116 HO117
      have HO125 : Own w w122 [Chunk.row k52 52 w.heap.size S120 (.slice A118 (((chs.take i.toNat) ++ [(⟨(chs.getD i.toNat z52).f0, (chs.getD i.toNat z52).f1⟩ : S52)]).length) c119) ((chs.take i.toNat) ++ [(⟨(chs.getD i.toNat z52).f0, (chs.getD i.toNat z52).f1⟩ : S52)]), Chunk.blk g111 (.cells #[.int .i64 ((chs.getD i.toNat z52).f0), .slice A97 (((chs.getD i.toNat z52).f1).length) c98] 52 (0, 0)), Chunk.blk g72 (.cells #[.int .i64 ((chs.getD i.toNat z52).f0), .slice A64 ((chs.getD i.toNat z52).f1.length) c65] 52 (0, 0)), Chunk.blk g13 (.cells #[.slice Ad ((chs.take i.toNat).length) cd, .int .i64 en, .int .i64 wt] 48 (0, 0)), Chunk.blk g2 (.cells #[.slice Ac chs.length cc, .int .i64 en, .int .i64 wt] 48 (0, 0))] := HO124
      clear HO124
      refine gx_on (i := 9) (B := (fun j_ => j_ == 11)) (M := [Chunk.blk g72 (.cells #[.int .i64 ((chs.getD i.toNat z52).f0), .slice A64 ((chs.getD i.toNat z52).f1.length) c65] 52 (0, 0)), Chunk.blk g13 (.cells #[.slice Ad ((chs.take i.toNat).length) cd, .int .i64 en, .int .i64 wt] 48 (0, 0))]) (fun _ => (by exact HO125.sel [2, 3] (by decide))) ?_
      refine gx_take 10 rfl (by kernel_rfl) HF123 (by exact HO125.sel [2, 3] (by decide)) (want_none rfl) rfl (by decide) (fun wq HO => (op_field (gwfld48_0 _ _) rfl (HF123.ev rfl))) ?_
      intro a126 HF127; clear HF123
      refine gx_step 11 rfl (by kernel_rfl) ?_
      refine gw_set 3 HF127 HO125 rfl (want_none rfl) rfl (op_store1 gwsiz46 rfl (HF127.ev rfl) (HF127.ev rfl) rfl (blk_at (HO125.get 3 rfl) rfl) (blkf (HO125.get 3 rfl))) ?_
      intro a128 w130 HF129 HO131; clear HF127 HO125
      have HO132 : Own w w130 [Chunk.row k52 52 w.heap.size S120 (.slice A118 (((chs.take i.toNat) ++ [(⟨(chs.getD i.toNat z52).f0, (chs.getD i.toNat z52).f1⟩ : S52)]).length) c119) ((chs.take i.toNat) ++ [(⟨(chs.getD i.toNat z52).f0, (chs.getD i.toNat z52).f1⟩ : S52)]), Chunk.blk g111 (.cells #[.int .i64 ((chs.getD i.toNat z52).f0), .slice A97 (((chs.getD i.toNat z52).f1).length) c98] 52 (0, 0)), Chunk.blk g72 (.cells #[.int .i64 ((chs.getD i.toNat z52).f0), .slice A64 ((chs.getD i.toNat z52).f1.length) c65] 52 (0, 0)), Chunk.blk g13 (.cells #[.slice A118 (((chs.take i.toNat) ++ [(⟨(chs.getD i.toNat z52).f0, (chs.getD i.toNat z52).f1⟩ : S52)]).length) c119, .int .i64 en, .int .i64 wt] 48 (0, 0)), Chunk.blk g2 (.cells #[.slice Ac chs.length cc, .int .i64 en, .int .i64 wt] 48 (0, 0))] := HO131
      clear HO131
      refine gx_on (i := 11) (B := (fun j_ => j_ == 11)) (M := [Chunk.blk g72 (.cells #[.int .i64 ((chs.getD i.toNat z52).f0), .slice A64 ((chs.getD i.toNat z52).f1.length) c65] 52 (0, 0)), Chunk.blk g13 (.cells #[.slice Ad ((chs.take i.toNat).length) cd, .int .i64 en, .int .i64 wt] 48 (0, 0))]) (fun h_ => by cases h_) ?_
      refine gx_done (by kernel_rfl) ?_
      refine gw_blk ?_
      refine gw_nx (hK56 _ _ ?_)
      refine wp_region_lit ?_
      refine gw_ev HF129 (want_none rfl) rfl (by decide) (op_add rfl (HF129.ev rfl) (ev_c _ _) (by (first | omega | ((try simp only [List.length_append, List.length_take, List.length_drop, List.length_nil, List.length_cons, List.length_set] at *); omega)))) ?_
      intro a133 HF134; clear HF129
      refine gw_ev HF134 (want_none rfl) rfl (by decide) (op_move rfl (HF134.ev rfl)) ?_
      intro a135 HF136; clear HF134
      refine wpList_nil ?_
      rw [take_snoc52 chs i (by (first | omega | ((try simp only [List.length_append, List.length_take, List.length_drop, List.length_nil, List.length_cons, List.length_set] at *); omega))) (by (first | omega | ((try simp only [List.length_append, List.length_take, List.length_drop, List.length_nil, List.length_cons, List.length_set] at *); omega)))] at HO132
      (try rw [take_snoc52 chs i (by (first | omega | ((try simp only [List.length_append, List.length_take, List.length_drop, List.length_nil, List.length_cons, List.length_set] at *); omega))) (by (first | omega | ((try simp only [List.length_append, List.length_take, List.length_drop, List.length_nil, List.length_cons, List.length_set] at *); omega)))] at HF136)
      refine gw_nx ⟨_, ?_, i + 1, A118, _, _, (HF136.pick (t := 11) rfl (HF136.pick (t := 2) rfl (HF136.pick (t := 3) rfl (HF136.pick (t := 9) rfl (HF136.pick (t := 10) rfl HF136.nil))))), HO132.sel [0, 3, 4] (by decide), ?_, rfl⟩
      · rw [hm49]; (first | omega | ((try simp only [List.length_append, List.length_take, List.length_drop, List.length_nil, List.length_cons, List.length_set] at *); omega))
      · (first | omega | ((try simp only [List.length_append, List.length_take, List.length_drop, List.length_nil, List.length_cons, List.length_set] at *); omega))
    · skip
      have HF137 := HF52.subst_ (d := 12) (b := false) rfl hb54
      clear HF52
      (try simp only [decide_eq_true_eq, decide_eq_false_iff_not, Bool.not_eq_true', Bool.not_eq_false', Bool.not_eq_true, Bool.not_eq_false, ne_eq, Decidable.not_not, Int.not_lt, Int.not_le, not_true_eq_false, not_false_eq_true, bne_iff_ne, beq_iff_eq, bne_eq_false_iff_eq, beq_eq_false_iff_ne] at hb54)
      refine wp_exit ?_
      refine gw_thx ?_
      refine gw_thx ?_
      refine gw_in ?_
      refine gw_nx (hK32 _ _ ?_)
      refine gw_seq fun K138 hK138 => ?_
      refine wp_region_lit ?_
      refine gw_ev HF137 (want_none rfl) rfl (by decide) (op_loadn gwagg48 gwsiz48 rfl (HF137.ev rfl) (HO48.get 1 rfl) rfl rfl) ?_
      intro a139 HF140; clear HF137
      refine gw_ev HF140 (want_none rfl) rfl (by decide) (op_build (cells := #[.slice Ad ((chs.take i.toNat).length) cd, .int .i64 en, .int .i64 wt, .int .i64 0, .int .i64 0, .int .i64 0, .slice none 0 0]) rfl (pt_cons (HF140.ev rfl) pt_nil) (by kernel_rfl)) ?_
      intro a141 HF142; clear HF140
      refine gw_new HF142 HO48 (want_none rfl) rfl (by decide) (op_box rfl (HF142.ev rfl)) ?_
      intro g143 a144 w145 HF146 HO147; clear HF142 HO48
      have HO148 : Own w w145 [Chunk.blk g143 (.cells #[.slice Ad ((chs.take i.toNat).length) cd, .int .i64 en, .int .i64 wt, .int .i64 0, .int .i64 0, .int .i64 0, .slice none 0 0] 83 (0, 0)), Chunk.row k52 52 w.heap.size Sr (.slice Ad ((chs.take i.toNat).length) cd) (chs.take i.toNat), Chunk.blk g13 (.cells #[.slice Ad ((chs.take i.toNat).length) cd, .int .i64 en, .int .i64 wt] 48 (0, 0)), Chunk.blk g2 (.cells #[.slice Ac chs.length cc, .int .i64 en, .int .i64 wt] 48 (0, 0))] := HO147
      clear HO147
      refine gw_ev HF146 (want_none rfl) rfl (by decide) (op_assign rfl (HF146.ev rfl)) ?_
      intro a149 HF150; clear HF146
      refine wpList_nil ?_
      refine gw_nx (hK138 _ _ ?_)
      refine wp_ret ?_
      refine gw_ret1 HF150 rfl rfl ?_
      have e1_ : chs.take i.toNat = chs := List.take_of_length_le (by (first | omega | ((try simp only [List.length_append, List.length_take, List.length_drop, List.length_nil, List.length_cons, List.length_set] at *); omega)))
      rw [e1_] at HO148
      (try rw [e1_] at HF150)
      have HO151 := HO148.row_view 1 rfl
      clear HO148
      have HO152 : Own w w145 [Chunk.blk g143 (.cells #[.slice Ad (chs.length) cd, .int .i64 en, .int .i64 wt, .int .i64 0, .int .i64 0, .int .i64 0, .slice none 0 0] 83 (0, 0)), Chunk.view k52 Sr Ad chs.length cd chs, Chunk.blk g13 (.cells #[.slice Ad (chs.length) cd, .int .i64 en, .int .i64 wt] 48 (0, 0)), Chunk.blk g2 (.cells #[.slice Ac chs.length cc, .int .i64 en, .int .i64 wt] 48 (0, 0))] := HO151
      clear HO151
      exact ⟨_, _, _, _, rfl, ((HO152.row_nil (Kd.int .u8) 5 base).sel [1, 2, 0] (by decide)).out⟩
end GLine_
end Go.Proofs.Ytbnoedefkbnpjaa.PA
