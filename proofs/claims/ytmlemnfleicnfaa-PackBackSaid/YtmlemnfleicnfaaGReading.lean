/- Is reading alive? Printed by a program of this session; Lean checks it. -/
import Derived.Test.YtmlemnfleicnfaaHReadL
namespace Go.Proofs.Ytmlemnfleicnfaa.PA
open Go.RowKit Go.Proofs.YtmlemnfleicnfaaW.PrintWords Go.Proofs.YtmlemnfleicnfaaW.PrintLast Go.Proofs.YtmlemnfleicnfaaW.PrintMore
set_option linter.unusedVariables false
set_option linter.unusedSimpArgs false
namespace GReading_
theorem gwagg2 : ∀ w, (isAgg 2).run Try.prog w = .ok false w := fun _ => by kernel_rfl
theorem gwagg9 : ∀ w, (isAgg 9).run Try.prog w = .ok false w := fun _ => by kernel_rfl
theorem gwsiz2 : ∀ w, (sizeOf 2).run Try.prog w = .ok 1 w := fun _ => by kernel_rfl
theorem gwsiz9 : ∀ w, (sizeOf 9).run Try.prog w = .ok 1 w := fun _ => by kernel_rfl
theorem gwzer2 : ∀ w, (zeroValue 2).run Try.prog w = .ok (.int .i64 0) w := fun _ => by kernel_rfl
theorem gwzer9 : ∀ w, (zeroValue 9).run Try.prog w = .ok (.string (⟨#[]⟩ : ByteArray)) w := fun _ => by kernel_rfl
set_option maxHeartbeats 4000000 in
set_option maxRecDepth 100000 in
theorem reading1_calls (w0 w : World) (R : Chunk) (g : Nat) (A : Option Addr) (c : Nat) (xs : List Int) (hx : ∀ w_, Own w0 w_ [R] → Kd.C (Kd.int .u8) w_ A xs.length xs) (hc : xs.length ≤ c) (hb : ByteL xs) (p q : Nat) (n0 : Int) (s0 : ByteArray) (hq : gnum xs = some (300, 2)) (ht : gtext (xs.drop 2) 1 = some ([97], 2)) (hl : xs.length = 4) (HO : Own w0 w [R, Chunk.blk g (.cells #[.slice A xs.length c] 80 (0, 0)), Chunk.blk p (.cells #[.int .i64 n0] 2 (0, 0)), Chunk.blk q (.cells #[.string s0] 9 (0, 0))]) :
    Calls Try.prog 60 #[.pointer (some ⟨g, 0, none⟩), .pointer (some ⟨p, 0, none⟩), .pointer (some ⟨q, 0, none⟩)] w fun e w' => e = .returned (.tuple #[]) ∧ ∃ A' n' c', n' = 0 ∧ Own w0 w' [R, rblk g A' n' c', Chunk.blk p (.cells #[.int .i64 300] 2 (0, 0)), Chunk.blk q (.cells #[.string (⟨#[97]⟩ : ByteArray)] 9 (0, 0))] := by
  refine gw_startO (N := 8) (vs := [.pointer (some ⟨g, 0, none⟩), .pointer (some ⟨p, 0, none⟩), .pointer (some ⟨q, 0, none⟩)]) Try.func60 rfl rfl (by simp) fun a HF => ?_
  refine gw_seq fun K1 hK1 => ?_
  refine wp_region_lit ?_
  refine gw_ev HF (want_none rfl) rfl (by decide) (op_move rfl (HF.ev rfl)) ?_
  intro a2 HF3; clear HF
  have HO19 : Own w0 _ [(Chunk.all [R, Chunk.blk p (.cells #[.int .i64 n0] 2 (0, 0)), Chunk.blk q (.cells #[.string s0] 9 (0, 0))]), Chunk.blk g (.cells #[.slice A xs.length c] 80 (0, 0))] := Own.bundle (A := [R, Chunk.blk p (.cells #[.int .i64 n0] 2 (0, 0)), Chunk.blk q (.cells #[.string s0] 9 (0, 0))]) (L := [Chunk.blk g (.cells #[.slice A xs.length c] 80 (0, 0))]) (HO.sel [0, 2, 3, 1] (by decide))
  refine gw_callP HF3 (want_none rfl) rfl (by decide) (op_callL Try.func35 (by kernel_rfl) rfl rfl (ar_cons (HF3.ev rfl) ar_nil)) (GRead_.num_calls w0 _ (Chunk.all [R, Chunk.blk p (.cells #[.int .i64 n0] 2 (0, 0)), Chunk.blk q (.cells #[.string s0] 9 (0, 0))]) g A c xs (fun w_ h_ => (hx _ ((Own.unbundle (A := [R, Chunk.blk p (.cells #[.int .i64 n0] 2 (0, 0)), Chunk.blk q (.cells #[.string s0] 9 (0, 0))]) (L := []) h_).sel [0] (by decide)))) hc (by first | exact hb | exact hb.drop _ | exact (hb.drop _).drop _ | assumption) HO19) ?_
  rintro e13 w14 (⟨n4, k5, A6, c7, hg8, rfl, hC9, hc10, hb15⟩ | ⟨hg8, rfl, hb15⟩)
  rotate_left
  · skip
    refine .inr ⟨_, rfl, ?_⟩
    have HO20 : Own w0 w14 [R, Chunk.blk p (.cells #[.int .i64 n0] 2 (0, 0)), Chunk.blk q (.cells #[.string s0] 9 (0, 0))] := Own.unbundle (A := [R, Chunk.blk p (.cells #[.int .i64 n0] 2 (0, 0)), Chunk.blk q (.cells #[.string s0] 9 (0, 0))]) (L := []) hb15
    refine gw_thp ?_
    refine gw_pan HF3 ?_
    exfalso
    first | (rw [hq] at hg8; cases hg8; done) | (rw [hk1, ht] at hg8; cases hg8)
  refine .inl ⟨_, rfl, fun a16 HF17 => ?_⟩
  have HO18 : Own w0 w14 [R, Chunk.blk p (.cells #[.int .i64 n0] 2 (0, 0)), Chunk.blk q (.cells #[.string s0] 9 (0, 0)), Chunk.blk g (.cells #[.slice A6 ((xs.drop k5).length) c7] 80 (0, 0))] := Own.unbundle (A := [R, Chunk.blk p (.cells #[.int .i64 n0] 2 (0, 0)), Chunk.blk q (.cells #[.string s0] 9 (0, 0))]) (L := [Chunk.blk g (.cells #[.slice A6 ((xs.drop k5).length) c7] 80 (0, 0))]) (hb15.sel [0, 1] (by decide))
  clear HO19
  clear HF3 HO hb15
  have HO22 : Own w0 w14 [R, Chunk.blk p (.cells #[.int .i64 n0] 2 (0, 0)), Chunk.blk q (.cells #[.string s0] 9 (0, 0)), Chunk.blk g (.cells #[.slice A6 ((xs.drop k5).length) c7] 80 (0, 0))] := HO18
  clear HO18
  have hgs12 := gnum_some hg8
  obtain ⟨hn1, hk1⟩ : n4 = 300 ∧ k5 = 2 := by rw [hq] at hg8; simp only [Option.some.injEq, Prod.mk.injEq] at hg8; exact ⟨hg8.1.symm, hg8.2.symm⟩
  refine gw_set 1 HF17 HO22 rfl (want_none rfl) rfl (op_store1 gwsiz2 rfl (HF17.ev rfl) (HF17.ev rfl) rfl (blk_at (HO22.get 1 rfl) rfl) (blkf (HO22.get 1 rfl))) ?_
  intro a23 w25 HF24 HO26; clear HF17 HO22
  have HO27 : Own w0 w25 [R, Chunk.blk p (.cells #[.int .i64 n4] 2 (0, 0)), Chunk.blk q (.cells #[.string s0] 9 (0, 0)), Chunk.blk g (.cells #[.slice A6 ((xs.drop k5).length) c7] 80 (0, 0))] := HO26
  clear HO26
  refine wpList_nil ?_
  refine gw_nx (hK1 _ _ ?_)
  refine wp_region_lit ?_
  refine gw_ev HF24 (want_none rfl) rfl (by decide) (op_move rfl (HF24.ev rfl)) ?_
  intro a28 HF29; clear HF24
  have HO45 : Own w0 _ [(Chunk.all [R, Chunk.blk p (.cells #[.int .i64 n4] 2 (0, 0)), Chunk.blk q (.cells #[.string s0] 9 (0, 0))]), Chunk.blk g (.cells #[.slice A6 ((xs.drop k5).length) c7] 80 (0, 0))] := Own.bundle (A := [R, Chunk.blk p (.cells #[.int .i64 n4] 2 (0, 0)), Chunk.blk q (.cells #[.string s0] 9 (0, 0))]) (L := [Chunk.blk g (.cells #[.slice A6 ((xs.drop k5).length) c7] 80 (0, 0))]) (HO27.sel [0, 1, 2, 3] (by decide))
  refine gw_callP HF29 (want_none rfl) rfl (by decide) (op_callL Try.func37 (by kernel_rfl) rfl rfl (ar_cons (HF29.ev rfl) (ar_cons (ev_c _ _) ar_nil))) (GRead_.text_calls w0 _ (Chunk.all [R, Chunk.blk p (.cells #[.int .i64 n4] 2 (0, 0)), Chunk.blk q (.cells #[.string s0] 9 (0, 0))]) g A6 c7 (xs.drop k5) (fun w_ h_ => (hC9 _ (hx _ ((Own.unbundle (A := [R, Chunk.blk p (.cells #[.int .i64 n4] 2 (0, 0)), Chunk.blk q (.cells #[.string s0] 9 (0, 0))]) (L := []) h_).sel [0] (by decide))))) hc10 (by first | exact hb | exact hb.drop _ | exact (hb.drop _).drop _ | assumption) 1 HO45) ?_
  rintro e39 w40 (⟨n30, k31, A32, c33, hg34, rfl, hC35, hc36, hb41⟩ | ⟨hg34, rfl, hb41⟩)
  rotate_left
  · skip
    refine .inr ⟨_, rfl, ?_⟩
    have HO46 : Own w0 w40 [R, Chunk.blk p (.cells #[.int .i64 n4] 2 (0, 0)), Chunk.blk q (.cells #[.string s0] 9 (0, 0))] := Own.unbundle (A := [R, Chunk.blk p (.cells #[.int .i64 n4] 2 (0, 0)), Chunk.blk q (.cells #[.string s0] 9 (0, 0))]) (L := []) hb41
    refine gw_pan HF29 ?_
    exfalso
    first | (rw [hq] at hg34; cases hg34; done) | (rw [hk1, ht] at hg34; cases hg34)
  refine .inl ⟨_, rfl, fun a42 HF43 => ?_⟩
  have HO44 : Own w0 w40 [R, Chunk.blk p (.cells #[.int .i64 n4] 2 (0, 0)), Chunk.blk q (.cells #[.string s0] 9 (0, 0)), Chunk.blk g (.cells #[.slice A32 (((xs.drop k5).drop k31).length) c33] 80 (0, 0))] := Own.unbundle (A := [R, Chunk.blk p (.cells #[.int .i64 n4] 2 (0, 0)), Chunk.blk q (.cells #[.string s0] 9 (0, 0))]) (L := [Chunk.blk g (.cells #[.slice A32 (((xs.drop k5).drop k31).length) c33] 80 (0, 0))]) (hb41.sel [0, 1] (by decide))
  clear HO45
  clear HF29 HO27 hb41
  have HO48 : Own w0 w40 [R, Chunk.blk p (.cells #[.int .i64 n4] 2 (0, 0)), Chunk.blk q (.cells #[.string s0] 9 (0, 0)), Chunk.blk g (.cells #[.slice A32 (((xs.drop k5).drop k31).length) c33] 80 (0, 0))] := HO44
  clear HO44
  have hgs38 := gtext_some hg34
  obtain ⟨hn2, hk2⟩ : n30 = [97] ∧ k31 = 2 := by rw [hk1, ht] at hg34; simp only [Option.some.injEq, Prod.mk.injEq] at hg34; exact ⟨hg34.1.symm, hg34.2.symm⟩
  refine gw_set 2 HF43 HO48 rfl (want_none rfl) rfl (op_store1 gwsiz9 rfl (HF43.ev rfl) (HF43.ev rfl) rfl (blk_at (HO48.get 2 rfl) rfl) (blkf (HO48.get 2 rfl))) ?_
  intro a49 w51 HF50 HO52; clear HF43 HO48
  have HO53 : Own w0 w51 [R, Chunk.blk p (.cells #[.int .i64 n4] 2 (0, 0)), Chunk.blk q (.cells #[.string (strOfNums n30)] 9 (0, 0)), Chunk.blk g (.cells #[.slice A32 (((xs.drop k5).drop k31).length) c33] 80 (0, 0))] := HO52
  clear HO52
  refine wpList_nil ?_
  refine gw_end0 HF50 rfl ?_
  subst hn1 hk1 hn2 hk2
  exact ⟨rfl, _, _, _, (by simp only [List.length_drop]; omega), HO53.sel [0, 3, 1, 2] (by decide)⟩
theorem reading_read (w0 w : World) (R : Chunk) (A : Option Addr) (c : Nat) (xs : List Int) (hx : ∀ w_, Own w0 w_ [R] → Kd.C (Kd.int .u8) w_ A xs.length xs) (hc : xs.length ≤ c) (hb : ByteL xs) (p q : Nat) (n0 : Int) (s0 : ByteArray) (hq : gnum xs = some (300, 2)) (ht : gtext (xs.drop 2) 1 = some ([97], 2)) (hl : xs.length = 4) (HO : Own w0 w (R :: [Chunk.blk p (.cells #[.int .i64 n0] 2 (0, 0)), Chunk.blk q (.cells #[.string s0] 9 (0, 0))])) :
    Calls Try.prog 31 #[.slice A xs.length c, .func (.func 60) #[] #[.pointer (some ⟨p, 0, none⟩), .pointer (some ⟨q, 0, none⟩)]] w fun e w' => e = .returned (.int .i64 0) ∧ Own w0 w' [R, Chunk.blk p (.cells #[.int .i64 300] 2 (0, 0)), Chunk.blk q (.cells #[.string (⟨#[97]⟩ : ByteArray)] 9 (0, 0))] := by
  refine (read_list w0 w R [Chunk.blk p (.cells #[.int .i64 n0] 2 (0, 0)), Chunk.blk q (.cells #[.string s0] 9 (0, 0))] A c xs 60 _ [.pointer (some ⟨p, 0, none⟩), .pointer (some ⟨q, 0, none⟩)] (fun n qs => n = 0 ∧ qs = [Chunk.blk p (.cells #[.int .i64 300] 2 (0, 0)), Chunk.blk q (.cells #[.string (⟨#[97]⟩ : ByteArray)] 9 (0, 0))]) (fun _ => False) (fun _ => False) Try.func60 (by kernel_rfl) rfl ?_ HO).mono ?_
  · intro R' g w1 hR hO
    refine (reading1_calls w0 w1 R' g A c xs (fun w_ h_ => hx w_ (hR w_ h_)) hc hb p q n0 s0 hq ht hl hO).mono ?_
    rintro e w2 ⟨rfl, A', n', c', rfl, h⟩
    exact .inl ⟨A', 0, c', _, rfl, ⟨rfl, rfl⟩, h⟩
  · rintro e w2 (⟨n', qs, rfl, ⟨rfl, rfl⟩, h⟩ | ⟨_, _, h, _⟩ | ⟨_, _, h, _⟩)
    · exact ⟨rfl, h⟩
    · exact h.elim
    · exact h.elim

set_option maxHeartbeats 4000000 in
set_option maxRecDepth 100000 in
theorem reading_calls (w : World) :
    Calls Try.prog 29 #[] w fun e w' => e = .returned (.bool true) ∧ Below w.heap.size w w' := by
  refine gw_start (N := 17) (vs := []) Try.func29 rfl rfl (by simp) fun a HF HO => ?_
  replace HO : Own w w [] := HO
  refine gw_seq fun K1 hK1 => ?_
  refine wp_region_lit ?_
  refine gw_ev HF (want_none rfl) rfl (by decide) (op_assign rfl (ev_c _ _)) ?_
  intro a2 HF3; clear HF
  refine wpList_nil ?_
  refine gw_nx (hK1 _ _ ?_)
  refine gw_seq fun K4 hK4 => ?_
  refine wp_region_lit ?_
  refine gw_new HF3 HO (want_none rfl) rfl (by decide) (op_alloc gwzer2 rfl) ?_
  intro g5 a6 w7 HF8 HO9; clear HF3 HO
  have HO10 : Own w w7 [Chunk.blk g5 (.cells #[.int .i64 0] 2 (0, 0))] := HO9
  clear HO9
  refine gw_new HF8 HO10 (want_none rfl) rfl (by decide) (op_alloc gwzer9 rfl) ?_
  intro g11 a12 w13 HF14 HO15; clear HF8 HO10
  have HO16 : Own w w13 [Chunk.blk g11 (.cells #[.string (⟨#[]⟩ : ByteArray)] 9 (0, 0)), Chunk.blk g5 (.cells #[.int .i64 0] 2 (0, 0))] := HO15
  clear HO15
  refine gw_set 1 HF14 HO16 rfl (want_none rfl) rfl (op_store1 gwsiz2 rfl (HF14.ev rfl) (ev_c _ _) rfl (blk_at (HO16.get 1 rfl) rfl) (blkf (HO16.get 1 rfl))) ?_
  intro a17 w19 HF18 HO20; clear HF14 HO16
  have HO21 : Own w w19 [Chunk.blk g11 (.cells #[.string (⟨#[]⟩ : ByteArray)] 9 (0, 0)), Chunk.blk g5 (.cells #[.int .i64 0] 2 (0, 0))] := HO20
  clear HO20
  refine gw_set 0 HF18 HO21 rfl (want_none rfl) rfl (op_store1 gwsiz9 rfl (HF18.ev rfl) (ev_c _ _) rfl (blk_at (HO21.get 0 rfl) rfl) (blkf (HO21.get 0 rfl))) ?_
  intro a22 w24 HF23 HO25; clear HF18 HO21
  have HO26 : Own w w24 [Chunk.blk g11 (.cells #[.string (⟨#[]⟩ : ByteArray)] 9 (0, 0)), Chunk.blk g5 (.cells #[.int .i64 0] 2 (0, 0))] := HO25
  clear HO25
  refine wpList_nil ?_
  refine gw_nx (hK4 _ _ ?_)
  refine gw_seq fun K27 hK27 => ?_
  refine wp_region_lit ?_
  refine gw_lit (enc := Value.int .u8) (fun _ => rfl) (xs := [172, 2, 1, 97]) (e := 5) HF23 HO26 (want_none rfl) rfl (by decide) (op_bslice (by kernel_rfl) rfl (pt_cons (ev_c _ _) (pt_cons (ev_c _ _) (pt_cons (ev_c _ _) (pt_cons (ev_c _ _) pt_nil))))) (by simp) ?_
  intro A28 S29 a30 w31 HF32 HO33; clear HF23 HO26
  have HO34 : Own w w31 [Chunk.row (Kd.int .u8) 5 w.heap.size S29 (.slice A28 (([172, 2, 1, 97]).length) (([172, 2, 1, 97]).length)) ([172, 2, 1, 97]), Chunk.blk g11 (.cells #[.string (⟨#[]⟩ : ByteArray)] 9 (0, 0)), Chunk.blk g5 (.cells #[.int .i64 0] 2 (0, 0))] := HO33
  clear HO33
  refine gw_ev HF32 (want_none rfl) rfl (by decide) (op_func rfl (ar_cons (HF32.ev rfl) (ar_cons (HF32.ev rfl) ar_nil))) ?_
  intro a35 HF36; clear HF32
  have HO43 : Own w _ [(Chunk.all [Chunk.row (Kd.int .u8) 5 w.heap.size S29 (.slice A28 (([172, 2, 1, 97]).length) (([172, 2, 1, 97]).length)) ([172, 2, 1, 97])]), Chunk.blk g5 (.cells #[.int .i64 0] 2 (0, 0)), Chunk.blk g11 (.cells #[.string (⟨#[]⟩ : ByteArray)] 9 (0, 0))] := Own.bundle (A := [Chunk.row (Kd.int .u8) 5 w.heap.size S29 (.slice A28 (([172, 2, 1, 97]).length) (([172, 2, 1, 97]).length)) ([172, 2, 1, 97])]) (L := [Chunk.blk g5 (.cells #[.int .i64 0] 2 (0, 0)), Chunk.blk g11 (.cells #[.string (⟨#[]⟩ : ByteArray)] 9 (0, 0))]) (HO34.sel [0, 2, 1] (by decide))
  refine gw_call HF36 (want_none rfl) rfl (by decide) (op_callL Try.func31 (by kernel_rfl) rfl rfl (ar_cons (HF36.ev rfl) (ar_cons (HF36.ev rfl) ar_nil))) (reading_read w _ (Chunk.all [Chunk.row (Kd.int .u8) 5 w.heap.size S29 (.slice A28 (([172, 2, 1, 97]).length) (([172, 2, 1, 97]).length)) ([172, 2, 1, 97])]) A28 (([172, 2, 1, 97]).length) ([172, 2, 1, 97]) (fun w_ h_ => (Kd.R_reads' ((Own.unbundle (A := [Chunk.row (Kd.int .u8) 5 w.heap.size S29 (.slice A28 (([172, 2, 1, 97]).length) (([172, 2, 1, 97]).length)) ([172, 2, 1, 97])]) (L := []) h_).get 0 rfl)).2.2) (row_cap (HO34.get 0 rfl)) (by intro x hx; simp at hx; omega) g5 g11 0 (⟨#[]⟩ : ByteArray) (by decide +kernel) (by decide +kernel) rfl HO43) ?_
  rintro e37 w38 ⟨rfl, hb39⟩
  refine ⟨_, rfl, fun a40 HF41 => ?_⟩
  have HO42 : Own w w38 [Chunk.row (Kd.int .u8) 5 w.heap.size S29 (.slice A28 (([172, 2, 1, 97]).length) (([172, 2, 1, 97]).length)) ([172, 2, 1, 97]), Chunk.blk g5 (.cells #[.int .i64 300] 2 (0, 0)), Chunk.blk g11 (.cells #[.string (⟨#[97]⟩ : ByteArray)] 9 (0, 0))] := Own.unbundle (A := [Chunk.row (Kd.int .u8) 5 w.heap.size S29 (.slice A28 (([172, 2, 1, 97]).length) (([172, 2, 1, 97]).length)) ([172, 2, 1, 97])]) (L := [Chunk.blk g5 (.cells #[.int .i64 300] 2 (0, 0)), Chunk.blk g11 (.cells #[.string (⟨#[97]⟩ : ByteArray)] 9 (0, 0))]) (hb39.sel [0, 1, 2] (by decide))
  clear HO43
  clear HF36 HO34 hb39
  have HO45 : Own w w38 [Chunk.row (Kd.int .u8) 5 w.heap.size S29 (.slice A28 (([172, 2, 1, 97]).length) (([172, 2, 1, 97]).length)) ([172, 2, 1, 97]), Chunk.blk g5 (.cells #[.int .i64 300] 2 (0, 0)), Chunk.blk g11 (.cells #[.string (⟨#[97]⟩ : ByteArray)] 9 (0, 0))] := HO42
  clear HO42
  refine gw_ev HF41 (want_none rfl) rfl (by decide) (op_assign rfl (HF41.ev rfl)) ?_
  intro a46 HF47; clear HF41
  refine wpList_nil ?_
  refine gw_nx (hK27 _ _ ?_)
  refine gw_seq fun K48 hK48 => ?_
  refine wp_region_lit ?_
  refine gw_ev HF47 (want_none rfl) rfl (by decide) (op_move rfl (HF47.ev rfl)) ?_
  intro a49 HF50; clear HF47
  refine gw_ev HF50 (want_none rfl) rfl (by decide) (op_eqi rfl (HF50.ev rfl) (ev_c _ _)) ?_
  intro a51 HF52; clear HF50
  have HF53 := HF52.lit (b := true) (by decide)
  clear HF52
  refine gw_ev HF53 (want_none rfl) rfl (by decide) (op_move rfl (HF53.ev rfl)) ?_
  intro a54 HF55; clear HF53
  refine gw_ev HF55 (want_yes HF55 rfl rfl rfl rfl) rfl (by decide) (op_load1 gwagg2 rfl (HF55.ev rfl) (blk_at (HO45.get 1 rfl) rfl)) ?_
  intro a56 HF57; clear HF55
  refine gw_ev HF57 (want_yes HF57 rfl rfl rfl rfl) rfl (by decide) (op_eqi rfl (HF57.ev rfl) (ev_c _ _)) ?_
  intro a58 HF59; clear HF57
  have HF60 := HF59.lit (b := true) (by decide)
  clear HF59
  refine gw_ev HF60 (want_none rfl) rfl (by decide) (op_pick_t rfl (HF60.ev rfl) (HF60.ev rfl)) ?_
  intro a61 HF62; clear HF60
  refine gw_ev HF62 (want_none rfl) rfl (by decide) (op_move rfl (HF62.ev rfl)) ?_
  intro a63 HF64; clear HF62
  refine gw_ev HF64 (want_yes HF64 rfl rfl rfl rfl) rfl (by decide) (op_load1 gwagg9 rfl (HF64.ev rfl) (blk_at (HO45.get 2 rfl) rfl)) ?_
  intro a65 HF66; clear HF64
  refine gw_ev HF66 (want_yes HF66 rfl rfl rfl rfl) rfl (by decide) (op_eqs rfl (HF66.ev rfl) (ev_c _ _)) ?_
  intro a67 HF68; clear HF66
  have HF69 := HF68.lit (b := true) (by decide +kernel)
  clear HF68
  refine gw_ev HF69 (want_none rfl) rfl (by decide) (op_pick_t rfl (HF69.ev rfl) (HF69.ev rfl)) ?_
  intro a70 HF71; clear HF69
  refine gw_ev HF71 (want_none rfl) rfl (by decide) (op_assign rfl (HF71.ev rfl)) ?_
  intro a72 HF73; clear HF71
  refine wpList_nil ?_
  refine gw_nx (hK48 _ _ ?_)
  refine wp_ret ?_
  refine gw_ret1 HF73 rfl rfl ?_
  exact ⟨rfl, HO45.below⟩
end GReading_
end Go.Proofs.Ytmlemnfleicnfaa.PA
