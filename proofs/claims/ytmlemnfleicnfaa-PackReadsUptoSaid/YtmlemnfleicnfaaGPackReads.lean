/- PackReads. Printed by a program of this session; Lean checks it. -/
import Derived.Test.YtmlemnfleicnfaaGReads1
import Derived.Test.YtmlemnfleicnfaaGGet
import Derived.Test.YtmlemnfleicnfaaGReading
namespace Go.Proofs.Ytmlemnfleicnfaa.PA
open Go.RowKit Go.Proofs.YtmlemnfleicnfaaW.PrintWords Go.Proofs.YtmlemnfleicnfaaW.PrintLast Go.Proofs.YtmlemnfleicnfaaW.PrintMore
set_option linter.unusedVariables false
set_option linter.unusedSimpArgs false
namespace GPackReads_
theorem gwagg2 : ∀ w, (isAgg 2).run Try.prog w = .ok false w := fun _ => by kernel_rfl
theorem gwagg3 : ∀ w, (isAgg 3).run Try.prog w = .ok false w := fun _ => by kernel_rfl
theorem gwagg44 : ∀ w, (isAgg 44).run Try.prog w = .ok false w := fun _ => by kernel_rfl
theorem gwagg45 : ∀ w, (isAgg 45).run Try.prog w = .ok false w := fun _ => by kernel_rfl
theorem gwagg46 : ∀ w, (isAgg 46).run Try.prog w = .ok false w := fun _ => by kernel_rfl
theorem gwagg9 : ∀ w, (isAgg 9).run Try.prog w = .ok false w := fun _ => by kernel_rfl
theorem gwsiz2 : ∀ w, (sizeOf 2).run Try.prog w = .ok 1 w := fun _ => by kernel_rfl
theorem gwsiz3 : ∀ w, (sizeOf 3).run Try.prog w = .ok 1 w := fun _ => by kernel_rfl
theorem gwsiz44 : ∀ w, (sizeOf 44).run Try.prog w = .ok 1 w := fun _ => by kernel_rfl
theorem gwsiz45 : ∀ w, (sizeOf 45).run Try.prog w = .ok 1 w := fun _ => by kernel_rfl
theorem gwsiz46 : ∀ w, (sizeOf 46).run Try.prog w = .ok 1 w := fun _ => by kernel_rfl
theorem gwsiz5 : ∀ w, (sizeOf 5).run Try.prog w = .ok 1 w := fun _ => by kernel_rfl
theorem gwsiz9 : ∀ w, (sizeOf 9).run Try.prog w = .ok 1 w := fun _ => by kernel_rfl
theorem gwzer44 : ∀ w, (zeroValue 44).run Try.prog w = .ok (.slice none 0 0) w := fun _ => by kernel_rfl
theorem gwzer45 : ∀ w, (zeroValue 45).run Try.prog w = .ok (.slice none 0 0) w := fun _ => by kernel_rfl
theorem gwzer46 : ∀ w, (zeroValue 46).run Try.prog w = .ok (.slice none 0 0) w := fun _ => by kernel_rfl
theorem reads_read (w0 w : World) (R : Chunk) (A : Option Addr) (c : Nat) (xs : List Int) (hx : ∀ w_, Own w0 w_ [R] → Kd.C (Kd.int .u8) w_ A xs.length xs) (hc : xs.length ≤ c) (hb : ByteL xs) (pc pn pt pl : Nat) (Ac : Option Addr) (cc : Nat) (calls : List Int) (hcx : ∀ w_, Own w0 w_ [R] → Kd.C (Kd.int .i64) w_ Ac calls.length calls) (hcc : calls.length ≤ cc) (hcl : calls.length ≤ 1048576) (An : Option Addr) (cn : Nat) (Sn : Nat → Prop) (At : Option Addr) (ct : Nat) (St : Nat → Prop) (Al : Option Addr) (cl : Nat) (Sl : Nat → Prop) (HO : Own w0 w (R :: [Chunk.blk pc (.cells #[.slice Ac calls.length cc] 44 (0, 0)), Chunk.blk pn (.cells #[.slice An ([] : List Int).length cn] 45 (0, 0)), Chunk.row (Kd.int .i64) 2 w0.heap.size Sn (.slice An ([] : List Int).length cn) ([] : List Int), Chunk.blk pt (.cells #[.slice At ([] : List ByteArray).length ct] 46 (0, 0)), Chunk.row Kd.string 9 w0.heap.size St (.slice At ([] : List ByteArray).length ct) ([] : List ByteArray), Chunk.blk pl (.cells #[.slice Al ([] : List Int).length cl] 44 (0, 0)), Chunk.row (Kd.int .i64) 3 w0.heap.size Sl (.slice Al ([] : List Int).length cl) ([] : List Int)])) :
    Calls Try.prog 31 #[.slice A xs.length c, .func (.func 34) #[] #[.pointer (some ⟨pc, 0, none⟩), .pointer (some ⟨pn, 0, none⟩), .pointer (some ⟨pt, 0, none⟩), .pointer (some ⟨pl, 0, none⟩)]] w fun e w' => ∃ ec s fi, ∃ An cn Sn At ct St Al cl Sl, e = .returned (.int .i64 ec) ∧ Fin' calls xs fi s ec ∧ Own w0 w' [R, Chunk.blk pc (.cells #[.slice Ac calls.length cc] 44 (0, 0)), Chunk.blk pn (.cells #[.slice An s.nums.length cn] 45 (0, 0)), Chunk.view (Kd.int .i64) Sn An s.nums.length cn s.nums, Chunk.blk pt (.cells #[.slice At s.texts.length ct] 46 (0, 0)), Chunk.view Kd.string St At s.texts.length ct s.texts, Chunk.blk pl (.cells #[.slice Al s.left.length cl] 44 (0, 0)), Chunk.view (Kd.int .i64) Sl Al s.left.length cl s.left] := by
  refine (read_list w0 w R [Chunk.blk pc (.cells #[.slice Ac calls.length cc] 44 (0, 0)), Chunk.blk pn (.cells #[.slice An ([] : List Int).length cn] 45 (0, 0)), Chunk.row (Kd.int .i64) 2 w0.heap.size Sn (.slice An ([] : List Int).length cn) ([] : List Int), Chunk.blk pt (.cells #[.slice At ([] : List ByteArray).length ct] 46 (0, 0)), Chunk.row Kd.string 9 w0.heap.size St (.slice At ([] : List ByteArray).length ct) ([] : List ByteArray), Chunk.blk pl (.cells #[.slice Al ([] : List Int).length cl] 44 (0, 0)), Chunk.row (Kd.int .i64) 3 w0.heap.size Sl (.slice Al ([] : List Int).length cl) ([] : List Int)] A c xs 34 _ [.pointer (some ⟨pc, 0, none⟩), .pointer (some ⟨pn, 0, none⟩), .pointer (some ⟨pt, 0, none⟩), .pointer (some ⟨pl, 0, none⟩)] (fun n qs => ∃ s, ∃ An cn Sn At ct St Al cl Sl, rrun calls calls.length ⟨xs, [], [], []⟩ = some s ∧ n = s.rest.length ∧ qs = [Chunk.blk pc (.cells #[.slice Ac calls.length cc] 44 (0, 0)), Chunk.blk pn (.cells #[.slice An s.nums.length cn] 45 (0, 0)), Chunk.row (Kd.int .i64) 2 w0.heap.size Sn (.slice An s.nums.length cn) s.nums, Chunk.blk pt (.cells #[.slice At s.texts.length ct] 46 (0, 0)), Chunk.row Kd.string 9 w0.heap.size St (.slice At s.texts.length ct) s.texts, Chunk.blk pl (.cells #[.slice Al s.left.length cl] 44 (0, 0)), Chunk.row (Kd.int .i64) 3 w0.heap.size Sl (.slice Al s.left.length cl) s.left]) (fun qs => ∃ (j : Nat) (s : RS), ∃ An cn Sn At ct St Al cl Sl, j < calls.length ∧ rrun calls j ⟨xs, [], [], []⟩ = some s ∧ rstep (calls.getD j 0) s = none ∧ qs = [Chunk.blk pc (.cells #[.slice Ac calls.length cc] 44 (0, 0)), Chunk.blk pn (.cells #[.slice An s.nums.length cn] 45 (0, 0)), Chunk.row (Kd.int .i64) 2 w0.heap.size Sn (.slice An s.nums.length cn) s.nums, Chunk.blk pt (.cells #[.slice At s.texts.length ct] 46 (0, 0)), Chunk.row Kd.string 9 w0.heap.size St (.slice At s.texts.length ct) s.texts, Chunk.blk pl (.cells #[.slice Al s.left.length cl] 44 (0, 0)), Chunk.row (Kd.int .i64) 3 w0.heap.size Sl (.slice Al s.left.length cl) s.left]) (fun _ => False) Try.func34 (by kernel_rfl) rfl ?_ HO).mono ?_
  · intro R' g w1 hR hO
    refine (GReads1_.reads1_calls w0 w1 R' g A c xs (fun w_ h_ => hx w_ (hR w_ h_)) hc hb pc pn pt pl Ac cc calls (fun w_ h_ => hcx w_ (hR w_ h_)) hcc hcl An cn Sn At ct St Al cl Sl hO).mono ?_
    rintro e w2 (⟨A', c', s, An, cn, Sn, At, ct, St, Al, cl, Sl, h1, rfl, h⟩ | ⟨j, s, An, cn, Sn, At, ct, St, Al, cl, Sl, h1, h2, h3, rfl, h⟩)
    · exact .inl ⟨A', s.rest.length, c', _, rfl, ⟨s, _, _, _, _, _, _, _, _, _, h1, rfl, rfl⟩, h⟩
    · exact .inr (.inl ⟨_, rfl, ⟨j, s, _, _, _, _, _, _, _, _, _, h1, h2, h3, rfl⟩, h⟩)
  · rintro e w2 (⟨n', qs, rfl, ⟨s, An, cn, Sn, At, ct, St, Al, cl, Sl, h1, rfl, rfl⟩, h⟩ | ⟨qs, rfl, ⟨j, s, An, cn, Sn, At, ct, St, Al, cl, Sl, h1, h2, h3, rfl⟩, h⟩ | ⟨_, _, h, _⟩)
    · exact ⟨_, s, calls.length, _, _, _, _, _, _, _, _, _, rfl, ⟨h1, Nat.le_refl _, fun _ => rfl, fun h => absurd h (Nat.lt_irrefl _)⟩, ((h.row_view 3 rfl).row_view 5 rfl).row_view 7 rfl⟩
    · exact ⟨80, s, j, _, _, _, _, _, _, _, _, _, rfl, ⟨h2, Nat.le_of_lt h1, fun e => absurd h1 (by omega), fun _ => ⟨rfl, h3⟩⟩, ((h.row_view 3 rfl).row_view 5 rfl).row_view 7 rfl⟩
    · exact h.elim

set_option maxHeartbeats 4000000 in
set_option maxRecDepth 100000 in
theorem PackReads_calls (A0 : Option Addr) (c0 : Nat) (b : List Int) (A1 : Option Addr) (c1 : Nat) (calls : List Int) (w : World) (hr0 : Kd.C (Kd.int .u8) w A0 b.length b) (hc0 : b.length ≤ c0) (hr1 : Kd.C (Kd.int .i64) w A1 calls.length calls) (hc1 : calls.length ≤ c1) (hb0 : ByteL b) (hl0 : b.length ≤ 1048576) (hl1 : calls.length ≤ 1048576) :
    Calls Try.prog 8 #[.slice A0 b.length c0, .slice A1 calls.length c1] w fun e w' => e = .returned (.bool true) ∧ Below w.heap.size w w' := by
  refine gw_start (N := 140) (vs := [.slice A0 b.length c0, .slice A1 calls.length c1]) Try.func8 rfl rfl (by simp) fun a HF HO => ?_
  replace HO : Own w w [] := HO
  refine gw_seq fun K1 hK1 => ?_
  refine wp_region_lit ?_
  refine gw_new HF HO (want_none rfl) rfl (by decide) (op_box rfl (HF.ev rfl)) ?_
  intro g2 a3 w4 HF5 HO6; clear HF HO
  have HO7 : Own w w4 [Chunk.blk g2 (.cells #[.slice A1 calls.length c1] 44 (0, 0))] := HO6
  clear HO6
  refine gw_ev HF5 (want_none rfl) rfl (by decide) (op_assign rfl (ev_c _ _)) ?_
  intro a8 HF9; clear HF5
  refine wpList_nil ?_
  refine gw_nx (hK1 _ _ ?_)
  refine gw_seq fun K10 hK10 => ?_
  refine gw_seq fun K11 hK11 => ?_
  refine wp_region_lit ?_
  refine gw_call HF9 (want_none rfl) rfl (by decide) (op_callL Try.func29 (by kernel_rfl) rfl rfl ar_nil) (GReading_.reading_calls _) ?_
  rintro e12 w13 ⟨rfl, hb14⟩
  refine ⟨_, rfl, fun a15 HF16 => ?_⟩
  have HO17 := HO7.after hb14
  clear HF9 HO7 hb14
  refine gw_ev HF16 (want_none rfl) rfl (by decide) (op_not rfl (HF16.ev rfl)) ?_
  intro a19 HF20; clear HF16
  refine wpList_nil ?_
  refine gw_nx (hK11 _ _ ?_)
  refine gw_cond HF20 rfl (fun hb21 => ?_) (fun hb21 => ?_)
  skip
  · cases hb21
  refine wp_skip ?_
  refine gw_nx (hK10 _ _ ?_)
  refine gw_seq fun K22 hK22 => ?_
  refine wp_region_lit ?_
  refine gw_lit (enc := Value.int .i64) (fun _ => rfl) (xs := ([] : List Int)) (e := 2) HF20 HO17 (want_none rfl) rfl (by decide) (op_bslice (by kernel_rfl) rfl pt_nil) (by simp) ?_
  intro A23 S24 a25 w26 HF27 HO28; clear HF20 HO17
  have HO29 : Own w w26 [Chunk.row (Kd.int .i64) 2 w.heap.size S24 (.slice A23 ((([] : List Int)).length) ((([] : List Int)).length)) ([] : List Int), Chunk.blk g2 (.cells #[.slice A1 calls.length c1] 44 (0, 0))] := HO28
  clear HO28
  refine gw_new HF27 HO29 (want_none rfl) rfl (by decide) (op_alloc gwzer45 rfl) ?_
  intro g30 a31 w32 HF33 HO34; clear HF27 HO29
  have HO35 : Own w w32 [Chunk.blk g30 (.cells #[.slice none 0 0] 45 (0, 0)), Chunk.row (Kd.int .i64) 2 w.heap.size S24 (.slice A23 ((([] : List Int)).length) ((([] : List Int)).length)) ([] : List Int), Chunk.blk g2 (.cells #[.slice A1 calls.length c1] 44 (0, 0))] := HO34
  clear HO34
  refine gw_set 0 HF33 HO35 rfl (want_none rfl) rfl (op_store1 gwsiz45 rfl (HF33.ev rfl) (HF33.ev rfl) rfl (blk_at (HO35.get 0 rfl) rfl) (blkf (HO35.get 0 rfl))) ?_
  intro a36 w38 HF37 HO39; clear HF33 HO35
  have HO40 : Own w w38 [Chunk.blk g30 (.cells #[.slice A23 ((([] : List Int)).length) ((([] : List Int)).length)] 45 (0, 0)), Chunk.row (Kd.int .i64) 2 w.heap.size S24 (.slice A23 ((([] : List Int)).length) ((([] : List Int)).length)) ([] : List Int), Chunk.blk g2 (.cells #[.slice A1 calls.length c1] 44 (0, 0))] := HO39
  clear HO39
  refine wpList_nil ?_
  refine gw_nx (hK22 _ _ ?_)
  refine gw_seq fun K41 hK41 => ?_
  refine wp_region_lit ?_
  refine gw_lit (enc := Value.string) (fun _ => rfl) (xs := ([] : List ByteArray)) (e := 9) HF37 HO40 (want_none rfl) rfl (by decide) (op_bslice (by kernel_rfl) rfl pt_nil) (by simp) ?_
  intro A42 S43 a44 w45 HF46 HO47; clear HF37 HO40
  have HO48 : Own w w45 [Chunk.row Kd.string 9 w.heap.size S43 (.slice A42 ((([] : List ByteArray)).length) ((([] : List ByteArray)).length)) ([] : List ByteArray), Chunk.blk g30 (.cells #[.slice A23 ((([] : List Int)).length) ((([] : List Int)).length)] 45 (0, 0)), Chunk.row (Kd.int .i64) 2 w.heap.size S24 (.slice A23 ((([] : List Int)).length) ((([] : List Int)).length)) ([] : List Int), Chunk.blk g2 (.cells #[.slice A1 calls.length c1] 44 (0, 0))] := HO47
  clear HO47
  refine gw_new HF46 HO48 (want_none rfl) rfl (by decide) (op_alloc gwzer46 rfl) ?_
  intro g49 a50 w51 HF52 HO53; clear HF46 HO48
  have HO54 : Own w w51 [Chunk.blk g49 (.cells #[.slice none 0 0] 46 (0, 0)), Chunk.row Kd.string 9 w.heap.size S43 (.slice A42 ((([] : List ByteArray)).length) ((([] : List ByteArray)).length)) ([] : List ByteArray), Chunk.blk g30 (.cells #[.slice A23 ((([] : List Int)).length) ((([] : List Int)).length)] 45 (0, 0)), Chunk.row (Kd.int .i64) 2 w.heap.size S24 (.slice A23 ((([] : List Int)).length) ((([] : List Int)).length)) ([] : List Int), Chunk.blk g2 (.cells #[.slice A1 calls.length c1] 44 (0, 0))] := HO53
  clear HO53
  refine gw_set 0 HF52 HO54 rfl (want_none rfl) rfl (op_store1 gwsiz46 rfl (HF52.ev rfl) (HF52.ev rfl) rfl (blk_at (HO54.get 0 rfl) rfl) (blkf (HO54.get 0 rfl))) ?_
  intro a55 w57 HF56 HO58; clear HF52 HO54
  have HO59 : Own w w57 [Chunk.blk g49 (.cells #[.slice A42 ((([] : List ByteArray)).length) ((([] : List ByteArray)).length)] 46 (0, 0)), Chunk.row Kd.string 9 w.heap.size S43 (.slice A42 ((([] : List ByteArray)).length) ((([] : List ByteArray)).length)) ([] : List ByteArray), Chunk.blk g30 (.cells #[.slice A23 ((([] : List Int)).length) ((([] : List Int)).length)] 45 (0, 0)), Chunk.row (Kd.int .i64) 2 w.heap.size S24 (.slice A23 ((([] : List Int)).length) ((([] : List Int)).length)) ([] : List Int), Chunk.blk g2 (.cells #[.slice A1 calls.length c1] 44 (0, 0))] := HO58
  clear HO58
  refine wpList_nil ?_
  refine gw_nx (hK41 _ _ ?_)
  refine gw_seq fun K60 hK60 => ?_
  refine wp_region_lit ?_
  refine gw_lit (enc := Value.int .i64) (fun _ => rfl) (xs := ([] : List Int)) (e := 3) HF56 HO59 (want_none rfl) rfl (by decide) (op_bslice (by kernel_rfl) rfl pt_nil) (by simp) ?_
  intro A61 S62 a63 w64 HF65 HO66; clear HF56 HO59
  have HO67 : Own w w64 [Chunk.row (Kd.int .i64) 3 w.heap.size S62 (.slice A61 ((([] : List Int)).length) ((([] : List Int)).length)) ([] : List Int), Chunk.blk g49 (.cells #[.slice A42 ((([] : List ByteArray)).length) ((([] : List ByteArray)).length)] 46 (0, 0)), Chunk.row Kd.string 9 w.heap.size S43 (.slice A42 ((([] : List ByteArray)).length) ((([] : List ByteArray)).length)) ([] : List ByteArray), Chunk.blk g30 (.cells #[.slice A23 ((([] : List Int)).length) ((([] : List Int)).length)] 45 (0, 0)), Chunk.row (Kd.int .i64) 2 w.heap.size S24 (.slice A23 ((([] : List Int)).length) ((([] : List Int)).length)) ([] : List Int), Chunk.blk g2 (.cells #[.slice A1 calls.length c1] 44 (0, 0))] := HO66
  clear HO66
  refine gw_new HF65 HO67 (want_none rfl) rfl (by decide) (op_alloc gwzer44 rfl) ?_
  intro g68 a69 w70 HF71 HO72; clear HF65 HO67
  have HO73 : Own w w70 [Chunk.blk g68 (.cells #[.slice none 0 0] 44 (0, 0)), Chunk.row (Kd.int .i64) 3 w.heap.size S62 (.slice A61 ((([] : List Int)).length) ((([] : List Int)).length)) ([] : List Int), Chunk.blk g49 (.cells #[.slice A42 ((([] : List ByteArray)).length) ((([] : List ByteArray)).length)] 46 (0, 0)), Chunk.row Kd.string 9 w.heap.size S43 (.slice A42 ((([] : List ByteArray)).length) ((([] : List ByteArray)).length)) ([] : List ByteArray), Chunk.blk g30 (.cells #[.slice A23 ((([] : List Int)).length) ((([] : List Int)).length)] 45 (0, 0)), Chunk.row (Kd.int .i64) 2 w.heap.size S24 (.slice A23 ((([] : List Int)).length) ((([] : List Int)).length)) ([] : List Int), Chunk.blk g2 (.cells #[.slice A1 calls.length c1] 44 (0, 0))] := HO72
  clear HO72
  refine gw_set 0 HF71 HO73 rfl (want_none rfl) rfl (op_store1 gwsiz44 rfl (HF71.ev rfl) (HF71.ev rfl) rfl (blk_at (HO73.get 0 rfl) rfl) (blkf (HO73.get 0 rfl))) ?_
  intro a74 w76 HF75 HO77; clear HF71 HO73
  have HO78 : Own w w76 [Chunk.blk g68 (.cells #[.slice A61 ((([] : List Int)).length) ((([] : List Int)).length)] 44 (0, 0)), Chunk.row (Kd.int .i64) 3 w.heap.size S62 (.slice A61 ((([] : List Int)).length) ((([] : List Int)).length)) ([] : List Int), Chunk.blk g49 (.cells #[.slice A42 ((([] : List ByteArray)).length) ((([] : List ByteArray)).length)] 46 (0, 0)), Chunk.row Kd.string 9 w.heap.size S43 (.slice A42 ((([] : List ByteArray)).length) ((([] : List ByteArray)).length)) ([] : List ByteArray), Chunk.blk g30 (.cells #[.slice A23 ((([] : List Int)).length) ((([] : List Int)).length)] 45 (0, 0)), Chunk.row (Kd.int .i64) 2 w.heap.size S24 (.slice A23 ((([] : List Int)).length) ((([] : List Int)).length)) ([] : List Int), Chunk.blk g2 (.cells #[.slice A1 calls.length c1] 44 (0, 0))] := HO77
  clear HO77
  refine wpList_nil ?_
  refine gw_nx (hK60 _ _ ?_)
  refine gw_seq fun K79 hK79 => ?_
  refine wp_region_lit ?_
  refine gw_ev HF75 (want_none rfl) rfl (by decide) (op_move rfl (HF75.ev rfl)) ?_
  intro a80 HF81; clear HF75
  refine gw_ev HF81 (want_none rfl) rfl (by decide) (op_func rfl (ar_cons (HF81.ev rfl) (ar_cons (HF81.ev rfl) (ar_cons (HF81.ev rfl) (ar_cons (HF81.ev rfl) ar_nil))))) ?_
  intro a82 HF83; clear HF81
  have HO103 : Own w _ [(Chunk.all []), Chunk.blk g2 (.cells #[.slice A1 calls.length c1] 44 (0, 0)), Chunk.blk g30 (.cells #[.slice A23 ((([] : List Int)).length) ((([] : List Int)).length)] 45 (0, 0)), Chunk.row (Kd.int .i64) 2 w.heap.size S24 (.slice A23 ((([] : List Int)).length) ((([] : List Int)).length)) ([] : List Int), Chunk.blk g49 (.cells #[.slice A42 ((([] : List ByteArray)).length) ((([] : List ByteArray)).length)] 46 (0, 0)), Chunk.row Kd.string 9 w.heap.size S43 (.slice A42 ((([] : List ByteArray)).length) ((([] : List ByteArray)).length)) ([] : List ByteArray), Chunk.blk g68 (.cells #[.slice A61 ((([] : List Int)).length) ((([] : List Int)).length)] 44 (0, 0)), Chunk.row (Kd.int .i64) 3 w.heap.size S62 (.slice A61 ((([] : List Int)).length) ((([] : List Int)).length)) ([] : List Int)] := Own.bundle (A := []) (L := [Chunk.blk g2 (.cells #[.slice A1 calls.length c1] 44 (0, 0)), Chunk.blk g30 (.cells #[.slice A23 ((([] : List Int)).length) ((([] : List Int)).length)] 45 (0, 0)), Chunk.row (Kd.int .i64) 2 w.heap.size S24 (.slice A23 ((([] : List Int)).length) ((([] : List Int)).length)) ([] : List Int), Chunk.blk g49 (.cells #[.slice A42 ((([] : List ByteArray)).length) ((([] : List ByteArray)).length)] 46 (0, 0)), Chunk.row Kd.string 9 w.heap.size S43 (.slice A42 ((([] : List ByteArray)).length) ((([] : List ByteArray)).length)) ([] : List ByteArray), Chunk.blk g68 (.cells #[.slice A61 ((([] : List Int)).length) ((([] : List Int)).length)] 44 (0, 0)), Chunk.row (Kd.int .i64) 3 w.heap.size S62 (.slice A61 ((([] : List Int)).length) ((([] : List Int)).length)) ([] : List Int)]) (HO78.sel [6, 4, 5, 2, 3, 0, 1] (by decide))
  refine gw_call HF83 (want_none rfl) rfl (by decide) (op_callL Try.func31 (by kernel_rfl) rfl rfl (ar_cons (HF83.ev rfl) (ar_cons (HF83.ev rfl) ar_nil))) (reads_read w _ (Chunk.all []) A0 c0 b (fun w_ h_ => Kd.C_below hr0 h_.below) hc0 (by first | exact hb0 | exact hbx) g2 g30 g49 g68 A1 c1 calls (fun w_ h_ => Kd.C_below hr1 h_.below) hc1 (by (first | omega | (simp only [List.length_append, List.length_drop, List.length_cons, List.length_nil] at *; omega))) A23 ((([] : List Int)).length) S24 A42 ((([] : List ByteArray)).length) S43 A61 ((([] : List Int)).length) S62 HO103) ?_
  rintro e97 w98 ⟨ec93, s94, fi95, A84, c85, S86, A87, c88, S89, A90, c91, S92, rfl, hF96, hb99⟩
  refine ⟨_, rfl, fun a100 HF101 => ?_⟩
  have HO102 : Own w w98 [Chunk.blk g2 (.cells #[.slice A1 calls.length c1] 44 (0, 0)), Chunk.blk g30 (.cells #[.slice A84 s94.nums.length c85] 45 (0, 0)), Chunk.view (Kd.int .i64) S86 A84 s94.nums.length c85 s94.nums, Chunk.blk g49 (.cells #[.slice A87 s94.texts.length c88] 46 (0, 0)), Chunk.view Kd.string S89 A87 s94.texts.length c88 s94.texts, Chunk.blk g68 (.cells #[.slice A90 s94.left.length c91] 44 (0, 0)), Chunk.view (Kd.int .i64) S92 A90 s94.left.length c91 s94.left] := Own.unbundle (A := []) (L := [Chunk.blk g2 (.cells #[.slice A1 calls.length c1] 44 (0, 0)), Chunk.blk g30 (.cells #[.slice A84 s94.nums.length c85] 45 (0, 0)), Chunk.view (Kd.int .i64) S86 A84 s94.nums.length c85 s94.nums, Chunk.blk g49 (.cells #[.slice A87 s94.texts.length c88] 46 (0, 0)), Chunk.view Kd.string S89 A87 s94.texts.length c88 s94.texts, Chunk.blk g68 (.cells #[.slice A90 s94.left.length c91] 44 (0, 0)), Chunk.view (Kd.int .i64) S92 A90 s94.left.length c91 s94.left]) (hb99.sel [0, 1, 2, 3, 4, 5, 6, 7] (by decide))
  clear HO103
  clear HF83 HO78 hb99
  have HO105 : Own w w98 [Chunk.blk g2 (.cells #[.slice A1 calls.length c1] 44 (0, 0)), Chunk.blk g30 (.cells #[.slice A84 s94.nums.length c85] 45 (0, 0)), Chunk.view (Kd.int .i64) S86 A84 s94.nums.length c85 s94.nums, Chunk.blk g49 (.cells #[.slice A87 s94.texts.length c88] 46 (0, 0)), Chunk.view Kd.string S89 A87 s94.texts.length c88 s94.texts, Chunk.blk g68 (.cells #[.slice A90 s94.left.length c91] 44 (0, 0)), Chunk.view (Kd.int .i64) S92 A90 s94.left.length c91 s94.left] := HO102
  clear HO102
  refine gw_ev HF101 (want_none rfl) rfl (by decide) (op_assign rfl (HF101.ev rfl)) ?_
  intro a106 HF107; clear HF101
  refine wpList_nil ?_
  refine gw_nx (hK79 _ _ ?_)
  refine gw_seq fun K108 hK108 => ?_
  refine wp_region_lit ?_
  refine gw_ev HF107 (want_none rfl) rfl (by decide) (op_move rfl (HF107.ev rfl)) ?_
  intro a109 HF110; clear HF107
  refine gw_ev HF110 (want_none rfl) rfl (by decide) (op_assign rfl (HF110.ev rfl)) ?_
  intro a111 HF112; clear HF110
  refine wpList_nil ?_
  refine gw_nx (hK108 _ _ ?_)
  refine gw_seq fun K113 hK113 => ?_
  refine wp_region_lit ?_
  refine gw_ev HF112 (want_none rfl) rfl (by decide) (op_assign rfl (ev_c _ _)) ?_
  intro a114 HF115; clear HF112
  refine gw_ev HF115 (want_none rfl) rfl (by decide) (op_assign rfl (ev_c _ _)) ?_
  intro a116 HF117; clear HF115
  refine wpList_nil ?_
  refine gw_nx (hK113 _ _ ?_)
  refine gw_seq fun K118 hK118 => ?_
  refine gw_seq fun K119 hK119 => ?_
  refine wp_region_lit ?_
  refine gw_ev HF117 (want_none rfl) rfl (by decide) (op_load1 gwagg44 rfl (HF117.ev rfl) (blk_at (HO105.get 0 rfl) rfl)) ?_
  intro a120 HF121; clear HF117
  refine gw_ev HF121 (want_none rfl) rfl (by decide) (op_len Try.underlying44 rfl (HF121.ev rfl)) ?_
  intro a122 HF123; clear HF121
  refine gw_ev HF123 (want_none rfl) rfl (by decide) (op_move rfl (ev_c _ _)) ?_
  intro a124 HF125; clear HF123
  refine wpList_nil ?_
  refine gw_nx (hK119 _ _ ?_)
  refine wp_block ?_
  refine gw_loop (fun m_ a_ w_ => ∃ (i : Int) (xs' : List Int) (ns : List Int) (ts : List ByteArray) (ls : List Int) (A9 : Option Addr) (c9 : Nat), Fr 140 a_ [(30, .int .i64 i), (9, .slice A9 xs'.length c9), (10, .int .i64 (ns.length : Int)), (11, .int .i64 (ts.length : Int)), (5, .pointer (some ⟨g30, 0, none⟩)), (6, .pointer (some ⟨g49, 0, none⟩)), (7, .pointer (some ⟨g68, 0, none⟩)), (8, .int .i64 ec93), (28, .slice A1 calls.length c1), (29, .int .i64 (calls.length : Int))] ∧ Own w w_ [Chunk.blk g2 (.cells #[.slice A1 calls.length c1] 44 (0, 0)), Chunk.blk g30 (.cells #[.slice A84 s94.nums.length c85] 45 (0, 0)), Chunk.view (Kd.int .i64) S86 A84 s94.nums.length c85 s94.nums, Chunk.blk g49 (.cells #[.slice A87 s94.texts.length c88] 46 (0, 0)), Chunk.view Kd.string S89 A87 s94.texts.length c88 s94.texts, Chunk.blk g68 (.cells #[.slice A90 s94.left.length c91] 44 (0, 0)), Chunk.view (Kd.int .i64) S92 A90 s94.left.length c91 s94.left] ∧ (0 ≤ i ∧ i ≤ calls.length) ∧ (i ≤ fi95) ∧ (rrun calls i.toNat ⟨b, [], [], []⟩ = some ⟨xs', ns, ts, ls⟩) ∧ (∀ W, Kd.C (Kd.int .u8) W A0 b.length b → Kd.C (Kd.int .u8) W A9 xs'.length xs') ∧ (xs'.length ≤ c9) ∧ (ByteL xs') ∧ (xs'.length ≤ b.length) ∧ ((ns.length : Int) ≤ i ∧ (ts.length : Int) ≤ i) ∧ m_ = (calls.length - i.toNat)) ((calls.length - (0 : Int).toNat)) ?_ ?_
  · refine ⟨0, b, [], [], [], A0, c0, (HF125.pick (t := 30) rfl (HF125.pick (t := 9) rfl (HF125.pick (t := 10) rfl (HF125.pick (t := 11) rfl (HF125.pick (t := 5) rfl (HF125.pick (t := 6) rfl (HF125.pick (t := 7) rfl (HF125.pick (t := 8) rfl (HF125.pick (t := 28) rfl (HF125.pick (t := 29) rfl HF125.nil)))))))))), HO105.sel [0, 1, 2, 3, 4, 5, 6] (by decide), ?_, ?_, ?_, ?_, ?_, ?_, ?_, ?_, rfl⟩
    · (first | omega | (simp only [List.length_append, List.length_drop, List.length_cons, List.length_nil] at *; omega))
    · (first | omega | (simp only [List.length_append, List.length_drop, List.length_cons, List.length_nil] at *; omega))
    · rfl
    · intro W h; exact h
    · exact hc0
    · exact hb0
    · (first | omega | (simp only [List.length_append, List.length_drop, List.length_cons, List.length_nil] at *; omega))
    · simp
  · rintro m127 a128 w129 ⟨i, xs', ns, ts, ls, A9, c9, HF130, HO131, hi, hif, hrun, hC, hcap, hbx, hxl, hnl, hm132⟩
    refine gw_seq fun K133 hK133 => ?_
    refine wp_region_lit ?_
    refine gw_ev HF130 (want_none rfl) rfl (by decide) (op_lss rfl (HF130.ev rfl) (HF130.ev rfl)) ?_
    intro a134 HF135; clear HF130
    refine wpList_nil ?_
    refine gw_nx (hK133 _ _ ?_)
    refine gw_seq fun K136 hK136 => ?_
    refine gw_cond HF135 rfl (fun hb137 => ?_) (fun hb137 => ?_)
    · skip
      have HF138 := HF135.subst_ (d := 31) (b := true) rfl hb137
      clear HF135
      (try simp only [Bool.and_eq_true, Bool.or_eq_true, Bool.and_eq_false_iff, Bool.or_eq_false_iff, Bool.not_and, Bool.not_or, Bool.not_not, decide_eq_true_eq, decide_eq_false_iff_not, Bool.not_eq_true', Bool.not_eq_false', Bool.not_eq_true, Bool.not_eq_false, ne_eq, Decidable.not_not, Int.not_lt, Int.not_le, not_true_eq_false, not_false_eq_true, bne_iff_ne, beq_iff_eq, bne_eq_false_iff_eq, beq_eq_false_iff_ne] at hb137)
      refine wp_skip ?_
      refine gw_nx (hK136 _ _ ?_)
      refine gw_seq fun K139 hK139 => ?_
      refine wp_block ?_
      refine gw_seq fun K140 hK140 => ?_
      refine wp_region_lit ?_
      refine gw_ev HF138 (want_none rfl) rfl (by decide) (op_move rfl (HF138.ev rfl)) ?_
      intro a141 HF142; clear HF138
      obtain ⟨ad143, cs146, hA144, hl147, hK148, hc145⟩ := Kd.C_get hr1 (0 : Int) i (by (first | omega | (simp only [List.length_append, List.length_drop, List.length_cons, List.length_nil] at *; omega))) (by (first | omega | (simp only [List.length_append, List.length_drop, List.length_cons, List.length_nil] at *; omega)))
      obtain rfl := id hK148
      clear hl147
      refine gw_ev HF142 (want_none rfl) rfl (by decide) (op_index Try.underlying44 gwsiz3 rfl (HF142.ev rfl) (HF142.ev rfl) hA144 (⟨by (first | omega | (simp only [List.length_append, List.length_drop, List.length_cons, List.length_nil] at *; omega)), by (first | omega | (simp only [List.length_append, List.length_drop, List.length_cons, List.length_nil] at *; omega))⟩)) ?_
      intro a149 HF150; clear HF142
      refine gw_ev HF150 (want_none rfl) rfl (by decide) (op_load1 gwagg3 rfl (HF150.ev rfl) (HO131.cell0 (at0 hc145))) ?_
      intro a151 HF152; clear HF150
      refine gw_ev HF152 (want_none rfl) rfl (by decide) (op_assign rfl (HF152.ev rfl)) ?_
      intro a153 HF154; clear HF152
      refine gw_ev HF154 (want_none rfl) rfl (by decide) (op_assign rfl (HF154.ev rfl)) ?_
      intro a155 HF156; clear HF154
      refine wpList_nil ?_
      refine gw_nx (hK140 _ _ ?_)
      refine gw_seq fun K157 hK157 => ?_
      refine wp_region_lit ?_
      refine gw_ev HF156 (want_none rfl) rfl (by decide) (op_assign rfl (ev_c _ _)) ?_
      intro a158 HF159; clear HF156
      refine wpList_nil ?_
      refine gw_nx (hK157 _ _ ?_)
      refine gw_seq fun K160 hK160 => ?_
      refine gw_seq fun K161 hK161 => ?_
      refine wp_region_lit ?_
      refine gw_ev HF159 (want_none rfl) rfl (by decide) (op_move rfl (HF159.ev rfl)) ?_
      intro a162 HF163; clear HF159
      refine wpList_nil ?_
      refine gw_nx (hK161 _ _ ?_)
      refine wp_block ?_
      refine gw_seq fun K164 hK164 => ?_
      refine gw_seq fun K165 hK165 => ?_
      refine wp_region_lit ?_
      refine gw_ev HF163 (want_none rfl) rfl (by decide) (op_eqi rfl (HF163.ev rfl) (ev_c _ _)) ?_
      intro a166 HF167; clear HF163
      refine gw_ev HF167 (want_none rfl) rfl (by decide) (op_assign rfl (HF167.ev rfl)) ?_
      intro a168 HF169; clear HF167
      refine wpList_nil ?_
      refine gw_nx (hK165 _ _ ?_)
      refine gw_cond HF169 rfl (fun hb170 => ?_) (fun hb170 => ?_)
      · skip
        have HF171 := HF169.subst_ (d := 36) (b := true) rfl hb170
        clear HF169
        (try simp only [Bool.and_eq_true, Bool.or_eq_true, Bool.and_eq_false_iff, Bool.or_eq_false_iff, Bool.not_and, Bool.not_or, Bool.not_not, decide_eq_true_eq, decide_eq_false_iff_not, Bool.not_eq_true', Bool.not_eq_false', Bool.not_eq_true, Bool.not_eq_false, ne_eq, Decidable.not_not, Int.not_lt, Int.not_le, not_true_eq_false, not_false_eq_true, bne_iff_ne, beq_iff_eq, bne_eq_false_iff_eq, beq_eq_false_iff_ne] at hb170)
        refine wp_skip ?_
        refine gw_nx (hK164 _ _ ?_)
        refine gw_cond HF171 rfl (fun hb172 => ?_) (fun hb172 => ?_)
        rotate_left
        · cases hb172
        refine gw_seq fun K173 hK173 => ?_
        refine wp_region_lit ?_
        refine gw_ev HF171 (want_none rfl) rfl (by decide) (op_move rfl (HF171.ev rfl)) ?_
        intro a174 HF175; clear HF171
        refine gw_call HF175 (want_none rfl) rfl (by decide) (op_callL Try.func39 (by kernel_rfl) rfl rfl (ar_cons (HF175.ev rfl) ar_nil)) (GGet_.getnum_calls A9 c9 xs' _ (hC _ (Kd.C_below hr0 HO131.below)) hcap ((by first | exact hb0 | exact hbx))) ?_
        rintro e176 w177 ⟨rfl, hb178⟩
        refine ⟨_, rfl, fun a179 HF180 => ?_⟩
        have HO181 := HO131.after hb178
        clear HF175 HO131 hb178
        have hv := gnumV_b xs'
        refine gw_ev HF180 (want_none rfl) rfl (by decide) (op_move rfl (HF180.ev rfl)) ?_
        intro a183 HF184; clear HF180
        refine gw_ev HF184 (want_none rfl) rfl (by decide) (op_extract rfl (HF184.ev rfl) rfl) ?_
        intro a185 HF186; clear HF184
        refine gw_ev HF186 (want_none rfl) rfl (by decide) (op_extract rfl (HF186.ev rfl) rfl) ?_
        intro a187 HF188; clear HF186
        refine gw_ev HF188 (want_none rfl) rfl (by decide) (op_assign rfl (HF188.ev rfl)) ?_
        intro a189 HF190; clear HF188
        refine gw_ev HF190 (want_none rfl) rfl (by decide) (op_assign rfl (HF190.ev rfl)) ?_
        intro a191 HF192; clear HF190
        refine wpList_nil ?_
        refine gw_nx (hK173 _ _ ?_)
        refine gw_seq fun K193 hK193 => ?_
        refine gw_seq fun K194 hK194 => ?_
        refine wp_region_lit ?_
        refine gw_ev HF192 (want_none rfl) rfl (by decide) (op_move rfl (HF192.ev rfl)) ?_
        intro a195 HF196; clear HF192
        refine gw_ev HF196 (want_none rfl) rfl (by decide) (op_eqi rfl (HF196.ev rfl) (ev_c _ _)) ?_
        intro a197 HF198; clear HF196
        refine gw_ev HF198 (want_none rfl) rfl (by decide) (op_move rfl (HF198.ev rfl)) ?_
        intro a199 HF200; clear HF198
        refine gw_evG HF200 rfl rfl rfl rfl (on_f _) rfl (by decide) (fun h_ => (op_move rfl (HF200.ev rfl))) ?_
        intro a201 HF202; clear HF200
        refine gw_evG HF202 rfl rfl rfl rfl (on_f _) rfl (by decide) (fun h_ => (op_eqi rfl (ev_gv (HF202.ev rfl) h_) (ev_c _ _))) ?_
        intro a203 HF204; clear HF202
        refine gw_evG HF204 rfl rfl rfl rfl (on_f _) rfl (by decide) (fun h_ => (op_move rfl (ev_gv (HF204.ev rfl) h_))) ?_
        intro a205 HF206; clear HF204
        refine gw_evG HF206 rfl rfl rfl rfl (on_gt _ _) rfl (by decide) (fun h_ => (op_move rfl (HF206.ev rfl))) ?_
        intro a207 HF208; clear HF206
        refine gw_evG HF208 rfl rfl rfl rfl (on_gt _ _) rfl (by decide) (fun h_ => (op_gtr rfl (ev_gv (HF208.ev rfl) (andi (and1 h_) (and2 h_))) (ev_c _ _))) ?_
        intro a209 HF210; clear HF208
        refine gw_evG HF210 rfl rfl rfl rfl (on_f _) rfl (by decide) (fun h_ => (op_pick_and rfl (ev_gv (HF210.ev rfl) h_) (fun hp_ => (ev_gv (HF210.ev rfl) (andi h_ hp_))) (ev_c _ _))) ?_
        intro a211 HF212; clear HF210
        refine gw_ev HF212 (want_none rfl) rfl (by decide) (op_pick_or rfl (HF212.ev rfl) (ev_c _ _) (fun hp_ => (ev_gv (HF212.ev rfl) (not_t hp_)))) ?_
        intro a213 HF214; clear HF212
        refine wpList_nil ?_
        refine gw_nx (hK194 _ _ ?_)
        refine gw_cond HF214 rfl (fun hb215 => ?_) (fun hb215 => ?_)
        · skip
          have HF216 := HF214.subst_ (d := 53) (b := true) rfl hb215
          clear HF214
          (try simp only [Bool.and_eq_true, Bool.or_eq_true, Bool.and_eq_false_iff, Bool.or_eq_false_iff, Bool.not_and, Bool.not_or, Bool.not_not, decide_eq_true_eq, decide_eq_false_iff_not, Bool.not_eq_true', Bool.not_eq_false', Bool.not_eq_true, Bool.not_eq_false, ne_eq, Decidable.not_not, Int.not_lt, Int.not_le, not_true_eq_false, not_false_eq_true, bne_iff_ne, beq_iff_eq, bne_eq_false_iff_eq, beq_eq_false_iff_ne] at hb215)
          refine gw_seq fun K217 hK217 => ?_
          refine wp_region_lit ?_
          refine gw_ev HF216 (want_none rfl) rfl (by decide) (op_move rfl (HF216.ev rfl)) ?_
          intro a218 HF219; clear HF216
          refine gw_ev HF219 (want_none rfl) rfl (by decide) (op_eqi rfl (HF219.ev rfl) (ev_c _ _)) ?_
          intro a220 HF221; clear HF219
          refine gw_ev HF221 (want_none rfl) rfl (by decide) (op_move rfl (HF221.ev rfl)) ?_
          intro a222 HF223; clear HF221
          refine gw_evG HF223 rfl rfl rfl rfl (on_t _) rfl (by decide) (fun h_ => (op_load1 gwagg44 rfl (HF223.ev rfl) (blk_at (HO181.get 5 rfl) rfl))) ?_
          intro a224 HF225; clear HF223
          refine gw_evG HF225 rfl rfl rfl rfl (on_t _) rfl (by decide) (fun h_ => (op_len Try.underlying44 rfl (ev_gv (HF225.ev rfl) h_))) ?_
          intro a226 HF227; clear HF225
          refine gw_evG HF227 rfl rfl rfl rfl (on_t _) rfl (by decide) (fun h_ => (op_move rfl (HF227.ev rfl))) ?_
          intro a228 HF229; clear HF227
          refine gw_evG HF229 rfl rfl rfl rfl (on_t _) rfl (by decide) (fun h_ => (op_eqi rfl (ev_gv (HF229.ev rfl) h_) (ev_gv (HF229.ev rfl) h_))) ?_
          intro a230 HF231; clear HF229
          refine gw_ev HF231 (want_none rfl) rfl (by decide) (op_pick_and rfl (HF231.ev rfl) (fun hp_ => (ev_gv (HF231.ev rfl) hp_)) (ev_c _ _)) ?_
          intro a232 HF233; clear HF231
          refine gw_ev HF233 (want_none rfl) rfl (by decide) (op_assign rfl (HF233.ev rfl)) ?_
          intro a234 HF235; clear HF233
          refine wpList_nil ?_
          refine gw_nx (hK217 _ _ ?_)
          refine wp_ret ?_
          refine gw_thr ?_
          refine gw_blr ?_
          refine gw_thr ?_
          refine gw_blr ?_
          refine gw_thr ?_
          refine gw_thr ?_
          refine gw_blr ?_
          refine gw_thr ?_
          refine gw_ret1 HF235 rfl rfl ?_
          have hff := fin_fail hF96 hi.1 hrun hif (by (first | omega | (simp only [List.length_append, List.length_drop, List.length_cons, List.length_nil] at *; omega))) (law_no01 (by (first | omega | (simp only [List.length_append, List.length_drop, List.length_cons, List.length_nil] at *; omega))) (by (first | omega | (simp only [List.length_append, List.length_drop, List.length_cons, List.length_nil] at *; omega))))
          exact ⟨by congr 2; simp [hff.1, hff.2], HO181.below⟩
        · skip
          have HF236 := HF214.subst_ (d := 53) (b := false) rfl hb215
          clear HF214
          (try simp only [Bool.and_eq_true, Bool.or_eq_true, Bool.and_eq_false_iff, Bool.or_eq_false_iff, Bool.not_and, Bool.not_or, Bool.not_not, decide_eq_true_eq, decide_eq_false_iff_not, Bool.not_eq_true', Bool.not_eq_false', Bool.not_eq_true, Bool.not_eq_false, ne_eq, Decidable.not_not, Int.not_lt, Int.not_le, not_true_eq_false, not_false_eq_true, bne_iff_ne, beq_iff_eq, bne_eq_false_iff_eq, beq_eq_false_iff_ne] at hb215)
          have hst := law_yes01 (ns := ns) (ts := ts) (ls := ls) (c := (calls.getD i.toNat (0 : Int))) (by (first | omega | (simp only [List.length_append, List.length_drop, List.length_cons, List.length_nil] at *; omega))) (by (first | omega | (simp only [List.length_append, List.length_drop, List.length_cons, List.length_nil] at *; omega))); have hok := fin_ok hF96 hi.1 hrun hif (by (first | omega | (simp only [List.length_append, List.length_drop, List.length_cons, List.length_nil] at *; omega))) hst; have hpl := pre_at (z := (0 : Int)) hok.2.2.2.1; have hpn := pre_at (z := (0 : Int)) hok.2.1
          refine wp_skip ?_
          refine gw_nx (hK193 _ _ ?_)
          refine gw_seq fun K237 hK237 => ?_
          refine gw_seq fun K238 hK238 => ?_
          refine wp_region_lit ?_
          refine gw_ev HF236 (want_none rfl) rfl (by decide) (op_move rfl (HF236.ev rfl)) ?_
          intro a239 HF240; clear HF236
          refine gw_ev HF240 (want_none rfl) rfl (by decide) (op_load1 gwagg45 rfl (HF240.ev rfl) (blk_at (HO181.get 1 rfl) rfl)) ?_
          intro a241 HF242; clear HF240
          refine gw_ev HF242 (want_none rfl) rfl (by decide) (op_len Try.underlying45 rfl (HF242.ev rfl)) ?_
          intro a243 HF244; clear HF242
          refine gw_ev HF244 (want_none rfl) rfl (by decide) (op_geq rfl (HF244.ev rfl) (HF244.ev rfl)) ?_
          intro a245 HF246; clear HF244
          refine gw_ev HF246 (want_none rfl) rfl (by decide) (op_move rfl (HF246.ev rfl)) ?_
          intro a247 HF248; clear HF246
          refine gw_evG HF248 rfl rfl rfl rfl (on_f _) rfl (by decide) (fun h_ => (op_load1 gwagg45 rfl (HF248.ev rfl) (blk_at (HO181.get 1 rfl) rfl))) ?_
          intro a249 HF250; clear HF248
          refine gw_evG HF250 rfl rfl rfl rfl (on_f _) rfl (by decide) (fun h_ => (op_move rfl (HF250.ev rfl))) ?_
          intro a251 HF252; clear HF250
          have HO262 := HO181.pin 2 rfl
          clear HO181
          have HO263 : Own w w177 [Chunk.blk g2 (.cells #[.slice A1 calls.length c1] 44 (0, 0)), Chunk.blk g30 (.cells #[.slice A84 s94.nums.length c85] 45 (0, 0)), Chunk.viewAt w177 (Kd.int .i64) S86 A84 s94.nums.length c85 s94.nums, Chunk.blk g49 (.cells #[.slice A87 s94.texts.length c88] 46 (0, 0)), Chunk.view Kd.string S89 A87 s94.texts.length c88 s94.texts, Chunk.blk g68 (.cells #[.slice A90 s94.left.length c91] 44 (0, 0)), Chunk.view (Kd.int .i64) S92 A90 s94.left.length c91 s94.left] := HO262
          clear HO262
          obtain ⟨ad256, cs259, hA257, hl260, hK261, hc258⟩ := F_getT (viewAt_F (HO263.get 2 rfl)) (0 : Int) (ns.length : Int) (⟨_, fun _ _ => rfl⟩)
          obtain rfl := int_openF hK261
          clear hl260
          refine gw_evG HF252 rfl rfl rfl rfl (on_f _) rfl (by decide) (fun h_ => (op_index Try.underlying45 gwsiz2 rfl (ev_gv (HF252.ev rfl) h_) (ev_gv (HF252.ev rfl) h_) (hA257 ⟨by (try simp only [Bool.and_eq_true, Bool.or_eq_true, Bool.and_eq_false_iff, Bool.or_eq_false_iff, Bool.not_and, Bool.not_or, Bool.not_not, decide_eq_true_eq, decide_eq_false_iff_not, Bool.not_eq_true', Bool.not_eq_false', Bool.not_eq_true, Bool.not_eq_false, ne_eq, Decidable.not_not, Int.not_lt, Int.not_le, not_true_eq_false, not_false_eq_true, bne_iff_ne, beq_iff_eq, bne_eq_false_iff_eq, beq_eq_false_iff_ne] at h_); (first | omega | (simp only [List.length_append, List.length_drop, List.length_cons, List.length_nil] at *; omega)), by (try simp only [Bool.and_eq_true, Bool.or_eq_true, Bool.and_eq_false_iff, Bool.or_eq_false_iff, Bool.not_and, Bool.not_or, Bool.not_not, decide_eq_true_eq, decide_eq_false_iff_not, Bool.not_eq_true', Bool.not_eq_false', Bool.not_eq_true, Bool.not_eq_false, ne_eq, Decidable.not_not, Int.not_lt, Int.not_le, not_true_eq_false, not_false_eq_true, bne_iff_ne, beq_iff_eq, bne_eq_false_iff_eq, beq_eq_false_iff_ne] at h_); (first | omega | (simp only [List.length_append, List.length_drop, List.length_cons, List.length_nil] at *; omega))⟩) (⟨by (try simp only [Bool.and_eq_true, Bool.or_eq_true, Bool.and_eq_false_iff, Bool.or_eq_false_iff, Bool.not_and, Bool.not_or, Bool.not_not, decide_eq_true_eq, decide_eq_false_iff_not, Bool.not_eq_true', Bool.not_eq_false', Bool.not_eq_true, Bool.not_eq_false, ne_eq, Decidable.not_not, Int.not_lt, Int.not_le, not_true_eq_false, not_false_eq_true, bne_iff_ne, beq_iff_eq, bne_eq_false_iff_eq, beq_eq_false_iff_ne] at h_); (first | omega | (simp only [List.length_append, List.length_drop, List.length_cons, List.length_nil] at *; omega)), by (try simp only [Bool.and_eq_true, Bool.or_eq_true, Bool.and_eq_false_iff, Bool.or_eq_false_iff, Bool.not_and, Bool.not_or, Bool.not_not, decide_eq_true_eq, decide_eq_false_iff_not, Bool.not_eq_true', Bool.not_eq_false', Bool.not_eq_true, Bool.not_eq_false, ne_eq, Decidable.not_not, Int.not_lt, Int.not_le, not_true_eq_false, not_false_eq_true, bne_iff_ne, beq_iff_eq, bne_eq_false_iff_eq, beq_eq_false_iff_ne] at h_); (first | omega | (simp only [List.length_append, List.length_drop, List.length_cons, List.length_nil] at *; omega))⟩))) ?_
          intro a264 HF265; clear HF252
          refine gw_evG HF265 rfl rfl rfl rfl (on_f _) rfl (by decide) (fun h_ => (op_load1 gwagg2 rfl (ev_gv (HF265.ev rfl) h_) (((pin_cells (HO263.get 2 rfl) (hA257 ⟨by (try simp only [Bool.and_eq_true, Bool.or_eq_true, Bool.and_eq_false_iff, Bool.or_eq_false_iff, Bool.not_and, Bool.not_or, Bool.not_not, decide_eq_true_eq, decide_eq_false_iff_not, Bool.not_eq_true', Bool.not_eq_false', Bool.not_eq_true, Bool.not_eq_false, ne_eq, Decidable.not_not, Int.not_lt, Int.not_le, not_true_eq_false, not_false_eq_true, bne_iff_ne, beq_iff_eq, bne_eq_false_iff_eq, beq_eq_false_iff_ne] at h_); (first | omega | (simp only [List.length_append, List.length_drop, List.length_cons, List.length_nil] at *; omega)), by (try simp only [Bool.and_eq_true, Bool.or_eq_true, Bool.and_eq_false_iff, Bool.or_eq_false_iff, Bool.not_and, Bool.not_or, Bool.not_not, decide_eq_true_eq, decide_eq_false_iff_not, Bool.not_eq_true', Bool.not_eq_false', Bool.not_eq_true, Bool.not_eq_false, ne_eq, Decidable.not_not, Int.not_lt, Int.not_le, not_true_eq_false, not_false_eq_true, bne_iff_ne, beq_iff_eq, bne_eq_false_iff_eq, beq_eq_false_iff_ne] at h_); (first | omega | (simp only [List.length_append, List.length_drop, List.length_cons, List.length_nil] at *; omega))⟩) (hc258 ⟨by (try simp only [Bool.and_eq_true, Bool.or_eq_true, Bool.and_eq_false_iff, Bool.or_eq_false_iff, Bool.not_and, Bool.not_or, Bool.not_not, decide_eq_true_eq, decide_eq_false_iff_not, Bool.not_eq_true', Bool.not_eq_false', Bool.not_eq_true, Bool.not_eq_false, ne_eq, Decidable.not_not, Int.not_lt, Int.not_le, not_true_eq_false, not_false_eq_true, bne_iff_ne, beq_iff_eq, bne_eq_false_iff_eq, beq_eq_false_iff_ne] at h_); (first | omega | (simp only [List.length_append, List.length_drop, List.length_cons, List.length_nil] at *; omega)), by (try simp only [Bool.and_eq_true, Bool.or_eq_true, Bool.and_eq_false_iff, Bool.or_eq_false_iff, Bool.not_and, Bool.not_or, Bool.not_not, decide_eq_true_eq, decide_eq_false_iff_not, Bool.not_eq_true', Bool.not_eq_false', Bool.not_eq_true, Bool.not_eq_false, ne_eq, Decidable.not_not, Int.not_lt, Int.not_le, not_true_eq_false, not_false_eq_true, bne_iff_ne, beq_iff_eq, bne_eq_false_iff_eq, beq_eq_false_iff_ne] at h_); (first | omega | (simp only [List.length_append, List.length_drop, List.length_cons, List.length_nil] at *; omega))⟩)) 0 _ rfl)))) ?_
          intro a266 HF267; clear HF265
          refine gw_evG HF267 rfl rfl rfl rfl (on_f _) rfl (by decide) (fun h_ => (op_move rfl (HF267.ev rfl))) ?_
          intro a268 HF269; clear HF267
          refine gw_evG HF269 rfl rfl rfl rfl (on_f _) rfl (by decide) (fun h_ => (op_nei rfl (ev_gv (HF269.ev rfl) h_) (ev_gv (HF269.ev rfl) h_))) ?_
          intro a270 HF271; clear HF269
          refine gw_ev HF271 (want_none rfl) rfl (by decide) (op_pick_or rfl (HF271.ev rfl) (ev_c _ _) (fun hp_ => (ev_gv (HF271.ev rfl) (not_t hp_)))) ?_
          intro a272 HF273; clear HF271
          have HF274 := HF273.lit (b := false) (by rw [Bool.or_eq_false_iff, decide_eq_false_iff_not, decide_eq_false_iff_not]; exact ⟨by (first | omega | (simp only [List.length_append, List.length_drop, List.length_cons, List.length_nil] at *; omega)), fun h_ => h_ (by rw [Int.toNat_natCast]; exact hpn.2)⟩)
          clear HF273
          refine wpList_nil ?_
          refine gw_nx (hK238 _ _ ?_)
          refine gw_cond HF274 rfl (fun hb275 => ?_) (fun hb275 => ?_)
          skip
          · cases hb275
          refine wp_skip ?_
          refine gw_nx (hK237 _ _ ?_)
          refine gw_seq fun K276 hK276 => ?_
          refine wp_region_lit ?_
          refine gw_ev HF274 (want_none rfl) rfl (by decide) (op_move rfl (HF274.ev rfl)) ?_
          intro a277 HF278; clear HF274
          refine gw_ev HF278 (want_none rfl) rfl (by decide) (op_add rfl (HF278.ev rfl) (ev_c _ _) (by (first | omega | (simp only [List.length_append, List.length_drop, List.length_cons, List.length_nil] at *; omega)))) ?_
          intro a279 HF280; clear HF278
          have HF281 := HF280.conv (v' := .int .i64 ((ns ++ [(gnumV xs').1]).length : Int)) (by congr 1; simp)
          clear HF280
          refine gw_ev HF281 (want_none rfl) rfl (by decide) (op_assign rfl (HF281.ev rfl)) ?_
          intro a282 HF283; clear HF281
          refine wpList_nil ?_
          refine gw_nx (hK276 _ _ ?_)
          refine wp_region_lit ?_
          refine gw_ev HF283 (want_none rfl) rfl (by decide) (op_move rfl (HF283.ev rfl)) ?_
          intro a284 HF285; clear HF283
          refine gw_ev HF285 (want_none rfl) rfl (by decide) (op_assign rfl (HF285.ev rfl)) ?_
          intro a286 HF287; clear HF285
          refine wpList_nil ?_
          refine gw_blk ?_
          refine gw_nx (hK160 _ _ ?_)
          refine gw_seq fun K288 hK288 => ?_
          refine wp_region_lit ?_
          refine gw_ev HF287 (want_none rfl) rfl (by decide) (op_move rfl (HF287.ev rfl)) ?_
          intro a289 HF290; clear HF287
          refine gw_ev HF290 (want_none rfl) rfl (by decide) (op_move rfl (HF290.ev rfl)) ?_
          intro a291 HF292; clear HF290
          obtain ⟨A293, c294, hr295, hc296, hC297, hA298⟩ := cut_lo (P := Try.prog) (d := (Kd.int .u8)) (t := 22) (e := 5) Try.underlying22 gwsiz5 A9 c9 xs' hcap ((gnumV xs').2) (by (first | omega | (simp only [List.length_append, List.length_drop, List.length_cons, List.length_nil] at *; omega))) (by (first | omega | (simp only [List.length_append, List.length_drop, List.length_cons, List.length_nil] at *; omega)))
          refine gw_ev HF292 (want_none rfl) rfl (by decide) (op_cut Try.underlying22 hr295 rfl (HF292.ev rfl) (some_ev (HF292.ev rfl)) rfl) ?_
          intro a299 HF300; clear HF292
          refine gw_ev HF300 (want_none rfl) rfl (by decide) (op_assign rfl (HF300.ev rfl)) ?_
          intro a301 HF302; clear HF300
          refine wpList_nil ?_
          refine gw_nx (hK288 _ _ ?_)
          refine gw_seq fun K303 hK303 => ?_
          refine wp_region_lit ?_
          refine gw_ev HF302 (want_none rfl) rfl (by decide) (op_move rfl (HF302.ev rfl)) ?_
          intro a304 HF305; clear HF302
          refine gw_ev HF305 (want_none rfl) rfl (by decide) (op_load1 gwagg44 rfl (HF305.ev rfl) (blk_at (HO263.get 5 rfl) rfl)) ?_
          intro a306 HF307; clear HF305
          refine gw_ev HF307 (want_none rfl) rfl (by decide) (op_len Try.underlying44 rfl (HF307.ev rfl)) ?_
          intro a308 HF309; clear HF307
          refine gw_ev HF309 (want_none rfl) rfl (by decide) (op_geq rfl (HF309.ev rfl) (HF309.ev rfl)) ?_
          intro a310 HF311; clear HF309
          refine gw_ev HF311 (want_none rfl) rfl (by decide) (op_move rfl (HF311.ev rfl)) ?_
          intro a312 HF313; clear HF311
          refine gw_evG HF313 rfl rfl rfl rfl (on_f _) rfl (by decide) (fun h_ => (op_load1 gwagg44 rfl (HF313.ev rfl) (blk_at (HO263.get 5 rfl) rfl))) ?_
          intro a314 HF315; clear HF313
          refine gw_evG HF315 rfl rfl rfl rfl (on_f _) rfl (by decide) (fun h_ => (op_move rfl (HF315.ev rfl))) ?_
          intro a316 HF317; clear HF315
          have HO327 := HO263.pin 6 rfl
          clear HO263
          have HO328 : Own w w177 [Chunk.blk g2 (.cells #[.slice A1 calls.length c1] 44 (0, 0)), Chunk.blk g30 (.cells #[.slice A84 s94.nums.length c85] 45 (0, 0)), Chunk.viewAt w177 (Kd.int .i64) S86 A84 s94.nums.length c85 s94.nums, Chunk.blk g49 (.cells #[.slice A87 s94.texts.length c88] 46 (0, 0)), Chunk.view Kd.string S89 A87 s94.texts.length c88 s94.texts, Chunk.blk g68 (.cells #[.slice A90 s94.left.length c91] 44 (0, 0)), Chunk.viewAt w177 (Kd.int .i64) S92 A90 s94.left.length c91 s94.left] := HO327
          clear HO327
          obtain ⟨ad321, cs324, hA322, hl325, hK326, hc323⟩ := F_getT (viewAt_F (HO328.get 6 rfl)) (0 : Int) i (⟨_, fun _ _ => rfl⟩)
          obtain rfl := int_openF hK326
          clear hl325
          refine gw_evG HF317 rfl rfl rfl rfl (on_f _) rfl (by decide) (fun h_ => (op_index Try.underlying44 gwsiz3 rfl (ev_gv (HF317.ev rfl) h_) (ev_gv (HF317.ev rfl) h_) (hA322 ⟨by (try simp only [Bool.and_eq_true, Bool.or_eq_true, Bool.and_eq_false_iff, Bool.or_eq_false_iff, Bool.not_and, Bool.not_or, Bool.not_not, decide_eq_true_eq, decide_eq_false_iff_not, Bool.not_eq_true', Bool.not_eq_false', Bool.not_eq_true, Bool.not_eq_false, ne_eq, Decidable.not_not, Int.not_lt, Int.not_le, not_true_eq_false, not_false_eq_true, bne_iff_ne, beq_iff_eq, bne_eq_false_iff_eq, beq_eq_false_iff_ne] at h_); (first | omega | (simp only [List.length_append, List.length_drop, List.length_cons, List.length_nil] at *; omega)), by (try simp only [Bool.and_eq_true, Bool.or_eq_true, Bool.and_eq_false_iff, Bool.or_eq_false_iff, Bool.not_and, Bool.not_or, Bool.not_not, decide_eq_true_eq, decide_eq_false_iff_not, Bool.not_eq_true', Bool.not_eq_false', Bool.not_eq_true, Bool.not_eq_false, ne_eq, Decidable.not_not, Int.not_lt, Int.not_le, not_true_eq_false, not_false_eq_true, bne_iff_ne, beq_iff_eq, bne_eq_false_iff_eq, beq_eq_false_iff_ne] at h_); (first | omega | (simp only [List.length_append, List.length_drop, List.length_cons, List.length_nil] at *; omega))⟩) (⟨by (try simp only [Bool.and_eq_true, Bool.or_eq_true, Bool.and_eq_false_iff, Bool.or_eq_false_iff, Bool.not_and, Bool.not_or, Bool.not_not, decide_eq_true_eq, decide_eq_false_iff_not, Bool.not_eq_true', Bool.not_eq_false', Bool.not_eq_true, Bool.not_eq_false, ne_eq, Decidable.not_not, Int.not_lt, Int.not_le, not_true_eq_false, not_false_eq_true, bne_iff_ne, beq_iff_eq, bne_eq_false_iff_eq, beq_eq_false_iff_ne] at h_); (first | omega | (simp only [List.length_append, List.length_drop, List.length_cons, List.length_nil] at *; omega)), by (try simp only [Bool.and_eq_true, Bool.or_eq_true, Bool.and_eq_false_iff, Bool.or_eq_false_iff, Bool.not_and, Bool.not_or, Bool.not_not, decide_eq_true_eq, decide_eq_false_iff_not, Bool.not_eq_true', Bool.not_eq_false', Bool.not_eq_true, Bool.not_eq_false, ne_eq, Decidable.not_not, Int.not_lt, Int.not_le, not_true_eq_false, not_false_eq_true, bne_iff_ne, beq_iff_eq, bne_eq_false_iff_eq, beq_eq_false_iff_ne] at h_); (first | omega | (simp only [List.length_append, List.length_drop, List.length_cons, List.length_nil] at *; omega))⟩))) ?_
          intro a329 HF330; clear HF317
          refine gw_evG HF330 rfl rfl rfl rfl (on_f _) rfl (by decide) (fun h_ => (op_load1 gwagg3 rfl (ev_gv (HF330.ev rfl) h_) (((pin_cells (HO328.get 6 rfl) (hA322 ⟨by (try simp only [Bool.and_eq_true, Bool.or_eq_true, Bool.and_eq_false_iff, Bool.or_eq_false_iff, Bool.not_and, Bool.not_or, Bool.not_not, decide_eq_true_eq, decide_eq_false_iff_not, Bool.not_eq_true', Bool.not_eq_false', Bool.not_eq_true, Bool.not_eq_false, ne_eq, Decidable.not_not, Int.not_lt, Int.not_le, not_true_eq_false, not_false_eq_true, bne_iff_ne, beq_iff_eq, bne_eq_false_iff_eq, beq_eq_false_iff_ne] at h_); (first | omega | (simp only [List.length_append, List.length_drop, List.length_cons, List.length_nil] at *; omega)), by (try simp only [Bool.and_eq_true, Bool.or_eq_true, Bool.and_eq_false_iff, Bool.or_eq_false_iff, Bool.not_and, Bool.not_or, Bool.not_not, decide_eq_true_eq, decide_eq_false_iff_not, Bool.not_eq_true', Bool.not_eq_false', Bool.not_eq_true, Bool.not_eq_false, ne_eq, Decidable.not_not, Int.not_lt, Int.not_le, not_true_eq_false, not_false_eq_true, bne_iff_ne, beq_iff_eq, bne_eq_false_iff_eq, beq_eq_false_iff_ne] at h_); (first | omega | (simp only [List.length_append, List.length_drop, List.length_cons, List.length_nil] at *; omega))⟩) (hc323 ⟨by (try simp only [Bool.and_eq_true, Bool.or_eq_true, Bool.and_eq_false_iff, Bool.or_eq_false_iff, Bool.not_and, Bool.not_or, Bool.not_not, decide_eq_true_eq, decide_eq_false_iff_not, Bool.not_eq_true', Bool.not_eq_false', Bool.not_eq_true, Bool.not_eq_false, ne_eq, Decidable.not_not, Int.not_lt, Int.not_le, not_true_eq_false, not_false_eq_true, bne_iff_ne, beq_iff_eq, bne_eq_false_iff_eq, beq_eq_false_iff_ne] at h_); (first | omega | (simp only [List.length_append, List.length_drop, List.length_cons, List.length_nil] at *; omega)), by (try simp only [Bool.and_eq_true, Bool.or_eq_true, Bool.and_eq_false_iff, Bool.or_eq_false_iff, Bool.not_and, Bool.not_or, Bool.not_not, decide_eq_true_eq, decide_eq_false_iff_not, Bool.not_eq_true', Bool.not_eq_false', Bool.not_eq_true, Bool.not_eq_false, ne_eq, Decidable.not_not, Int.not_lt, Int.not_le, not_true_eq_false, not_false_eq_true, bne_iff_ne, beq_iff_eq, bne_eq_false_iff_eq, beq_eq_false_iff_ne] at h_); (first | omega | (simp only [List.length_append, List.length_drop, List.length_cons, List.length_nil] at *; omega))⟩)) 0 _ rfl)))) ?_
          intro a331 HF332; clear HF330
          refine gw_evG HF332 rfl rfl rfl rfl (on_f _) rfl (by decide) (fun h_ => (op_move rfl (HF332.ev rfl))) ?_
          intro a333 HF334; clear HF332
          refine gw_evG HF334 rfl rfl rfl rfl (on_f _) rfl (by decide) (fun h_ => (op_len Try.underlying22 rfl (ev_gv (HF334.ev rfl) h_))) ?_
          intro a335 HF336; clear HF334
          refine gw_evG HF336 rfl rfl rfl rfl (on_f _) rfl (by decide) (fun h_ => (op_nei rfl (ev_gv (HF336.ev rfl) h_) (ev_gv (HF336.ev rfl) h_))) ?_
          intro a337 HF338; clear HF336
          refine gw_ev HF338 (want_none rfl) rfl (by decide) (op_pick_or rfl (HF338.ev rfl) (ev_c _ _) (fun hp_ => (ev_gv (HF338.ev rfl) (not_t hp_)))) ?_
          intro a339 HF340; clear HF338
          have HF341 := HF340.lit (b := false) (by rw [Bool.or_eq_false_iff, decide_eq_false_iff_not, decide_eq_false_iff_not]; exact ⟨by (first | omega | (simp only [List.length_append, List.length_drop, List.length_cons, List.length_nil] at *; omega)), fun h_ => h_ (by rw [← hok.2.2.2.2]; exact hpl.2)⟩)
          clear HF340
          refine wpList_nil ?_
          refine gw_nx (hK303 _ _ ?_)
          refine gw_cond HF341 rfl (fun hb342 => ?_) (fun hb342 => ?_)
          skip
          · cases hb342
          refine wp_skip ?_
          refine gw_blk ?_
          refine gw_nx (hK139 _ _ ?_)
          refine wp_region_lit ?_
          refine gw_ev HF341 (want_none rfl) rfl (by decide) (op_add rfl (HF341.ev rfl) (ev_c _ _) (by (first | omega | (simp only [List.length_append, List.length_drop, List.length_cons, List.length_nil] at *; omega)))) ?_
          intro a343 HF344; clear HF341
          refine gw_ev HF344 (want_none rfl) rfl (by decide) (op_move rfl (HF344.ev rfl)) ?_
          intro a345 HF346; clear HF344
          refine wpList_nil ?_
          have HO347 := HO328.unpin 2 rfl
          clear HO328
          have HO348 : Own w w177 [Chunk.blk g2 (.cells #[.slice A1 calls.length c1] 44 (0, 0)), Chunk.blk g30 (.cells #[.slice A84 s94.nums.length c85] 45 (0, 0)), Chunk.view (Kd.int .i64) S86 A84 s94.nums.length c85 s94.nums, Chunk.blk g49 (.cells #[.slice A87 s94.texts.length c88] 46 (0, 0)), Chunk.view Kd.string S89 A87 s94.texts.length c88 s94.texts, Chunk.blk g68 (.cells #[.slice A90 s94.left.length c91] 44 (0, 0)), Chunk.viewAt w177 (Kd.int .i64) S92 A90 s94.left.length c91 s94.left] := HO347
          clear HO347
          have HO349 := HO348.unpin 6 rfl
          clear HO348
          have HO350 : Own w w177 [Chunk.blk g2 (.cells #[.slice A1 calls.length c1] 44 (0, 0)), Chunk.blk g30 (.cells #[.slice A84 s94.nums.length c85] 45 (0, 0)), Chunk.view (Kd.int .i64) S86 A84 s94.nums.length c85 s94.nums, Chunk.blk g49 (.cells #[.slice A87 s94.texts.length c88] 46 (0, 0)), Chunk.view Kd.string S89 A87 s94.texts.length c88 s94.texts, Chunk.blk g68 (.cells #[.slice A90 s94.left.length c91] 44 (0, 0)), Chunk.view (Kd.int .i64) S92 A90 s94.left.length c91 s94.left] := HO349
          clear HO349
          refine gw_nx ⟨_, ?_, i + 1, (xs'.drop ((gnumV xs').2).toNat), ns ++ [(gnumV xs').1], ts, ls ++ [(((xs'.drop ((gnumV xs').2).toNat)).length : Int)], A293, c294, (HF346.pick (t := 30) rfl (HF346.pick (t := 9) rfl (HF346.pick (t := 10) rfl (HF346.pick (t := 11) rfl (HF346.pick (t := 5) rfl (HF346.pick (t := 6) rfl (HF346.pick (t := 7) rfl (HF346.pick (t := 8) rfl (HF346.pick (t := 28) rfl (HF346.pick (t := 29) rfl HF346.nil)))))))))), HO350.sel [0, 1, 2, 3, 4, 5, 6] (by decide), ?_, ?_, ?_, ?_, ?_, ?_, ?_, ?_, rfl⟩
          · rw [hm132]; (first | omega | (simp only [List.length_append, List.length_drop, List.length_cons, List.length_nil] at *; omega))
          · (first | omega | (simp only [List.length_append, List.length_drop, List.length_cons, List.length_nil] at *; omega))
          · exact hok.1
          · rw [rrun_succ hi.1 hrun]; exact hst
          · intro W h; exact hC297 W (hC W h)
          · exact hc296
          · exact hbx.drop _
          · (first | omega | (simp only [List.length_append, List.length_drop, List.length_cons, List.length_nil] at *; omega))
          · (first | omega | (simp only [List.length_append, List.length_drop, List.length_cons, List.length_nil] at *; omega))
      · skip
        have HF351 := HF169.subst_ (d := 36) (b := false) rfl hb170
        clear HF169
        (try simp only [Bool.and_eq_true, Bool.or_eq_true, Bool.and_eq_false_iff, Bool.or_eq_false_iff, Bool.not_and, Bool.not_or, Bool.not_not, decide_eq_true_eq, decide_eq_false_iff_not, Bool.not_eq_true', Bool.not_eq_false', Bool.not_eq_true, Bool.not_eq_false, ne_eq, Decidable.not_not, Int.not_lt, Int.not_le, not_true_eq_false, not_false_eq_true, bne_iff_ne, beq_iff_eq, bne_eq_false_iff_eq, beq_eq_false_iff_ne] at hb170)
        refine wp_region_lit ?_
        refine gw_ev HF351 (want_none rfl) rfl (by decide) (op_eqi rfl (HF351.ev rfl) (ev_c _ _)) ?_
        intro a352 HF353; clear HF351
        refine gw_ev HF353 (want_none rfl) rfl (by decide) (op_assign rfl (HF353.ev rfl)) ?_
        intro a354 HF355; clear HF353
        refine wpList_nil ?_
        refine gw_nx (hK164 _ _ ?_)
        refine gw_cond HF355 rfl (fun hb356 => ?_) (fun hb356 => ?_)
        · skip
          have HF357 := HF355.subst_ (d := 36) (b := true) rfl hb356
          clear HF355
          (try simp only [Bool.and_eq_true, Bool.or_eq_true, Bool.and_eq_false_iff, Bool.or_eq_false_iff, Bool.not_and, Bool.not_or, Bool.not_not, decide_eq_true_eq, decide_eq_false_iff_not, Bool.not_eq_true', Bool.not_eq_false', Bool.not_eq_true, Bool.not_eq_false, ne_eq, Decidable.not_not, Int.not_lt, Int.not_le, not_true_eq_false, not_false_eq_true, bne_iff_ne, beq_iff_eq, bne_eq_false_iff_eq, beq_eq_false_iff_ne] at hb356)
          refine gw_seq fun K358 hK358 => ?_
          refine wp_region_lit ?_
          refine gw_ev HF357 (want_none rfl) rfl (by decide) (op_move rfl (HF357.ev rfl)) ?_
          intro a359 HF360; clear HF357
          refine gw_call HF360 (want_none rfl) rfl (by decide) (op_callL Try.func39 (by kernel_rfl) rfl rfl (ar_cons (HF360.ev rfl) ar_nil)) (GGet_.getnum_calls A9 c9 xs' _ (hC _ (Kd.C_below hr0 HO131.below)) hcap ((by first | exact hb0 | exact hbx))) ?_
          rintro e361 w362 ⟨rfl, hb363⟩
          refine ⟨_, rfl, fun a364 HF365 => ?_⟩
          have HO366 := HO131.after hb363
          clear HF360 HO131 hb363
          have hv := gnumV_b xs'
          refine gw_ev HF365 (want_none rfl) rfl (by decide) (op_move rfl (HF365.ev rfl)) ?_
          intro a368 HF369; clear HF365
          refine gw_ev HF369 (want_none rfl) rfl (by decide) (op_extract rfl (HF369.ev rfl) rfl) ?_
          intro a370 HF371; clear HF369
          refine gw_ev HF371 (want_none rfl) rfl (by decide) (op_extract rfl (HF371.ev rfl) rfl) ?_
          intro a372 HF373; clear HF371
          refine gw_ev HF373 (want_none rfl) rfl (by decide) (op_assign rfl (HF373.ev rfl)) ?_
          intro a374 HF375; clear HF373
          refine gw_ev HF375 (want_none rfl) rfl (by decide) (op_assign rfl (HF375.ev rfl)) ?_
          intro a376 HF377; clear HF375
          refine wpList_nil ?_
          refine gw_nx (hK358 _ _ ?_)
          refine gw_seq fun K378 hK378 => ?_
          refine gw_seq fun K379 hK379 => ?_
          refine wp_region_lit ?_
          refine gw_ev HF377 (want_none rfl) rfl (by decide) (op_move rfl (HF377.ev rfl)) ?_
          intro a380 HF381; clear HF377
          refine gw_ev HF381 (want_none rfl) rfl (by decide) (op_eqi rfl (HF381.ev rfl) (ev_c _ _)) ?_
          intro a382 HF383; clear HF381
          refine gw_ev HF383 (want_none rfl) rfl (by decide) (op_move rfl (HF383.ev rfl)) ?_
          intro a384 HF385; clear HF383
          refine gw_evG HF385 rfl rfl rfl rfl (on_f _) rfl (by decide) (fun h_ => (op_move rfl (HF385.ev rfl))) ?_
          intro a386 HF387; clear HF385
          refine gw_evG HF387 rfl rfl rfl rfl (on_f _) rfl (by decide) (fun h_ => (op_eqi rfl (ev_gv (HF387.ev rfl) h_) (ev_c _ _))) ?_
          intro a388 HF389; clear HF387
          refine gw_evG HF389 rfl rfl rfl rfl (on_f _) rfl (by decide) (fun h_ => (op_move rfl (ev_gv (HF389.ev rfl) h_))) ?_
          intro a390 HF391; clear HF389
          refine gw_evG HF391 rfl rfl rfl rfl (on_gt _ _) rfl (by decide) (fun h_ => (op_move rfl (HF391.ev rfl))) ?_
          intro a392 HF393; clear HF391
          refine gw_evG HF393 rfl rfl rfl rfl (on_gt _ _) rfl (by decide) (fun h_ => (op_gtr rfl (ev_gv (HF393.ev rfl) (andi (and1 h_) (and2 h_))) (ev_c _ _))) ?_
          intro a394 HF395; clear HF393
          refine gw_evG HF395 rfl rfl rfl rfl (on_f _) rfl (by decide) (fun h_ => (op_pick_and rfl (ev_gv (HF395.ev rfl) h_) (fun hp_ => (ev_gv (HF395.ev rfl) (andi h_ hp_))) (ev_c _ _))) ?_
          intro a396 HF397; clear HF395
          refine gw_ev HF397 (want_none rfl) rfl (by decide) (op_pick_or rfl (HF397.ev rfl) (ev_c _ _) (fun hp_ => (ev_gv (HF397.ev rfl) (not_t hp_)))) ?_
          intro a398 HF399; clear HF397
          refine wpList_nil ?_
          refine gw_nx (hK379 _ _ ?_)
          refine gw_cond HF399 rfl (fun hb400 => ?_) (fun hb400 => ?_)
          · skip
            have HF401 := HF399.subst_ (d := 53) (b := true) rfl hb400
            clear HF399
            (try simp only [Bool.and_eq_true, Bool.or_eq_true, Bool.and_eq_false_iff, Bool.or_eq_false_iff, Bool.not_and, Bool.not_or, Bool.not_not, decide_eq_true_eq, decide_eq_false_iff_not, Bool.not_eq_true', Bool.not_eq_false', Bool.not_eq_true, Bool.not_eq_false, ne_eq, Decidable.not_not, Int.not_lt, Int.not_le, not_true_eq_false, not_false_eq_true, bne_iff_ne, beq_iff_eq, bne_eq_false_iff_eq, beq_eq_false_iff_ne] at hb400)
            refine gw_seq fun K402 hK402 => ?_
            refine wp_region_lit ?_
            refine gw_ev HF401 (want_none rfl) rfl (by decide) (op_move rfl (HF401.ev rfl)) ?_
            intro a403 HF404; clear HF401
            refine gw_ev HF404 (want_none rfl) rfl (by decide) (op_eqi rfl (HF404.ev rfl) (ev_c _ _)) ?_
            intro a405 HF406; clear HF404
            refine gw_ev HF406 (want_none rfl) rfl (by decide) (op_move rfl (HF406.ev rfl)) ?_
            intro a407 HF408; clear HF406
            refine gw_evG HF408 rfl rfl rfl rfl (on_t _) rfl (by decide) (fun h_ => (op_load1 gwagg44 rfl (HF408.ev rfl) (blk_at (HO366.get 5 rfl) rfl))) ?_
            intro a409 HF410; clear HF408
            refine gw_evG HF410 rfl rfl rfl rfl (on_t _) rfl (by decide) (fun h_ => (op_len Try.underlying44 rfl (ev_gv (HF410.ev rfl) h_))) ?_
            intro a411 HF412; clear HF410
            refine gw_evG HF412 rfl rfl rfl rfl (on_t _) rfl (by decide) (fun h_ => (op_move rfl (HF412.ev rfl))) ?_
            intro a413 HF414; clear HF412
            refine gw_evG HF414 rfl rfl rfl rfl (on_t _) rfl (by decide) (fun h_ => (op_eqi rfl (ev_gv (HF414.ev rfl) h_) (ev_gv (HF414.ev rfl) h_))) ?_
            intro a415 HF416; clear HF414
            refine gw_ev HF416 (want_none rfl) rfl (by decide) (op_pick_and rfl (HF416.ev rfl) (fun hp_ => (ev_gv (HF416.ev rfl) hp_)) (ev_c _ _)) ?_
            intro a417 HF418; clear HF416
            refine gw_ev HF418 (want_none rfl) rfl (by decide) (op_assign rfl (HF418.ev rfl)) ?_
            intro a419 HF420; clear HF418
            refine wpList_nil ?_
            refine gw_nx (hK402 _ _ ?_)
            refine wp_ret ?_
            refine gw_thr ?_
            refine gw_blr ?_
            refine gw_thr ?_
            refine gw_blr ?_
            refine gw_thr ?_
            refine gw_thr ?_
            refine gw_blr ?_
            refine gw_thr ?_
            refine gw_ret1 HF420 rfl rfl ?_
            have hff := fin_fail hF96 hi.1 hrun hif (by (first | omega | (simp only [List.length_append, List.length_drop, List.length_cons, List.length_nil] at *; omega))) (law_no01 (by (first | omega | (simp only [List.length_append, List.length_drop, List.length_cons, List.length_nil] at *; omega))) (by (first | omega | (simp only [List.length_append, List.length_drop, List.length_cons, List.length_nil] at *; omega))))
            exact ⟨by congr 2; simp [hff.1, hff.2], HO366.below⟩
          · skip
            have HF421 := HF399.subst_ (d := 53) (b := false) rfl hb400
            clear HF399
            (try simp only [Bool.and_eq_true, Bool.or_eq_true, Bool.and_eq_false_iff, Bool.or_eq_false_iff, Bool.not_and, Bool.not_or, Bool.not_not, decide_eq_true_eq, decide_eq_false_iff_not, Bool.not_eq_true', Bool.not_eq_false', Bool.not_eq_true, Bool.not_eq_false, ne_eq, Decidable.not_not, Int.not_lt, Int.not_le, not_true_eq_false, not_false_eq_true, bne_iff_ne, beq_iff_eq, bne_eq_false_iff_eq, beq_eq_false_iff_ne] at hb400)
            have hst := law_yes01 (ns := ns) (ts := ts) (ls := ls) (c := (calls.getD i.toNat (0 : Int))) (by (first | omega | (simp only [List.length_append, List.length_drop, List.length_cons, List.length_nil] at *; omega))) (by (first | omega | (simp only [List.length_append, List.length_drop, List.length_cons, List.length_nil] at *; omega))); have hok := fin_ok hF96 hi.1 hrun hif (by (first | omega | (simp only [List.length_append, List.length_drop, List.length_cons, List.length_nil] at *; omega))) hst; have hpl := pre_at (z := (0 : Int)) hok.2.2.2.1; have hpn := pre_at (z := (0 : Int)) hok.2.1
            refine wp_skip ?_
            refine gw_nx (hK378 _ _ ?_)
            refine gw_seq fun K422 hK422 => ?_
            refine gw_seq fun K423 hK423 => ?_
            refine wp_region_lit ?_
            refine gw_ev HF421 (want_none rfl) rfl (by decide) (op_move rfl (HF421.ev rfl)) ?_
            intro a424 HF425; clear HF421
            refine gw_ev HF425 (want_none rfl) rfl (by decide) (op_load1 gwagg45 rfl (HF425.ev rfl) (blk_at (HO366.get 1 rfl) rfl)) ?_
            intro a426 HF427; clear HF425
            refine gw_ev HF427 (want_none rfl) rfl (by decide) (op_len Try.underlying45 rfl (HF427.ev rfl)) ?_
            intro a428 HF429; clear HF427
            refine gw_ev HF429 (want_none rfl) rfl (by decide) (op_geq rfl (HF429.ev rfl) (HF429.ev rfl)) ?_
            intro a430 HF431; clear HF429
            refine gw_ev HF431 (want_none rfl) rfl (by decide) (op_move rfl (HF431.ev rfl)) ?_
            intro a432 HF433; clear HF431
            refine gw_evG HF433 rfl rfl rfl rfl (on_f _) rfl (by decide) (fun h_ => (op_load1 gwagg45 rfl (HF433.ev rfl) (blk_at (HO366.get 1 rfl) rfl))) ?_
            intro a434 HF435; clear HF433
            refine gw_evG HF435 rfl rfl rfl rfl (on_f _) rfl (by decide) (fun h_ => (op_move rfl (HF435.ev rfl))) ?_
            intro a436 HF437; clear HF435
            have HO447 := HO366.pin 2 rfl
            clear HO366
            have HO448 : Own w w362 [Chunk.blk g2 (.cells #[.slice A1 calls.length c1] 44 (0, 0)), Chunk.blk g30 (.cells #[.slice A84 s94.nums.length c85] 45 (0, 0)), Chunk.viewAt w362 (Kd.int .i64) S86 A84 s94.nums.length c85 s94.nums, Chunk.blk g49 (.cells #[.slice A87 s94.texts.length c88] 46 (0, 0)), Chunk.view Kd.string S89 A87 s94.texts.length c88 s94.texts, Chunk.blk g68 (.cells #[.slice A90 s94.left.length c91] 44 (0, 0)), Chunk.view (Kd.int .i64) S92 A90 s94.left.length c91 s94.left] := HO447
            clear HO447
            obtain ⟨ad441, cs444, hA442, hl445, hK446, hc443⟩ := F_getT (viewAt_F (HO448.get 2 rfl)) (0 : Int) (ns.length : Int) (⟨_, fun _ _ => rfl⟩)
            obtain rfl := int_openF hK446
            clear hl445
            refine gw_evG HF437 rfl rfl rfl rfl (on_f _) rfl (by decide) (fun h_ => (op_index Try.underlying45 gwsiz2 rfl (ev_gv (HF437.ev rfl) h_) (ev_gv (HF437.ev rfl) h_) (hA442 ⟨by (try simp only [Bool.and_eq_true, Bool.or_eq_true, Bool.and_eq_false_iff, Bool.or_eq_false_iff, Bool.not_and, Bool.not_or, Bool.not_not, decide_eq_true_eq, decide_eq_false_iff_not, Bool.not_eq_true', Bool.not_eq_false', Bool.not_eq_true, Bool.not_eq_false, ne_eq, Decidable.not_not, Int.not_lt, Int.not_le, not_true_eq_false, not_false_eq_true, bne_iff_ne, beq_iff_eq, bne_eq_false_iff_eq, beq_eq_false_iff_ne] at h_); (first | omega | (simp only [List.length_append, List.length_drop, List.length_cons, List.length_nil] at *; omega)), by (try simp only [Bool.and_eq_true, Bool.or_eq_true, Bool.and_eq_false_iff, Bool.or_eq_false_iff, Bool.not_and, Bool.not_or, Bool.not_not, decide_eq_true_eq, decide_eq_false_iff_not, Bool.not_eq_true', Bool.not_eq_false', Bool.not_eq_true, Bool.not_eq_false, ne_eq, Decidable.not_not, Int.not_lt, Int.not_le, not_true_eq_false, not_false_eq_true, bne_iff_ne, beq_iff_eq, bne_eq_false_iff_eq, beq_eq_false_iff_ne] at h_); (first | omega | (simp only [List.length_append, List.length_drop, List.length_cons, List.length_nil] at *; omega))⟩) (⟨by (try simp only [Bool.and_eq_true, Bool.or_eq_true, Bool.and_eq_false_iff, Bool.or_eq_false_iff, Bool.not_and, Bool.not_or, Bool.not_not, decide_eq_true_eq, decide_eq_false_iff_not, Bool.not_eq_true', Bool.not_eq_false', Bool.not_eq_true, Bool.not_eq_false, ne_eq, Decidable.not_not, Int.not_lt, Int.not_le, not_true_eq_false, not_false_eq_true, bne_iff_ne, beq_iff_eq, bne_eq_false_iff_eq, beq_eq_false_iff_ne] at h_); (first | omega | (simp only [List.length_append, List.length_drop, List.length_cons, List.length_nil] at *; omega)), by (try simp only [Bool.and_eq_true, Bool.or_eq_true, Bool.and_eq_false_iff, Bool.or_eq_false_iff, Bool.not_and, Bool.not_or, Bool.not_not, decide_eq_true_eq, decide_eq_false_iff_not, Bool.not_eq_true', Bool.not_eq_false', Bool.not_eq_true, Bool.not_eq_false, ne_eq, Decidable.not_not, Int.not_lt, Int.not_le, not_true_eq_false, not_false_eq_true, bne_iff_ne, beq_iff_eq, bne_eq_false_iff_eq, beq_eq_false_iff_ne] at h_); (first | omega | (simp only [List.length_append, List.length_drop, List.length_cons, List.length_nil] at *; omega))⟩))) ?_
            intro a449 HF450; clear HF437
            refine gw_evG HF450 rfl rfl rfl rfl (on_f _) rfl (by decide) (fun h_ => (op_load1 gwagg2 rfl (ev_gv (HF450.ev rfl) h_) (((pin_cells (HO448.get 2 rfl) (hA442 ⟨by (try simp only [Bool.and_eq_true, Bool.or_eq_true, Bool.and_eq_false_iff, Bool.or_eq_false_iff, Bool.not_and, Bool.not_or, Bool.not_not, decide_eq_true_eq, decide_eq_false_iff_not, Bool.not_eq_true', Bool.not_eq_false', Bool.not_eq_true, Bool.not_eq_false, ne_eq, Decidable.not_not, Int.not_lt, Int.not_le, not_true_eq_false, not_false_eq_true, bne_iff_ne, beq_iff_eq, bne_eq_false_iff_eq, beq_eq_false_iff_ne] at h_); (first | omega | (simp only [List.length_append, List.length_drop, List.length_cons, List.length_nil] at *; omega)), by (try simp only [Bool.and_eq_true, Bool.or_eq_true, Bool.and_eq_false_iff, Bool.or_eq_false_iff, Bool.not_and, Bool.not_or, Bool.not_not, decide_eq_true_eq, decide_eq_false_iff_not, Bool.not_eq_true', Bool.not_eq_false', Bool.not_eq_true, Bool.not_eq_false, ne_eq, Decidable.not_not, Int.not_lt, Int.not_le, not_true_eq_false, not_false_eq_true, bne_iff_ne, beq_iff_eq, bne_eq_false_iff_eq, beq_eq_false_iff_ne] at h_); (first | omega | (simp only [List.length_append, List.length_drop, List.length_cons, List.length_nil] at *; omega))⟩) (hc443 ⟨by (try simp only [Bool.and_eq_true, Bool.or_eq_true, Bool.and_eq_false_iff, Bool.or_eq_false_iff, Bool.not_and, Bool.not_or, Bool.not_not, decide_eq_true_eq, decide_eq_false_iff_not, Bool.not_eq_true', Bool.not_eq_false', Bool.not_eq_true, Bool.not_eq_false, ne_eq, Decidable.not_not, Int.not_lt, Int.not_le, not_true_eq_false, not_false_eq_true, bne_iff_ne, beq_iff_eq, bne_eq_false_iff_eq, beq_eq_false_iff_ne] at h_); (first | omega | (simp only [List.length_append, List.length_drop, List.length_cons, List.length_nil] at *; omega)), by (try simp only [Bool.and_eq_true, Bool.or_eq_true, Bool.and_eq_false_iff, Bool.or_eq_false_iff, Bool.not_and, Bool.not_or, Bool.not_not, decide_eq_true_eq, decide_eq_false_iff_not, Bool.not_eq_true', Bool.not_eq_false', Bool.not_eq_true, Bool.not_eq_false, ne_eq, Decidable.not_not, Int.not_lt, Int.not_le, not_true_eq_false, not_false_eq_true, bne_iff_ne, beq_iff_eq, bne_eq_false_iff_eq, beq_eq_false_iff_ne] at h_); (first | omega | (simp only [List.length_append, List.length_drop, List.length_cons, List.length_nil] at *; omega))⟩)) 0 _ rfl)))) ?_
            intro a451 HF452; clear HF450
            refine gw_evG HF452 rfl rfl rfl rfl (on_f _) rfl (by decide) (fun h_ => (op_move rfl (HF452.ev rfl))) ?_
            intro a453 HF454; clear HF452
            refine gw_evG HF454 rfl rfl rfl rfl (on_f _) rfl (by decide) (fun h_ => (op_nei rfl (ev_gv (HF454.ev rfl) h_) (ev_gv (HF454.ev rfl) h_))) ?_
            intro a455 HF456; clear HF454
            refine gw_ev HF456 (want_none rfl) rfl (by decide) (op_pick_or rfl (HF456.ev rfl) (ev_c _ _) (fun hp_ => (ev_gv (HF456.ev rfl) (not_t hp_)))) ?_
            intro a457 HF458; clear HF456
            have HF459 := HF458.lit (b := false) (by rw [Bool.or_eq_false_iff, decide_eq_false_iff_not, decide_eq_false_iff_not]; exact ⟨by (first | omega | (simp only [List.length_append, List.length_drop, List.length_cons, List.length_nil] at *; omega)), fun h_ => h_ (by rw [Int.toNat_natCast]; exact hpn.2)⟩)
            clear HF458
            refine wpList_nil ?_
            refine gw_nx (hK423 _ _ ?_)
            refine gw_cond HF459 rfl (fun hb460 => ?_) (fun hb460 => ?_)
            skip
            · cases hb460
            refine wp_skip ?_
            refine gw_nx (hK422 _ _ ?_)
            refine gw_seq fun K461 hK461 => ?_
            refine wp_region_lit ?_
            refine gw_ev HF459 (want_none rfl) rfl (by decide) (op_move rfl (HF459.ev rfl)) ?_
            intro a462 HF463; clear HF459
            refine gw_ev HF463 (want_none rfl) rfl (by decide) (op_add rfl (HF463.ev rfl) (ev_c _ _) (by (first | omega | (simp only [List.length_append, List.length_drop, List.length_cons, List.length_nil] at *; omega)))) ?_
            intro a464 HF465; clear HF463
            have HF466 := HF465.conv (v' := .int .i64 ((ns ++ [(gnumV xs').1]).length : Int)) (by congr 1; simp)
            clear HF465
            refine gw_ev HF466 (want_none rfl) rfl (by decide) (op_assign rfl (HF466.ev rfl)) ?_
            intro a467 HF468; clear HF466
            refine wpList_nil ?_
            refine gw_nx (hK461 _ _ ?_)
            refine wp_region_lit ?_
            refine gw_ev HF468 (want_none rfl) rfl (by decide) (op_move rfl (HF468.ev rfl)) ?_
            intro a469 HF470; clear HF468
            refine gw_ev HF470 (want_none rfl) rfl (by decide) (op_assign rfl (HF470.ev rfl)) ?_
            intro a471 HF472; clear HF470
            refine wpList_nil ?_
            refine gw_blk ?_
            refine gw_nx (hK160 _ _ ?_)
            refine gw_seq fun K473 hK473 => ?_
            refine wp_region_lit ?_
            refine gw_ev HF472 (want_none rfl) rfl (by decide) (op_move rfl (HF472.ev rfl)) ?_
            intro a474 HF475; clear HF472
            refine gw_ev HF475 (want_none rfl) rfl (by decide) (op_move rfl (HF475.ev rfl)) ?_
            intro a476 HF477; clear HF475
            obtain ⟨A478, c479, hr480, hc481, hC482, hA483⟩ := cut_lo (P := Try.prog) (d := (Kd.int .u8)) (t := 22) (e := 5) Try.underlying22 gwsiz5 A9 c9 xs' hcap ((gnumV xs').2) (by (first | omega | (simp only [List.length_append, List.length_drop, List.length_cons, List.length_nil] at *; omega))) (by (first | omega | (simp only [List.length_append, List.length_drop, List.length_cons, List.length_nil] at *; omega)))
            refine gw_ev HF477 (want_none rfl) rfl (by decide) (op_cut Try.underlying22 hr480 rfl (HF477.ev rfl) (some_ev (HF477.ev rfl)) rfl) ?_
            intro a484 HF485; clear HF477
            refine gw_ev HF485 (want_none rfl) rfl (by decide) (op_assign rfl (HF485.ev rfl)) ?_
            intro a486 HF487; clear HF485
            refine wpList_nil ?_
            refine gw_nx (hK473 _ _ ?_)
            refine gw_seq fun K488 hK488 => ?_
            refine wp_region_lit ?_
            refine gw_ev HF487 (want_none rfl) rfl (by decide) (op_move rfl (HF487.ev rfl)) ?_
            intro a489 HF490; clear HF487
            refine gw_ev HF490 (want_none rfl) rfl (by decide) (op_load1 gwagg44 rfl (HF490.ev rfl) (blk_at (HO448.get 5 rfl) rfl)) ?_
            intro a491 HF492; clear HF490
            refine gw_ev HF492 (want_none rfl) rfl (by decide) (op_len Try.underlying44 rfl (HF492.ev rfl)) ?_
            intro a493 HF494; clear HF492
            refine gw_ev HF494 (want_none rfl) rfl (by decide) (op_geq rfl (HF494.ev rfl) (HF494.ev rfl)) ?_
            intro a495 HF496; clear HF494
            refine gw_ev HF496 (want_none rfl) rfl (by decide) (op_move rfl (HF496.ev rfl)) ?_
            intro a497 HF498; clear HF496
            refine gw_evG HF498 rfl rfl rfl rfl (on_f _) rfl (by decide) (fun h_ => (op_load1 gwagg44 rfl (HF498.ev rfl) (blk_at (HO448.get 5 rfl) rfl))) ?_
            intro a499 HF500; clear HF498
            refine gw_evG HF500 rfl rfl rfl rfl (on_f _) rfl (by decide) (fun h_ => (op_move rfl (HF500.ev rfl))) ?_
            intro a501 HF502; clear HF500
            have HO512 := HO448.pin 6 rfl
            clear HO448
            have HO513 : Own w w362 [Chunk.blk g2 (.cells #[.slice A1 calls.length c1] 44 (0, 0)), Chunk.blk g30 (.cells #[.slice A84 s94.nums.length c85] 45 (0, 0)), Chunk.viewAt w362 (Kd.int .i64) S86 A84 s94.nums.length c85 s94.nums, Chunk.blk g49 (.cells #[.slice A87 s94.texts.length c88] 46 (0, 0)), Chunk.view Kd.string S89 A87 s94.texts.length c88 s94.texts, Chunk.blk g68 (.cells #[.slice A90 s94.left.length c91] 44 (0, 0)), Chunk.viewAt w362 (Kd.int .i64) S92 A90 s94.left.length c91 s94.left] := HO512
            clear HO512
            obtain ⟨ad506, cs509, hA507, hl510, hK511, hc508⟩ := F_getT (viewAt_F (HO513.get 6 rfl)) (0 : Int) i (⟨_, fun _ _ => rfl⟩)
            obtain rfl := int_openF hK511
            clear hl510
            refine gw_evG HF502 rfl rfl rfl rfl (on_f _) rfl (by decide) (fun h_ => (op_index Try.underlying44 gwsiz3 rfl (ev_gv (HF502.ev rfl) h_) (ev_gv (HF502.ev rfl) h_) (hA507 ⟨by (try simp only [Bool.and_eq_true, Bool.or_eq_true, Bool.and_eq_false_iff, Bool.or_eq_false_iff, Bool.not_and, Bool.not_or, Bool.not_not, decide_eq_true_eq, decide_eq_false_iff_not, Bool.not_eq_true', Bool.not_eq_false', Bool.not_eq_true, Bool.not_eq_false, ne_eq, Decidable.not_not, Int.not_lt, Int.not_le, not_true_eq_false, not_false_eq_true, bne_iff_ne, beq_iff_eq, bne_eq_false_iff_eq, beq_eq_false_iff_ne] at h_); (first | omega | (simp only [List.length_append, List.length_drop, List.length_cons, List.length_nil] at *; omega)), by (try simp only [Bool.and_eq_true, Bool.or_eq_true, Bool.and_eq_false_iff, Bool.or_eq_false_iff, Bool.not_and, Bool.not_or, Bool.not_not, decide_eq_true_eq, decide_eq_false_iff_not, Bool.not_eq_true', Bool.not_eq_false', Bool.not_eq_true, Bool.not_eq_false, ne_eq, Decidable.not_not, Int.not_lt, Int.not_le, not_true_eq_false, not_false_eq_true, bne_iff_ne, beq_iff_eq, bne_eq_false_iff_eq, beq_eq_false_iff_ne] at h_); (first | omega | (simp only [List.length_append, List.length_drop, List.length_cons, List.length_nil] at *; omega))⟩) (⟨by (try simp only [Bool.and_eq_true, Bool.or_eq_true, Bool.and_eq_false_iff, Bool.or_eq_false_iff, Bool.not_and, Bool.not_or, Bool.not_not, decide_eq_true_eq, decide_eq_false_iff_not, Bool.not_eq_true', Bool.not_eq_false', Bool.not_eq_true, Bool.not_eq_false, ne_eq, Decidable.not_not, Int.not_lt, Int.not_le, not_true_eq_false, not_false_eq_true, bne_iff_ne, beq_iff_eq, bne_eq_false_iff_eq, beq_eq_false_iff_ne] at h_); (first | omega | (simp only [List.length_append, List.length_drop, List.length_cons, List.length_nil] at *; omega)), by (try simp only [Bool.and_eq_true, Bool.or_eq_true, Bool.and_eq_false_iff, Bool.or_eq_false_iff, Bool.not_and, Bool.not_or, Bool.not_not, decide_eq_true_eq, decide_eq_false_iff_not, Bool.not_eq_true', Bool.not_eq_false', Bool.not_eq_true, Bool.not_eq_false, ne_eq, Decidable.not_not, Int.not_lt, Int.not_le, not_true_eq_false, not_false_eq_true, bne_iff_ne, beq_iff_eq, bne_eq_false_iff_eq, beq_eq_false_iff_ne] at h_); (first | omega | (simp only [List.length_append, List.length_drop, List.length_cons, List.length_nil] at *; omega))⟩))) ?_
            intro a514 HF515; clear HF502
            refine gw_evG HF515 rfl rfl rfl rfl (on_f _) rfl (by decide) (fun h_ => (op_load1 gwagg3 rfl (ev_gv (HF515.ev rfl) h_) (((pin_cells (HO513.get 6 rfl) (hA507 ⟨by (try simp only [Bool.and_eq_true, Bool.or_eq_true, Bool.and_eq_false_iff, Bool.or_eq_false_iff, Bool.not_and, Bool.not_or, Bool.not_not, decide_eq_true_eq, decide_eq_false_iff_not, Bool.not_eq_true', Bool.not_eq_false', Bool.not_eq_true, Bool.not_eq_false, ne_eq, Decidable.not_not, Int.not_lt, Int.not_le, not_true_eq_false, not_false_eq_true, bne_iff_ne, beq_iff_eq, bne_eq_false_iff_eq, beq_eq_false_iff_ne] at h_); (first | omega | (simp only [List.length_append, List.length_drop, List.length_cons, List.length_nil] at *; omega)), by (try simp only [Bool.and_eq_true, Bool.or_eq_true, Bool.and_eq_false_iff, Bool.or_eq_false_iff, Bool.not_and, Bool.not_or, Bool.not_not, decide_eq_true_eq, decide_eq_false_iff_not, Bool.not_eq_true', Bool.not_eq_false', Bool.not_eq_true, Bool.not_eq_false, ne_eq, Decidable.not_not, Int.not_lt, Int.not_le, not_true_eq_false, not_false_eq_true, bne_iff_ne, beq_iff_eq, bne_eq_false_iff_eq, beq_eq_false_iff_ne] at h_); (first | omega | (simp only [List.length_append, List.length_drop, List.length_cons, List.length_nil] at *; omega))⟩) (hc508 ⟨by (try simp only [Bool.and_eq_true, Bool.or_eq_true, Bool.and_eq_false_iff, Bool.or_eq_false_iff, Bool.not_and, Bool.not_or, Bool.not_not, decide_eq_true_eq, decide_eq_false_iff_not, Bool.not_eq_true', Bool.not_eq_false', Bool.not_eq_true, Bool.not_eq_false, ne_eq, Decidable.not_not, Int.not_lt, Int.not_le, not_true_eq_false, not_false_eq_true, bne_iff_ne, beq_iff_eq, bne_eq_false_iff_eq, beq_eq_false_iff_ne] at h_); (first | omega | (simp only [List.length_append, List.length_drop, List.length_cons, List.length_nil] at *; omega)), by (try simp only [Bool.and_eq_true, Bool.or_eq_true, Bool.and_eq_false_iff, Bool.or_eq_false_iff, Bool.not_and, Bool.not_or, Bool.not_not, decide_eq_true_eq, decide_eq_false_iff_not, Bool.not_eq_true', Bool.not_eq_false', Bool.not_eq_true, Bool.not_eq_false, ne_eq, Decidable.not_not, Int.not_lt, Int.not_le, not_true_eq_false, not_false_eq_true, bne_iff_ne, beq_iff_eq, bne_eq_false_iff_eq, beq_eq_false_iff_ne] at h_); (first | omega | (simp only [List.length_append, List.length_drop, List.length_cons, List.length_nil] at *; omega))⟩)) 0 _ rfl)))) ?_
            intro a516 HF517; clear HF515
            refine gw_evG HF517 rfl rfl rfl rfl (on_f _) rfl (by decide) (fun h_ => (op_move rfl (HF517.ev rfl))) ?_
            intro a518 HF519; clear HF517
            refine gw_evG HF519 rfl rfl rfl rfl (on_f _) rfl (by decide) (fun h_ => (op_len Try.underlying22 rfl (ev_gv (HF519.ev rfl) h_))) ?_
            intro a520 HF521; clear HF519
            refine gw_evG HF521 rfl rfl rfl rfl (on_f _) rfl (by decide) (fun h_ => (op_nei rfl (ev_gv (HF521.ev rfl) h_) (ev_gv (HF521.ev rfl) h_))) ?_
            intro a522 HF523; clear HF521
            refine gw_ev HF523 (want_none rfl) rfl (by decide) (op_pick_or rfl (HF523.ev rfl) (ev_c _ _) (fun hp_ => (ev_gv (HF523.ev rfl) (not_t hp_)))) ?_
            intro a524 HF525; clear HF523
            have HF526 := HF525.lit (b := false) (by rw [Bool.or_eq_false_iff, decide_eq_false_iff_not, decide_eq_false_iff_not]; exact ⟨by (first | omega | (simp only [List.length_append, List.length_drop, List.length_cons, List.length_nil] at *; omega)), fun h_ => h_ (by rw [← hok.2.2.2.2]; exact hpl.2)⟩)
            clear HF525
            refine wpList_nil ?_
            refine gw_nx (hK488 _ _ ?_)
            refine gw_cond HF526 rfl (fun hb527 => ?_) (fun hb527 => ?_)
            skip
            · cases hb527
            refine wp_skip ?_
            refine gw_blk ?_
            refine gw_nx (hK139 _ _ ?_)
            refine wp_region_lit ?_
            refine gw_ev HF526 (want_none rfl) rfl (by decide) (op_add rfl (HF526.ev rfl) (ev_c _ _) (by (first | omega | (simp only [List.length_append, List.length_drop, List.length_cons, List.length_nil] at *; omega)))) ?_
            intro a528 HF529; clear HF526
            refine gw_ev HF529 (want_none rfl) rfl (by decide) (op_move rfl (HF529.ev rfl)) ?_
            intro a530 HF531; clear HF529
            refine wpList_nil ?_
            have HO532 := HO513.unpin 2 rfl
            clear HO513
            have HO533 : Own w w362 [Chunk.blk g2 (.cells #[.slice A1 calls.length c1] 44 (0, 0)), Chunk.blk g30 (.cells #[.slice A84 s94.nums.length c85] 45 (0, 0)), Chunk.view (Kd.int .i64) S86 A84 s94.nums.length c85 s94.nums, Chunk.blk g49 (.cells #[.slice A87 s94.texts.length c88] 46 (0, 0)), Chunk.view Kd.string S89 A87 s94.texts.length c88 s94.texts, Chunk.blk g68 (.cells #[.slice A90 s94.left.length c91] 44 (0, 0)), Chunk.viewAt w362 (Kd.int .i64) S92 A90 s94.left.length c91 s94.left] := HO532
            clear HO532
            have HO534 := HO533.unpin 6 rfl
            clear HO533
            have HO535 : Own w w362 [Chunk.blk g2 (.cells #[.slice A1 calls.length c1] 44 (0, 0)), Chunk.blk g30 (.cells #[.slice A84 s94.nums.length c85] 45 (0, 0)), Chunk.view (Kd.int .i64) S86 A84 s94.nums.length c85 s94.nums, Chunk.blk g49 (.cells #[.slice A87 s94.texts.length c88] 46 (0, 0)), Chunk.view Kd.string S89 A87 s94.texts.length c88 s94.texts, Chunk.blk g68 (.cells #[.slice A90 s94.left.length c91] 44 (0, 0)), Chunk.view (Kd.int .i64) S92 A90 s94.left.length c91 s94.left] := HO534
            clear HO534
            refine gw_nx ⟨_, ?_, i + 1, (xs'.drop ((gnumV xs').2).toNat), ns ++ [(gnumV xs').1], ts, ls ++ [(((xs'.drop ((gnumV xs').2).toNat)).length : Int)], A478, c479, (HF531.pick (t := 30) rfl (HF531.pick (t := 9) rfl (HF531.pick (t := 10) rfl (HF531.pick (t := 11) rfl (HF531.pick (t := 5) rfl (HF531.pick (t := 6) rfl (HF531.pick (t := 7) rfl (HF531.pick (t := 8) rfl (HF531.pick (t := 28) rfl (HF531.pick (t := 29) rfl HF531.nil)))))))))), HO535.sel [0, 1, 2, 3, 4, 5, 6] (by decide), ?_, ?_, ?_, ?_, ?_, ?_, ?_, ?_, rfl⟩
            · rw [hm132]; (first | omega | (simp only [List.length_append, List.length_drop, List.length_cons, List.length_nil] at *; omega))
            · (first | omega | (simp only [List.length_append, List.length_drop, List.length_cons, List.length_nil] at *; omega))
            · exact hok.1
            · rw [rrun_succ hi.1 hrun]; exact hst
            · intro W h; exact hC482 W (hC W h)
            · exact hc481
            · exact hbx.drop _
            · (first | omega | (simp only [List.length_append, List.length_drop, List.length_cons, List.length_nil] at *; omega))
            · (first | omega | (simp only [List.length_append, List.length_drop, List.length_cons, List.length_nil] at *; omega))
        · skip
          have HF536 := HF355.subst_ (d := 36) (b := false) rfl hb356
          clear HF355
          (try simp only [Bool.and_eq_true, Bool.or_eq_true, Bool.and_eq_false_iff, Bool.or_eq_false_iff, Bool.not_and, Bool.not_or, Bool.not_not, decide_eq_true_eq, decide_eq_false_iff_not, Bool.not_eq_true', Bool.not_eq_false', Bool.not_eq_true, Bool.not_eq_false, ne_eq, Decidable.not_not, Int.not_lt, Int.not_le, not_true_eq_false, not_false_eq_true, bne_iff_ne, beq_iff_eq, bne_eq_false_iff_eq, beq_eq_false_iff_ne] at hb356)
          refine gw_seq fun K537 hK537 => ?_
          refine wp_region_lit ?_
          refine gw_ev HF536 (want_none rfl) rfl (by decide) (op_eqi rfl (HF536.ev rfl) (ev_c _ _)) ?_
          intro a538 HF539; clear HF536
          refine gw_ev HF539 (want_none rfl) rfl (by decide) (op_assign rfl (HF539.ev rfl)) ?_
          intro a540 HF541; clear HF539
          refine wpList_nil ?_
          refine gw_nx (hK537 _ _ ?_)
          refine gw_cond HF541 rfl (fun hb542 => ?_) (fun hb542 => ?_)
          · skip
            have HF543 := HF541.subst_ (d := 77) (b := true) rfl hb542
            clear HF541
            (try simp only [Bool.and_eq_true, Bool.or_eq_true, Bool.and_eq_false_iff, Bool.or_eq_false_iff, Bool.not_and, Bool.not_or, Bool.not_not, decide_eq_true_eq, decide_eq_false_iff_not, Bool.not_eq_true', Bool.not_eq_false', Bool.not_eq_true, Bool.not_eq_false, ne_eq, Decidable.not_not, Int.not_lt, Int.not_le, not_true_eq_false, not_false_eq_true, bne_iff_ne, beq_iff_eq, bne_eq_false_iff_eq, beq_eq_false_iff_ne] at hb542)
            refine gw_seq fun K544 hK544 => ?_
            refine wp_region_lit ?_
            refine gw_ev HF543 (want_none rfl) rfl (by decide) (op_move rfl (HF543.ev rfl)) ?_
            intro a545 HF546; clear HF543
            refine gw_call HF546 (want_none rfl) rfl (by decide) (op_callL Try.func40 (by kernel_rfl) rfl rfl (ar_cons (HF546.ev rfl) (ar_cons (ev_c _ _) ar_nil))) (GGet_.gettext_calls A9 c9 xs' _ (hC _ (Kd.C_below hr0 HO131.below)) hcap ((by first | exact hb0 | exact hbx)) 40 (by (first | omega | (simp only [List.length_append, List.length_drop, List.length_cons, List.length_nil] at *; omega)))) ?_
            rintro e547 w548 ⟨rfl, hb549⟩
            refine ⟨_, rfl, fun a550 HF551 => ?_⟩
            have HO552 := HO131.after hb549
            clear HF546 HO131 hb549
            have hv := gtextV_b xs' 40
            refine gw_ev HF551 (want_none rfl) rfl (by decide) (op_move rfl (HF551.ev rfl)) ?_
            intro a554 HF555; clear HF551
            refine gw_ev HF555 (want_none rfl) rfl (by decide) (op_extract rfl (HF555.ev rfl) rfl) ?_
            intro a556 HF557; clear HF555
            refine gw_ev HF557 (want_none rfl) rfl (by decide) (op_extract rfl (HF557.ev rfl) rfl) ?_
            intro a558 HF559; clear HF557
            refine gw_ev HF559 (want_none rfl) rfl (by decide) (op_assign rfl (HF559.ev rfl)) ?_
            intro a560 HF561; clear HF559
            refine gw_ev HF561 (want_none rfl) rfl (by decide) (op_assign rfl (HF561.ev rfl)) ?_
            intro a562 HF563; clear HF561
            refine wpList_nil ?_
            refine gw_nx (hK544 _ _ ?_)
            refine gw_seq fun K564 hK564 => ?_
            refine gw_seq fun K565 hK565 => ?_
            refine wp_region_lit ?_
            refine gw_ev HF563 (want_none rfl) rfl (by decide) (op_move rfl (HF563.ev rfl)) ?_
            intro a566 HF567; clear HF563
            refine gw_ev HF567 (want_none rfl) rfl (by decide) (op_eqi rfl (HF567.ev rfl) (ev_c _ _)) ?_
            intro a568 HF569; clear HF567
            refine wpList_nil ?_
            refine gw_nx (hK565 _ _ ?_)
            refine gw_cond HF569 rfl (fun hb570 => ?_) (fun hb570 => ?_)
            · skip
              have HF571 := HF569.subst_ (d := 85) (b := true) rfl hb570
              clear HF569
              (try simp only [Bool.and_eq_true, Bool.or_eq_true, Bool.and_eq_false_iff, Bool.or_eq_false_iff, Bool.not_and, Bool.not_or, Bool.not_not, decide_eq_true_eq, decide_eq_false_iff_not, Bool.not_eq_true', Bool.not_eq_false', Bool.not_eq_true, Bool.not_eq_false, ne_eq, Decidable.not_not, Int.not_lt, Int.not_le, not_true_eq_false, not_false_eq_true, bne_iff_ne, beq_iff_eq, bne_eq_false_iff_eq, beq_eq_false_iff_ne] at hb570)
              refine gw_seq fun K572 hK572 => ?_
              refine wp_region_lit ?_
              refine gw_ev HF571 (want_none rfl) rfl (by decide) (op_move rfl (HF571.ev rfl)) ?_
              intro a573 HF574; clear HF571
              refine gw_ev HF574 (want_none rfl) rfl (by decide) (op_eqi rfl (HF574.ev rfl) (ev_c _ _)) ?_
              intro a575 HF576; clear HF574
              refine gw_ev HF576 (want_none rfl) rfl (by decide) (op_move rfl (HF576.ev rfl)) ?_
              intro a577 HF578; clear HF576
              refine gw_evG HF578 rfl rfl rfl rfl (on_t _) rfl (by decide) (fun h_ => (op_load1 gwagg44 rfl (HF578.ev rfl) (blk_at (HO552.get 5 rfl) rfl))) ?_
              intro a579 HF580; clear HF578
              refine gw_evG HF580 rfl rfl rfl rfl (on_t _) rfl (by decide) (fun h_ => (op_len Try.underlying44 rfl (ev_gv (HF580.ev rfl) h_))) ?_
              intro a581 HF582; clear HF580
              refine gw_evG HF582 rfl rfl rfl rfl (on_t _) rfl (by decide) (fun h_ => (op_move rfl (HF582.ev rfl))) ?_
              intro a583 HF584; clear HF582
              refine gw_evG HF584 rfl rfl rfl rfl (on_t _) rfl (by decide) (fun h_ => (op_eqi rfl (ev_gv (HF584.ev rfl) h_) (ev_gv (HF584.ev rfl) h_))) ?_
              intro a585 HF586; clear HF584
              refine gw_ev HF586 (want_none rfl) rfl (by decide) (op_pick_and rfl (HF586.ev rfl) (fun hp_ => (ev_gv (HF586.ev rfl) hp_)) (ev_c _ _)) ?_
              intro a587 HF588; clear HF586
              refine gw_ev HF588 (want_none rfl) rfl (by decide) (op_assign rfl (HF588.ev rfl)) ?_
              intro a589 HF590; clear HF588
              refine wpList_nil ?_
              refine gw_nx (hK572 _ _ ?_)
              refine wp_ret ?_
              refine gw_thr ?_
              refine gw_blr ?_
              refine gw_thr ?_
              refine gw_blr ?_
              refine gw_thr ?_
              refine gw_thr ?_
              refine gw_blr ?_
              refine gw_thr ?_
              refine gw_ret1 HF590 rfl rfl ?_
              have hff := fin_fail hF96 hi.1 hrun hif (by (first | omega | (simp only [List.length_append, List.length_drop, List.length_cons, List.length_nil] at *; omega))) (law_no2 (by (first | omega | (simp only [List.length_append, List.length_drop, List.length_cons, List.length_nil] at *; omega))) (by (first | omega | (simp only [List.length_append, List.length_drop, List.length_cons, List.length_nil] at *; omega))))
              exact ⟨by congr 2; simp [hff.1, hff.2], HO552.below⟩
            · skip
              have HF591 := HF569.subst_ (d := 85) (b := false) rfl hb570
              clear HF569
              (try simp only [Bool.and_eq_true, Bool.or_eq_true, Bool.and_eq_false_iff, Bool.or_eq_false_iff, Bool.not_and, Bool.not_or, Bool.not_not, decide_eq_true_eq, decide_eq_false_iff_not, Bool.not_eq_true', Bool.not_eq_false', Bool.not_eq_true, Bool.not_eq_false, ne_eq, Decidable.not_not, Int.not_lt, Int.not_le, not_true_eq_false, not_false_eq_true, bne_iff_ne, beq_iff_eq, bne_eq_false_iff_eq, beq_eq_false_iff_ne] at hb570)
              have hst := law_yes2 (ns := ns) (ts := ts) (ls := ls) (c := (calls.getD i.toNat (0 : Int))) (by (first | omega | (simp only [List.length_append, List.length_drop, List.length_cons, List.length_nil] at *; omega))) (by (first | omega | (simp only [List.length_append, List.length_drop, List.length_cons, List.length_nil] at *; omega))); have hok := fin_ok hF96 hi.1 hrun hif (by (first | omega | (simp only [List.length_append, List.length_drop, List.length_cons, List.length_nil] at *; omega))) hst; have hpl := pre_at (z := (0 : Int)) hok.2.2.2.1; have hpt := pre_at (z := (⟨#[]⟩ : ByteArray)) hok.2.2.1
              refine wp_skip ?_
              refine gw_nx (hK564 _ _ ?_)
              refine gw_seq fun K592 hK592 => ?_
              refine gw_seq fun K593 hK593 => ?_
              refine wp_region_lit ?_
              refine gw_ev HF591 (want_none rfl) rfl (by decide) (op_move rfl (HF591.ev rfl)) ?_
              intro a594 HF595; clear HF591
              refine gw_ev HF595 (want_none rfl) rfl (by decide) (op_load1 gwagg46 rfl (HF595.ev rfl) (blk_at (HO552.get 3 rfl) rfl)) ?_
              intro a596 HF597; clear HF595
              refine gw_ev HF597 (want_none rfl) rfl (by decide) (op_len Try.underlying46 rfl (HF597.ev rfl)) ?_
              intro a598 HF599; clear HF597
              refine gw_ev HF599 (want_none rfl) rfl (by decide) (op_geq rfl (HF599.ev rfl) (HF599.ev rfl)) ?_
              intro a600 HF601; clear HF599
              refine gw_ev HF601 (want_none rfl) rfl (by decide) (op_move rfl (HF601.ev rfl)) ?_
              intro a602 HF603; clear HF601
              refine gw_evG HF603 rfl rfl rfl rfl (on_f _) rfl (by decide) (fun h_ => (op_load1 gwagg46 rfl (HF603.ev rfl) (blk_at (HO552.get 3 rfl) rfl))) ?_
              intro a604 HF605; clear HF603
              refine gw_evG HF605 rfl rfl rfl rfl (on_f _) rfl (by decide) (fun h_ => (op_move rfl (HF605.ev rfl))) ?_
              intro a606 HF607; clear HF605
              have HO617 := HO552.pin 4 rfl
              clear HO552
              have HO618 : Own w w548 [Chunk.blk g2 (.cells #[.slice A1 calls.length c1] 44 (0, 0)), Chunk.blk g30 (.cells #[.slice A84 s94.nums.length c85] 45 (0, 0)), Chunk.view (Kd.int .i64) S86 A84 s94.nums.length c85 s94.nums, Chunk.blk g49 (.cells #[.slice A87 s94.texts.length c88] 46 (0, 0)), Chunk.viewAt w548 Kd.string S89 A87 s94.texts.length c88 s94.texts, Chunk.blk g68 (.cells #[.slice A90 s94.left.length c91] 44 (0, 0)), Chunk.view (Kd.int .i64) S92 A90 s94.left.length c91 s94.left] := HO617
              clear HO617
              obtain ⟨ad611, cs614, hA612, hl615, hK616, hc613⟩ := F_getT (viewAt_F (HO618.get 4 rfl)) (⟨#[]⟩ : ByteArray) (ts.length : Int) (⟨_, fun _ _ => rfl⟩)
              obtain rfl := str_openF hK616
              clear hl615
              refine gw_evG HF607 rfl rfl rfl rfl (on_f _) rfl (by decide) (fun h_ => (op_index Try.underlying46 gwsiz9 rfl (ev_gv (HF607.ev rfl) h_) (ev_gv (HF607.ev rfl) h_) (hA612 ⟨by (try simp only [Bool.and_eq_true, Bool.or_eq_true, Bool.and_eq_false_iff, Bool.or_eq_false_iff, Bool.not_and, Bool.not_or, Bool.not_not, decide_eq_true_eq, decide_eq_false_iff_not, Bool.not_eq_true', Bool.not_eq_false', Bool.not_eq_true, Bool.not_eq_false, ne_eq, Decidable.not_not, Int.not_lt, Int.not_le, not_true_eq_false, not_false_eq_true, bne_iff_ne, beq_iff_eq, bne_eq_false_iff_eq, beq_eq_false_iff_ne] at h_); (first | omega | (simp only [List.length_append, List.length_drop, List.length_cons, List.length_nil] at *; omega)), by (try simp only [Bool.and_eq_true, Bool.or_eq_true, Bool.and_eq_false_iff, Bool.or_eq_false_iff, Bool.not_and, Bool.not_or, Bool.not_not, decide_eq_true_eq, decide_eq_false_iff_not, Bool.not_eq_true', Bool.not_eq_false', Bool.not_eq_true, Bool.not_eq_false, ne_eq, Decidable.not_not, Int.not_lt, Int.not_le, not_true_eq_false, not_false_eq_true, bne_iff_ne, beq_iff_eq, bne_eq_false_iff_eq, beq_eq_false_iff_ne] at h_); (first | omega | (simp only [List.length_append, List.length_drop, List.length_cons, List.length_nil] at *; omega))⟩) (⟨by (try simp only [Bool.and_eq_true, Bool.or_eq_true, Bool.and_eq_false_iff, Bool.or_eq_false_iff, Bool.not_and, Bool.not_or, Bool.not_not, decide_eq_true_eq, decide_eq_false_iff_not, Bool.not_eq_true', Bool.not_eq_false', Bool.not_eq_true, Bool.not_eq_false, ne_eq, Decidable.not_not, Int.not_lt, Int.not_le, not_true_eq_false, not_false_eq_true, bne_iff_ne, beq_iff_eq, bne_eq_false_iff_eq, beq_eq_false_iff_ne] at h_); (first | omega | (simp only [List.length_append, List.length_drop, List.length_cons, List.length_nil] at *; omega)), by (try simp only [Bool.and_eq_true, Bool.or_eq_true, Bool.and_eq_false_iff, Bool.or_eq_false_iff, Bool.not_and, Bool.not_or, Bool.not_not, decide_eq_true_eq, decide_eq_false_iff_not, Bool.not_eq_true', Bool.not_eq_false', Bool.not_eq_true, Bool.not_eq_false, ne_eq, Decidable.not_not, Int.not_lt, Int.not_le, not_true_eq_false, not_false_eq_true, bne_iff_ne, beq_iff_eq, bne_eq_false_iff_eq, beq_eq_false_iff_ne] at h_); (first | omega | (simp only [List.length_append, List.length_drop, List.length_cons, List.length_nil] at *; omega))⟩))) ?_
              intro a619 HF620; clear HF607
              refine gw_evG HF620 rfl rfl rfl rfl (on_f _) rfl (by decide) (fun h_ => (op_load1 gwagg9 rfl (ev_gv (HF620.ev rfl) h_) (((pin_cells (HO618.get 4 rfl) (hA612 ⟨by (try simp only [Bool.and_eq_true, Bool.or_eq_true, Bool.and_eq_false_iff, Bool.or_eq_false_iff, Bool.not_and, Bool.not_or, Bool.not_not, decide_eq_true_eq, decide_eq_false_iff_not, Bool.not_eq_true', Bool.not_eq_false', Bool.not_eq_true, Bool.not_eq_false, ne_eq, Decidable.not_not, Int.not_lt, Int.not_le, not_true_eq_false, not_false_eq_true, bne_iff_ne, beq_iff_eq, bne_eq_false_iff_eq, beq_eq_false_iff_ne] at h_); (first | omega | (simp only [List.length_append, List.length_drop, List.length_cons, List.length_nil] at *; omega)), by (try simp only [Bool.and_eq_true, Bool.or_eq_true, Bool.and_eq_false_iff, Bool.or_eq_false_iff, Bool.not_and, Bool.not_or, Bool.not_not, decide_eq_true_eq, decide_eq_false_iff_not, Bool.not_eq_true', Bool.not_eq_false', Bool.not_eq_true, Bool.not_eq_false, ne_eq, Decidable.not_not, Int.not_lt, Int.not_le, not_true_eq_false, not_false_eq_true, bne_iff_ne, beq_iff_eq, bne_eq_false_iff_eq, beq_eq_false_iff_ne] at h_); (first | omega | (simp only [List.length_append, List.length_drop, List.length_cons, List.length_nil] at *; omega))⟩) (hc613 ⟨by (try simp only [Bool.and_eq_true, Bool.or_eq_true, Bool.and_eq_false_iff, Bool.or_eq_false_iff, Bool.not_and, Bool.not_or, Bool.not_not, decide_eq_true_eq, decide_eq_false_iff_not, Bool.not_eq_true', Bool.not_eq_false', Bool.not_eq_true, Bool.not_eq_false, ne_eq, Decidable.not_not, Int.not_lt, Int.not_le, not_true_eq_false, not_false_eq_true, bne_iff_ne, beq_iff_eq, bne_eq_false_iff_eq, beq_eq_false_iff_ne] at h_); (first | omega | (simp only [List.length_append, List.length_drop, List.length_cons, List.length_nil] at *; omega)), by (try simp only [Bool.and_eq_true, Bool.or_eq_true, Bool.and_eq_false_iff, Bool.or_eq_false_iff, Bool.not_and, Bool.not_or, Bool.not_not, decide_eq_true_eq, decide_eq_false_iff_not, Bool.not_eq_true', Bool.not_eq_false', Bool.not_eq_true, Bool.not_eq_false, ne_eq, Decidable.not_not, Int.not_lt, Int.not_le, not_true_eq_false, not_false_eq_true, bne_iff_ne, beq_iff_eq, bne_eq_false_iff_eq, beq_eq_false_iff_ne] at h_); (first | omega | (simp only [List.length_append, List.length_drop, List.length_cons, List.length_nil] at *; omega))⟩)) 0 _ rfl)))) ?_
              intro a621 HF622; clear HF620
              refine gw_evG HF622 rfl rfl rfl rfl (on_f _) rfl (by decide) (fun h_ => (op_move rfl (HF622.ev rfl))) ?_
              intro a623 HF624; clear HF622
              refine gw_evG HF624 rfl rfl rfl rfl (on_f _) rfl (by decide) (fun h_ => (op_nes rfl (ev_gv (HF624.ev rfl) h_) (ev_gv (HF624.ev rfl) h_))) ?_
              intro a625 HF626; clear HF624
              refine gw_ev HF626 (want_none rfl) rfl (by decide) (op_pick_or rfl (HF626.ev rfl) (ev_c _ _) (fun hp_ => (ev_gv (HF626.ev rfl) (not_t hp_)))) ?_
              intro a627 HF628; clear HF626
              have HF629 := HF628.lit (b := false) (by rw [Bool.or_eq_false_iff, decide_eq_false_iff_not, Bool.not_eq_false', beq_iff_eq]; exact ⟨by (first | omega | (simp only [List.length_append, List.length_drop, List.length_cons, List.length_nil] at *; omega)), by rw [Int.toNat_natCast, hpt.2]⟩)
              clear HF628
              refine wpList_nil ?_
              refine gw_nx (hK593 _ _ ?_)
              refine gw_cond HF629 rfl (fun hb630 => ?_) (fun hb630 => ?_)
              skip
              · cases hb630
              refine wp_skip ?_
              refine gw_nx (hK592 _ _ ?_)
              refine gw_seq fun K631 hK631 => ?_
              refine wp_region_lit ?_
              refine gw_ev HF629 (want_none rfl) rfl (by decide) (op_move rfl (HF629.ev rfl)) ?_
              intro a632 HF633; clear HF629
              refine gw_ev HF633 (want_none rfl) rfl (by decide) (op_add rfl (HF633.ev rfl) (ev_c _ _) (by (first | omega | (simp only [List.length_append, List.length_drop, List.length_cons, List.length_nil] at *; omega)))) ?_
              intro a634 HF635; clear HF633
              have HF636 := HF635.conv (v' := .int .i64 ((ts ++ [(gtextV xs' 40).1]).length : Int)) (by congr 1; simp)
              clear HF635
              refine gw_ev HF636 (want_none rfl) rfl (by decide) (op_assign rfl (HF636.ev rfl)) ?_
              intro a637 HF638; clear HF636
              refine wpList_nil ?_
              refine gw_nx (hK631 _ _ ?_)
              refine wp_region_lit ?_
              refine gw_ev HF638 (want_none rfl) rfl (by decide) (op_move rfl (HF638.ev rfl)) ?_
              intro a639 HF640; clear HF638
              refine gw_ev HF640 (want_none rfl) rfl (by decide) (op_assign rfl (HF640.ev rfl)) ?_
              intro a641 HF642; clear HF640
              refine wpList_nil ?_
              refine gw_blk ?_
              refine gw_nx (hK160 _ _ ?_)
              refine gw_seq fun K643 hK643 => ?_
              refine wp_region_lit ?_
              refine gw_ev HF642 (want_none rfl) rfl (by decide) (op_move rfl (HF642.ev rfl)) ?_
              intro a644 HF645; clear HF642
              refine gw_ev HF645 (want_none rfl) rfl (by decide) (op_move rfl (HF645.ev rfl)) ?_
              intro a646 HF647; clear HF645
              obtain ⟨A648, c649, hr650, hc651, hC652, hA653⟩ := cut_lo (P := Try.prog) (d := (Kd.int .u8)) (t := 22) (e := 5) Try.underlying22 gwsiz5 A9 c9 xs' hcap ((gtextV xs' 40).2) (by (first | omega | (simp only [List.length_append, List.length_drop, List.length_cons, List.length_nil] at *; omega))) (by (first | omega | (simp only [List.length_append, List.length_drop, List.length_cons, List.length_nil] at *; omega)))
              refine gw_ev HF647 (want_none rfl) rfl (by decide) (op_cut Try.underlying22 hr650 rfl (HF647.ev rfl) (some_ev (HF647.ev rfl)) rfl) ?_
              intro a654 HF655; clear HF647
              refine gw_ev HF655 (want_none rfl) rfl (by decide) (op_assign rfl (HF655.ev rfl)) ?_
              intro a656 HF657; clear HF655
              refine wpList_nil ?_
              refine gw_nx (hK643 _ _ ?_)
              refine gw_seq fun K658 hK658 => ?_
              refine wp_region_lit ?_
              refine gw_ev HF657 (want_none rfl) rfl (by decide) (op_move rfl (HF657.ev rfl)) ?_
              intro a659 HF660; clear HF657
              refine gw_ev HF660 (want_none rfl) rfl (by decide) (op_load1 gwagg44 rfl (HF660.ev rfl) (blk_at (HO618.get 5 rfl) rfl)) ?_
              intro a661 HF662; clear HF660
              refine gw_ev HF662 (want_none rfl) rfl (by decide) (op_len Try.underlying44 rfl (HF662.ev rfl)) ?_
              intro a663 HF664; clear HF662
              refine gw_ev HF664 (want_none rfl) rfl (by decide) (op_geq rfl (HF664.ev rfl) (HF664.ev rfl)) ?_
              intro a665 HF666; clear HF664
              refine gw_ev HF666 (want_none rfl) rfl (by decide) (op_move rfl (HF666.ev rfl)) ?_
              intro a667 HF668; clear HF666
              refine gw_evG HF668 rfl rfl rfl rfl (on_f _) rfl (by decide) (fun h_ => (op_load1 gwagg44 rfl (HF668.ev rfl) (blk_at (HO618.get 5 rfl) rfl))) ?_
              intro a669 HF670; clear HF668
              refine gw_evG HF670 rfl rfl rfl rfl (on_f _) rfl (by decide) (fun h_ => (op_move rfl (HF670.ev rfl))) ?_
              intro a671 HF672; clear HF670
              have HO682 := HO618.pin 6 rfl
              clear HO618
              have HO683 : Own w w548 [Chunk.blk g2 (.cells #[.slice A1 calls.length c1] 44 (0, 0)), Chunk.blk g30 (.cells #[.slice A84 s94.nums.length c85] 45 (0, 0)), Chunk.view (Kd.int .i64) S86 A84 s94.nums.length c85 s94.nums, Chunk.blk g49 (.cells #[.slice A87 s94.texts.length c88] 46 (0, 0)), Chunk.viewAt w548 Kd.string S89 A87 s94.texts.length c88 s94.texts, Chunk.blk g68 (.cells #[.slice A90 s94.left.length c91] 44 (0, 0)), Chunk.viewAt w548 (Kd.int .i64) S92 A90 s94.left.length c91 s94.left] := HO682
              clear HO682
              obtain ⟨ad676, cs679, hA677, hl680, hK681, hc678⟩ := F_getT (viewAt_F (HO683.get 6 rfl)) (0 : Int) i (⟨_, fun _ _ => rfl⟩)
              obtain rfl := int_openF hK681
              clear hl680
              refine gw_evG HF672 rfl rfl rfl rfl (on_f _) rfl (by decide) (fun h_ => (op_index Try.underlying44 gwsiz3 rfl (ev_gv (HF672.ev rfl) h_) (ev_gv (HF672.ev rfl) h_) (hA677 ⟨by (try simp only [Bool.and_eq_true, Bool.or_eq_true, Bool.and_eq_false_iff, Bool.or_eq_false_iff, Bool.not_and, Bool.not_or, Bool.not_not, decide_eq_true_eq, decide_eq_false_iff_not, Bool.not_eq_true', Bool.not_eq_false', Bool.not_eq_true, Bool.not_eq_false, ne_eq, Decidable.not_not, Int.not_lt, Int.not_le, not_true_eq_false, not_false_eq_true, bne_iff_ne, beq_iff_eq, bne_eq_false_iff_eq, beq_eq_false_iff_ne] at h_); (first | omega | (simp only [List.length_append, List.length_drop, List.length_cons, List.length_nil] at *; omega)), by (try simp only [Bool.and_eq_true, Bool.or_eq_true, Bool.and_eq_false_iff, Bool.or_eq_false_iff, Bool.not_and, Bool.not_or, Bool.not_not, decide_eq_true_eq, decide_eq_false_iff_not, Bool.not_eq_true', Bool.not_eq_false', Bool.not_eq_true, Bool.not_eq_false, ne_eq, Decidable.not_not, Int.not_lt, Int.not_le, not_true_eq_false, not_false_eq_true, bne_iff_ne, beq_iff_eq, bne_eq_false_iff_eq, beq_eq_false_iff_ne] at h_); (first | omega | (simp only [List.length_append, List.length_drop, List.length_cons, List.length_nil] at *; omega))⟩) (⟨by (try simp only [Bool.and_eq_true, Bool.or_eq_true, Bool.and_eq_false_iff, Bool.or_eq_false_iff, Bool.not_and, Bool.not_or, Bool.not_not, decide_eq_true_eq, decide_eq_false_iff_not, Bool.not_eq_true', Bool.not_eq_false', Bool.not_eq_true, Bool.not_eq_false, ne_eq, Decidable.not_not, Int.not_lt, Int.not_le, not_true_eq_false, not_false_eq_true, bne_iff_ne, beq_iff_eq, bne_eq_false_iff_eq, beq_eq_false_iff_ne] at h_); (first | omega | (simp only [List.length_append, List.length_drop, List.length_cons, List.length_nil] at *; omega)), by (try simp only [Bool.and_eq_true, Bool.or_eq_true, Bool.and_eq_false_iff, Bool.or_eq_false_iff, Bool.not_and, Bool.not_or, Bool.not_not, decide_eq_true_eq, decide_eq_false_iff_not, Bool.not_eq_true', Bool.not_eq_false', Bool.not_eq_true, Bool.not_eq_false, ne_eq, Decidable.not_not, Int.not_lt, Int.not_le, not_true_eq_false, not_false_eq_true, bne_iff_ne, beq_iff_eq, bne_eq_false_iff_eq, beq_eq_false_iff_ne] at h_); (first | omega | (simp only [List.length_append, List.length_drop, List.length_cons, List.length_nil] at *; omega))⟩))) ?_
              intro a684 HF685; clear HF672
              refine gw_evG HF685 rfl rfl rfl rfl (on_f _) rfl (by decide) (fun h_ => (op_load1 gwagg3 rfl (ev_gv (HF685.ev rfl) h_) (((pin_cells (HO683.get 6 rfl) (hA677 ⟨by (try simp only [Bool.and_eq_true, Bool.or_eq_true, Bool.and_eq_false_iff, Bool.or_eq_false_iff, Bool.not_and, Bool.not_or, Bool.not_not, decide_eq_true_eq, decide_eq_false_iff_not, Bool.not_eq_true', Bool.not_eq_false', Bool.not_eq_true, Bool.not_eq_false, ne_eq, Decidable.not_not, Int.not_lt, Int.not_le, not_true_eq_false, not_false_eq_true, bne_iff_ne, beq_iff_eq, bne_eq_false_iff_eq, beq_eq_false_iff_ne] at h_); (first | omega | (simp only [List.length_append, List.length_drop, List.length_cons, List.length_nil] at *; omega)), by (try simp only [Bool.and_eq_true, Bool.or_eq_true, Bool.and_eq_false_iff, Bool.or_eq_false_iff, Bool.not_and, Bool.not_or, Bool.not_not, decide_eq_true_eq, decide_eq_false_iff_not, Bool.not_eq_true', Bool.not_eq_false', Bool.not_eq_true, Bool.not_eq_false, ne_eq, Decidable.not_not, Int.not_lt, Int.not_le, not_true_eq_false, not_false_eq_true, bne_iff_ne, beq_iff_eq, bne_eq_false_iff_eq, beq_eq_false_iff_ne] at h_); (first | omega | (simp only [List.length_append, List.length_drop, List.length_cons, List.length_nil] at *; omega))⟩) (hc678 ⟨by (try simp only [Bool.and_eq_true, Bool.or_eq_true, Bool.and_eq_false_iff, Bool.or_eq_false_iff, Bool.not_and, Bool.not_or, Bool.not_not, decide_eq_true_eq, decide_eq_false_iff_not, Bool.not_eq_true', Bool.not_eq_false', Bool.not_eq_true, Bool.not_eq_false, ne_eq, Decidable.not_not, Int.not_lt, Int.not_le, not_true_eq_false, not_false_eq_true, bne_iff_ne, beq_iff_eq, bne_eq_false_iff_eq, beq_eq_false_iff_ne] at h_); (first | omega | (simp only [List.length_append, List.length_drop, List.length_cons, List.length_nil] at *; omega)), by (try simp only [Bool.and_eq_true, Bool.or_eq_true, Bool.and_eq_false_iff, Bool.or_eq_false_iff, Bool.not_and, Bool.not_or, Bool.not_not, decide_eq_true_eq, decide_eq_false_iff_not, Bool.not_eq_true', Bool.not_eq_false', Bool.not_eq_true, Bool.not_eq_false, ne_eq, Decidable.not_not, Int.not_lt, Int.not_le, not_true_eq_false, not_false_eq_true, bne_iff_ne, beq_iff_eq, bne_eq_false_iff_eq, beq_eq_false_iff_ne] at h_); (first | omega | (simp only [List.length_append, List.length_drop, List.length_cons, List.length_nil] at *; omega))⟩)) 0 _ rfl)))) ?_
              intro a686 HF687; clear HF685
              refine gw_evG HF687 rfl rfl rfl rfl (on_f _) rfl (by decide) (fun h_ => (op_move rfl (HF687.ev rfl))) ?_
              intro a688 HF689; clear HF687
              refine gw_evG HF689 rfl rfl rfl rfl (on_f _) rfl (by decide) (fun h_ => (op_len Try.underlying22 rfl (ev_gv (HF689.ev rfl) h_))) ?_
              intro a690 HF691; clear HF689
              refine gw_evG HF691 rfl rfl rfl rfl (on_f _) rfl (by decide) (fun h_ => (op_nei rfl (ev_gv (HF691.ev rfl) h_) (ev_gv (HF691.ev rfl) h_))) ?_
              intro a692 HF693; clear HF691
              refine gw_ev HF693 (want_none rfl) rfl (by decide) (op_pick_or rfl (HF693.ev rfl) (ev_c _ _) (fun hp_ => (ev_gv (HF693.ev rfl) (not_t hp_)))) ?_
              intro a694 HF695; clear HF693
              have HF696 := HF695.lit (b := false) (by rw [Bool.or_eq_false_iff, decide_eq_false_iff_not, decide_eq_false_iff_not]; exact ⟨by (first | omega | (simp only [List.length_append, List.length_drop, List.length_cons, List.length_nil] at *; omega)), fun h_ => h_ (by rw [← hok.2.2.2.2]; exact hpl.2)⟩)
              clear HF695
              refine wpList_nil ?_
              refine gw_nx (hK658 _ _ ?_)
              refine gw_cond HF696 rfl (fun hb697 => ?_) (fun hb697 => ?_)
              skip
              · cases hb697
              refine wp_skip ?_
              refine gw_blk ?_
              refine gw_nx (hK139 _ _ ?_)
              refine wp_region_lit ?_
              refine gw_ev HF696 (want_none rfl) rfl (by decide) (op_add rfl (HF696.ev rfl) (ev_c _ _) (by (first | omega | (simp only [List.length_append, List.length_drop, List.length_cons, List.length_nil] at *; omega)))) ?_
              intro a698 HF699; clear HF696
              refine gw_ev HF699 (want_none rfl) rfl (by decide) (op_move rfl (HF699.ev rfl)) ?_
              intro a700 HF701; clear HF699
              refine wpList_nil ?_
              have HO702 := HO683.unpin 4 rfl
              clear HO683
              have HO703 : Own w w548 [Chunk.blk g2 (.cells #[.slice A1 calls.length c1] 44 (0, 0)), Chunk.blk g30 (.cells #[.slice A84 s94.nums.length c85] 45 (0, 0)), Chunk.view (Kd.int .i64) S86 A84 s94.nums.length c85 s94.nums, Chunk.blk g49 (.cells #[.slice A87 s94.texts.length c88] 46 (0, 0)), Chunk.view Kd.string S89 A87 s94.texts.length c88 s94.texts, Chunk.blk g68 (.cells #[.slice A90 s94.left.length c91] 44 (0, 0)), Chunk.viewAt w548 (Kd.int .i64) S92 A90 s94.left.length c91 s94.left] := HO702
              clear HO702
              have HO704 := HO703.unpin 6 rfl
              clear HO703
              have HO705 : Own w w548 [Chunk.blk g2 (.cells #[.slice A1 calls.length c1] 44 (0, 0)), Chunk.blk g30 (.cells #[.slice A84 s94.nums.length c85] 45 (0, 0)), Chunk.view (Kd.int .i64) S86 A84 s94.nums.length c85 s94.nums, Chunk.blk g49 (.cells #[.slice A87 s94.texts.length c88] 46 (0, 0)), Chunk.view Kd.string S89 A87 s94.texts.length c88 s94.texts, Chunk.blk g68 (.cells #[.slice A90 s94.left.length c91] 44 (0, 0)), Chunk.view (Kd.int .i64) S92 A90 s94.left.length c91 s94.left] := HO704
              clear HO704
              refine gw_nx ⟨_, ?_, i + 1, (xs'.drop ((gtextV xs' 40).2).toNat), ns, ts ++ [(gtextV xs' 40).1], ls ++ [(((xs'.drop ((gtextV xs' 40).2).toNat)).length : Int)], A648, c649, (HF701.pick (t := 30) rfl (HF701.pick (t := 9) rfl (HF701.pick (t := 10) rfl (HF701.pick (t := 11) rfl (HF701.pick (t := 5) rfl (HF701.pick (t := 6) rfl (HF701.pick (t := 7) rfl (HF701.pick (t := 8) rfl (HF701.pick (t := 28) rfl (HF701.pick (t := 29) rfl HF701.nil)))))))))), HO705.sel [0, 1, 2, 3, 4, 5, 6] (by decide), ?_, ?_, ?_, ?_, ?_, ?_, ?_, ?_, rfl⟩
              · rw [hm132]; (first | omega | (simp only [List.length_append, List.length_drop, List.length_cons, List.length_nil] at *; omega))
              · (first | omega | (simp only [List.length_append, List.length_drop, List.length_cons, List.length_nil] at *; omega))
              · exact hok.1
              · rw [rrun_succ hi.1 hrun]; exact hst
              · intro W h; exact hC652 W (hC W h)
              · exact hc651
              · exact hbx.drop _
              · (first | omega | (simp only [List.length_append, List.length_drop, List.length_cons, List.length_nil] at *; omega))
              · (first | omega | (simp only [List.length_append, List.length_drop, List.length_cons, List.length_nil] at *; omega))
          · skip
            have HF706 := HF541.subst_ (d := 77) (b := false) rfl hb542
            clear HF541
            (try simp only [Bool.and_eq_true, Bool.or_eq_true, Bool.and_eq_false_iff, Bool.or_eq_false_iff, Bool.not_and, Bool.not_or, Bool.not_not, decide_eq_true_eq, decide_eq_false_iff_not, Bool.not_eq_true', Bool.not_eq_false', Bool.not_eq_true, Bool.not_eq_false, ne_eq, Decidable.not_not, Int.not_lt, Int.not_le, not_true_eq_false, not_false_eq_true, bne_iff_ne, beq_iff_eq, bne_eq_false_iff_eq, beq_eq_false_iff_ne] at hb542)
            have hst := rs_skip (xs := xs') (ns := ns) (ts := ts) (ls := ls) (c := (calls.getD i.toNat (0 : Int))) (by (first | omega | (simp only [List.length_append, List.length_drop, List.length_cons, List.length_nil] at *; omega))) (by (first | omega | (simp only [List.length_append, List.length_drop, List.length_cons, List.length_nil] at *; omega))) (by (first | omega | (simp only [List.length_append, List.length_drop, List.length_cons, List.length_nil] at *; omega))); have hok := fin_ok hF96 hi.1 hrun hif (by (first | omega | (simp only [List.length_append, List.length_drop, List.length_cons, List.length_nil] at *; omega))) hst; have hpl := pre_at (z := (0 : Int)) hok.2.2.2.1
            refine wp_skip ?_
            refine gw_blk ?_
            refine gw_nx (hK160 _ _ ?_)
            refine gw_seq fun K707 hK707 => ?_
            refine wp_region_lit ?_
            refine gw_ev HF706 (want_none rfl) rfl (by decide) (op_move rfl (HF706.ev rfl)) ?_
            intro a708 HF709; clear HF706
            refine gw_ev HF709 (want_none rfl) rfl (by decide) (op_move rfl (HF709.ev rfl)) ?_
            intro a710 HF711; clear HF709
            obtain ⟨A712, c713, hr714, hc715, hC716, hA717⟩ := cut_lo (P := Try.prog) (d := (Kd.int .u8)) (t := 22) (e := 5) Try.underlying22 gwsiz5 A9 c9 xs' hcap 0 (by (first | omega | (simp only [List.length_append, List.length_drop, List.length_cons, List.length_nil] at *; omega))) (by (first | omega | (simp only [List.length_append, List.length_drop, List.length_cons, List.length_nil] at *; omega)))
            refine gw_ev HF711 (want_none rfl) rfl (by decide) (op_cut Try.underlying22 hr714 rfl (HF711.ev rfl) (some_ev (HF711.ev rfl)) rfl) ?_
            intro a718 HF719; clear HF711
            refine gw_ev HF719 (want_none rfl) rfl (by decide) (op_assign rfl (HF719.ev rfl)) ?_
            intro a720 HF721; clear HF719
            refine wpList_nil ?_
            refine gw_nx (hK707 _ _ ?_)
            refine gw_seq fun K722 hK722 => ?_
            refine wp_region_lit ?_
            refine gw_ev HF721 (want_none rfl) rfl (by decide) (op_move rfl (HF721.ev rfl)) ?_
            intro a723 HF724; clear HF721
            refine gw_ev HF724 (want_none rfl) rfl (by decide) (op_load1 gwagg44 rfl (HF724.ev rfl) (blk_at (HO131.get 5 rfl) rfl)) ?_
            intro a725 HF726; clear HF724
            refine gw_ev HF726 (want_none rfl) rfl (by decide) (op_len Try.underlying44 rfl (HF726.ev rfl)) ?_
            intro a727 HF728; clear HF726
            refine gw_ev HF728 (want_none rfl) rfl (by decide) (op_geq rfl (HF728.ev rfl) (HF728.ev rfl)) ?_
            intro a729 HF730; clear HF728
            refine gw_ev HF730 (want_none rfl) rfl (by decide) (op_move rfl (HF730.ev rfl)) ?_
            intro a731 HF732; clear HF730
            refine gw_evG HF732 rfl rfl rfl rfl (on_f _) rfl (by decide) (fun h_ => (op_load1 gwagg44 rfl (HF732.ev rfl) (blk_at (HO131.get 5 rfl) rfl))) ?_
            intro a733 HF734; clear HF732
            refine gw_evG HF734 rfl rfl rfl rfl (on_f _) rfl (by decide) (fun h_ => (op_move rfl (HF734.ev rfl))) ?_
            intro a735 HF736; clear HF734
            have HO746 := HO131.pin 6 rfl
            clear HO131
            have HO747 : Own w w129 [Chunk.blk g2 (.cells #[.slice A1 calls.length c1] 44 (0, 0)), Chunk.blk g30 (.cells #[.slice A84 s94.nums.length c85] 45 (0, 0)), Chunk.view (Kd.int .i64) S86 A84 s94.nums.length c85 s94.nums, Chunk.blk g49 (.cells #[.slice A87 s94.texts.length c88] 46 (0, 0)), Chunk.view Kd.string S89 A87 s94.texts.length c88 s94.texts, Chunk.blk g68 (.cells #[.slice A90 s94.left.length c91] 44 (0, 0)), Chunk.viewAt w129 (Kd.int .i64) S92 A90 s94.left.length c91 s94.left] := HO746
            clear HO746
            obtain ⟨ad740, cs743, hA741, hl744, hK745, hc742⟩ := F_getT (viewAt_F (HO747.get 6 rfl)) (0 : Int) i (⟨_, fun _ _ => rfl⟩)
            obtain rfl := int_openF hK745
            clear hl744
            refine gw_evG HF736 rfl rfl rfl rfl (on_f _) rfl (by decide) (fun h_ => (op_index Try.underlying44 gwsiz3 rfl (ev_gv (HF736.ev rfl) h_) (ev_gv (HF736.ev rfl) h_) (hA741 ⟨by (try simp only [Bool.and_eq_true, Bool.or_eq_true, Bool.and_eq_false_iff, Bool.or_eq_false_iff, Bool.not_and, Bool.not_or, Bool.not_not, decide_eq_true_eq, decide_eq_false_iff_not, Bool.not_eq_true', Bool.not_eq_false', Bool.not_eq_true, Bool.not_eq_false, ne_eq, Decidable.not_not, Int.not_lt, Int.not_le, not_true_eq_false, not_false_eq_true, bne_iff_ne, beq_iff_eq, bne_eq_false_iff_eq, beq_eq_false_iff_ne] at h_); (first | omega | (simp only [List.length_append, List.length_drop, List.length_cons, List.length_nil] at *; omega)), by (try simp only [Bool.and_eq_true, Bool.or_eq_true, Bool.and_eq_false_iff, Bool.or_eq_false_iff, Bool.not_and, Bool.not_or, Bool.not_not, decide_eq_true_eq, decide_eq_false_iff_not, Bool.not_eq_true', Bool.not_eq_false', Bool.not_eq_true, Bool.not_eq_false, ne_eq, Decidable.not_not, Int.not_lt, Int.not_le, not_true_eq_false, not_false_eq_true, bne_iff_ne, beq_iff_eq, bne_eq_false_iff_eq, beq_eq_false_iff_ne] at h_); (first | omega | (simp only [List.length_append, List.length_drop, List.length_cons, List.length_nil] at *; omega))⟩) (⟨by (try simp only [Bool.and_eq_true, Bool.or_eq_true, Bool.and_eq_false_iff, Bool.or_eq_false_iff, Bool.not_and, Bool.not_or, Bool.not_not, decide_eq_true_eq, decide_eq_false_iff_not, Bool.not_eq_true', Bool.not_eq_false', Bool.not_eq_true, Bool.not_eq_false, ne_eq, Decidable.not_not, Int.not_lt, Int.not_le, not_true_eq_false, not_false_eq_true, bne_iff_ne, beq_iff_eq, bne_eq_false_iff_eq, beq_eq_false_iff_ne] at h_); (first | omega | (simp only [List.length_append, List.length_drop, List.length_cons, List.length_nil] at *; omega)), by (try simp only [Bool.and_eq_true, Bool.or_eq_true, Bool.and_eq_false_iff, Bool.or_eq_false_iff, Bool.not_and, Bool.not_or, Bool.not_not, decide_eq_true_eq, decide_eq_false_iff_not, Bool.not_eq_true', Bool.not_eq_false', Bool.not_eq_true, Bool.not_eq_false, ne_eq, Decidable.not_not, Int.not_lt, Int.not_le, not_true_eq_false, not_false_eq_true, bne_iff_ne, beq_iff_eq, bne_eq_false_iff_eq, beq_eq_false_iff_ne] at h_); (first | omega | (simp only [List.length_append, List.length_drop, List.length_cons, List.length_nil] at *; omega))⟩))) ?_
            intro a748 HF749; clear HF736
            refine gw_evG HF749 rfl rfl rfl rfl (on_f _) rfl (by decide) (fun h_ => (op_load1 gwagg3 rfl (ev_gv (HF749.ev rfl) h_) (((pin_cells (HO747.get 6 rfl) (hA741 ⟨by (try simp only [Bool.and_eq_true, Bool.or_eq_true, Bool.and_eq_false_iff, Bool.or_eq_false_iff, Bool.not_and, Bool.not_or, Bool.not_not, decide_eq_true_eq, decide_eq_false_iff_not, Bool.not_eq_true', Bool.not_eq_false', Bool.not_eq_true, Bool.not_eq_false, ne_eq, Decidable.not_not, Int.not_lt, Int.not_le, not_true_eq_false, not_false_eq_true, bne_iff_ne, beq_iff_eq, bne_eq_false_iff_eq, beq_eq_false_iff_ne] at h_); (first | omega | (simp only [List.length_append, List.length_drop, List.length_cons, List.length_nil] at *; omega)), by (try simp only [Bool.and_eq_true, Bool.or_eq_true, Bool.and_eq_false_iff, Bool.or_eq_false_iff, Bool.not_and, Bool.not_or, Bool.not_not, decide_eq_true_eq, decide_eq_false_iff_not, Bool.not_eq_true', Bool.not_eq_false', Bool.not_eq_true, Bool.not_eq_false, ne_eq, Decidable.not_not, Int.not_lt, Int.not_le, not_true_eq_false, not_false_eq_true, bne_iff_ne, beq_iff_eq, bne_eq_false_iff_eq, beq_eq_false_iff_ne] at h_); (first | omega | (simp only [List.length_append, List.length_drop, List.length_cons, List.length_nil] at *; omega))⟩) (hc742 ⟨by (try simp only [Bool.and_eq_true, Bool.or_eq_true, Bool.and_eq_false_iff, Bool.or_eq_false_iff, Bool.not_and, Bool.not_or, Bool.not_not, decide_eq_true_eq, decide_eq_false_iff_not, Bool.not_eq_true', Bool.not_eq_false', Bool.not_eq_true, Bool.not_eq_false, ne_eq, Decidable.not_not, Int.not_lt, Int.not_le, not_true_eq_false, not_false_eq_true, bne_iff_ne, beq_iff_eq, bne_eq_false_iff_eq, beq_eq_false_iff_ne] at h_); (first | omega | (simp only [List.length_append, List.length_drop, List.length_cons, List.length_nil] at *; omega)), by (try simp only [Bool.and_eq_true, Bool.or_eq_true, Bool.and_eq_false_iff, Bool.or_eq_false_iff, Bool.not_and, Bool.not_or, Bool.not_not, decide_eq_true_eq, decide_eq_false_iff_not, Bool.not_eq_true', Bool.not_eq_false', Bool.not_eq_true, Bool.not_eq_false, ne_eq, Decidable.not_not, Int.not_lt, Int.not_le, not_true_eq_false, not_false_eq_true, bne_iff_ne, beq_iff_eq, bne_eq_false_iff_eq, beq_eq_false_iff_ne] at h_); (first | omega | (simp only [List.length_append, List.length_drop, List.length_cons, List.length_nil] at *; omega))⟩)) 0 _ rfl)))) ?_
            intro a750 HF751; clear HF749
            refine gw_evG HF751 rfl rfl rfl rfl (on_f _) rfl (by decide) (fun h_ => (op_move rfl (HF751.ev rfl))) ?_
            intro a752 HF753; clear HF751
            refine gw_evG HF753 rfl rfl rfl rfl (on_f _) rfl (by decide) (fun h_ => (op_len Try.underlying22 rfl (ev_gv (HF753.ev rfl) h_))) ?_
            intro a754 HF755; clear HF753
            refine gw_evG HF755 rfl rfl rfl rfl (on_f _) rfl (by decide) (fun h_ => (op_nei rfl (ev_gv (HF755.ev rfl) h_) (ev_gv (HF755.ev rfl) h_))) ?_
            intro a756 HF757; clear HF755
            refine gw_ev HF757 (want_none rfl) rfl (by decide) (op_pick_or rfl (HF757.ev rfl) (ev_c _ _) (fun hp_ => (ev_gv (HF757.ev rfl) (not_t hp_)))) ?_
            intro a758 HF759; clear HF757
            have HF760 := HF759.lit (b := false) (by rw [Bool.or_eq_false_iff, decide_eq_false_iff_not, decide_eq_false_iff_not]; exact ⟨by (first | omega | (simp only [List.length_append, List.length_drop, List.length_cons, List.length_nil] at *; omega)), fun h_ => h_ (by rw [← hok.2.2.2.2]; exact hpl.2)⟩)
            clear HF759
            refine wpList_nil ?_
            refine gw_nx (hK722 _ _ ?_)
            refine gw_cond HF760 rfl (fun hb761 => ?_) (fun hb761 => ?_)
            skip
            · cases hb761
            refine wp_skip ?_
            refine gw_blk ?_
            refine gw_nx (hK139 _ _ ?_)
            refine wp_region_lit ?_
            refine gw_ev HF760 (want_none rfl) rfl (by decide) (op_add rfl (HF760.ev rfl) (ev_c _ _) (by (first | omega | (simp only [List.length_append, List.length_drop, List.length_cons, List.length_nil] at *; omega)))) ?_
            intro a762 HF763; clear HF760
            refine gw_ev HF763 (want_none rfl) rfl (by decide) (op_move rfl (HF763.ev rfl)) ?_
            intro a764 HF765; clear HF763
            refine wpList_nil ?_
            have HO766 := HO747.unpin 6 rfl
            clear HO747
            have HO767 : Own w w129 [Chunk.blk g2 (.cells #[.slice A1 calls.length c1] 44 (0, 0)), Chunk.blk g30 (.cells #[.slice A84 s94.nums.length c85] 45 (0, 0)), Chunk.view (Kd.int .i64) S86 A84 s94.nums.length c85 s94.nums, Chunk.blk g49 (.cells #[.slice A87 s94.texts.length c88] 46 (0, 0)), Chunk.view Kd.string S89 A87 s94.texts.length c88 s94.texts, Chunk.blk g68 (.cells #[.slice A90 s94.left.length c91] 44 (0, 0)), Chunk.view (Kd.int .i64) S92 A90 s94.left.length c91 s94.left] := HO766
            clear HO766
            refine gw_nx ⟨_, ?_, i + 1, (xs'.drop (0 : Int).toNat), ns, ts, ls ++ [(((xs'.drop (0 : Int).toNat)).length : Int)], A712, c713, (HF765.pick (t := 30) rfl (HF765.pick (t := 9) rfl (HF765.pick (t := 10) rfl (HF765.pick (t := 11) rfl (HF765.pick (t := 5) rfl (HF765.pick (t := 6) rfl (HF765.pick (t := 7) rfl (HF765.pick (t := 8) rfl (HF765.pick (t := 28) rfl (HF765.pick (t := 29) rfl HF765.nil)))))))))), HO767.sel [0, 1, 2, 3, 4, 5, 6] (by decide), ?_, ?_, ?_, ?_, ?_, ?_, ?_, ?_, rfl⟩
            · rw [hm132]; (first | omega | (simp only [List.length_append, List.length_drop, List.length_cons, List.length_nil] at *; omega))
            · (first | omega | (simp only [List.length_append, List.length_drop, List.length_cons, List.length_nil] at *; omega))
            · exact hok.1
            · rw [rrun_succ hi.1 hrun]; exact hst
            · intro W h; exact hC716 W (hC W h)
            · exact hc715
            · exact hbx.drop _
            · (first | omega | (simp only [List.length_append, List.length_drop, List.length_cons, List.length_nil] at *; omega))
            · (first | omega | (simp only [List.length_append, List.length_drop, List.length_cons, List.length_nil] at *; omega))
    · skip
      have HF768 := HF135.subst_ (d := 31) (b := false) rfl hb137
      clear HF135
      (try simp only [Bool.and_eq_true, Bool.or_eq_true, Bool.and_eq_false_iff, Bool.or_eq_false_iff, Bool.not_and, Bool.not_or, Bool.not_not, decide_eq_true_eq, decide_eq_false_iff_not, Bool.not_eq_true', Bool.not_eq_false', Bool.not_eq_true, Bool.not_eq_false, ne_eq, Decidable.not_not, Int.not_lt, Int.not_le, not_true_eq_false, not_false_eq_true, bne_iff_ne, beq_iff_eq, bne_eq_false_iff_eq, beq_eq_false_iff_ne] at hb137)
      refine wp_exit ?_
      refine gw_thx ?_
      refine gw_thx ?_
      refine gw_in ?_
      refine gw_nx (hK118 _ _ ?_)
      refine gw_seq fun K769 hK769 => ?_
      refine wp_region_lit ?_
      refine gw_ev HF768 (want_none rfl) rfl (by decide) (op_move rfl (HF768.ev rfl)) ?_
      intro a770 HF771; clear HF768
      refine gw_ev HF771 (want_none rfl) rfl (by decide) (op_eqi rfl (HF771.ev rfl) (ev_c _ _)) ?_
      intro a772 HF773; clear HF771
      refine gw_ev HF773 (want_none rfl) rfl (by decide) (op_move rfl (HF773.ev rfl)) ?_
      intro a774 HF775; clear HF773
      refine gw_ev HF775 (want_none rfl) rfl (by decide) (op_len Try.underlying22 rfl (HF775.ev rfl)) ?_
      intro a776 HF777; clear HF775
      refine gw_ev HF777 (want_none rfl) rfl (by decide) (op_eqi rfl (HF777.ev rfl) (ev_c _ _)) ?_
      intro a778 HF779; clear HF777
      refine gw_ev HF779 (want_none rfl) rfl (by decide) (op_eqb Try.underlying4 rfl (HF779.ev rfl) (HF779.ev rfl)) ?_
      intro a780 HF781; clear HF779
      refine gw_ev HF781 (want_none rfl) rfl (by decide) (op_move rfl (HF781.ev rfl)) ?_
      intro a782 HF783; clear HF781
      refine gw_evG HF783 rfl rfl rfl rfl (on_t _) rfl (by decide) (fun h_ => (op_move rfl (HF783.ev rfl))) ?_
      intro a784 HF785; clear HF783
      refine gw_evG HF785 rfl rfl rfl rfl (on_t _) rfl (by decide) (fun h_ => (op_eqi rfl (ev_gv (HF785.ev rfl) h_) (ev_c _ _))) ?_
      intro a786 HF787; clear HF785
      refine gw_evG HF787 rfl rfl rfl rfl (on_t _) rfl (by decide) (fun h_ => (op_move rfl (ev_gv (HF787.ev rfl) h_))) ?_
      intro a788 HF789; clear HF787
      refine gw_evG HF789 rfl rfl rfl rfl (on_gf _ _) rfl (by decide) (fun h_ => (op_move rfl (HF789.ev rfl))) ?_
      intro a790 HF791; clear HF789
      refine gw_evG HF791 rfl rfl rfl rfl (on_gf _ _) rfl (by decide) (fun h_ => (op_eqi rfl (ev_gv (HF791.ev rfl) (andi (and1 h_) (and2 h_))) (ev_c _ _))) ?_
      intro a792 HF793; clear HF791
      refine gw_evG HF793 rfl rfl rfl rfl (on_t _) rfl (by decide) (fun h_ => (op_pick_or rfl (ev_gv (HF793.ev rfl) h_) (ev_c _ _) (fun hp_ => (ev_gv (HF793.ev rfl) (andi h_ (not_t hp_)))))) ?_
      intro a794 HF795; clear HF793
      refine gw_ev HF795 (want_none rfl) rfl (by decide) (op_pick_and rfl (HF795.ev rfl) (fun hp_ => (ev_gv (HF795.ev rfl) hp_)) (ev_c _ _)) ?_
      intro a796 HF797; clear HF795
      refine gw_ev HF797 (want_none rfl) rfl (by decide) (op_assign rfl (HF797.ev rfl)) ?_
      intro a798 HF799; clear HF797
      refine wpList_nil ?_
      refine gw_nx (hK769 _ _ ?_)
      refine wp_ret ?_
      refine gw_ret1 HF799 rfl rfl ?_
      have he := fin_end hF96 hrun hif hi.1 (by (first | omega | (simp only [List.length_append, List.length_drop, List.length_cons, List.length_nil] at *; omega)))
      exact ⟨by congr 2; rw [he]; simp only; split <;> simp_all, HO131.below⟩
end GPackReads_
open Classical in
noncomputable def colloquylaw08_PackReads.f (l0 : List Int) (l1 : List Int) : Option Bool := if (ByteL l0) ∧ (l0.length ≤ 1048576) ∧ (l1.length ≤ 1048576) then some true else none
theorem colloquylaw08_PackReads.calls (A0 : Option Addr) (c0 : Nat) (l0 : List Int) (A1 : Option Addr) (c1 : Nat) (l1 : List Int) (r : Bool) (w : World) (hr0 : Kd.C (Kd.int .u8) w A0 l0.length l0) (hc0 : l0.length ≤ c0) (hr1 : Kd.C (Kd.int .i64) w A1 l1.length l1) (hc1 : l1.length ≤ c1) (h : colloquylaw08_PackReads.f l0 l1 = some r) :
    Calls Try.prog 8 #[(.slice A0 l0.length c0), (.slice A1 l1.length c1)] w fun e w' => e = .returned (.bool r) ∧ Below w.heap.size w w' := by
  unfold colloquylaw08_PackReads.f at h
  split at h
  · cases h; rename_i hh; exact GPackReads_.PackReads_calls A0 c0 l0 A1 c1 l1 w hr0 hc0 hr1 hc1 hh.1 hh.2.1 hh.2.2
  · cases h
end Go.Proofs.Ytmlemnfleicnfaa.PA
