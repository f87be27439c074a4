/- What this claim uses of this session's own texts, put together by a program: HTab4 HTab5 GQnew HOnce GQbuild GQonce HRepl GQrep GQrepl GQuote HGlobQ GAlive HTabM HCat HParts HTable HGlobR PAx82 HTabN. -/
import Derived.Test.YtelbgmpeghhakaaGreatKGlobMatches1
import Derived.Test.YtelbgmpeghhakaaGreatProg
import Derived.Test.YtelbgmpeghhakaaGreatRows
section
namespace Go.Proofs.YtelbgmpeghhakaaGreat.PA
open Go.RowKit Go.Proofs.YtelbgmpeghhakaaGreatW.PrintWords Go.Proofs.YtelbgmpeghhakaaGreatW.PrintLast Go.Proofs.YtelbgmpeghhakaaGreatW.PrintMore
set_option linter.unusedVariables false
set_option linter.unusedSimpArgs false
def Chunk.bsrP (G : Nat) (S : Nat → Prop) (t : List (Int × Value)) (tr : Value) (K : List Int) : Chunk :=
  ⟨S, fun w => w.heap[G]? = some (.cells (tabC t tr).toArray 108 (0, 0)) ∧ S G ∧ ∀ x : Int, if x ∈ K then ∃ ad cc, tabV t x = .slice (some ad) 2 cc ∧ 2 ≤ cc ∧ S ad.block ∧ ad.block < w.heap.size ∧ ad.block ≠ G ∧ Kd.C (Kd.int .u8) w (some ad) 2 [92, x] else tabV t x = nilS,
   fun {w w1} ⟨h1, h2, h3⟩ hm => by
    refine ⟨(hm G h2).trans h1, h2, fun x => ?_⟩
    have h := h3 x
    split
    · rename_i hs
      rw [if_pos hs] at h
      obtain ⟨ad, cc, e, hc, hS, hl, hne, hC⟩ := h
      have hob := hm ad.block hS
      refine ⟨ad, cc, e, hc, hS, ?_, hne, C_int_at hC fun _ ad' e' _ => by cases e'; exact hob⟩
      have : w.heap[ad.block]? = some w.heap[ad.block] := Array.getElem?_eq_getElem hl
      rw [← hob] at this
      exact (Array.getElem?_eq_some_iff.1 this).1
    · rename_i hs
      rw [if_neg hs] at h
      exact h⟩
theorem bsrP_blk {G : Nat} {S : Nat → Prop} {t : List (Int × Value)} {tr : Value} {K : List Int} {w : World} (h : (Chunk.bsrP G S t tr K).P w) : w.heap[G]? = some (.cells (tabC t tr).toArray 108 (0, 0)) := h.1
theorem bsrP_none {G : Nat} {S : Nat → Prop} {t : List (Int × Value)} {tr : Value} {K : List Int} {w : World} (h : (Chunk.bsrP G S t tr K).P w) (x : Int) (hx : x ∉ K) : tabV t x = nilS := by
  have := h.2.2 x
  rwa [if_neg hx] at this
section
variable {w0 w : World} {L : List Chunk} {G : Nat} {S : Nat → Prop} {t : List (Int × Value)} {tr : Value} {K : List Int}
theorem Own.tab_new (h : Own w0 w L) (i : Nat) (hi : L[i]? = some (Chunk.blk G (.cells (tabC [] tr).toArray 108 (0, 0)))) : Own w0 w (L.set i (Chunk.bsrP G (fun k => k = G) [] tr [])) :=
  h.mapc i hi (fun _ hk => hk) (fun _ hr => ⟨hr, rfl, fun x => by rw [if_neg (by simp)]; rfl⟩)
theorem Own.tab_full (h : Own w0 w L) (i : Nat) (hi : L[i]? = some (Chunk.bsrP G S t tr [63, 42, 91, 92])) : Own w0 w (L.set i (Chunk.bsr G S t tr)) :=
  h.mapc i hi (fun _ hk => hk) (fun w ⟨h1, h2, h3⟩ => ⟨h1, h2, fun x x0 x1 => by
    have h := h3 x
    by_cases hs : specB x = true
    · rw [if_pos hs]
      rw [if_pos (by unfold specB at hs; simp at hs ⊢; omega)] at h
      obtain ⟨ad, cc, e, hc, hS, hl, _, hC⟩ := h
      exact ⟨ad, cc, e, hc, hS, hl, hC⟩
    · rw [if_neg hs]
      rwa [if_neg (by unfold specB at hs; simp at hs ⊢; omega)] at h⟩)
end
section
variable {D : List Deferred} {P : Program} {ops : Array Oper} {Q : Exit → Act → World → Prop} {rest : List Oper} {o : Oper} {N dd : Nat} {a : Act} {F : List (Nat × Value)} {w w0 : World} {L : List Chunk} {G : Nat} {S : Nat → Prop} {t : List (Int × Value)} {tr v : Value} {K : List Int} {ty : TypeId} {x y : Operand}
theorem setCell_size (w : World) (p : Addr) (u : Value) : (w.setCell p u).heap.size = w.heap.size := by simp [World.setCell]
set_option maxRecDepth 100000 in
theorem gw_tabl (i : Nat) (HF : FrD D N a F) (HO : Own w0 w L) (hi : L[i]? = some (Chunk.bsrP G S t tr K)) (hw : Region.wanted o (yielded ops a.tmps) = true) (hd : o.dst = none) (hS : ∀ w, (sizeOf ty).run P w = .ok 1 w) (ho : o.op = .store ty x y) (hx : a.eval x = .pointer (some ⟨G, 256, none⟩)) (hy : a.eval y = v) (hv : v.oneCell' = true)
    (k : ∀ a' w1, FrD D N a' F → Own w0 w1 (L.set i (Chunk.bsrP G S t v K)) → wpList P ops Q rest a' w1) : wpList P ops Q (o :: rest) a w := by
  have hP := HO.get i hi
  have hb := bsrP_blk hP
  have hP' : (Chunk.bsrP G S t v K).P (w.setCell ⟨G, 256, none⟩ v) := by
    refine ⟨?_, hP.2.1, fun z => ?_⟩
    · rw [blk_set hb, tabC_setl]
    · have h := hP.2.2 z
      split
      · rename_i hs
        rw [if_pos hs] at h
        obtain ⟨ad, cc, e, hc, hS', hl, hne, hC⟩ := h
        refine ⟨ad, cc, e, hc, hS', by rw [setCell_size]; exact hl, hne, C_int_at hC fun _ ad' e' _ => ?_⟩
        cases e'
        exact Below.heap_setCell w _ _ _ hne
      · rename_i hs
        rw [if_neg hs] at h
        exact h
  have hout : Out w (w.setCell ⟨G, 256, none⟩ v) S [Chunk.bsrP G S t v K] := Out.one ((Out.refl w S).setCell (p := ⟨G, 256, none⟩) (.inl hP.2.1) v) hP' fun q hq => ⟨.inl hq, Nat.lt_of_lt_of_eq (HO.lt i hi hq).2 (setCell_size _ _ _).symm⟩
  exact gw_skip HF hw hd (op_store1 hS ho hx hy hv (blk_at hb (tabC_last _ _)) (blkf hb)) fun a' HF' => k a' _ HF' (HO.calls (cs := []) i hi hout)
theorem gw_tabs {A : Option Addr} {c : Nat} {Sv : Nat → Prop} {z : Int} (HF : FrD D N a F) (HO : Own w0 w (Chunk.bsrP G S t tr K :: Chunk.view (Kd.int .u8) Sv A 2 c [92, z] :: L)) (hz : 0 ≤ z ∧ z < 256) (hw : Region.wanted o (yielded ops a.tmps) = true) (hd : o.dst = none) (hS : ∀ w, (sizeOf ty).run P w = .ok 1 w) (ho : o.op = .store ty x y) (hx : a.eval x = .pointer (some ⟨G, z.toNat, none⟩)) (hy : a.eval y = .slice A 2 c)
    (k : ∀ a' w1 S' t', FrD D N a' F → Own w0 w1 (Chunk.bsrP G S' t' tr (z :: K) :: L) → wpList P ops Q rest a' w1) : wpList P ops Q (o :: rest) a w := by
  have hP := HO.get 0 rfl
  have hV := HO.get 1 rfl
  have hb := bsrP_blk hP
  have hap := HO.apart_at 0 1 (by decide) rfl rfl
  obtain ⟨hF, hc, hin⟩ := hV
  have hCv : Kd.C (Kd.int .u8) w A 2 [92, z] := Kd.F_now hF
  obtain ⟨adv, hA, _⟩ := hCv.2.2 (by omega)
  subst hA
  have hSv : Sv adv.block := hin adv rfl
  have hlv := (HO.lt 1 rfl hSv).2
  have hneG : adv.block ≠ G := fun e => hap G hP.2.1 (by rw [← e]; exact hSv)
  have HB : Own w0 w (Chunk.all [Chunk.bsrP G S t tr K, Chunk.view (Kd.int .u8) Sv (some adv) 2 c [92, z]] :: L) := Own.bundle (A := [_, _]) HO
  have hall : ∀ q, (Chunk.all [Chunk.bsrP G S t tr K, Chunk.view (Kd.int .u8) Sv (some adv) 2 c [92, z]]).S q ↔ S q ∨ Sv q := fun q => by
    constructor
    · rintro ⟨c', hc', hk⟩
      simp only [List.mem_cons, List.mem_nil_iff, or_false] at hc'
      rcases hc' with rfl | rfl
      · exact .inl hk
      · exact .inr hk
    · rintro (hk | hk)
      · exact ⟨_, List.mem_cons_self .., hk⟩
      · exact ⟨Chunk.view (Kd.int .u8) Sv (some adv) 2 c [92, z], by simp, hk⟩
  refine gw_skip HF hw hd (op_store1 hS ho hx hy rfl (blk_at hb (tabC_get _ _ z hz)) (blkf hb)) fun a' HF' => k a' _ (fun q => S q ∨ Sv q) ((z, .slice (some adv) 2 c) :: t) HF' (HB.calls (cs := []) 0 rfl (Out.one ((Out.refl w _).setCell (.inl ((hall _).2 (.inl hP.2.1))) _) ⟨?_, .inl hP.2.1, fun u => ?_⟩ fun q hq => ⟨.inl ((hall q).2 hq), by have := (HB.lt 0 rfl ((hall q).2 hq)).2; simpa [World.setCell] using this⟩))
  · rw [blk_set hb, tabC_set _ _ _ _ hz]
  · by_cases hu : u = z
    · subst hu
      rw [if_pos (List.mem_cons_self ..)]
      refine ⟨adv, c, by simp [tabV], hc, .inr hSv, by simpa [World.setCell] using hlv, hneG, C_int_at hCv fun _ ad' e' _ => ?_⟩
      cases e'
      exact Below.heap_setCell w _ _ _ hneG
    · have e1 : tabV ((z, .slice (some adv) 2 c) :: t) u = tabV t u := by simp [tabV, hu]
      have h := hP.2.2 u
      rw [e1]
      by_cases hs : u ∈ K
      · rw [if_pos (List.mem_cons_of_mem _ hs)]
        rw [if_pos hs] at h
        obtain ⟨ad, cc, e, hc', hS', hl, hne, hC⟩ := h
        refine ⟨ad, cc, e, hc', .inl hS', by simpa [World.setCell] using hl, hne, C_int_at hC fun _ ad' e' _ => ?_⟩
        cases e'
        exact Below.heap_setCell w _ _ _ hne
      · rw [if_neg (by simp [hu, hs])]
        rwa [if_neg hs] at h
theorem gw_sbytes {s : ByteArray} {t' u e : TypeId} {d : TypeDesc} (hs1 : P.underlying t' = some d) (hd1 : P.underlying u = some (.slice e)) (he : P.underlying e = some (.int .u8)) (HF : FrD D N a F) (HO : Own w0 w L) (hw : Region.wanted o (yielded ops a.tmps) = true) (hd : o.dst = some dd) (hN : dd < N) (ho : o.op = .convert t' u x) (hx : a.eval x = .string s) (hm : s.size ≤ 9223372036854775807)
    (k : ∀ A c S' a' w1, FrD D N a' ((dd, .slice A (bytesOf s).length c) :: F) → Own w0 w1 (Chunk.view (Kd.int .u8) S' A (bytesOf s).length c (bytesOf s) :: L) → wpList P ops Q rest a' w1) : wpList P ops Q (o :: rest) a w := by
  have hrun : Runs P o a w (.slice (some ⟨w.heap.size, 0, none⟩) (bytesOf s).length (grownCap w s.size 0 e)) (Lib.bytesWorld w e s) := by
    have := print_bytes t' u e hs1 hd1 he s w
    rw [bytesOf_length]
    unfold Runs execOp
    simp only [ho, hx]
    simp [this]
  have hr := bytes_reads w e s hm
  have hle : (bytesOf s).length ≤ grownCap w s.size 0 e := by rw [bytesOf_length]; exact grownCap_ge w s.size 0 e
  have hc : Kd.C (Kd.int .u8) (Lib.bytesWorld w e s) (some ⟨w.heap.size, 0, none⟩) (bytesOf s).length (bytesOf s) := by
    refine ⟨rfl, by rw [bytesOf_length]; exact hm, fun _ => ⟨_, rfl, fun j p hj => ⟨[.int .u8 p], rfl, rfl, fun i u hu => ?_⟩⟩⟩
    have hi : i = 0 := by
      rcases i with _ | i
      · rfl
      · simp at hu
    subst hi
    have hu' : Value.int .u8 p = u := by simpa using hu
    subst hu'
    have hlt := (List.getElem?_eq_some_iff.1 hj).1
    rw [bytesOf_length] at hlt
    obtain ⟨ad, e1, hcell⟩ := hr.2.2 (by omega)
    injection e1 with e1
    subst e1
    have := hcell j hlt
    rw [List.getD_eq_getElem?_getD, hj] at this
    have e2 : j * (Kd.int .u8).sz + 0 = j := by show j * 1 + 0 = j; omega
    rw [e2]
    simpa using this
  have hb := bytes_below (Below.refl w.heap.size w) (Nat.le_refl _) e s
  refine gw_ev HF hw hd hN hrun fun a' HF' => k _ _ (fun q => w.heap.size ≤ q ∧ q < (Lib.bytesWorld w e s).heap.size) a' _ HF' (HO.fresh (cs := [_]) (Out.one (Out.of_below hb _) (c := Chunk.view (Kd.int .u8) (fun q => w.heap.size ≤ q ∧ q < (Lib.bytesWorld w e s).heap.size) (some ⟨w.heap.size, 0, none⟩) (bytesOf s).length (grownCap w s.size 0 e) (bytesOf s)) ⟨?_, hle, fun ad e1 => ?_⟩ fun q hq => ⟨.inr hq.1, hq.2⟩))
  · intro W' hW
    exact C_int_at hc fun _ ad e1 hlt => by cases e1; exact hW _ ⟨Nat.le_refl _, hlt⟩ hlt
  · cases e1
    refine ⟨Nat.le_refl _, ?_⟩
    simp [Lib.bytesWorld, World.freeze]
end
end Go.Proofs.YtelbgmpeghhakaaGreat.PA
end
section
namespace Go.Proofs.YtelbgmpeghhakaaGreat.PA
open Go.RowKit Go.Proofs.YtelbgmpeghhakaaGreatW.PrintWords Go.Proofs.YtelbgmpeghhakaaGreatW.PrintLast Go.Proofs.YtelbgmpeghhakaaGreatW.PrintMore
set_option linter.unusedVariables false
set_option linter.unusedSimpArgs false
section
variable {D : List Deferred} {P : Program} {ops : Array Oper} {Q : Exit → Act → World → Prop} {rest : List Oper} {o : Oper} {N dd : Nat} {a : Act} {F : List (Nat × Value)} {w w0 : World} {L : List Chunk} {t e nb : Nat} {l c : Operand}
theorem op_make04 (ht : P.underlying t = some (.slice e)) (hi : (P.info? e).map (fun i => (i.zero, i.size, i.bytes)) = some (some (.string ⟨#[]⟩), 1, nb)) (hnb : nb = 16) (ho : o.op = .makeSlice t l c) (hl : a.eval l = .int .i64 0) (hc : a.eval c = .int .i64 4) :
    Runs P o a w (.slice (some ⟨w.heap.size, 0, none⟩) 0 4) (w.alloc (.cells (madeCells #[.string ⟨#[]⟩] 4) e (0, 0))) := by
  obtain ⟨i, hi1, hi2⟩ := Option.map_eq_some_iff.1 hi
  simp only [Prod.mk.injEq] at hi2
  obtain ⟨hi3, hi4, hi5⟩ := hi2
  have hr := run_make (P := P) w t e i (.string ⟨#[]⟩) ht hi1 hi3 .i64 .i64 0 4 (Int.le_refl _) (by decide) (by rw [hi5, hnb]; decide) (by decide)
  have hcells : madeCells (Value.string ⟨#[]⟩).cells ((4 : Int).toNat * i.size) = madeCells #[.string ⟨#[]⟩] 4 := by rw [hi4]; rfl
  rw [hcells] at hr
  unfold Runs execOp
  simp only [ho, hl, hc, Sem.run_bind, hr, Result.andThen_ok, Sem.run_pure]
  rfl
theorem gw_make04 (HF : FrD D N a F) (HO : Own w0 w L) (hw : Region.wanted o (yielded ops a.tmps) = true) (hd : o.dst = some dd) (hN : dd < N) (hrun : Runs P o a w (.slice (some ⟨w.heap.size, 0, none⟩) 0 4) (w.alloc (.cells (madeCells #[.string ⟨#[]⟩] 4) e (0, 0))))
    (k : ∀ A S a' w1, FrD D N a' ((dd, .slice A ([] : List ByteArray).length 4) :: F) → Own w0 w1 (Chunk.row Kd.string e w0.heap.size S (.slice A ([] : List ByteArray).length 4) [] :: L) → wpList P ops Q rest a' w1) : wpList P ops Q (o :: rest) a w :=
  gw_ev HF hw hd hN hrun fun a' HF' => k (some ⟨w.heap.size, 0, none⟩) (fun k => k = w.heap.size) a' _ HF' (HO.fresh (cs := [_]) (Out.one (Out.of_below (below_alloc (Below.refl _ _) _) _) (c := Chunk.row Kd.string e w0.heap.size (fun k => k = w.heap.size) (.slice (some ⟨w.heap.size, 0, none⟩) 0 4) [])
    ⟨fun k hk => by
      have : w.heap.size = k := by simpa [Value.ownBlock] using hk
      exact this.symm, [], ⟨rfl, .inr ⟨w.heap.size, 4, _, rfl, HO.below.size, heap_alloc_new w _, by decide, by decide, by rw [show Kd.string.sz = 1 from rfl]; simp [madeCells], rfl⟩⟩, Reps.none _ _⟩ (fun k hk => by
      obtain rfl : k = w.heap.size := hk
      exact ⟨.inr (Nat.le_refl _), by simp⟩)))
theorem op_bound {f : FuncId} {x : Operand} {v : Value} (ho : o.op = .makeFunc (.func f) #[x] #[]) (hx : a.eval x = v) : Runs P o a w (.func (.func f) #[v] #[]) w := by
  have h1 : (#[x] : Array Operand).map a.eval = #[v] := by rw [List.map_toArray, List.map_cons, List.map_nil, hx]
  unfold Runs execOp
  simp only [ho, h1]
  simp [go_sem, Instr.makeFunc]
end
theorem tabV_one : ∀ {t : List (Int × Value)} (x : Int), (∀ q ∈ t, q.2.oneCell' = true) → (tabV t x).oneCell' = true
  | [], _, _ => rfl
  | (y, u) :: t, x, ht => by
    unfold tabV
    split
    · exact ht _ (List.mem_cons_self ..)
    · exact tabV_one x (fun q hq => ht q (List.mem_cons_of_mem _ hq))
theorem tabC_one {t : List (Int × Value)} {tr : Value} (htr : tr.oneCell' = true) (ht : ∀ q ∈ t, q.2.oneCell' = true) : ∀ v ∈ tabC t tr, v.oneCell' = true := by
  intro v hv
  unfold tabC at hv
  rcases List.mem_append.1 hv with h | h
  · obtain ⟨j, _, rfl⟩ := List.mem_map.1 h
    exact tabV_one _ ht
  · rw [List.mem_singleton.1 h]
    exact htr
theorem op_tab0 {P : Program} {o : Oper} {a : Act} {w : World} {t : TypeId} {x y : Operand} {g : Nat} {cs : Array Value} {T : TypeId} {tr : Value} (hS : ∀ w, (sizeOf t).run P w = .ok 257 w) (ho : o.op = .store t x y) (hx : a.eval x = .pointer (some ⟨g, 0, none⟩)) (hy : a.eval y = .agg (tabC [] tr).toArray) (hb : w.heap[g]? = some (.cells cs T (0, 0))) (hcs : cs.size = 257) (htr : tr.oneCell' = true) :
    Skips P o a w (w.setRow g (tabC [] tr).toArray) := by
  have hv : (tabC [] tr).toArray.size = 257 := by rw [List.size_toArray, tabC_len]
  have h := op_storen (n := 257) hS ho hx hy hb hv (by omega) (by simpa using tabC_one (t := []) htr (by simp))
  have e : (cs.toList.take 0 ++ (tabC [] tr).toArray.toList ++ cs.toList.drop (0 + 257)).toArray = (tabC [] tr).toArray := by
    rw [List.take_zero, List.nil_append, List.drop_of_length_le (by rw [Array.length_toList]; omega), List.append_nil]
  rw [e] at h
  exact h
abbrev OLDL : List ByteArray := [(⟨#[63]⟩ : ByteArray), (⟨#[92, 63]⟩ : ByteArray), (⟨#[42]⟩ : ByteArray), (⟨#[92, 42]⟩ : ByteArray), (⟨#[91]⟩ : ByteArray), (⟨#[92, 91]⟩ : ByteArray), (⟨#[92]⟩ : ByteArray), (⟨#[92, 92]⟩ : ByteArray)]
end Go.Proofs.YtelbgmpeghhakaaGreat.PA
end
section
namespace Go.Proofs.YtelbgmpeghhakaaGreat.PA
open Go.RowKit Go.Proofs.YtelbgmpeghhakaaGreatW.PrintWords Go.Proofs.YtelbgmpeghhakaaGreatW.PrintLast Go.Proofs.YtelbgmpeghhakaaGreatW.PrintMore
set_option linter.unusedVariables false
set_option linter.unusedSimpArgs false
namespace GQnew_
theorem gwinfo9 : (Tryz.prog.info? 9).map (fun i => (i.zero, i.size, i.bytes)) = some (some (.string (⟨#[]⟩ : ByteArray)), 1, 16) := by kernel_rfl
set_option maxHeartbeats 4000000 in
set_option maxRecDepth 100000 in
theorem newReplacer_walk (w0 w : World) (R : Chunk) (Sz : Nat → Prop) (Az : Option Addr) (cz : Nat) (HO : Own w0 w [R, Chunk.view Kd.string Sz Az 8 cz OLDL]) :
    Calls Tryz.prog 31 #[.slice Az 8 cz] w fun e w' => ∃ B So Ao co, e = .returned (.pointer (some ⟨B, 0, none⟩)) ∧ Own w0 w' [Bk B [.int .u32 0, .int .i32 0, .int .u32 0, .nilIface, .slice Ao 8 co] 83, Chunk.view Kd.string So Ao 8 co OLDL, R, Chunk.view Kd.string Sz Az 8 cz OLDL] := by
 refine gw_startO (N := 12) (vs := [.slice Az 8 cz]) Tryz.func31 rfl rfl (by simp) fun a HF => ?_
 refine gR fun K1 hK1 => ?_
 refine V HF (op_assign rfl (ev_c _ _)) ?_
 intro _ H3; clear HF
 refine gE hK1 ?_
 refine gw_seq fun K4 hK4 => ?_
 refine gR fun K5 hK5 => ?_
 refine V H3 (op_move rfl (H3.ev rfl)) ?_
 intro _ H7; clear H3
 refine V H7 (op_len Tryz.underlying67 rfl (H7.ev rfl)) ?_
 intro _ H9; clear H7
 refine V H9 (op_rem rfl (H9.ev rfl) (ev_c _ _) (by omega)) ?_
 intro _ H11; clear H9
 refine V H11 (op_eqi rfl (H11.ev rfl) (ev_c _ _)) ?_
 intro _ H13; clear H11
 have H14 := H13.lit (b := false) (by decide)
 clear H13
 refine gE hK5 ?_
 refine gw_cond H14 rfl (fun hb15 => ?_) (fun hb15 => ?_)
 skip
 ·
  cases hb15
 refine wp_skip ?_
 refine gw_nx (hK4 _ _ ?_)
 refine gR fun K16 hK16 => ?_
 refine V H14 (op_move rfl (H14.ev rfl)) ?_
 intro _ H18; clear H14
 have O19 := HO.row_nil Kd.string 9 w0.heap.size
 clear HO
 have O20 : Own w0 w [Chunk.row Kd.string 9 w0.heap.size (fun _ => False) (.slice none (([] : List ByteArray).length) 0) ([] : List ByteArray), R, Chunk.view Kd.string Sz Az 8 cz OLDL] := O19
 clear O19
 refine gw_append Kd.string 0 H18 O20 (want_none rfl) rfl (by decide) rfl Tryz.underlying67 gwinfo9 rfl (by decide) (by decide) rfl (ev_c _ _) (H18.ev rfl) (view_C (O20.get 2 rfl)) (fun _ _ h => h) O20.below.size (by decide) ?_
 intro A21 c22 S23 _ w25 H26 O27; clear H18 O20
 have O28 : Own w0 w25 [Chunk.row Kd.string 9 w0.heap.size S23 (.slice A21 ((([] : List ByteArray) ++ OLDL).length) c22) (([] : List ByteArray) ++ OLDL), R, Chunk.view Kd.string Sz Az 8 cz OLDL] := O27
 clear O27
 have O29 := O28.row_view 0 rfl
 clear O28
 have O30 : Own w0 w25 [Chunk.view Kd.string S23 A21 ((([] : List ByteArray) ++ OLDL).length) c22 (([] : List ByteArray) ++ OLDL), R, Chunk.view Kd.string Sz Az 8 cz OLDL] := O29
 clear O29
 refine V H26 (op_build (cells := #[.int .u32 0, .int .i32 0, .int .u32 0, .nilIface, .slice A21 ((([] : List ByteArray) ++ OLDL).length) c22]) rfl (pt_cons (H26.ev rfl) pt_nil) (by kernel_rfl)) ?_
 intro _ H32; clear H26
 refine gw_new H32 O30 (want_none rfl) rfl (by decide) (op_box rfl (H32.ev rfl)) ?_
 intro g33 _ w35 H36 O37; clear H32 O30
 have O38 : Own w0 w35 [Bk g33 [.int .u32 0, .int .i32 0, .int .u32 0, .nilIface, .slice A21 ((([] : List ByteArray) ++ OLDL).length) c22] 83, Chunk.view Kd.string S23 A21 ((([] : List ByteArray) ++ OLDL).length) c22 (([] : List ByteArray) ++ OLDL), R, Chunk.view Kd.string Sz Az 8 cz OLDL] := O37
 clear O37
 refine V H36 (op_assign rfl (H36.ev rfl)) ?_
 intro _ H40; clear H36
 refine gE hK16 ?_
 refine wp_ret ?_
 refine gw_ret1 H40 rfl rfl ?_
 exact ⟨_, _, _, _, rfl, O38.sel [0, 1, 2, 3] (by decide)⟩
end GQnew_
export GQnew_ (newReplacer_walk)
end Go.Proofs.YtelbgmpeghhakaaGreat.PA
end
section
namespace Go.Proofs.YtelbgmpeghhakaaGreat.PA
open Go.RowKit
set_option linter.unusedVariables false
set_option linter.unusedSimpArgs false
set_option maxRecDepth 100000
theorem once_disable (w : World) : (callFunc 80 #[]).run Tryz.prog w = .ok (.value (.tuple #[])) w := run_call_mark0 Tryz.func80 (by kernel_rfl) (by kernel_rfl) (by kernel_rfl) .disable (by kernel_rfl) w
theorem once_enable (w : World) : (callFunc 82 #[]).run Tryz.prog w = .ok (.value (.tuple #[])) w := run_call_mark0 Tryz.func82 (by kernel_rfl) (by kernel_rfl) (by kernel_rfl) .enable (by kernel_rfl) w
theorem once_acquire (a : Addr) (w : World) : (callFunc 83 #[.pointer (some a)]).run Tryz.prog w = .ok (.value (.tuple #[])) w := run_call_marked Tryz.func83 (by kernel_rfl) (by kernel_rfl) (by kernel_rfl) .acquire (by kernel_rfl) a w
theorem once_release (a : Addr) (w : World) : (callFunc 85 #[.pointer (some a)]).run Tryz.prog w = .ok (.value (.tuple #[])) w := run_call_marked Tryz.func85 (by kernel_rfl) (by kernel_rfl) (by kernel_rfl) .releaseMerge (by kernel_rfl) a w
theorem store_deferred (a : Addr) (x : Value) (u : FrameMode) (w : World) (hc : w.cell? a = some x) (hz : w.frozen? a = false) :
    CallsD Tryz.prog 56 #[.pointer (some a), .bool true] u w fun e u' w' => u' = u ∧ (e = .returned (.tuple #[]) ∧ w' = w.drew.setCell a (.int .u32 1)) := by
  have hc' : w.drew.cell? a = some x := by go_simp
  have hz' : w.drew.frozen? a = false := by go_simp
  have hst := run_call_store (P := Tryz.prog) Tryz.func71 (by kernel_rfl) (by kernel_rfl) (by kernel_rfl) (by kernel_rfl) (k := .u32) (y := 1) hc' hz'
  go_enter_d Tryz.func56, Tryz.ntmps56
  go_wp2
  go_region_calls
  all_goals (go_end0; exact ⟨rfl, rfl⟩)
theorem unlock_deferred (a : Addr) (u : FrameMode) (w : World) (hc : w.cell? a = some (.int .i32 1)) (hz : w.frozen? a = false) :
    CallsD Tryz.prog 55 #[.pointer (some a)] u w fun e u' w' => u' = u ∧ (e = .returned (.tuple #[]) ∧ w' = w.setCell a (.int .i32 0)) := by
  have hd := once_disable
  have he := once_enable
  have hr := once_release
  have hadd := run_call_add (P := Tryz.prog) Tryz.func86 (by kernel_rfl) (by kernel_rfl) (by kernel_rfl) .i32 (by kernel_rfl) (y := -1) (s := 0) hc hz (by simp [go_sem]; rfl)
  have hcv := run_convert_to_unsafe (P := Tryz.prog) (src := 141) (dst := 145) Tryz.underlying141 Tryz.underlying145 (by kernel_rfl) hc
  go_enter_d Tryz.func55, Tryz.ntmps55
  go_wp2
  go_end0
  go_wp2
  go_end0
  exact ⟨rfl, rfl⟩
theorem lock_free (a : Addr) (w : World) (hc : w.cell? a = some (.int .i32 0)) (hz : w.frozen? a = false) :
    Calls Tryz.prog 54 #[.pointer (some a)] w fun e w' => e = .returned (.tuple #[]) ∧ w' = w.setCell a (.int .i32 1) := by
  have hd := once_disable
  have he := once_enable
  have ha := once_acquire
  have hcas := run_call_cas_hit (P := Tryz.prog) Tryz.func81 (by kernel_rfl) (by kernel_rfl) (by kernel_rfl) .i32 (by kernel_rfl) (y := 1) hc hz
  have hc' : (w.setCell a (.int .i32 1)).cell? a = some (.int .i32 1) := World.cell?_setCell_same w a _ hc
  have hcv := run_convert_to_unsafe (P := Tryz.prog) (src := 141) (dst := 145) Tryz.underlying141 Tryz.underlying145 (by kernel_rfl) hc'
  go_enter Tryz.func54, Tryz.ntmps54
  go_wp2
  first | go_end0 | (simp only [Exit.inBlock, Exit.then]; refine bodyPost_ret (results_none rfl _ _ _) rfl ?_) | refine bodyPost_ret (results_none rfl _ _ _) rfl ?_
  go_wp2
  go_end0
  exact ⟨rfl, rfl⟩
set_option maxRecDepth 100000 in
set_option maxHeartbeats 1600000 in
theorem slow_once (B : Nat) (w : World) (h0 : w.cell? ⟨B, 0, none⟩ = some (.int .u32 0)) (h1 : w.cell? ⟨B, 0 + 1, none⟩ = some (.int .i32 0)) (f0 : w.frozen? ⟨B, 0, none⟩ = false) (f1 : w.frozen? ⟨B, 0 + 1, none⟩ = false) (R : World → Prop)
    (hcon : Calls Tryz.prog 41 #[.pointer (some ⟨B, 0, none⟩)] (w.setCell ⟨B, 0 + 1, none⟩ (.int .i32 1)) fun e w' => e = .returned (.tuple #[]) ∧ R w')
    (hR : ∀ w', R w' → w'.cell? ⟨B, 0, none⟩ = some (.int .u32 0) ∧ w'.frozen? ⟨B, 0, none⟩ = false ∧ w'.cell? ⟨B, 0 + 1, none⟩ = some (.int .i32 1) ∧ w'.frozen? ⟨B, 0 + 1, none⟩ = false) :
    Calls Tryz.prog 48 #[.pointer (some ⟨B, 0, none⟩), .func (.func 41) #[.pointer (some ⟨B, 0, none⟩)] #[]] w fun e w' => e = .returned (.tuple #[]) ∧ ∃ w2, R w2 ∧ w' = (w2.drew.setCell ⟨B, 0, none⟩ (.int .u32 1)).setCell ⟨B, 0 + 1, none⟩ (.int .i32 0) := by
  have hl := run_call_load (P := Tryz.prog) Tryz.func53 (by kernel_rfl) (by kernel_rfl) (by kernel_rfl) .u32 (by kernel_rfl) (w := w.setCell ⟨B, 0 + 1, none⟩ (.int .i32 1)) (a := ⟨B, 0, none⟩) (x := 0) ((World.cell?_setCell_other _ ⟨B, 0 + 1, none⟩ ⟨B, 0, none⟩ _ (by simp)).trans h0)
  have hnot : ∀ (x : Bool) (w : World), (Op.unary .not (.bool x)).run Tryz.prog w = .ok (.bool (!x)) w := fun _ _ => rfl
  go_enter_defers Tryz.func48, Tryz.ntmps48
  go_wp2_with (go_at_call 54; refine (lock_free ⟨B, 0 + 1, none⟩ _ h1 f1).mono ?_; rintro e w' ⟨rfl, rfl⟩)
  go_wp2_with (first | (go_at_call 41; refine hcon.mono ?_; rintro e w' ⟨rfl, hw'⟩; obtain ⟨r0, r1, r2, r3⟩ := hR w' hw') | go_in)
  refine leaves_cons (f := 56) (args := #[.pointer (some ⟨B, 0, none⟩), .bool true]) (by simp) (by simp [go_sem]) ?_
  refine (store_deferred ⟨B, 0, none⟩ (.int .u32 0) .returning _ r0 r1).mono ?_
  rintro e u' w'' ⟨rfl, rfl, rfl⟩
  refine leaves_cons (f := 55) (args := #[.pointer (some ⟨B, 0 + 1, none⟩)]) (by simp [settle]) (by simp [go_sem]) ?_
  refine (unlock_deferred ⟨B, 0 + 1, none⟩ _ _ ?_ (by simp [r3])).mono ?_
  · refine (World.cell?_setCell_other _ ⟨B, 0, none⟩ ⟨B, 0 + 1, none⟩ _ (by simp)).trans ?_
    rw [World.cell?_drew]
    exact r2
  rintro e u' w'' ⟨rfl, rfl, rfl⟩
  simp [Leaves, settle, results, Tryz.results48]
  exact ⟨_, hw', rfl⟩
end Go.Proofs.YtelbgmpeghhakaaGreat.PA
end
section
namespace Go.Proofs.YtelbgmpeghhakaaGreat.PA
open Go.RowKit Go.Proofs.YtelbgmpeghhakaaGreatW.PrintWords Go.Proofs.YtelbgmpeghhakaaGreatW.PrintLast Go.Proofs.YtelbgmpeghhakaaGreatW.PrintMore
set_option linter.unusedVariables false
set_option linter.unusedSimpArgs false
namespace GQbuild_
theorem gwagg40 : ∀ w, (isAgg 40).run Tryz.prog w = .ok false w := fun _ => by kernel_rfl
theorem gwagg67 : ∀ w, (isAgg 67).run Tryz.prog w = .ok false w := fun _ => by kernel_rfl
theorem gwagg9 : ∀ w, (isAgg 9).run Tryz.prog w = .ok false w := fun _ => by kernel_rfl
theorem gwfld108_0 (g off : Nat) : ∀ w, (Instr.fieldAt 108 (.pointer (some ⟨g, off, none⟩)) 0).run Tryz.prog w = .ok (.pointer (some ⟨g, off + 0, none⟩)) w := fun _ => by kernel_rfl
theorem gwfld108_1 (g off : Nat) : ∀ w, (Instr.fieldAt 108 (.pointer (some ⟨g, off, none⟩)) 1).run Tryz.prog w = .ok (.pointer (some ⟨g, off + 256, none⟩)) w := fun _ => by kernel_rfl
theorem gwfld83_2 (g off : Nat) : ∀ w, (Instr.fieldAt 83 (.pointer (some ⟨g, off, none⟩)) 2).run Tryz.prog w = .ok (.pointer (some ⟨g, off + 4, none⟩)) w := fun _ => by kernel_rfl
theorem gwinfo9 : (Tryz.prog.info? 9).map (fun i => (i.zero, i.size, i.bytes)) = some (some (.string (⟨#[]⟩ : ByteArray)), 1, 16) := by kernel_rfl
theorem gwsiz40 : ∀ w, (sizeOf 40).run Tryz.prog w = .ok 1 w := fun _ => by kernel_rfl
theorem gwsiz67 : ∀ w, (sizeOf 67).run Tryz.prog w = .ok 1 w := fun _ => by kernel_rfl
theorem gwsiz9 : ∀ w, (sizeOf 9).run Tryz.prog w = .ok 1 w := fun _ => by kernel_rfl
set_option maxHeartbeats 4000000 in
set_option maxRecDepth 100000 in
theorem build_walk (w0 w : World) (R : Chunk) (B : Nat) (So : Nat → Prop) (Ao : Option Addr) (co : Nat) (HO : Own w0 w [R, Bk B [.int .u32 0, .int .i32 1, .int .u32 0, .nilIface, .slice Ao 8 co] 83, Chunk.view Kd.string So Ao 8 co OLDL]) :
    Calls Tryz.prog 49 #[.pointer (some ⟨B, 0, none⟩)] w fun e w' => ∃ G Sb tb At ct St, e = .returned (.iface 109 (.pointer (some ⟨G, 0, none⟩))) ∧ Own w0 w' [Chunk.bsr G Sb tb (.slice At 4 ct), Chunk.view Kd.string St At 4 ct TRL, R, Bk B [.int .u32 0, .int .i32 1, .int .u32 0, .nilIface, .slice Ao 8 co] 83, Chunk.view Kd.string So Ao 8 co OLDL] := by
 refine gw_startO (N := 132) (vs := [.pointer (some ⟨B, 0, none⟩)]) Tryz.func49 rfl rfl (by simp) fun a HF => ?_
 refine gR fun K1 hK1 => ?_
 refine V HF (op_assign rfl (ev_c _ _)) ?_
 intro _ H3; clear HF
 refine gE hK1 ?_
 refine gR fun K4 hK4 => ?_
 refine V H3 (op_move rfl (H3.ev rfl)) ?_
 intro _ H6; clear H3
 refine V H6 (op_nil rfl (H6.ev rfl)) ?_
 intro _ H8; clear H6
 refine V H8 (op_field (gwfld83_2 _ _) rfl (H8.ev rfl)) ?_
 intro _ H10; clear H8
 refine V H10 (op_load1 gwagg67 rfl (H10.ev rfl) (blk_at (HO.get 1 rfl) rfl)) ?_
 intro _ H12; clear H10
 refine V H12 (op_assign rfl (H12.ev rfl)) ?_
 intro _ H14; clear H12
 refine gE hK4 ?_
 refine gw_seq fun K15 hK15 => ?_
 refine gR fun K16 hK16 => ?_
 refine V H14 (op_move rfl (H14.ev rfl)) ?_
 intro _ H18; clear H14
 refine V H18 (op_len Tryz.underlying67 rfl (H18.ev rfl)) ?_
 intro _ H20; clear H18
 refine V H20 (op_eqi rfl (H20.ev rfl) (ev_c _ _)) ?_
 intro _ H22; clear H20
 have H23 := H22.lit (b := false) (by decide)
 clear H22
 refine V H23 (op_move rfl (H23.ev rfl)) ?_
 intro _ H25; clear H23
 refine Vo H25 (wn H25 rfl rfl rfl rfl) ?_
 intro _ H27; clear H25
 refine Vo H27 (wn H27 rfl rfl rfl rfl) ?_
 intro _ H29; clear H27
 refine Vo H29 (wn H29 rfl rfl rfl rfl) ?_
 intro _ H31; clear H29
 refine Vo H31 (wn H31 rfl rfl rfl rfl) ?_
 intro _ H33; clear H31
 refine Vo H33 (wn H33 rfl rfl rfl rfl) ?_
 intro _ H35; clear H33
 refine V H35 (op_pick_f rfl (H35.ev rfl) (ev_c _ _)) ?_
 intro _ H37; clear H35
 refine gE hK16 ?_
 refine gw_cond H37 rfl (fun hb38 => ?_) (fun hb38 => ?_)
 skip
 ·
  cases hb38
 refine wp_skip ?_
 refine gw_nx (hK15 _ _ ?_)
 refine gR fun K39 hK39 => ?_
 refine V H37 (op_assign rfl (ev_c _ _)) ?_
 intro _ H41; clear H37
 refine gE hK39 ?_
 refine gw_seq fun K42 hK42 => ?_
 refine gR fun K43 hK43 => ?_
 refine V H41 (op_assign rfl (ev_c _ _)) ?_
 intro _ H45; clear H41
 refine gE hK43 ?_
 refine wp_block ?_
 refine gw_loop (fun m_ a_ w_ => ∃ (i : Int) (fl : Bool), Fr 132 a_ [(5, J i), (4, .bool fl), (3, .slice Ao 8 co)] ∧ Own w0 w_ [R, Bk B [.int .u32 0, .int .i32 1, .int .u32 0, .nilIface, .slice Ao 8 co] 83, Chunk.view Kd.string So Ao 8 co OLDL] ∧ ((i = 0 ∧ fl = true) ∨ (i = 2 ∧ fl = false) ∨ (i = 4 ∧ fl = false) ∨ (i = 6 ∧ fl = false) ∨ (i = 8 ∧ fl = false)) ∧ m_ = (8 - i.toNat)) ((8 - (0 : Int).toNat)) ?_ ?_
 ·
  refine ⟨0, true, (H45.pick (t := 5) rfl (H45.pick (t := 4) rfl (H45.pick (t := 3) rfl H45.nil))), HO.sel [0, 1, 2] (by decide), ?_, rfl⟩
  ·
   exact .inl ⟨rfl, rfl⟩
 ·
  rintro m47 _ w49 ⟨i, fl, H50, O51, hd, hm52⟩
  rcases hd with ⟨rfl, rfl⟩ | ⟨rfl, rfl⟩ | ⟨rfl, rfl⟩ | ⟨rfl, rfl⟩ | ⟨rfl, rfl⟩
  ·
   refine gw_seq fun K53 hK53 => ?_
   refine gR fun K54 hK54 => ?_
   refine V H50 (op_move rfl (H50.ev rfl)) ?_
   intro _ H56; clear H50
   refine V H56 (op_move rfl (H56.ev rfl)) ?_
   intro _ H58; clear H56
   refine V H58 (op_len Tryz.underlying67 rfl (H58.ev rfl)) ?_
   intro _ H60; clear H58
   refine V H60 (op_lss rfl (H60.ev rfl) (H60.ev rfl)) ?_
   intro _ H62; clear H60
   have H63 := H62.lit (b := true) (by decide)
   clear H62
   refine gE hK54 ?_
   refine gw_cond H63 rfl (fun hb64 => ?_) (fun hb64 => ?_)
   rotate_left
   ·
    cases hb64
   refine wp_skip ?_
   refine gw_nx (hK53 _ _ ?_)
   refine gw_seq fun K65 hK65 => ?_
   refine wp_block ?_
   refine gw_seq fun K66 hK66 => ?_
   refine gR fun K67 hK67 => ?_
   refine V H63 (op_move rfl (H63.ev rfl)) ?_
   intro _ H69; clear H63
   refine V H69 (op_move rfl (H69.ev rfl)) ?_
   intro _ H71; clear H69
   have O78 := O51.pin 2 rfl
   clear O51
   have O79 : Own w0 w49 [R, Bk B [.int .u32 0, .int .i32 1, .int .u32 0, .nilIface, .slice Ao 8 co] 83, Chunk.viewAt w49 Kd.string So Ao 8 co OLDL] := O78
   clear O78
   obtain ⟨ad72, cs75, hA73, hl76, hK77, hc74, _⟩ := Kd.F_get (viewAt_F (O79.get 2 rfl)) (⟨#[]⟩ : ByteArray) 0 (by omega) (by omega)
   obtain rfl := str_openF hK77
   clear hl76
   refine V H71 (op_index Tryz.underlying67 gwsiz9 rfl (H71.ev rfl) (H71.ev rfl) hA73 (⟨by omega, by omega⟩)) ?_
   intro _ H81; clear H71
   refine V H81 (op_load1 gwagg9 rfl (H81.ev rfl) (((pin_cells (O79.get 2 rfl) hA73 hc74) 0 _ rfl))) ?_
   intro _ H83; clear H81
   have H84 := H83.conv (v' := .string (⟨#[63]⟩ : ByteArray)) (rfl)
   clear H83
   refine V H84 (op_lens Tryz.underlying9 rfl (H84.ev rfl)) ?_
   intro _ H86; clear H84
   have H87 := H86.conv (v' := J 1) (rfl)
   clear H86
   refine V H87 (op_nei rfl (H87.ev rfl) (ev_c _ _)) ?_
   intro _ H89; clear H87
   have H90 := H89.lit (b := false) (by decide)
   clear H89
   refine gE hK67 ?_
   refine gw_cond H90 rfl (fun hb91 => ?_) (fun hb91 => ?_)
   skip
   ·
    cases hb91
   refine wp_skip ?_
   refine gw_nx (hK66 _ _ ?_)
   refine gR fun K92 hK92 => ?_
   refine V H90 (op_move rfl (H90.ev rfl)) ?_
   intro _ H94; clear H90
   refine V H94 (op_move rfl (H94.ev rfl)) ?_
   intro _ H96; clear H94
   refine V H96 (op_add rfl (H96.ev rfl) (ev_c _ _) (by omega)) ?_
   intro _ H98; clear H96
   have H99 := H98.conv (v' := J 1) (rfl)
   clear H98
   obtain ⟨ad100, cs103, hA101, hl104, hK105, hc102, _⟩ := Kd.F_get (viewAt_F (O79.get 2 rfl)) (⟨#[]⟩ : ByteArray) 1 (by omega) (by omega)
   obtain rfl := str_openF hK105
   clear hl104
   refine V H99 (op_index Tryz.underlying67 gwsiz9 rfl (H99.ev rfl) (H99.ev rfl) hA101 (⟨by omega, by omega⟩)) ?_
   intro _ H107; clear H99
   refine V H107 (op_load1 gwagg9 rfl (H107.ev rfl) (((pin_cells (O79.get 2 rfl) hA101 hc102) 0 _ rfl))) ?_
   intro _ H109; clear H107
   have H110 := H109.conv (v' := .string (⟨#[92, 63]⟩ : ByteArray)) (rfl)
   clear H109
   refine V H110 (op_lens Tryz.underlying9 rfl (H110.ev rfl)) ?_
   intro _ H112; clear H110
   have H113 := H112.conv (v' := J 2) (rfl)
   clear H112
   refine V H113 (op_nei rfl (H113.ev rfl) (ev_c _ _)) ?_
   intro _ H115; clear H113
   have H116 := H115.lit (b := true) (by decide)
   clear H115
   refine gE hK92 ?_
   refine gw_cond H116 rfl (fun hb117 => ?_) (fun hb117 => ?_)
   rotate_left
   ·
    cases hb117
   refine wp_region_lit ?_
   refine V H116 (op_assign rfl (ev_c _ _)) ?_
   intro _ H119; clear H116
   refine wpList_nil ?_
   refine gw_blk ?_
   refine gw_nx (hK65 _ _ ?_)
   refine wp_region_lit ?_
   refine V H119 (op_move rfl (H119.ev rfl)) ?_
   intro _ H121; clear H119
   refine V H121 (op_add rfl (H121.ev rfl) (ev_c _ _) (by omega)) ?_
   intro _ H123; clear H121
   have H124 := H123.conv (v' := J 2) (rfl)
   clear H123
   refine V H124 (op_assign rfl (H124.ev rfl)) ?_
   intro _ H126; clear H124
   refine wpList_nil ?_
   have O127 := O79.unpin 2 rfl
   clear O79
   have O128 : Own w0 w49 [R, Bk B [.int .u32 0, .int .i32 1, .int .u32 0, .nilIface, .slice Ao 8 co] 83, Chunk.view Kd.string So Ao 8 co OLDL] := O127
   clear O127
   refine gw_nx ⟨_, ?_, 2, false, (H126.pick (t := 5) rfl (H126.pick (t := 4) rfl (H126.pick (t := 3) rfl H126.nil))), O128.sel [0, 1, 2] (by decide), ?_, rfl⟩
   ·
    rw [hm52]; decide
   ·
    exact .inr (.inl ⟨rfl, rfl⟩)
  ·
   refine gw_seq fun K129 hK129 => ?_
   refine gR fun K130 hK130 => ?_
   refine V H50 (op_move rfl (H50.ev rfl)) ?_
   intro _ H132; clear H50
   refine V H132 (op_move rfl (H132.ev rfl)) ?_
   intro _ H134; clear H132
   refine V H134 (op_len Tryz.underlying67 rfl (H134.ev rfl)) ?_
   intro _ H136; clear H134
   refine V H136 (op_lss rfl (H136.ev rfl) (H136.ev rfl)) ?_
   intro _ H138; clear H136
   have H139 := H138.lit (b := true) (by decide)
   clear H138
   refine gE hK130 ?_
   refine gw_cond H139 rfl (fun hb140 => ?_) (fun hb140 => ?_)
   rotate_left
   ·
    cases hb140
   refine wp_skip ?_
   refine gw_nx (hK129 _ _ ?_)
   refine gw_seq fun K141 hK141 => ?_
   refine wp_block ?_
   refine gw_seq fun K142 hK142 => ?_
   refine gR fun K143 hK143 => ?_
   refine V H139 (op_move rfl (H139.ev rfl)) ?_
   intro _ H145; clear H139
   refine V H145 (op_move rfl (H145.ev rfl)) ?_
   intro _ H147; clear H145
   have O154 := O51.pin 2 rfl
   clear O51
   have O155 : Own w0 w49 [R, Bk B [.int .u32 0, .int .i32 1, .int .u32 0, .nilIface, .slice Ao 8 co] 83, Chunk.viewAt w49 Kd.string So Ao 8 co OLDL] := O154
   clear O154
   obtain ⟨ad148, cs151, hA149, hl152, hK153, hc150, _⟩ := Kd.F_get (viewAt_F (O155.get 2 rfl)) (⟨#[]⟩ : ByteArray) 2 (by omega) (by omega)
   obtain rfl := str_openF hK153
   clear hl152
   refine V H147 (op_index Tryz.underlying67 gwsiz9 rfl (H147.ev rfl) (H147.ev rfl) hA149 (⟨by omega, by omega⟩)) ?_
   intro _ H157; clear H147
   refine V H157 (op_load1 gwagg9 rfl (H157.ev rfl) (((pin_cells (O155.get 2 rfl) hA149 hc150) 0 _ rfl))) ?_
   intro _ H159; clear H157
   have H160 := H159.conv (v' := .string (⟨#[42]⟩ : ByteArray)) (rfl)
   clear H159
   refine V H160 (op_lens Tryz.underlying9 rfl (H160.ev rfl)) ?_
   intro _ H162; clear H160
   have H163 := H162.conv (v' := J 1) (rfl)
   clear H162
   refine V H163 (op_nei rfl (H163.ev rfl) (ev_c _ _)) ?_
   intro _ H165; clear H163
   have H166 := H165.lit (b := false) (by decide)
   clear H165
   refine gE hK143 ?_
   refine gw_cond H166 rfl (fun hb167 => ?_) (fun hb167 => ?_)
   skip
   ·
    cases hb167
   refine wp_skip ?_
   refine gw_nx (hK142 _ _ ?_)
   refine gR fun K168 hK168 => ?_
   refine V H166 (op_move rfl (H166.ev rfl)) ?_
   intro _ H170; clear H166
   refine V H170 (op_move rfl (H170.ev rfl)) ?_
   intro _ H172; clear H170
   refine V H172 (op_add rfl (H172.ev rfl) (ev_c _ _) (by omega)) ?_
   intro _ H174; clear H172
   have H175 := H174.conv (v' := J 3) (rfl)
   clear H174
   obtain ⟨ad176, cs179, hA177, hl180, hK181, hc178, _⟩ := Kd.F_get (viewAt_F (O155.get 2 rfl)) (⟨#[]⟩ : ByteArray) 3 (by omega) (by omega)
   obtain rfl := str_openF hK181
   clear hl180
   refine V H175 (op_index Tryz.underlying67 gwsiz9 rfl (H175.ev rfl) (H175.ev rfl) hA177 (⟨by omega, by omega⟩)) ?_
   intro _ H183; clear H175
   refine V H183 (op_load1 gwagg9 rfl (H183.ev rfl) (((pin_cells (O155.get 2 rfl) hA177 hc178) 0 _ rfl))) ?_
   intro _ H185; clear H183
   have H186 := H185.conv (v' := .string (⟨#[92, 42]⟩ : ByteArray)) (rfl)
   clear H185
   refine V H186 (op_lens Tryz.underlying9 rfl (H186.ev rfl)) ?_
   intro _ H188; clear H186
   have H189 := H188.conv (v' := J 2) (rfl)
   clear H188
   refine V H189 (op_nei rfl (H189.ev rfl) (ev_c _ _)) ?_
   intro _ H191; clear H189
   have H192 := H191.lit (b := true) (by decide)
   clear H191
   refine gE hK168 ?_
   refine gw_cond H192 rfl (fun hb193 => ?_) (fun hb193 => ?_)
   rotate_left
   ·
    cases hb193
   refine wp_region_lit ?_
   refine V H192 (op_assign rfl (ev_c _ _)) ?_
   intro _ H195; clear H192
   refine wpList_nil ?_
   refine gw_blk ?_
   refine gw_nx (hK141 _ _ ?_)
   refine wp_region_lit ?_
   refine V H195 (op_move rfl (H195.ev rfl)) ?_
   intro _ H197; clear H195
   refine V H197 (op_add rfl (H197.ev rfl) (ev_c _ _) (by omega)) ?_
   intro _ H199; clear H197
   have H200 := H199.conv (v' := J 4) (rfl)
   clear H199
   refine V H200 (op_assign rfl (H200.ev rfl)) ?_
   intro _ H202; clear H200
   refine wpList_nil ?_
   have O203 := O155.unpin 2 rfl
   clear O155
   have O204 : Own w0 w49 [R, Bk B [.int .u32 0, .int .i32 1, .int .u32 0, .nilIface, .slice Ao 8 co] 83, Chunk.view Kd.string So Ao 8 co OLDL] := O203
   clear O203
   refine gw_nx ⟨_, ?_, 4, false, (H202.pick (t := 5) rfl (H202.pick (t := 4) rfl (H202.pick (t := 3) rfl H202.nil))), O204.sel [0, 1, 2] (by decide), ?_, rfl⟩
   ·
    rw [hm52]; decide
   ·
    exact .inr (.inr (.inl ⟨rfl, rfl⟩))
  ·
   refine gw_seq fun K205 hK205 => ?_
   refine gR fun K206 hK206 => ?_
   refine V H50 (op_move rfl (H50.ev rfl)) ?_
   intro _ H208; clear H50
   refine V H208 (op_move rfl (H208.ev rfl)) ?_
   intro _ H210; clear H208
   refine V H210 (op_len Tryz.underlying67 rfl (H210.ev rfl)) ?_
   intro _ H212; clear H210
   refine V H212 (op_lss rfl (H212.ev rfl) (H212.ev rfl)) ?_
   intro _ H214; clear H212
   have H215 := H214.lit (b := true) (by decide)
   clear H214
   refine gE hK206 ?_
   refine gw_cond H215 rfl (fun hb216 => ?_) (fun hb216 => ?_)
   rotate_left
   ·
    cases hb216
   refine wp_skip ?_
   refine gw_nx (hK205 _ _ ?_)
   refine gw_seq fun K217 hK217 => ?_
   refine wp_block ?_
   refine gw_seq fun K218 hK218 => ?_
   refine gR fun K219 hK219 => ?_
   refine V H215 (op_move rfl (H215.ev rfl)) ?_
   intro _ H221; clear H215
   refine V H221 (op_move rfl (H221.ev rfl)) ?_
   intro _ H223; clear H221
   have O230 := O51.pin 2 rfl
   clear O51
   have O231 : Own w0 w49 [R, Bk B [.int .u32 0, .int .i32 1, .int .u32 0, .nilIface, .slice Ao 8 co] 83, Chunk.viewAt w49 Kd.string So Ao 8 co OLDL] := O230
   clear O230
   obtain ⟨ad224, cs227, hA225, hl228, hK229, hc226, _⟩ := Kd.F_get (viewAt_F (O231.get 2 rfl)) (⟨#[]⟩ : ByteArray) 4 (by omega) (by omega)
   obtain rfl := str_openF hK229
   clear hl228
   refine V H223 (op_index Tryz.underlying67 gwsiz9 rfl (H223.ev rfl) (H223.ev rfl) hA225 (⟨by omega, by omega⟩)) ?_
   intro _ H233; clear H223
   refine V H233 (op_load1 gwagg9 rfl (H233.ev rfl) (((pin_cells (O231.get 2 rfl) hA225 hc226) 0 _ rfl))) ?_
   intro _ H235; clear H233
   have H236 := H235.conv (v' := .string (⟨#[91]⟩ : ByteArray)) (rfl)
   clear H235
   refine V H236 (op_lens Tryz.underlying9 rfl (H236.ev rfl)) ?_
   intro _ H238; clear H236
   have H239 := H238.conv (v' := J 1) (rfl)
   clear H238
   refine V H239 (op_nei rfl (H239.ev rfl) (ev_c _ _)) ?_
   intro _ H241; clear H239
   have H242 := H241.lit (b := false) (by decide)
   clear H241
   refine gE hK219 ?_
   refine gw_cond H242 rfl (fun hb243 => ?_) (fun hb243 => ?_)
   skip
   ·
    cases hb243
   refine wp_skip ?_
   refine gw_nx (hK218 _ _ ?_)
   refine gR fun K244 hK244 => ?_
   refine V H242 (op_move rfl (H242.ev rfl)) ?_
   intro _ H246; clear H242
   refine V H246 (op_move rfl (H246.ev rfl)) ?_
   intro _ H248; clear H246
   refine V H248 (op_add rfl (H248.ev rfl) (ev_c _ _) (by omega)) ?_
   intro _ H250; clear H248
   have H251 := H250.conv (v' := J 5) (rfl)
   clear H250
   obtain ⟨ad252, cs255, hA253, hl256, hK257, hc254, _⟩ := Kd.F_get (viewAt_F (O231.get 2 rfl)) (⟨#[]⟩ : ByteArray) 5 (by omega) (by omega)
   obtain rfl := str_openF hK257
   clear hl256
   refine V H251 (op_index Tryz.underlying67 gwsiz9 rfl (H251.ev rfl) (H251.ev rfl) hA253 (⟨by omega, by omega⟩)) ?_
   intro _ H259; clear H251
   refine V H259 (op_load1 gwagg9 rfl (H259.ev rfl) (((pin_cells (O231.get 2 rfl) hA253 hc254) 0 _ rfl))) ?_
   intro _ H261; clear H259
   have H262 := H261.conv (v' := .string (⟨#[92, 91]⟩ : ByteArray)) (rfl)
   clear H261
   refine V H262 (op_lens Tryz.underlying9 rfl (H262.ev rfl)) ?_
   intro _ H264; clear H262
   have H265 := H264.conv (v' := J 2) (rfl)
   clear H264
   refine V H265 (op_nei rfl (H265.ev rfl) (ev_c _ _)) ?_
   intro _ H267; clear H265
   have H268 := H267.lit (b := true) (by decide)
   clear H267
   refine gE hK244 ?_
   refine gw_cond H268 rfl (fun hb269 => ?_) (fun hb269 => ?_)
   rotate_left
   ·
    cases hb269
   refine wp_region_lit ?_
   refine V H268 (op_assign rfl (ev_c _ _)) ?_
   intro _ H271; clear H268
   refine wpList_nil ?_
   refine gw_blk ?_
   refine gw_nx (hK217 _ _ ?_)
   refine wp_region_lit ?_
   refine V H271 (op_move rfl (H271.ev rfl)) ?_
   intro _ H273; clear H271
   refine V H273 (op_add rfl (H273.ev rfl) (ev_c _ _) (by omega)) ?_
   intro _ H275; clear H273
   have H276 := H275.conv (v' := J 6) (rfl)
   clear H275
   refine V H276 (op_assign rfl (H276.ev rfl)) ?_
   intro _ H278; clear H276
   refine wpList_nil ?_
   have O279 := O231.unpin 2 rfl
   clear O231
   have O280 : Own w0 w49 [R, Bk B [.int .u32 0, .int .i32 1, .int .u32 0, .nilIface, .slice Ao 8 co] 83, Chunk.view Kd.string So Ao 8 co OLDL] := O279
   clear O279
   refine gw_nx ⟨_, ?_, 6, false, (H278.pick (t := 5) rfl (H278.pick (t := 4) rfl (H278.pick (t := 3) rfl H278.nil))), O280.sel [0, 1, 2] (by decide), ?_, rfl⟩
   ·
    rw [hm52]; decide
   ·
    exact .inr (.inr (.inr (.inl ⟨rfl, rfl⟩)))
  ·
   refine gw_seq fun K281 hK281 => ?_
   refine gR fun K282 hK282 => ?_
   refine V H50 (op_move rfl (H50.ev rfl)) ?_
   intro _ H284; clear H50
   refine V H284 (op_move rfl (H284.ev rfl)) ?_
   intro _ H286; clear H284
   refine V H286 (op_len Tryz.underlying67 rfl (H286.ev rfl)) ?_
   intro _ H288; clear H286
   refine V H288 (op_lss rfl (H288.ev rfl) (H288.ev rfl)) ?_
   intro _ H290; clear H288
   have H291 := H290.lit (b := true) (by decide)
   clear H290
   refine gE hK282 ?_
   refine gw_cond H291 rfl (fun hb292 => ?_) (fun hb292 => ?_)
   rotate_left
   ·
    cases hb292
   refine wp_skip ?_
   refine gw_nx (hK281 _ _ ?_)
   refine gw_seq fun K293 hK293 => ?_
   refine wp_block ?_
   refine gw_seq fun K294 hK294 => ?_
   refine gR fun K295 hK295 => ?_
   refine V H291 (op_move rfl (H291.ev rfl)) ?_
   intro _ H297; clear H291
   refine V H297 (op_move rfl (H297.ev rfl)) ?_
   intro _ H299; clear H297
   have O306 := O51.pin 2 rfl
   clear O51
   have O307 : Own w0 w49 [R, Bk B [.int .u32 0, .int .i32 1, .int .u32 0, .nilIface, .slice Ao 8 co] 83, Chunk.viewAt w49 Kd.string So Ao 8 co OLDL] := O306
   clear O306
   obtain ⟨ad300, cs303, hA301, hl304, hK305, hc302, _⟩ := Kd.F_get (viewAt_F (O307.get 2 rfl)) (⟨#[]⟩ : ByteArray) 6 (by omega) (by omega)
   obtain rfl := str_openF hK305
   clear hl304
   refine V H299 (op_index Tryz.underlying67 gwsiz9 rfl (H299.ev rfl) (H299.ev rfl) hA301 (⟨by omega, by omega⟩)) ?_
   intro _ H309; clear H299
   refine V H309 (op_load1 gwagg9 rfl (H309.ev rfl) (((pin_cells (O307.get 2 rfl) hA301 hc302) 0 _ rfl))) ?_
   intro _ H311; clear H309
   have H312 := H311.conv (v' := .string (⟨#[92]⟩ : ByteArray)) (rfl)
   clear H311
   refine V H312 (op_lens Tryz.underlying9 rfl (H312.ev rfl)) ?_
   intro _ H314; clear H312
   have H315 := H314.conv (v' := J 1) (rfl)
   clear H314
   refine V H315 (op_nei rfl (H315.ev rfl) (ev_c _ _)) ?_
   intro _ H317; clear H315
   have H318 := H317.lit (b := false) (by decide)
   clear H317
   refine gE hK295 ?_
   refine gw_cond H318 rfl (fun hb319 => ?_) (fun hb319 => ?_)
   skip
   ·
    cases hb319
   refine wp_skip ?_
   refine gw_nx (hK294 _ _ ?_)
   refine gR fun K320 hK320 => ?_
   refine V H318 (op_move rfl (H318.ev rfl)) ?_
   intro _ H322; clear H318
   refine V H322 (op_move rfl (H322.ev rfl)) ?_
   intro _ H324; clear H322
   refine V H324 (op_add rfl (H324.ev rfl) (ev_c _ _) (by omega)) ?_
   intro _ H326; clear H324
   have H327 := H326.conv (v' := J 7) (rfl)
   clear H326
   obtain ⟨ad328, cs331, hA329, hl332, hK333, hc330, _⟩ := Kd.F_get (viewAt_F (O307.get 2 rfl)) (⟨#[]⟩ : ByteArray) 7 (by omega) (by omega)
   obtain rfl := str_openF hK333
   clear hl332
   refine V H327 (op_index Tryz.underlying67 gwsiz9 rfl (H327.ev rfl) (H327.ev rfl) hA329 (⟨by omega, by omega⟩)) ?_
   intro _ H335; clear H327
   refine V H335 (op_load1 gwagg9 rfl (H335.ev rfl) (((pin_cells (O307.get 2 rfl) hA329 hc330) 0 _ rfl))) ?_
   intro _ H337; clear H335
   have H338 := H337.conv (v' := .string (⟨#[92, 92]⟩ : ByteArray)) (rfl)
   clear H337
   refine V H338 (op_lens Tryz.underlying9 rfl (H338.ev rfl)) ?_
   intro _ H340; clear H338
   have H341 := H340.conv (v' := J 2) (rfl)
   clear H340
   refine V H341 (op_nei rfl (H341.ev rfl) (ev_c _ _)) ?_
   intro _ H343; clear H341
   have H344 := H343.lit (b := true) (by decide)
   clear H343
   refine gE hK320 ?_
   refine gw_cond H344 rfl (fun hb345 => ?_) (fun hb345 => ?_)
   rotate_left
   ·
    cases hb345
   refine wp_region_lit ?_
   refine V H344 (op_assign rfl (ev_c _ _)) ?_
   intro _ H347; clear H344
   refine wpList_nil ?_
   refine gw_blk ?_
   refine gw_nx (hK293 _ _ ?_)
   refine wp_region_lit ?_
   refine V H347 (op_move rfl (H347.ev rfl)) ?_
   intro _ H349; clear H347
   refine V H349 (op_add rfl (H349.ev rfl) (ev_c _ _) (by omega)) ?_
   intro _ H351; clear H349
   have H352 := H351.conv (v' := J 8) (rfl)
   clear H351
   refine V H352 (op_assign rfl (H352.ev rfl)) ?_
   intro _ H354; clear H352
   refine wpList_nil ?_
   have O355 := O307.unpin 2 rfl
   clear O307
   have O356 : Own w0 w49 [R, Bk B [.int .u32 0, .int .i32 1, .int .u32 0, .nilIface, .slice Ao 8 co] 83, Chunk.view Kd.string So Ao 8 co OLDL] := O355
   clear O355
   refine gw_nx ⟨_, ?_, 8, false, (H354.pick (t := 5) rfl (H354.pick (t := 4) rfl (H354.pick (t := 3) rfl H354.nil))), O356.sel [0, 1, 2] (by decide), ?_, rfl⟩
   ·
    rw [hm52]; decide
   ·
    exact .inr (.inr (.inr (.inr (⟨rfl, rfl⟩))))
  ·
   refine gw_seq fun K357 hK357 => ?_
   refine gR fun K358 hK358 => ?_
   refine V H50 (op_move rfl (H50.ev rfl)) ?_
   intro _ H360; clear H50
   refine V H360 (op_move rfl (H360.ev rfl)) ?_
   intro _ H362; clear H360
   refine V H362 (op_len Tryz.underlying67 rfl (H362.ev rfl)) ?_
   intro _ H364; clear H362
   refine V H364 (op_lss rfl (H364.ev rfl) (H364.ev rfl)) ?_
   intro _ H366; clear H364
   have H367 := H366.lit (b := false) (by decide)
   clear H366
   refine gE hK358 ?_
   refine gw_cond H367 rfl (fun hb368 => ?_) (fun hb368 => ?_)
   skip
   ·
    cases hb368
   refine wp_exit ?_
   refine gw_thx ?_
   refine gw_thx ?_
   refine gw_in ?_
   refine gw_nx (hK42 _ _ ?_)
   refine gw_seq fun K369 hK369 => ?_
   refine gR fun K370 hK370 => ?_
   refine V H367 (op_move rfl (H367.ev rfl)) ?_
   intro _ H372; clear H367
   refine gE hK370 ?_
   refine gw_cond H372 rfl (fun hb373 => ?_) (fun hb373 => ?_)
   skip
   ·
    cases hb373
   refine wp_skip ?_
   refine gw_nx (hK369 _ _ ?_)
   refine gR fun K374 hK374 => ?_
   refine V H372 (op_move rfl (H372.ev rfl)) ?_
   intro _ H376; clear H372
   refine V H376 (op_len Tryz.underlying67 rfl (H376.ev rfl)) ?_
   intro _ H378; clear H376
   refine V H378 (op_quo rfl (H378.ev rfl) (ev_c _ _) (by omega)) ?_
   intro _ H380; clear H378
   have H381 := H380.conv (v' := J 4) (rfl)
   clear H380
   refine gw_make04 H381 O51 (want_none rfl) rfl (by decide) (op_make04 Tryz.underlying67 gwinfo9 rfl rfl (ev_c _ _) (H381.ev rfl)) ?_
   intro A382 S383 _ w385 H386 O387; clear H381 O51
   have O388 : Own w0 w385 [Chunk.row Kd.string 9 w0.heap.size S383 (.slice A382 (([] : List ByteArray).length) 4) ([] : List ByteArray), R, Bk B [.int .u32 0, .int .i32 1, .int .u32 0, .nilIface, .slice Ao 8 co] 83, Chunk.view Kd.string So Ao 8 co OLDL] := O387
   clear O387
   refine V H386 (op_build (cells := (tabC [] (.slice A382 (([] : List ByteArray).length) 4)).toArray) rfl (pt_cons (H386.ev rfl) pt_nil) (by kernel_rfl)) ?_
   intro _ H390; clear H386
   refine gw_new H390 O388 (want_none rfl) rfl (by decide) (op_alloc (z := .agg (tabC [] nilS).toArray) (fun _ => by kernel_rfl) rfl) ?_
   intro g391 _ w393 H394 O395; clear H390 O388
   have O396 : Own w0 w393 [Chunk.blk g391 (.cells (tabC [] nilS).toArray 108 (0, 0)), Chunk.row Kd.string 9 w0.heap.size S383 (.slice A382 (([] : List ByteArray).length) 4) ([] : List ByteArray), R, Bk B [.int .u32 0, .int .i32 1, .int .u32 0, .nilIface, .slice Ao 8 co] 83, Chunk.view Kd.string So Ao 8 co OLDL] := O395
   clear O395
   refine gw_setn (cs' := (tabC [] (.slice A382 (([] : List ByteArray).length) 4)).toArray) 0 H394 O396 rfl (want_none rfl) rfl (op_tab0 (tr := .slice A382 (([] : List ByteArray).length) 4) (fun _ => by kernel_rfl) rfl (H394.ev rfl) (H394.ev rfl) (O396.get 0 rfl) (by rw [List.size_toArray, tabC_len]) rfl) ?_
   intro _ w399 H398 O400; clear H394 O396
   have O401 := Own.tab_new O400 0 rfl
   clear O400
   have O402 : Own w0 w399 [Chunk.bsrP g391 (fun k => k = g391) ([]) (.slice A382 (([] : List ByteArray).length) 4) ([] : List Int), Chunk.row Kd.string 9 w0.heap.size S383 (.slice A382 (([] : List ByteArray).length) 4) ([] : List ByteArray), R, Bk B [.int .u32 0, .int .i32 1, .int .u32 0, .nilIface, .slice Ao 8 co] 83, Chunk.view Kd.string So Ao 8 co OLDL] := O401
   clear O401
   refine gE hK374 ?_
   refine gw_seq fun K403 hK403 => ?_
   refine gR fun K404 hK404 => ?_
   refine V H398 (op_move rfl (H398.ev rfl)) ?_
   intro _ H406; clear H398
   refine V H406 (op_len Tryz.underlying67 rfl (H406.ev rfl)) ?_
   intro _ H408; clear H406
   refine V H408 (op_sub rfl (H408.ev rfl) (ev_c _ _) (by omega)) ?_
   intro _ H410; clear H408
   have H411 := H410.conv (v' := J 6) (rfl)
   clear H410
   refine V H411 (op_assign rfl (H411.ev rfl)) ?_
   intro _ H413; clear H411
   refine gE hK404 ?_
   refine wp_block ?_
   refine gw_loop (fun m_ a_ w_ => ∃ (i : Int) (K : List Int) (tl : List ByteArray) (tb : List (Int × Value)) (Sb : Nat → Prop) (At : Option Addr) (ct : Nat) (St : Nat → Prop), Fr 132 a_ [(12, J i), (3, .slice Ao 8 co), (11, .pointer (some ⟨g391, 0, none⟩))] ∧ Own w0 w_ [R, Bk B [.int .u32 0, .int .i32 1, .int .u32 0, .nilIface, .slice Ao 8 co] 83, Chunk.view Kd.string So Ao 8 co OLDL, Chunk.row Kd.string 9 w0.heap.size St (.slice At tl.length ct) tl, Chunk.bsrP g391 Sb tb (.slice At tl.length ct) K] ∧ ((i = 6 ∧ K = [] ∧ tl = ([] : List ByteArray)) ∨ (i = 4 ∧ K = [92] ∧ tl = [(⟨#[92]⟩ : ByteArray)]) ∨ (i = 2 ∧ K = [91, 92] ∧ tl = [(⟨#[92]⟩ : ByteArray), (⟨#[91]⟩ : ByteArray)]) ∨ (i = 0 ∧ K = [42, 91, 92] ∧ tl = [(⟨#[92]⟩ : ByteArray), (⟨#[91]⟩ : ByteArray), (⟨#[42]⟩ : ByteArray)]) ∨ (i = -2 ∧ K = [63, 42, 91, 92] ∧ tl = [(⟨#[92]⟩ : ByteArray), (⟨#[91]⟩ : ByteArray), (⟨#[42]⟩ : ByteArray), (⟨#[63]⟩ : ByteArray)])) ∧ m_ = (i + 2).toNat) (((6 : Int) + 2).toNat) ?_ ?_
   ·
    refine ⟨6, [], ([] : List ByteArray), [], _, A382, 4, _, (H413.pick (t := 12) rfl (H413.pick (t := 3) rfl (H413.pick (t := 11) rfl H413.nil))), O402.sel [2, 3, 4, 1, 0] (by decide), ?_, rfl⟩
    ·
     exact .inl ⟨rfl, rfl, rfl⟩
   ·
    rintro m415 _ w417 ⟨i, K, tl, tb, Sb, At, ct, St, H418, O419, hd, hm420⟩
    rcases hd with ⟨rfl, rfl, rfl⟩ | ⟨rfl, rfl, rfl⟩ | ⟨rfl, rfl, rfl⟩ | ⟨rfl, rfl, rfl⟩ | ⟨rfl, rfl, rfl⟩
    ·
     refine gw_seq fun K421 hK421 => ?_
     refine gR fun K422 hK422 => ?_
     refine V H418 (op_move rfl (H418.ev rfl)) ?_
     intro _ H424; clear H418
     refine V H424 (op_geq rfl (H424.ev rfl) (ev_c _ _)) ?_
     intro _ H426; clear H424
     have H427 := H426.lit (b := true) (by decide)
     clear H426
     refine gE hK422 ?_
     refine gw_cond H427 rfl (fun hb428 => ?_) (fun hb428 => ?_)
     rotate_left
     ·
      cases hb428
     refine wp_skip ?_
     refine gw_nx (hK421 _ _ ?_)
     refine gw_seq fun K429 hK429 => ?_
     refine wp_block ?_
     refine gR fun K430 hK430 => ?_
     refine V H427 (op_move rfl (H427.ev rfl)) ?_
     intro _ H432; clear H427
     refine V H432 (op_move rfl (H432.ev rfl)) ?_
     intro _ H434; clear H432
     have O441 := O419.pin 2 rfl
     clear O419
     have O442 : Own w0 w417 [R, Bk B [.int .u32 0, .int .i32 1, .int .u32 0, .nilIface, .slice Ao 8 co] 83, Chunk.viewAt w417 Kd.string So Ao 8 co OLDL, Chunk.row Kd.string 9 w0.heap.size St (.slice At ((([] : List ByteArray)).length) ct) ([] : List ByteArray), Chunk.bsrP g391 Sb tb (.slice At ((([] : List ByteArray)).length) ct) ([] : List Int)] := O441
     clear O441
     obtain ⟨ad435, cs438, hA436, hl439, hK440, hc437, _⟩ := Kd.F_get (viewAt_F (O442.get 2 rfl)) (⟨#[]⟩ : ByteArray) 6 (by omega) (by omega)
     obtain rfl := str_openF hK440
     clear hl439
     refine V H434 (op_index Tryz.underlying67 gwsiz9 rfl (H434.ev rfl) (H434.ev rfl) hA436 (⟨by omega, by omega⟩)) ?_
     intro _ H444; clear H434
     refine V H444 (op_load1 gwagg9 rfl (H444.ev rfl) (((pin_cells (O442.get 2 rfl) hA436 hc437) 0 _ rfl))) ?_
     intro _ H446; clear H444
     have H447 := H446.conv (v' := .string (⟨#[92]⟩ : ByteArray)) (rfl)
     clear H446
     refine V H447 (op_sidx Tryz.underlying9 rfl (H447.ev rfl) (ev_c _ _) ⟨by decide, by decide⟩) ?_
     intro _ H449; clear H447
     have H450 := H449.conv (v' := .int .u8 92) (rfl)
     clear H449
     refine V H450 (op_assign rfl (H450.ev rfl)) ?_
     intro _ H452; clear H450
     refine gE hK430 ?_
     refine gR fun K453 hK453 => ?_
     refine V H452 (op_move rfl (H452.ev rfl)) ?_
     intro _ H455; clear H452
     refine V H455 (op_move rfl (H455.ev rfl)) ?_
     intro _ H457; clear H455
     refine V H457 (op_add rfl (H457.ev rfl) (ev_c _ _) (by omega)) ?_
     intro _ H459; clear H457
     have H460 := H459.conv (v' := J 7) (rfl)
     clear H459
     obtain ⟨ad461, cs464, hA462, hl465, hK466, hc463, _⟩ := Kd.F_get (viewAt_F (O442.get 2 rfl)) (⟨#[]⟩ : ByteArray) 7 (by omega) (by omega)
     obtain rfl := str_openF hK466
     clear hl465
     refine V H460 (op_index Tryz.underlying67 gwsiz9 rfl (H460.ev rfl) (H460.ev rfl) hA462 (⟨by omega, by omega⟩)) ?_
     intro _ H468; clear H460
     refine V H468 (op_load1 gwagg9 rfl (H468.ev rfl) (((pin_cells (O442.get 2 rfl) hA462 hc463) 0 _ rfl))) ?_
     intro _ H470; clear H468
     have H471 := H470.conv (v' := .string (⟨#[92, 92]⟩ : ByteArray)) (rfl)
     clear H470
     refine V H471 (op_assign rfl (H471.ev rfl)) ?_
     intro _ H473; clear H471
     refine gE hK453 ?_
     refine gw_seq fun K474 hK474 => ?_
     refine gR fun K475 hK475 => ?_
     refine V H473 (op_move rfl (H473.ev rfl)) ?_
     intro _ H477; clear H473
     refine V H477 (op_field (gwfld108_0 _ _) rfl (H477.ev rfl)) ?_
     intro _ H479; clear H477
     refine V H479 (op_indexP (q := 92) Tryz.underlying106 gwsiz40 rfl (H479.ev rfl) (H479.ev rfl) (by decide) rfl) ?_
     intro _ H481; clear H479
     refine V H481 (op_load1 gwagg40 rfl (H481.ev rfl) ((blk_at (bsrP_blk (O442.get 4 rfl)) (tabC_get _ _ (92 : Int) ⟨by decide, by decide⟩)).trans (congrArg some (bsrP_none (O442.get 4 rfl) (92 : Int) (by decide))))) ?_
     intro _ H483; clear H481
     refine V H483 (op_bin_run (r := .bool true) rfl (H483.ev rfl) (ev_c _ _) (by kernel_rfl)) ?_
     intro _ H485; clear H483
     refine gE hK475 ?_
     refine gw_cond H485 rfl (fun hb486 => ?_) (fun hb486 => ?_)
     rotate_left
     ·
      cases hb486
     refine wp_region_lit ?_
     refine V H485 (op_field (gwfld108_1 _ _) rfl (H485.ev rfl)) ?_
     intro _ H488; clear H485
     refine V H488 (op_load1 gwagg67 rfl (H488.ev rfl) (blk_at (bsrP_blk (O442.get 4 rfl)) (tabC_last _ _))) ?_
     intro _ H490; clear H488
     refine V H490 (op_move rfl (H490.ev rfl)) ?_
     intro _ H492; clear H490
     refine gw_lit (enc := Value.int .u8) (fun _ => rfl) (xs := [92]) (e := 5) H492 O442 (want_none rfl) rfl (by decide) (op_bslice (by kernel_rfl) rfl (pt_cons (H492.ev rfl) pt_nil)) (by simp) ?_
     intro A493 S494 _ w496 H497 O498; clear H492 O442
     have O499 : Own w0 w496 [Chunk.row (Kd.int .u8) 5 w0.heap.size S494 (.slice A493 (([92]).length) (([92]).length)) ([92]), R, Bk B [.int .u32 0, .int .i32 1, .int .u32 0, .nilIface, .slice Ao 8 co] 83, Chunk.viewAt w417 Kd.string So Ao 8 co OLDL, Chunk.row Kd.string 9 w0.heap.size St (.slice At ((([] : List ByteArray)).length) ct) ([] : List ByteArray), Chunk.bsrP g391 Sb tb (.slice At ((([] : List ByteArray)).length) ct) ([] : List Int)] := O498
     clear O498
     refine V H497 (op_conv_str Tryz.underlying40 Tryz.underlying5 Tryz.underlying9 (Kd.R_reads' (O499.get 0 rfl)).2.2 rfl (H497.ev rfl)) ?_
     intro _ H501; clear H497
     have H502 := H501.conv (v' := .string (⟨#[92]⟩ : ByteArray)) (rfl)
     clear H501
     refine gw_lit (enc := Value.string) (fun _ => rfl) (xs := [(⟨#[92]⟩ : ByteArray)]) (e := 9) H502 O499 (want_none rfl) rfl (by decide) (op_bslice (by kernel_rfl) rfl (pt_cons (H502.ev rfl) pt_nil)) (by simp) ?_
     intro A503 S504 _ w506 H507 O508; clear H502 O499
     have O509 : Own w0 w506 [Chunk.row Kd.string 9 w0.heap.size S504 (.slice A503 (([(⟨#[92]⟩ : ByteArray)]).length) (([(⟨#[92]⟩ : ByteArray)]).length)) ([(⟨#[92]⟩ : ByteArray)]), Chunk.row (Kd.int .u8) 5 w0.heap.size S494 (.slice A493 (([92]).length) (([92]).length)) ([92]), R, Bk B [.int .u32 0, .int .i32 1, .int .u32 0, .nilIface, .slice Ao 8 co] 83, Chunk.viewAt w417 Kd.string So Ao 8 co OLDL, Chunk.row Kd.string 9 w0.heap.size St (.slice At ((([] : List ByteArray)).length) ct) ([] : List ByteArray), Chunk.bsrP g391 Sb tb (.slice At ((([] : List ByteArray)).length) ct) ([] : List Int)] := O508
     clear O508
     refine gw_append Kd.string 5 H507 O509 (want_none rfl) rfl (by decide) rfl Tryz.underlying67 gwinfo9 rfl (by decide) (by decide) rfl (H507.ev rfl) (H507.ev rfl) (Kd.R_reads' (O509.get 0 rfl)).2.2 (fun _ _ h => h) O509.below.size (by simp) ?_
     intro A510 c511 S512 _ w514 H515 O516; clear H507 O509
     have O517 : Own w0 w514 [Chunk.row Kd.string 9 w0.heap.size S504 (.slice A503 (([(⟨#[92]⟩ : ByteArray)]).length) (([(⟨#[92]⟩ : ByteArray)]).length)) ([(⟨#[92]⟩ : ByteArray)]), Chunk.row (Kd.int .u8) 5 w0.heap.size S494 (.slice A493 (([92]).length) (([92]).length)) ([92]), R, Bk B [.int .u32 0, .int .i32 1, .int .u32 0, .nilIface, .slice Ao 8 co] 83, Chunk.viewAt w417 Kd.string So Ao 8 co OLDL, Chunk.row Kd.string 9 w0.heap.size S512 (.slice A510 ((([] : List ByteArray) ++ [(⟨#[92]⟩ : ByteArray)]).length) c511) (([] : List ByteArray) ++ [(⟨#[92]⟩ : ByteArray)]), Chunk.bsrP g391 Sb tb (.slice At ((([] : List ByteArray)).length) ct) ([] : List Int)] := O516
     clear O516
     refine V H515 (op_field (gwfld108_1 _ _) rfl (H515.ev rfl)) ?_
     intro _ H519; clear H515
     refine gw_tabl 6 H519 O517 rfl (want_none rfl) rfl gwsiz67 rfl (H519.ev rfl) (H519.ev rfl) rfl ?_
     intro _ w522 H521 O523; clear H519 O517
     have O524 : Own w0 w522 [Chunk.row Kd.string 9 w0.heap.size S504 (.slice A503 (([(⟨#[92]⟩ : ByteArray)]).length) (([(⟨#[92]⟩ : ByteArray)]).length)) ([(⟨#[92]⟩ : ByteArray)]), Chunk.row (Kd.int .u8) 5 w0.heap.size S494 (.slice A493 (([92]).length) (([92]).length)) ([92]), R, Bk B [.int .u32 0, .int .i32 1, .int .u32 0, .nilIface, .slice Ao 8 co] 83, Chunk.viewAt w417 Kd.string So Ao 8 co OLDL, Chunk.row Kd.string 9 w0.heap.size S512 (.slice A510 ((([] : List ByteArray) ++ [(⟨#[92]⟩ : ByteArray)]).length) c511) (([] : List ByteArray) ++ [(⟨#[92]⟩ : ByteArray)]), Chunk.bsrP g391 Sb tb (.slice A510 ((([] : List ByteArray) ++ [(⟨#[92]⟩ : ByteArray)]).length) c511) ([] : List Int)] := O523
     clear O523
     refine gE hK474 ?_
     refine wp_region_lit ?_
     refine V H521 (op_move rfl (H521.ev rfl)) ?_
     intro _ H526; clear H521
     refine V H526 (op_move rfl (H526.ev rfl)) ?_
     intro _ H528; clear H526
     refine gw_sbytes (s := (⟨#[92, 92]⟩ : ByteArray)) Tryz.underlying9 Tryz.underlying40 Tryz.underlying5 H528 O524 (want_none rfl) rfl (by decide) rfl (H528.ev rfl) (by decide) ?_
     intro A529 c530 S531 _ w533 H534 O535; clear H528 O524
     have O537 : Own w0 w533 [Chunk.view (Kd.int .u8) S531 A529 (([92, 92]).length) c530 ([92, 92]), Chunk.row Kd.string 9 w0.heap.size S504 (.slice A503 (([(⟨#[92]⟩ : ByteArray)]).length) (([(⟨#[92]⟩ : ByteArray)]).length)) ([(⟨#[92]⟩ : ByteArray)]), Chunk.row (Kd.int .u8) 5 w0.heap.size S494 (.slice A493 (([92]).length) (([92]).length)) ([92]), R, Bk B [.int .u32 0, .int .i32 1, .int .u32 0, .nilIface, .slice Ao 8 co] 83, Chunk.viewAt w417 Kd.string So Ao 8 co OLDL, Chunk.row Kd.string 9 w0.heap.size S512 (.slice A510 ((([] : List ByteArray) ++ [(⟨#[92]⟩ : ByteArray)]).length) c511) (([] : List ByteArray) ++ [(⟨#[92]⟩ : ByteArray)]), Chunk.bsrP g391 Sb tb (.slice A510 ((([] : List ByteArray) ++ [(⟨#[92]⟩ : ByteArray)]).length) c511) ([] : List Int)] := O535
     clear O535
     refine V H534 (op_field (gwfld108_0 _ _) rfl (H534.ev rfl)) ?_
     intro _ H539; clear H534
     refine V H539 (op_indexP (q := 92) Tryz.underlying106 gwsiz40 rfl (H539.ev rfl) (H539.ev rfl) (by decide) rfl) ?_
     intro _ H541; clear H539
     have O546 : Own w0 _ [Chunk.bsrP g391 Sb tb (.slice A510 ((([] : List ByteArray) ++ [(⟨#[92]⟩ : ByteArray)]).length) c511) ([] : List Int), Chunk.view (Kd.int .u8) S531 A529 2 c530 [92, 92], Chunk.row Kd.string 9 w0.heap.size S504 (.slice A503 (([(⟨#[92]⟩ : ByteArray)]).length) (([(⟨#[92]⟩ : ByteArray)]).length)) ([(⟨#[92]⟩ : ByteArray)]), Chunk.row (Kd.int .u8) 5 w0.heap.size S494 (.slice A493 (([92]).length) (([92]).length)) ([92]), R, Bk B [.int .u32 0, .int .i32 1, .int .u32 0, .nilIface, .slice Ao 8 co] 83, Chunk.viewAt w417 Kd.string So Ao 8 co OLDL, Chunk.row Kd.string 9 w0.heap.size S512 (.slice A510 ((([] : List ByteArray) ++ [(⟨#[92]⟩ : ByteArray)]).length) c511) (([] : List ByteArray) ++ [(⟨#[92]⟩ : ByteArray)])] := O537.sel [7, 0, 1, 2, 3, 4, 5, 6] (by decide)
     refine gw_tabs (z := 92) H541 O546 ⟨by decide, by decide⟩ (want_none rfl) rfl gwsiz40 rfl (H541.ev rfl) (H541.ev rfl) ?_
     intro _ w544 S547 tb548 H543 O545; clear H541 O537 O546
     have O549 : Own w0 w544 [Chunk.bsrP g391 S547 tb548 (.slice A510 ((([] : List ByteArray) ++ [(⟨#[92]⟩ : ByteArray)]).length) c511) [92], Chunk.row Kd.string 9 w0.heap.size S504 (.slice A503 (([(⟨#[92]⟩ : ByteArray)]).length) (([(⟨#[92]⟩ : ByteArray)]).length)) ([(⟨#[92]⟩ : ByteArray)]), Chunk.row (Kd.int .u8) 5 w0.heap.size S494 (.slice A493 (([92]).length) (([92]).length)) ([92]), R, Bk B [.int .u32 0, .int .i32 1, .int .u32 0, .nilIface, .slice Ao 8 co] 83, Chunk.viewAt w417 Kd.string So Ao 8 co OLDL, Chunk.row Kd.string 9 w0.heap.size S512 (.slice A510 ((([] : List ByteArray) ++ [(⟨#[92]⟩ : ByteArray)]).length) c511) (([] : List ByteArray) ++ [(⟨#[92]⟩ : ByteArray)])] := O545
     clear O545
     refine wpList_nil ?_
     refine gw_blk ?_
     refine gw_nx (hK429 _ _ ?_)
     refine wp_region_lit ?_
     refine V H543 (op_move rfl (H543.ev rfl)) ?_
     intro _ H551; clear H543
     refine V H551 (op_sub rfl (H551.ev rfl) (ev_c _ _) (by omega)) ?_
     intro _ H553; clear H551
     have H554 := H553.conv (v' := J 4) (rfl)
     clear H553
     refine V H554 (op_assign rfl (H554.ev rfl)) ?_
     intro _ H556; clear H554
     refine wpList_nil ?_
     have O557 := O549.unpin 5 rfl
     clear O549
     have O558 : Own w0 w544 [Chunk.bsrP g391 S547 tb548 (.slice A510 ((([] : List ByteArray) ++ [(⟨#[92]⟩ : ByteArray)]).length) c511) [92], Chunk.row Kd.string 9 w0.heap.size S504 (.slice A503 (([(⟨#[92]⟩ : ByteArray)]).length) (([(⟨#[92]⟩ : ByteArray)]).length)) ([(⟨#[92]⟩ : ByteArray)]), Chunk.row (Kd.int .u8) 5 w0.heap.size S494 (.slice A493 (([92]).length) (([92]).length)) ([92]), R, Bk B [.int .u32 0, .int .i32 1, .int .u32 0, .nilIface, .slice Ao 8 co] 83, Chunk.view Kd.string So Ao 8 co OLDL, Chunk.row Kd.string 9 w0.heap.size S512 (.slice A510 ((([] : List ByteArray) ++ [(⟨#[92]⟩ : ByteArray)]).length) c511) (([] : List ByteArray) ++ [(⟨#[92]⟩ : ByteArray)])] := O557
     clear O557
     refine gw_nx ⟨_, ?_, 4, [92], (([] : List ByteArray) ++ [(⟨#[92]⟩ : ByteArray)]), tb548, _, A510, _, _, (H556.pick (t := 12) rfl (H556.pick (t := 3) rfl (H556.pick (t := 11) rfl H556.nil))), O558.sel [3, 4, 5, 6, 0] (by decide), ?_, rfl⟩
     ·
      rw [hm420]; decide
     ·
      exact .inr (.inl ⟨rfl, rfl, rfl⟩)
    ·
     refine gw_seq fun K559 hK559 => ?_
     refine gR fun K560 hK560 => ?_
     refine V H418 (op_move rfl (H418.ev rfl)) ?_
     intro _ H562; clear H418
     refine V H562 (op_geq rfl (H562.ev rfl) (ev_c _ _)) ?_
     intro _ H564; clear H562
     have H565 := H564.lit (b := true) (by decide)
     clear H564
     refine gE hK560 ?_
     refine gw_cond H565 rfl (fun hb566 => ?_) (fun hb566 => ?_)
     rotate_left
     ·
      cases hb566
     refine wp_skip ?_
     refine gw_nx (hK559 _ _ ?_)
     refine gw_seq fun K567 hK567 => ?_
     refine wp_block ?_
     refine gR fun K568 hK568 => ?_
     refine V H565 (op_move rfl (H565.ev rfl)) ?_
     intro _ H570; clear H565
     refine V H570 (op_move rfl (H570.ev rfl)) ?_
     intro _ H572; clear H570
     have O579 := O419.pin 2 rfl
     clear O419
     have O580 : Own w0 w417 [R, Bk B [.int .u32 0, .int .i32 1, .int .u32 0, .nilIface, .slice Ao 8 co] 83, Chunk.viewAt w417 Kd.string So Ao 8 co OLDL, Chunk.row Kd.string 9 w0.heap.size St (.slice At (([(⟨#[92]⟩ : ByteArray)]).length) ct) ([(⟨#[92]⟩ : ByteArray)]), Chunk.bsrP g391 Sb tb (.slice At (([(⟨#[92]⟩ : ByteArray)]).length) ct) [92]] := O579
     clear O579
     obtain ⟨ad573, cs576, hA574, hl577, hK578, hc575, _⟩ := Kd.F_get (viewAt_F (O580.get 2 rfl)) (⟨#[]⟩ : ByteArray) 4 (by omega) (by omega)
     obtain rfl := str_openF hK578
     clear hl577
     refine V H572 (op_index Tryz.underlying67 gwsiz9 rfl (H572.ev rfl) (H572.ev rfl) hA574 (⟨by omega, by omega⟩)) ?_
     intro _ H582; clear H572
     refine V H582 (op_load1 gwagg9 rfl (H582.ev rfl) (((pin_cells (O580.get 2 rfl) hA574 hc575) 0 _ rfl))) ?_
     intro _ H584; clear H582
     have H585 := H584.conv (v' := .string (⟨#[91]⟩ : ByteArray)) (rfl)
     clear H584
     refine V H585 (op_sidx Tryz.underlying9 rfl (H585.ev rfl) (ev_c _ _) ⟨by decide, by decide⟩) ?_
     intro _ H587; clear H585
     have H588 := H587.conv (v' := .int .u8 91) (rfl)
     clear H587
     refine V H588 (op_assign rfl (H588.ev rfl)) ?_
     intro _ H590; clear H588
     refine gE hK568 ?_
     refine gR fun K591 hK591 => ?_
     refine V H590 (op_move rfl (H590.ev rfl)) ?_
     intro _ H593; clear H590
     refine V H593 (op_move rfl (H593.ev rfl)) ?_
     intro _ H595; clear H593
     refine V H595 (op_add rfl (H595.ev rfl) (ev_c _ _) (by omega)) ?_
     intro _ H597; clear H595
     have H598 := H597.conv (v' := J 5) (rfl)
     clear H597
     obtain ⟨ad599, cs602, hA600, hl603, hK604, hc601, _⟩ := Kd.F_get (viewAt_F (O580.get 2 rfl)) (⟨#[]⟩ : ByteArray) 5 (by omega) (by omega)
     obtain rfl := str_openF hK604
     clear hl603
     refine V H598 (op_index Tryz.underlying67 gwsiz9 rfl (H598.ev rfl) (H598.ev rfl) hA600 (⟨by omega, by omega⟩)) ?_
     intro _ H606; clear H598
     refine V H606 (op_load1 gwagg9 rfl (H606.ev rfl) (((pin_cells (O580.get 2 rfl) hA600 hc601) 0 _ rfl))) ?_
     intro _ H608; clear H606
     have H609 := H608.conv (v' := .string (⟨#[92, 91]⟩ : ByteArray)) (rfl)
     clear H608
     refine V H609 (op_assign rfl (H609.ev rfl)) ?_
     intro _ H611; clear H609
     refine gE hK591 ?_
     refine gw_seq fun K612 hK612 => ?_
     refine gR fun K613 hK613 => ?_
     refine V H611 (op_move rfl (H611.ev rfl)) ?_
     intro _ H615; clear H611
     refine V H615 (op_field (gwfld108_0 _ _) rfl (H615.ev rfl)) ?_
     intro _ H617; clear H615
     refine V H617 (op_indexP (q := 91) Tryz.underlying106 gwsiz40 rfl (H617.ev rfl) (H617.ev rfl) (by decide) rfl) ?_
     intro _ H619; clear H617
     refine V H619 (op_load1 gwagg40 rfl (H619.ev rfl) ((blk_at (bsrP_blk (O580.get 4 rfl)) (tabC_get _ _ (91 : Int) ⟨by decide, by decide⟩)).trans (congrArg some (bsrP_none (O580.get 4 rfl) (91 : Int) (by decide))))) ?_
     intro _ H621; clear H619
     refine V H621 (op_bin_run (r := .bool true) rfl (H621.ev rfl) (ev_c _ _) (by kernel_rfl)) ?_
     intro _ H623; clear H621
     refine gE hK613 ?_
     refine gw_cond H623 rfl (fun hb624 => ?_) (fun hb624 => ?_)
     rotate_left
     ·
      cases hb624
     refine wp_region_lit ?_
     refine V H623 (op_field (gwfld108_1 _ _) rfl (H623.ev rfl)) ?_
     intro _ H626; clear H623
     refine V H626 (op_load1 gwagg67 rfl (H626.ev rfl) (blk_at (bsrP_blk (O580.get 4 rfl)) (tabC_last _ _))) ?_
     intro _ H628; clear H626
     refine V H628 (op_move rfl (H628.ev rfl)) ?_
     intro _ H630; clear H628
     refine gw_lit (enc := Value.int .u8) (fun _ => rfl) (xs := [91]) (e := 5) H630 O580 (want_none rfl) rfl (by decide) (op_bslice (by kernel_rfl) rfl (pt_cons (H630.ev rfl) pt_nil)) (by simp) ?_
     intro A631 S632 _ w634 H635 O636; clear H630 O580
     have O637 : Own w0 w634 [Chunk.row (Kd.int .u8) 5 w0.heap.size S632 (.slice A631 (([91]).length) (([91]).length)) ([91]), R, Bk B [.int .u32 0, .int .i32 1, .int .u32 0, .nilIface, .slice Ao 8 co] 83, Chunk.viewAt w417 Kd.string So Ao 8 co OLDL, Chunk.row Kd.string 9 w0.heap.size St (.slice At (([(⟨#[92]⟩ : ByteArray)]).length) ct) ([(⟨#[92]⟩ : ByteArray)]), Chunk.bsrP g391 Sb tb (.slice At (([(⟨#[92]⟩ : ByteArray)]).length) ct) [92]] := O636
     clear O636
     refine V H635 (op_conv_str Tryz.underlying40 Tryz.underlying5 Tryz.underlying9 (Kd.R_reads' (O637.get 0 rfl)).2.2 rfl (H635.ev rfl)) ?_
     intro _ H639; clear H635
     have H640 := H639.conv (v' := .string (⟨#[91]⟩ : ByteArray)) (rfl)
     clear H639
     refine gw_lit (enc := Value.string) (fun _ => rfl) (xs := [(⟨#[91]⟩ : ByteArray)]) (e := 9) H640 O637 (want_none rfl) rfl (by decide) (op_bslice (by kernel_rfl) rfl (pt_cons (H640.ev rfl) pt_nil)) (by simp) ?_
     intro A641 S642 _ w644 H645 O646; clear H640 O637
     have O647 : Own w0 w644 [Chunk.row Kd.string 9 w0.heap.size S642 (.slice A641 (([(⟨#[91]⟩ : ByteArray)]).length) (([(⟨#[91]⟩ : ByteArray)]).length)) ([(⟨#[91]⟩ : ByteArray)]), Chunk.row (Kd.int .u8) 5 w0.heap.size S632 (.slice A631 (([91]).length) (([91]).length)) ([91]), R, Bk B [.int .u32 0, .int .i32 1, .int .u32 0, .nilIface, .slice Ao 8 co] 83, Chunk.viewAt w417 Kd.string So Ao 8 co OLDL, Chunk.row Kd.string 9 w0.heap.size St (.slice At (([(⟨#[92]⟩ : ByteArray)]).length) ct) ([(⟨#[92]⟩ : ByteArray)]), Chunk.bsrP g391 Sb tb (.slice At (([(⟨#[92]⟩ : ByteArray)]).length) ct) [92]] := O646
     clear O646
     refine gw_append Kd.string 5 H645 O647 (want_none rfl) rfl (by decide) rfl Tryz.underlying67 gwinfo9 rfl (by decide) (by decide) rfl (H645.ev rfl) (H645.ev rfl) (Kd.R_reads' (O647.get 0 rfl)).2.2 (fun _ _ h => h) O647.below.size (by simp) ?_
     intro A648 c649 S650 _ w652 H653 O654; clear H645 O647
     have O655 : Own w0 w652 [Chunk.row Kd.string 9 w0.heap.size S642 (.slice A641 (([(⟨#[91]⟩ : ByteArray)]).length) (([(⟨#[91]⟩ : ByteArray)]).length)) ([(⟨#[91]⟩ : ByteArray)]), Chunk.row (Kd.int .u8) 5 w0.heap.size S632 (.slice A631 (([91]).length) (([91]).length)) ([91]), R, Bk B [.int .u32 0, .int .i32 1, .int .u32 0, .nilIface, .slice Ao 8 co] 83, Chunk.viewAt w417 Kd.string So Ao 8 co OLDL, Chunk.row Kd.string 9 w0.heap.size S650 (.slice A648 (([(⟨#[92]⟩ : ByteArray)] ++ [(⟨#[91]⟩ : ByteArray)]).length) c649) ([(⟨#[92]⟩ : ByteArray)] ++ [(⟨#[91]⟩ : ByteArray)]), Chunk.bsrP g391 Sb tb (.slice At (([(⟨#[92]⟩ : ByteArray)]).length) ct) [92]] := O654
     clear O654
     refine V H653 (op_field (gwfld108_1 _ _) rfl (H653.ev rfl)) ?_
     intro _ H657; clear H653
     refine gw_tabl 6 H657 O655 rfl (want_none rfl) rfl gwsiz67 rfl (H657.ev rfl) (H657.ev rfl) rfl ?_
     intro _ w660 H659 O661; clear H657 O655
     have O662 : Own w0 w660 [Chunk.row Kd.string 9 w0.heap.size S642 (.slice A641 (([(⟨#[91]⟩ : ByteArray)]).length) (([(⟨#[91]⟩ : ByteArray)]).length)) ([(⟨#[91]⟩ : ByteArray)]), Chunk.row (Kd.int .u8) 5 w0.heap.size S632 (.slice A631 (([91]).length) (([91]).length)) ([91]), R, Bk B [.int .u32 0, .int .i32 1, .int .u32 0, .nilIface, .slice Ao 8 co] 83, Chunk.viewAt w417 Kd.string So Ao 8 co OLDL, Chunk.row Kd.string 9 w0.heap.size S650 (.slice A648 (([(⟨#[92]⟩ : ByteArray)] ++ [(⟨#[91]⟩ : ByteArray)]).length) c649) ([(⟨#[92]⟩ : ByteArray)] ++ [(⟨#[91]⟩ : ByteArray)]), Chunk.bsrP g391 Sb tb (.slice A648 (([(⟨#[92]⟩ : ByteArray)] ++ [(⟨#[91]⟩ : ByteArray)]).length) c649) [92]] := O661
     clear O661
     refine gE hK612 ?_
     refine wp_region_lit ?_
     refine V H659 (op_move rfl (H659.ev rfl)) ?_
     intro _ H664; clear H659
     refine V H664 (op_move rfl (H664.ev rfl)) ?_
     intro _ H666; clear H664
     refine gw_sbytes (s := (⟨#[92, 91]⟩ : ByteArray)) Tryz.underlying9 Tryz.underlying40 Tryz.underlying5 H666 O662 (want_none rfl) rfl (by decide) rfl (H666.ev rfl) (by decide) ?_
     intro A667 c668 S669 _ w671 H672 O673; clear H666 O662
     have O675 : Own w0 w671 [Chunk.view (Kd.int .u8) S669 A667 (([92, 91]).length) c668 ([92, 91]), Chunk.row Kd.string 9 w0.heap.size S642 (.slice A641 (([(⟨#[91]⟩ : ByteArray)]).length) (([(⟨#[91]⟩ : ByteArray)]).length)) ([(⟨#[91]⟩ : ByteArray)]), Chunk.row (Kd.int .u8) 5 w0.heap.size S632 (.slice A631 (([91]).length) (([91]).length)) ([91]), R, Bk B [.int .u32 0, .int .i32 1, .int .u32 0, .nilIface, .slice Ao 8 co] 83, Chunk.viewAt w417 Kd.string So Ao 8 co OLDL, Chunk.row Kd.string 9 w0.heap.size S650 (.slice A648 (([(⟨#[92]⟩ : ByteArray)] ++ [(⟨#[91]⟩ : ByteArray)]).length) c649) ([(⟨#[92]⟩ : ByteArray)] ++ [(⟨#[91]⟩ : ByteArray)]), Chunk.bsrP g391 Sb tb (.slice A648 (([(⟨#[92]⟩ : ByteArray)] ++ [(⟨#[91]⟩ : ByteArray)]).length) c649) [92]] := O673
     clear O673
     refine V H672 (op_field (gwfld108_0 _ _) rfl (H672.ev rfl)) ?_
     intro _ H677; clear H672
     refine V H677 (op_indexP (q := 91) Tryz.underlying106 gwsiz40 rfl (H677.ev rfl) (H677.ev rfl) (by decide) rfl) ?_
     intro _ H679; clear H677
     have O684 : Own w0 _ [Chunk.bsrP g391 Sb tb (.slice A648 (([(⟨#[92]⟩ : ByteArray)] ++ [(⟨#[91]⟩ : ByteArray)]).length) c649) [92], Chunk.view (Kd.int .u8) S669 A667 2 c668 [92, 91], Chunk.row Kd.string 9 w0.heap.size S642 (.slice A641 (([(⟨#[91]⟩ : ByteArray)]).length) (([(⟨#[91]⟩ : ByteArray)]).length)) ([(⟨#[91]⟩ : ByteArray)]), Chunk.row (Kd.int .u8) 5 w0.heap.size S632 (.slice A631 (([91]).length) (([91]).length)) ([91]), R, Bk B [.int .u32 0, .int .i32 1, .int .u32 0, .nilIface, .slice Ao 8 co] 83, Chunk.viewAt w417 Kd.string So Ao 8 co OLDL, Chunk.row Kd.string 9 w0.heap.size S650 (.slice A648 (([(⟨#[92]⟩ : ByteArray)] ++ [(⟨#[91]⟩ : ByteArray)]).length) c649) ([(⟨#[92]⟩ : ByteArray)] ++ [(⟨#[91]⟩ : ByteArray)])] := O675.sel [7, 0, 1, 2, 3, 4, 5, 6] (by decide)
     refine gw_tabs (z := 91) H679 O684 ⟨by decide, by decide⟩ (want_none rfl) rfl gwsiz40 rfl (H679.ev rfl) (H679.ev rfl) ?_
     intro _ w682 S685 tb686 H681 O683; clear H679 O675 O684
     have O687 : Own w0 w682 [Chunk.bsrP g391 S685 tb686 (.slice A648 (([(⟨#[92]⟩ : ByteArray)] ++ [(⟨#[91]⟩ : ByteArray)]).length) c649) [91, 92], Chunk.row Kd.string 9 w0.heap.size S642 (.slice A641 (([(⟨#[91]⟩ : ByteArray)]).length) (([(⟨#[91]⟩ : ByteArray)]).length)) ([(⟨#[91]⟩ : ByteArray)]), Chunk.row (Kd.int .u8) 5 w0.heap.size S632 (.slice A631 (([91]).length) (([91]).length)) ([91]), R, Bk B [.int .u32 0, .int .i32 1, .int .u32 0, .nilIface, .slice Ao 8 co] 83, Chunk.viewAt w417 Kd.string So Ao 8 co OLDL, Chunk.row Kd.string 9 w0.heap.size S650 (.slice A648 (([(⟨#[92]⟩ : ByteArray)] ++ [(⟨#[91]⟩ : ByteArray)]).length) c649) ([(⟨#[92]⟩ : ByteArray)] ++ [(⟨#[91]⟩ : ByteArray)])] := O683
     clear O683
     refine wpList_nil ?_
     refine gw_blk ?_
     refine gw_nx (hK567 _ _ ?_)
     refine wp_region_lit ?_
     refine V H681 (op_move rfl (H681.ev rfl)) ?_
     intro _ H689; clear H681
     refine V H689 (op_sub rfl (H689.ev rfl) (ev_c _ _) (by omega)) ?_
     intro _ H691; clear H689
     have H692 := H691.conv (v' := J 2) (rfl)
     clear H691
     refine V H692 (op_assign rfl (H692.ev rfl)) ?_
     intro _ H694; clear H692
     refine wpList_nil ?_
     have O695 := O687.unpin 5 rfl
     clear O687
     have O696 : Own w0 w682 [Chunk.bsrP g391 S685 tb686 (.slice A648 (([(⟨#[92]⟩ : ByteArray)] ++ [(⟨#[91]⟩ : ByteArray)]).length) c649) [91, 92], Chunk.row Kd.string 9 w0.heap.size S642 (.slice A641 (([(⟨#[91]⟩ : ByteArray)]).length) (([(⟨#[91]⟩ : ByteArray)]).length)) ([(⟨#[91]⟩ : ByteArray)]), Chunk.row (Kd.int .u8) 5 w0.heap.size S632 (.slice A631 (([91]).length) (([91]).length)) ([91]), R, Bk B [.int .u32 0, .int .i32 1, .int .u32 0, .nilIface, .slice Ao 8 co] 83, Chunk.view Kd.string So Ao 8 co OLDL, Chunk.row Kd.string 9 w0.heap.size S650 (.slice A648 (([(⟨#[92]⟩ : ByteArray)] ++ [(⟨#[91]⟩ : ByteArray)]).length) c649) ([(⟨#[92]⟩ : ByteArray)] ++ [(⟨#[91]⟩ : ByteArray)])] := O695
     clear O695
     refine gw_nx ⟨_, ?_, 2, [91, 92], ([(⟨#[92]⟩ : ByteArray)] ++ [(⟨#[91]⟩ : ByteArray)]), tb686, _, A648, _, _, (H694.pick (t := 12) rfl (H694.pick (t := 3) rfl (H694.pick (t := 11) rfl H694.nil))), O696.sel [3, 4, 5, 6, 0] (by decide), ?_, rfl⟩
     ·
      rw [hm420]; decide
     ·
      exact .inr (.inr (.inl ⟨rfl, rfl, rfl⟩))
    ·
     refine gw_seq fun K697 hK697 => ?_
     refine gR fun K698 hK698 => ?_
     refine V H418 (op_move rfl (H418.ev rfl)) ?_
     intro _ H700; clear H418
     refine V H700 (op_geq rfl (H700.ev rfl) (ev_c _ _)) ?_
     intro _ H702; clear H700
     have H703 := H702.lit (b := true) (by decide)
     clear H702
     refine gE hK698 ?_
     refine gw_cond H703 rfl (fun hb704 => ?_) (fun hb704 => ?_)
     rotate_left
     ·
      cases hb704
     refine wp_skip ?_
     refine gw_nx (hK697 _ _ ?_)
     refine gw_seq fun K705 hK705 => ?_
     refine wp_block ?_
     refine gR fun K706 hK706 => ?_
     refine V H703 (op_move rfl (H703.ev rfl)) ?_
     intro _ H708; clear H703
     refine V H708 (op_move rfl (H708.ev rfl)) ?_
     intro _ H710; clear H708
     have O717 := O419.pin 2 rfl
     clear O419
     have O718 : Own w0 w417 [R, Bk B [.int .u32 0, .int .i32 1, .int .u32 0, .nilIface, .slice Ao 8 co] 83, Chunk.viewAt w417 Kd.string So Ao 8 co OLDL, Chunk.row Kd.string 9 w0.heap.size St (.slice At (([(⟨#[92]⟩ : ByteArray), (⟨#[91]⟩ : ByteArray)]).length) ct) ([(⟨#[92]⟩ : ByteArray), (⟨#[91]⟩ : ByteArray)]), Chunk.bsrP g391 Sb tb (.slice At (([(⟨#[92]⟩ : ByteArray), (⟨#[91]⟩ : ByteArray)]).length) ct) [91, 92]] := O717
     clear O717
     obtain ⟨ad711, cs714, hA712, hl715, hK716, hc713, _⟩ := Kd.F_get (viewAt_F (O718.get 2 rfl)) (⟨#[]⟩ : ByteArray) 2 (by omega) (by omega)
     obtain rfl := str_openF hK716
     clear hl715
     refine V H710 (op_index Tryz.underlying67 gwsiz9 rfl (H710.ev rfl) (H710.ev rfl) hA712 (⟨by omega, by omega⟩)) ?_
     intro _ H720; clear H710
     refine V H720 (op_load1 gwagg9 rfl (H720.ev rfl) (((pin_cells (O718.get 2 rfl) hA712 hc713) 0 _ rfl))) ?_
     intro _ H722; clear H720
     have H723 := H722.conv (v' := .string (⟨#[42]⟩ : ByteArray)) (rfl)
     clear H722
     refine V H723 (op_sidx Tryz.underlying9 rfl (H723.ev rfl) (ev_c _ _) ⟨by decide, by decide⟩) ?_
     intro _ H725; clear H723
     have H726 := H725.conv (v' := .int .u8 42) (rfl)
     clear H725
     refine V H726 (op_assign rfl (H726.ev rfl)) ?_
     intro _ H728; clear H726
     refine gE hK706 ?_
     refine gR fun K729 hK729 => ?_
     refine V H728 (op_move rfl (H728.ev rfl)) ?_
     intro _ H731; clear H728
     refine V H731 (op_move rfl (H731.ev rfl)) ?_
     intro _ H733; clear H731
     refine V H733 (op_add rfl (H733.ev rfl) (ev_c _ _) (by omega)) ?_
     intro _ H735; clear H733
     have H736 := H735.conv (v' := J 3) (rfl)
     clear H735
     obtain ⟨ad737, cs740, hA738, hl741, hK742, hc739, _⟩ := Kd.F_get (viewAt_F (O718.get 2 rfl)) (⟨#[]⟩ : ByteArray) 3 (by omega) (by omega)
     obtain rfl := str_openF hK742
     clear hl741
     refine V H736 (op_index Tryz.underlying67 gwsiz9 rfl (H736.ev rfl) (H736.ev rfl) hA738 (⟨by omega, by omega⟩)) ?_
     intro _ H744; clear H736
     refine V H744 (op_load1 gwagg9 rfl (H744.ev rfl) (((pin_cells (O718.get 2 rfl) hA738 hc739) 0 _ rfl))) ?_
     intro _ H746; clear H744
     have H747 := H746.conv (v' := .string (⟨#[92, 42]⟩ : ByteArray)) (rfl)
     clear H746
     refine V H747 (op_assign rfl (H747.ev rfl)) ?_
     intro _ H749; clear H747
     refine gE hK729 ?_
     refine gw_seq fun K750 hK750 => ?_
     refine gR fun K751 hK751 => ?_
     refine V H749 (op_move rfl (H749.ev rfl)) ?_
     intro _ H753; clear H749
     refine V H753 (op_field (gwfld108_0 _ _) rfl (H753.ev rfl)) ?_
     intro _ H755; clear H753
     refine V H755 (op_indexP (q := 42) Tryz.underlying106 gwsiz40 rfl (H755.ev rfl) (H755.ev rfl) (by decide) rfl) ?_
     intro _ H757; clear H755
     refine V H757 (op_load1 gwagg40 rfl (H757.ev rfl) ((blk_at (bsrP_blk (O718.get 4 rfl)) (tabC_get _ _ (42 : Int) ⟨by decide, by decide⟩)).trans (congrArg some (bsrP_none (O718.get 4 rfl) (42 : Int) (by decide))))) ?_
     intro _ H759; clear H757
     refine V H759 (op_bin_run (r := .bool true) rfl (H759.ev rfl) (ev_c _ _) (by kernel_rfl)) ?_
     intro _ H761; clear H759
     refine gE hK751 ?_
     refine gw_cond H761 rfl (fun hb762 => ?_) (fun hb762 => ?_)
     rotate_left
     ·
      cases hb762
     refine wp_region_lit ?_
     refine V H761 (op_field (gwfld108_1 _ _) rfl (H761.ev rfl)) ?_
     intro _ H764; clear H761
     refine V H764 (op_load1 gwagg67 rfl (H764.ev rfl) (blk_at (bsrP_blk (O718.get 4 rfl)) (tabC_last _ _))) ?_
     intro _ H766; clear H764
     refine V H766 (op_move rfl (H766.ev rfl)) ?_
     intro _ H768; clear H766
     refine gw_lit (enc := Value.int .u8) (fun _ => rfl) (xs := [42]) (e := 5) H768 O718 (want_none rfl) rfl (by decide) (op_bslice (by kernel_rfl) rfl (pt_cons (H768.ev rfl) pt_nil)) (by simp) ?_
     intro A769 S770 _ w772 H773 O774; clear H768 O718
     have O775 : Own w0 w772 [Chunk.row (Kd.int .u8) 5 w0.heap.size S770 (.slice A769 (([42]).length) (([42]).length)) ([42]), R, Bk B [.int .u32 0, .int .i32 1, .int .u32 0, .nilIface, .slice Ao 8 co] 83, Chunk.viewAt w417 Kd.string So Ao 8 co OLDL, Chunk.row Kd.string 9 w0.heap.size St (.slice At (([(⟨#[92]⟩ : ByteArray), (⟨#[91]⟩ : ByteArray)]).length) ct) ([(⟨#[92]⟩ : ByteArray), (⟨#[91]⟩ : ByteArray)]), Chunk.bsrP g391 Sb tb (.slice At (([(⟨#[92]⟩ : ByteArray), (⟨#[91]⟩ : ByteArray)]).length) ct) [91, 92]] := O774
     clear O774
     refine V H773 (op_conv_str Tryz.underlying40 Tryz.underlying5 Tryz.underlying9 (Kd.R_reads' (O775.get 0 rfl)).2.2 rfl (H773.ev rfl)) ?_
     intro _ H777; clear H773
     have H778 := H777.conv (v' := .string (⟨#[42]⟩ : ByteArray)) (rfl)
     clear H777
     refine gw_lit (enc := Value.string) (fun _ => rfl) (xs := [(⟨#[42]⟩ : ByteArray)]) (e := 9) H778 O775 (want_none rfl) rfl (by decide) (op_bslice (by kernel_rfl) rfl (pt_cons (H778.ev rfl) pt_nil)) (by simp) ?_
     intro A779 S780 _ w782 H783 O784; clear H778 O775
     have O785 : Own w0 w782 [Chunk.row Kd.string 9 w0.heap.size S780 (.slice A779 (([(⟨#[42]⟩ : ByteArray)]).length) (([(⟨#[42]⟩ : ByteArray)]).length)) ([(⟨#[42]⟩ : ByteArray)]), Chunk.row (Kd.int .u8) 5 w0.heap.size S770 (.slice A769 (([42]).length) (([42]).length)) ([42]), R, Bk B [.int .u32 0, .int .i32 1, .int .u32 0, .nilIface, .slice Ao 8 co] 83, Chunk.viewAt w417 Kd.string So Ao 8 co OLDL, Chunk.row Kd.string 9 w0.heap.size St (.slice At (([(⟨#[92]⟩ : ByteArray), (⟨#[91]⟩ : ByteArray)]).length) ct) ([(⟨#[92]⟩ : ByteArray), (⟨#[91]⟩ : ByteArray)]), Chunk.bsrP g391 Sb tb (.slice At (([(⟨#[92]⟩ : ByteArray), (⟨#[91]⟩ : ByteArray)]).length) ct) [91, 92]] := O784
     clear O784
     refine gw_append Kd.string 5 H783 O785 (want_none rfl) rfl (by decide) rfl Tryz.underlying67 gwinfo9 rfl (by decide) (by decide) rfl (H783.ev rfl) (H783.ev rfl) (Kd.R_reads' (O785.get 0 rfl)).2.2 (fun _ _ h => h) O785.below.size (by simp) ?_
     intro A786 c787 S788 _ w790 H791 O792; clear H783 O785
     have O793 : Own w0 w790 [Chunk.row Kd.string 9 w0.heap.size S780 (.slice A779 (([(⟨#[42]⟩ : ByteArray)]).length) (([(⟨#[42]⟩ : ByteArray)]).length)) ([(⟨#[42]⟩ : ByteArray)]), Chunk.row (Kd.int .u8) 5 w0.heap.size S770 (.slice A769 (([42]).length) (([42]).length)) ([42]), R, Bk B [.int .u32 0, .int .i32 1, .int .u32 0, .nilIface, .slice Ao 8 co] 83, Chunk.viewAt w417 Kd.string So Ao 8 co OLDL, Chunk.row Kd.string 9 w0.heap.size S788 (.slice A786 (([(⟨#[92]⟩ : ByteArray), (⟨#[91]⟩ : ByteArray)] ++ [(⟨#[42]⟩ : ByteArray)]).length) c787) ([(⟨#[92]⟩ : ByteArray), (⟨#[91]⟩ : ByteArray)] ++ [(⟨#[42]⟩ : ByteArray)]), Chunk.bsrP g391 Sb tb (.slice At (([(⟨#[92]⟩ : ByteArray), (⟨#[91]⟩ : ByteArray)]).length) ct) [91, 92]] := O792
     clear O792
     refine V H791 (op_field (gwfld108_1 _ _) rfl (H791.ev rfl)) ?_
     intro _ H795; clear H791
     refine gw_tabl 6 H795 O793 rfl (want_none rfl) rfl gwsiz67 rfl (H795.ev rfl) (H795.ev rfl) rfl ?_
     intro _ w798 H797 O799; clear H795 O793
     have O800 : Own w0 w798 [Chunk.row Kd.string 9 w0.heap.size S780 (.slice A779 (([(⟨#[42]⟩ : ByteArray)]).length) (([(⟨#[42]⟩ : ByteArray)]).length)) ([(⟨#[42]⟩ : ByteArray)]), Chunk.row (Kd.int .u8) 5 w0.heap.size S770 (.slice A769 (([42]).length) (([42]).length)) ([42]), R, Bk B [.int .u32 0, .int .i32 1, .int .u32 0, .nilIface, .slice Ao 8 co] 83, Chunk.viewAt w417 Kd.string So Ao 8 co OLDL, Chunk.row Kd.string 9 w0.heap.size S788 (.slice A786 (([(⟨#[92]⟩ : ByteArray), (⟨#[91]⟩ : ByteArray)] ++ [(⟨#[42]⟩ : ByteArray)]).length) c787) ([(⟨#[92]⟩ : ByteArray), (⟨#[91]⟩ : ByteArray)] ++ [(⟨#[42]⟩ : ByteArray)]), Chunk.bsrP g391 Sb tb (.slice A786 (([(⟨#[92]⟩ : ByteArray), (⟨#[91]⟩ : ByteArray)] ++ [(⟨#[42]⟩ : ByteArray)]).length) c787) [91, 92]] := O799
     clear O799
     refine gE hK750 ?_
     refine wp_region_lit ?_
     refine V H797 (op_move rfl (H797.ev rfl)) ?_
     intro _ H802; clear H797
     refine V H802 (op_move rfl (H802.ev rfl)) ?_
     intro _ H804; clear H802
     refine gw_sbytes (s := (⟨#[92, 42]⟩ : ByteArray)) Tryz.underlying9 Tryz.underlying40 Tryz.underlying5 H804 O800 (want_none rfl) rfl (by decide) rfl (H804.ev rfl) (by decide) ?_
     intro A805 c806 S807 _ w809 H810 O811; clear H804 O800
     have O813 : Own w0 w809 [Chunk.view (Kd.int .u8) S807 A805 (([92, 42]).length) c806 ([92, 42]), Chunk.row Kd.string 9 w0.heap.size S780 (.slice A779 (([(⟨#[42]⟩ : ByteArray)]).length) (([(⟨#[42]⟩ : ByteArray)]).length)) ([(⟨#[42]⟩ : ByteArray)]), Chunk.row (Kd.int .u8) 5 w0.heap.size S770 (.slice A769 (([42]).length) (([42]).length)) ([42]), R, Bk B [.int .u32 0, .int .i32 1, .int .u32 0, .nilIface, .slice Ao 8 co] 83, Chunk.viewAt w417 Kd.string So Ao 8 co OLDL, Chunk.row Kd.string 9 w0.heap.size S788 (.slice A786 (([(⟨#[92]⟩ : ByteArray), (⟨#[91]⟩ : ByteArray)] ++ [(⟨#[42]⟩ : ByteArray)]).length) c787) ([(⟨#[92]⟩ : ByteArray), (⟨#[91]⟩ : ByteArray)] ++ [(⟨#[42]⟩ : ByteArray)]), Chunk.bsrP g391 Sb tb (.slice A786 (([(⟨#[92]⟩ : ByteArray), (⟨#[91]⟩ : ByteArray)] ++ [(⟨#[42]⟩ : ByteArray)]).length) c787) [91, 92]] := O811
     clear O811
     refine V H810 (op_field (gwfld108_0 _ _) rfl (H810.ev rfl)) ?_
     intro _ H815; clear H810
     refine V H815 (op_indexP (q := 42) Tryz.underlying106 gwsiz40 rfl (H815.ev rfl) (H815.ev rfl) (by decide) rfl) ?_
     intro _ H817; clear H815
     have O822 : Own w0 _ [Chunk.bsrP g391 Sb tb (.slice A786 (([(⟨#[92]⟩ : ByteArray), (⟨#[91]⟩ : ByteArray)] ++ [(⟨#[42]⟩ : ByteArray)]).length) c787) [91, 92], Chunk.view (Kd.int .u8) S807 A805 2 c806 [92, 42], Chunk.row Kd.string 9 w0.heap.size S780 (.slice A779 (([(⟨#[42]⟩ : ByteArray)]).length) (([(⟨#[42]⟩ : ByteArray)]).length)) ([(⟨#[42]⟩ : ByteArray)]), Chunk.row (Kd.int .u8) 5 w0.heap.size S770 (.slice A769 (([42]).length) (([42]).length)) ([42]), R, Bk B [.int .u32 0, .int .i32 1, .int .u32 0, .nilIface, .slice Ao 8 co] 83, Chunk.viewAt w417 Kd.string So Ao 8 co OLDL, Chunk.row Kd.string 9 w0.heap.size S788 (.slice A786 (([(⟨#[92]⟩ : ByteArray), (⟨#[91]⟩ : ByteArray)] ++ [(⟨#[42]⟩ : ByteArray)]).length) c787) ([(⟨#[92]⟩ : ByteArray), (⟨#[91]⟩ : ByteArray)] ++ [(⟨#[42]⟩ : ByteArray)])] := O813.sel [7, 0, 1, 2, 3, 4, 5, 6] (by decide)
     refine gw_tabs (z := 42) H817 O822 ⟨by decide, by decide⟩ (want_none rfl) rfl gwsiz40 rfl (H817.ev rfl) (H817.ev rfl) ?_
     intro _ w820 S823 tb824 H819 O821; clear H817 O813 O822
     have O825 : Own w0 w820 [Chunk.bsrP g391 S823 tb824 (.slice A786 (([(⟨#[92]⟩ : ByteArray), (⟨#[91]⟩ : ByteArray)] ++ [(⟨#[42]⟩ : ByteArray)]).length) c787) [42, 91, 92], Chunk.row Kd.string 9 w0.heap.size S780 (.slice A779 (([(⟨#[42]⟩ : ByteArray)]).length) (([(⟨#[42]⟩ : ByteArray)]).length)) ([(⟨#[42]⟩ : ByteArray)]), Chunk.row (Kd.int .u8) 5 w0.heap.size S770 (.slice A769 (([42]).length) (([42]).length)) ([42]), R, Bk B [.int .u32 0, .int .i32 1, .int .u32 0, .nilIface, .slice Ao 8 co] 83, Chunk.viewAt w417 Kd.string So Ao 8 co OLDL, Chunk.row Kd.string 9 w0.heap.size S788 (.slice A786 (([(⟨#[92]⟩ : ByteArray), (⟨#[91]⟩ : ByteArray)] ++ [(⟨#[42]⟩ : ByteArray)]).length) c787) ([(⟨#[92]⟩ : ByteArray), (⟨#[91]⟩ : ByteArray)] ++ [(⟨#[42]⟩ : ByteArray)])] := O821
     clear O821
     refine wpList_nil ?_
     refine gw_blk ?_
     refine gw_nx (hK705 _ _ ?_)
     refine wp_region_lit ?_
     refine V H819 (op_move rfl (H819.ev rfl)) ?_
     intro _ H827; clear H819
     refine V H827 (op_sub rfl (H827.ev rfl) (ev_c _ _) (by omega)) ?_
     intro _ H829; clear H827
     have H830 := H829.conv (v' := J 0) (rfl)
     clear H829
     refine V H830 (op_assign rfl (H830.ev rfl)) ?_
     intro _ H832; clear H830
     refine wpList_nil ?_
     have O833 := O825.unpin 5 rfl
     clear O825
     have O834 : Own w0 w820 [Chunk.bsrP g391 S823 tb824 (.slice A786 (([(⟨#[92]⟩ : ByteArray), (⟨#[91]⟩ : ByteArray)] ++ [(⟨#[42]⟩ : ByteArray)]).length) c787) [42, 91, 92], Chunk.row Kd.string 9 w0.heap.size S780 (.slice A779 (([(⟨#[42]⟩ : ByteArray)]).length) (([(⟨#[42]⟩ : ByteArray)]).length)) ([(⟨#[42]⟩ : ByteArray)]), Chunk.row (Kd.int .u8) 5 w0.heap.size S770 (.slice A769 (([42]).length) (([42]).length)) ([42]), R, Bk B [.int .u32 0, .int .i32 1, .int .u32 0, .nilIface, .slice Ao 8 co] 83, Chunk.view Kd.string So Ao 8 co OLDL, Chunk.row Kd.string 9 w0.heap.size S788 (.slice A786 (([(⟨#[92]⟩ : ByteArray), (⟨#[91]⟩ : ByteArray)] ++ [(⟨#[42]⟩ : ByteArray)]).length) c787) ([(⟨#[92]⟩ : ByteArray), (⟨#[91]⟩ : ByteArray)] ++ [(⟨#[42]⟩ : ByteArray)])] := O833
     clear O833
     refine gw_nx ⟨_, ?_, 0, [42, 91, 92], ([(⟨#[92]⟩ : ByteArray), (⟨#[91]⟩ : ByteArray)] ++ [(⟨#[42]⟩ : ByteArray)]), tb824, _, A786, _, _, (H832.pick (t := 12) rfl (H832.pick (t := 3) rfl (H832.pick (t := 11) rfl H832.nil))), O834.sel [3, 4, 5, 6, 0] (by decide), ?_, rfl⟩
     ·
      rw [hm420]; decide
     ·
      exact .inr (.inr (.inr (.inl ⟨rfl, rfl, rfl⟩)))
    ·
     refine gw_seq fun K835 hK835 => ?_
     refine gR fun K836 hK836 => ?_
     refine V H418 (op_move rfl (H418.ev rfl)) ?_
     intro _ H838; clear H418
     refine V H838 (op_geq rfl (H838.ev rfl) (ev_c _ _)) ?_
     intro _ H840; clear H838
     have H841 := H840.lit (b := true) (by decide)
     clear H840
     refine gE hK836 ?_
     refine gw_cond H841 rfl (fun hb842 => ?_) (fun hb842 => ?_)
     rotate_left
     ·
      cases hb842
     refine wp_skip ?_
     refine gw_nx (hK835 _ _ ?_)
     refine gw_seq fun K843 hK843 => ?_
     refine wp_block ?_
     refine gR fun K844 hK844 => ?_
     refine V H841 (op_move rfl (H841.ev rfl)) ?_
     intro _ H846; clear H841
     refine V H846 (op_move rfl (H846.ev rfl)) ?_
     intro _ H848; clear H846
     have O855 := O419.pin 2 rfl
     clear O419
     have O856 : Own w0 w417 [R, Bk B [.int .u32 0, .int .i32 1, .int .u32 0, .nilIface, .slice Ao 8 co] 83, Chunk.viewAt w417 Kd.string So Ao 8 co OLDL, Chunk.row Kd.string 9 w0.heap.size St (.slice At (([(⟨#[92]⟩ : ByteArray), (⟨#[91]⟩ : ByteArray), (⟨#[42]⟩ : ByteArray)]).length) ct) ([(⟨#[92]⟩ : ByteArray), (⟨#[91]⟩ : ByteArray), (⟨#[42]⟩ : ByteArray)]), Chunk.bsrP g391 Sb tb (.slice At (([(⟨#[92]⟩ : ByteArray), (⟨#[91]⟩ : ByteArray), (⟨#[42]⟩ : ByteArray)]).length) ct) [42, 91, 92]] := O855
     clear O855
     obtain ⟨ad849, cs852, hA850, hl853, hK854, hc851, _⟩ := Kd.F_get (viewAt_F (O856.get 2 rfl)) (⟨#[]⟩ : ByteArray) 0 (by omega) (by omega)
     obtain rfl := str_openF hK854
     clear hl853
     refine V H848 (op_index Tryz.underlying67 gwsiz9 rfl (H848.ev rfl) (H848.ev rfl) hA850 (⟨by omega, by omega⟩)) ?_
     intro _ H858; clear H848
     refine V H858 (op_load1 gwagg9 rfl (H858.ev rfl) (((pin_cells (O856.get 2 rfl) hA850 hc851) 0 _ rfl))) ?_
     intro _ H860; clear H858
     have H861 := H860.conv (v' := .string (⟨#[63]⟩ : ByteArray)) (rfl)
     clear H860
     refine V H861 (op_sidx Tryz.underlying9 rfl (H861.ev rfl) (ev_c _ _) ⟨by decide, by decide⟩) ?_
     intro _ H863; clear H861
     have H864 := H863.conv (v' := .int .u8 63) (rfl)
     clear H863
     refine V H864 (op_assign rfl (H864.ev rfl)) ?_
     intro _ H866; clear H864
     refine gE hK844 ?_
     refine gR fun K867 hK867 => ?_
     refine V H866 (op_move rfl (H866.ev rfl)) ?_
     intro _ H869; clear H866
     refine V H869 (op_move rfl (H869.ev rfl)) ?_
     intro _ H871; clear H869
     refine V H871 (op_add rfl (H871.ev rfl) (ev_c _ _) (by omega)) ?_
     intro _ H873; clear H871
     have H874 := H873.conv (v' := J 1) (rfl)
     clear H873
     obtain ⟨ad875, cs878, hA876, hl879, hK880, hc877, _⟩ := Kd.F_get (viewAt_F (O856.get 2 rfl)) (⟨#[]⟩ : ByteArray) 1 (by omega) (by omega)
     obtain rfl := str_openF hK880
     clear hl879
     refine V H874 (op_index Tryz.underlying67 gwsiz9 rfl (H874.ev rfl) (H874.ev rfl) hA876 (⟨by omega, by omega⟩)) ?_
     intro _ H882; clear H874
     refine V H882 (op_load1 gwagg9 rfl (H882.ev rfl) (((pin_cells (O856.get 2 rfl) hA876 hc877) 0 _ rfl))) ?_
     intro _ H884; clear H882
     have H885 := H884.conv (v' := .string (⟨#[92, 63]⟩ : ByteArray)) (rfl)
     clear H884
     refine V H885 (op_assign rfl (H885.ev rfl)) ?_
     intro _ H887; clear H885
     refine gE hK867 ?_
     refine gw_seq fun K888 hK888 => ?_
     refine gR fun K889 hK889 => ?_
     refine V H887 (op_move rfl (H887.ev rfl)) ?_
     intro _ H891; clear H887
     refine V H891 (op_field (gwfld108_0 _ _) rfl (H891.ev rfl)) ?_
     intro _ H893; clear H891
     refine V H893 (op_indexP (q := 63) Tryz.underlying106 gwsiz40 rfl (H893.ev rfl) (H893.ev rfl) (by decide) rfl) ?_
     intro _ H895; clear H893
     refine V H895 (op_load1 gwagg40 rfl (H895.ev rfl) ((blk_at (bsrP_blk (O856.get 4 rfl)) (tabC_get _ _ (63 : Int) ⟨by decide, by decide⟩)).trans (congrArg some (bsrP_none (O856.get 4 rfl) (63 : Int) (by decide))))) ?_
     intro _ H897; clear H895
     refine V H897 (op_bin_run (r := .bool true) rfl (H897.ev rfl) (ev_c _ _) (by kernel_rfl)) ?_
     intro _ H899; clear H897
     refine gE hK889 ?_
     refine gw_cond H899 rfl (fun hb900 => ?_) (fun hb900 => ?_)
     rotate_left
     ·
      cases hb900
     refine wp_region_lit ?_
     refine V H899 (op_field (gwfld108_1 _ _) rfl (H899.ev rfl)) ?_
     intro _ H902; clear H899
     refine V H902 (op_load1 gwagg67 rfl (H902.ev rfl) (blk_at (bsrP_blk (O856.get 4 rfl)) (tabC_last _ _))) ?_
     intro _ H904; clear H902
     refine V H904 (op_move rfl (H904.ev rfl)) ?_
     intro _ H906; clear H904
     refine gw_lit (enc := Value.int .u8) (fun _ => rfl) (xs := [63]) (e := 5) H906 O856 (want_none rfl) rfl (by decide) (op_bslice (by kernel_rfl) rfl (pt_cons (H906.ev rfl) pt_nil)) (by simp) ?_
     intro A907 S908 _ w910 H911 O912; clear H906 O856
     have O913 : Own w0 w910 [Chunk.row (Kd.int .u8) 5 w0.heap.size S908 (.slice A907 (([63]).length) (([63]).length)) ([63]), R, Bk B [.int .u32 0, .int .i32 1, .int .u32 0, .nilIface, .slice Ao 8 co] 83, Chunk.viewAt w417 Kd.string So Ao 8 co OLDL, Chunk.row Kd.string 9 w0.heap.size St (.slice At (([(⟨#[92]⟩ : ByteArray), (⟨#[91]⟩ : ByteArray), (⟨#[42]⟩ : ByteArray)]).length) ct) ([(⟨#[92]⟩ : ByteArray), (⟨#[91]⟩ : ByteArray), (⟨#[42]⟩ : ByteArray)]), Chunk.bsrP g391 Sb tb (.slice At (([(⟨#[92]⟩ : ByteArray), (⟨#[91]⟩ : ByteArray), (⟨#[42]⟩ : ByteArray)]).length) ct) [42, 91, 92]] := O912
     clear O912
     refine V H911 (op_conv_str Tryz.underlying40 Tryz.underlying5 Tryz.underlying9 (Kd.R_reads' (O913.get 0 rfl)).2.2 rfl (H911.ev rfl)) ?_
     intro _ H915; clear H911
     have H916 := H915.conv (v' := .string (⟨#[63]⟩ : ByteArray)) (rfl)
     clear H915
     refine gw_lit (enc := Value.string) (fun _ => rfl) (xs := [(⟨#[63]⟩ : ByteArray)]) (e := 9) H916 O913 (want_none rfl) rfl (by decide) (op_bslice (by kernel_rfl) rfl (pt_cons (H916.ev rfl) pt_nil)) (by simp) ?_
     intro A917 S918 _ w920 H921 O922; clear H916 O913
     have O923 : Own w0 w920 [Chunk.row Kd.string 9 w0.heap.size S918 (.slice A917 (([(⟨#[63]⟩ : ByteArray)]).length) (([(⟨#[63]⟩ : ByteArray)]).length)) ([(⟨#[63]⟩ : ByteArray)]), Chunk.row (Kd.int .u8) 5 w0.heap.size S908 (.slice A907 (([63]).length) (([63]).length)) ([63]), R, Bk B [.int .u32 0, .int .i32 1, .int .u32 0, .nilIface, .slice Ao 8 co] 83, Chunk.viewAt w417 Kd.string So Ao 8 co OLDL, Chunk.row Kd.string 9 w0.heap.size St (.slice At (([(⟨#[92]⟩ : ByteArray), (⟨#[91]⟩ : ByteArray), (⟨#[42]⟩ : ByteArray)]).length) ct) ([(⟨#[92]⟩ : ByteArray), (⟨#[91]⟩ : ByteArray), (⟨#[42]⟩ : ByteArray)]), Chunk.bsrP g391 Sb tb (.slice At (([(⟨#[92]⟩ : ByteArray), (⟨#[91]⟩ : ByteArray), (⟨#[42]⟩ : ByteArray)]).length) ct) [42, 91, 92]] := O922
     clear O922
     refine gw_append Kd.string 5 H921 O923 (want_none rfl) rfl (by decide) rfl Tryz.underlying67 gwinfo9 rfl (by decide) (by decide) rfl (H921.ev rfl) (H921.ev rfl) (Kd.R_reads' (O923.get 0 rfl)).2.2 (fun _ _ h => h) O923.below.size (by simp) ?_
     intro A924 c925 S926 _ w928 H929 O930; clear H921 O923
     have O931 : Own w0 w928 [Chunk.row Kd.string 9 w0.heap.size S918 (.slice A917 (([(⟨#[63]⟩ : ByteArray)]).length) (([(⟨#[63]⟩ : ByteArray)]).length)) ([(⟨#[63]⟩ : ByteArray)]), Chunk.row (Kd.int .u8) 5 w0.heap.size S908 (.slice A907 (([63]).length) (([63]).length)) ([63]), R, Bk B [.int .u32 0, .int .i32 1, .int .u32 0, .nilIface, .slice Ao 8 co] 83, Chunk.viewAt w417 Kd.string So Ao 8 co OLDL, Chunk.row Kd.string 9 w0.heap.size S926 (.slice A924 (([(⟨#[92]⟩ : ByteArray), (⟨#[91]⟩ : ByteArray), (⟨#[42]⟩ : ByteArray)] ++ [(⟨#[63]⟩ : ByteArray)]).length) c925) ([(⟨#[92]⟩ : ByteArray), (⟨#[91]⟩ : ByteArray), (⟨#[42]⟩ : ByteArray)] ++ [(⟨#[63]⟩ : ByteArray)]), Chunk.bsrP g391 Sb tb (.slice At (([(⟨#[92]⟩ : ByteArray), (⟨#[91]⟩ : ByteArray), (⟨#[42]⟩ : ByteArray)]).length) ct) [42, 91, 92]] := O930
     clear O930
     refine V H929 (op_field (gwfld108_1 _ _) rfl (H929.ev rfl)) ?_
     intro _ H933; clear H929
     refine gw_tabl 6 H933 O931 rfl (want_none rfl) rfl gwsiz67 rfl (H933.ev rfl) (H933.ev rfl) rfl ?_
     intro _ w936 H935 O937; clear H933 O931
     have O938 : Own w0 w936 [Chunk.row Kd.string 9 w0.heap.size S918 (.slice A917 (([(⟨#[63]⟩ : ByteArray)]).length) (([(⟨#[63]⟩ : ByteArray)]).length)) ([(⟨#[63]⟩ : ByteArray)]), Chunk.row (Kd.int .u8) 5 w0.heap.size S908 (.slice A907 (([63]).length) (([63]).length)) ([63]), R, Bk B [.int .u32 0, .int .i32 1, .int .u32 0, .nilIface, .slice Ao 8 co] 83, Chunk.viewAt w417 Kd.string So Ao 8 co OLDL, Chunk.row Kd.string 9 w0.heap.size S926 (.slice A924 (([(⟨#[92]⟩ : ByteArray), (⟨#[91]⟩ : ByteArray), (⟨#[42]⟩ : ByteArray)] ++ [(⟨#[63]⟩ : ByteArray)]).length) c925) ([(⟨#[92]⟩ : ByteArray), (⟨#[91]⟩ : ByteArray), (⟨#[42]⟩ : ByteArray)] ++ [(⟨#[63]⟩ : ByteArray)]), Chunk.bsrP g391 Sb tb (.slice A924 (([(⟨#[92]⟩ : ByteArray), (⟨#[91]⟩ : ByteArray), (⟨#[42]⟩ : ByteArray)] ++ [(⟨#[63]⟩ : ByteArray)]).length) c925) [42, 91, 92]] := O937
     clear O937
     refine gE hK888 ?_
     refine wp_region_lit ?_
     refine V H935 (op_move rfl (H935.ev rfl)) ?_
     intro _ H940; clear H935
     refine V H940 (op_move rfl (H940.ev rfl)) ?_
     intro _ H942; clear H940
     refine gw_sbytes (s := (⟨#[92, 63]⟩ : ByteArray)) Tryz.underlying9 Tryz.underlying40 Tryz.underlying5 H942 O938 (want_none rfl) rfl (by decide) rfl (H942.ev rfl) (by decide) ?_
     intro A943 c944 S945 _ w947 H948 O949; clear H942 O938
     have O951 : Own w0 w947 [Chunk.view (Kd.int .u8) S945 A943 (([92, 63]).length) c944 ([92, 63]), Chunk.row Kd.string 9 w0.heap.size S918 (.slice A917 (([(⟨#[63]⟩ : ByteArray)]).length) (([(⟨#[63]⟩ : ByteArray)]).length)) ([(⟨#[63]⟩ : ByteArray)]), Chunk.row (Kd.int .u8) 5 w0.heap.size S908 (.slice A907 (([63]).length) (([63]).length)) ([63]), R, Bk B [.int .u32 0, .int .i32 1, .int .u32 0, .nilIface, .slice Ao 8 co] 83, Chunk.viewAt w417 Kd.string So Ao 8 co OLDL, Chunk.row Kd.string 9 w0.heap.size S926 (.slice A924 (([(⟨#[92]⟩ : ByteArray), (⟨#[91]⟩ : ByteArray), (⟨#[42]⟩ : ByteArray)] ++ [(⟨#[63]⟩ : ByteArray)]).length) c925) ([(⟨#[92]⟩ : ByteArray), (⟨#[91]⟩ : ByteArray), (⟨#[42]⟩ : ByteArray)] ++ [(⟨#[63]⟩ : ByteArray)]), Chunk.bsrP g391 Sb tb (.slice A924 (([(⟨#[92]⟩ : ByteArray), (⟨#[91]⟩ : ByteArray), (⟨#[42]⟩ : ByteArray)] ++ [(⟨#[63]⟩ : ByteArray)]).length) c925) [42, 91, 92]] := O949
     clear O949
     refine V H948 (op_field (gwfld108_0 _ _) rfl (H948.ev rfl)) ?_
     intro _ H953; clear H948
     refine V H953 (op_indexP (q := 63) Tryz.underlying106 gwsiz40 rfl (H953.ev rfl) (H953.ev rfl) (by decide) rfl) ?_
     intro _ H955; clear H953
     have O960 : Own w0 _ [Chunk.bsrP g391 Sb tb (.slice A924 (([(⟨#[92]⟩ : ByteArray), (⟨#[91]⟩ : ByteArray), (⟨#[42]⟩ : ByteArray)] ++ [(⟨#[63]⟩ : ByteArray)]).length) c925) [42, 91, 92], Chunk.view (Kd.int .u8) S945 A943 2 c944 [92, 63], Chunk.row Kd.string 9 w0.heap.size S918 (.slice A917 (([(⟨#[63]⟩ : ByteArray)]).length) (([(⟨#[63]⟩ : ByteArray)]).length)) ([(⟨#[63]⟩ : ByteArray)]), Chunk.row (Kd.int .u8) 5 w0.heap.size S908 (.slice A907 (([63]).length) (([63]).length)) ([63]), R, Bk B [.int .u32 0, .int .i32 1, .int .u32 0, .nilIface, .slice Ao 8 co] 83, Chunk.viewAt w417 Kd.string So Ao 8 co OLDL, Chunk.row Kd.string 9 w0.heap.size S926 (.slice A924 (([(⟨#[92]⟩ : ByteArray), (⟨#[91]⟩ : ByteArray), (⟨#[42]⟩ : ByteArray)] ++ [(⟨#[63]⟩ : ByteArray)]).length) c925) ([(⟨#[92]⟩ : ByteArray), (⟨#[91]⟩ : ByteArray), (⟨#[42]⟩ : ByteArray)] ++ [(⟨#[63]⟩ : ByteArray)])] := O951.sel [7, 0, 1, 2, 3, 4, 5, 6] (by decide)
     refine gw_tabs (z := 63) H955 O960 ⟨by decide, by decide⟩ (want_none rfl) rfl gwsiz40 rfl (H955.ev rfl) (H955.ev rfl) ?_
     intro _ w958 S961 tb962 H957 O959; clear H955 O951 O960
     have O963 : Own w0 w958 [Chunk.bsrP g391 S961 tb962 (.slice A924 (([(⟨#[92]⟩ : ByteArray), (⟨#[91]⟩ : ByteArray), (⟨#[42]⟩ : ByteArray)] ++ [(⟨#[63]⟩ : ByteArray)]).length) c925) [63, 42, 91, 92], Chunk.row Kd.string 9 w0.heap.size S918 (.slice A917 (([(⟨#[63]⟩ : ByteArray)]).length) (([(⟨#[63]⟩ : ByteArray)]).length)) ([(⟨#[63]⟩ : ByteArray)]), Chunk.row (Kd.int .u8) 5 w0.heap.size S908 (.slice A907 (([63]).length) (([63]).length)) ([63]), R, Bk B [.int .u32 0, .int .i32 1, .int .u32 0, .nilIface, .slice Ao 8 co] 83, Chunk.viewAt w417 Kd.string So Ao 8 co OLDL, Chunk.row Kd.string 9 w0.heap.size S926 (.slice A924 (([(⟨#[92]⟩ : ByteArray), (⟨#[91]⟩ : ByteArray), (⟨#[42]⟩ : ByteArray)] ++ [(⟨#[63]⟩ : ByteArray)]).length) c925) ([(⟨#[92]⟩ : ByteArray), (⟨#[91]⟩ : ByteArray), (⟨#[42]⟩ : ByteArray)] ++ [(⟨#[63]⟩ : ByteArray)])] := O959
     clear O959
     refine wpList_nil ?_
     refine gw_blk ?_
     refine gw_nx (hK843 _ _ ?_)
     refine wp_region_lit ?_
     refine V H957 (op_move rfl (H957.ev rfl)) ?_
     intro _ H965; clear H957
     refine V H965 (op_sub rfl (H965.ev rfl) (ev_c _ _) (by omega)) ?_
     intro _ H967; clear H965
     have H968 := H967.conv (v' := J (-2)) (rfl)
     clear H967
     refine V H968 (op_assign rfl (H968.ev rfl)) ?_
     intro _ H970; clear H968
     refine wpList_nil ?_
     have O971 := O963.unpin 5 rfl
     clear O963
     have O972 : Own w0 w958 [Chunk.bsrP g391 S961 tb962 (.slice A924 (([(⟨#[92]⟩ : ByteArray), (⟨#[91]⟩ : ByteArray), (⟨#[42]⟩ : ByteArray)] ++ [(⟨#[63]⟩ : ByteArray)]).length) c925) [63, 42, 91, 92], Chunk.row Kd.string 9 w0.heap.size S918 (.slice A917 (([(⟨#[63]⟩ : ByteArray)]).length) (([(⟨#[63]⟩ : ByteArray)]).length)) ([(⟨#[63]⟩ : ByteArray)]), Chunk.row (Kd.int .u8) 5 w0.heap.size S908 (.slice A907 (([63]).length) (([63]).length)) ([63]), R, Bk B [.int .u32 0, .int .i32 1, .int .u32 0, .nilIface, .slice Ao 8 co] 83, Chunk.view Kd.string So Ao 8 co OLDL, Chunk.row Kd.string 9 w0.heap.size S926 (.slice A924 (([(⟨#[92]⟩ : ByteArray), (⟨#[91]⟩ : ByteArray), (⟨#[42]⟩ : ByteArray)] ++ [(⟨#[63]⟩ : ByteArray)]).length) c925) ([(⟨#[92]⟩ : ByteArray), (⟨#[91]⟩ : ByteArray), (⟨#[42]⟩ : ByteArray)] ++ [(⟨#[63]⟩ : ByteArray)])] := O971
     clear O971
     refine gw_nx ⟨_, ?_, (-2), [63, 42, 91, 92], ([(⟨#[92]⟩ : ByteArray), (⟨#[91]⟩ : ByteArray), (⟨#[42]⟩ : ByteArray)] ++ [(⟨#[63]⟩ : ByteArray)]), tb962, _, A924, _, _, (H970.pick (t := 12) rfl (H970.pick (t := 3) rfl (H970.pick (t := 11) rfl H970.nil))), O972.sel [3, 4, 5, 6, 0] (by decide), ?_, rfl⟩
     ·
      rw [hm420]; decide
     ·
      exact .inr (.inr (.inr (.inr (⟨rfl, rfl, rfl⟩))))
    ·
     refine gw_seq fun K973 hK973 => ?_
     refine gR fun K974 hK974 => ?_
     refine V H418 (op_move rfl (H418.ev rfl)) ?_
     intro _ H976; clear H418
     refine V H976 (op_geq rfl (H976.ev rfl) (ev_c _ _)) ?_
     intro _ H978; clear H976
     have H979 := H978.lit (b := false) (by decide)
     clear H978
     refine gE hK974 ?_
     refine gw_cond H979 rfl (fun hb980 => ?_) (fun hb980 => ?_)
     skip
     ·
      cases hb980
     refine wp_exit ?_
     refine gw_thx ?_
     refine gw_thx ?_
     refine gw_in ?_
     refine gw_nx (hK403 _ _ ?_)
     refine gR fun K981 hK981 => ?_
     refine V H979 (op_iface (fun _ => by first | rfl | kernel_rfl) rfl (H979.ev rfl)) ?_
     intro _ H983; clear H979
     refine V H983 (op_assign rfl (H983.ev rfl)) ?_
     intro _ H985; clear H983
     refine gE hK981 ?_
     refine wp_ret ?_
     refine gw_ret1 H985 rfl rfl ?_
     have O986 := Own.tab_full O419 4 rfl
     clear O419
     have O987 : Own w0 w417 [R, Bk B [.int .u32 0, .int .i32 1, .int .u32 0, .nilIface, .slice Ao 8 co] 83, Chunk.view Kd.string So Ao 8 co OLDL, Chunk.row Kd.string 9 w0.heap.size St (.slice At (([(⟨#[92]⟩ : ByteArray), (⟨#[91]⟩ : ByteArray), (⟨#[42]⟩ : ByteArray), (⟨#[63]⟩ : ByteArray)]).length) ct) ([(⟨#[92]⟩ : ByteArray), (⟨#[91]⟩ : ByteArray), (⟨#[42]⟩ : ByteArray), (⟨#[63]⟩ : ByteArray)]), Chunk.bsr g391 Sb tb (.slice At (([(⟨#[92]⟩ : ByteArray), (⟨#[91]⟩ : ByteArray), (⟨#[42]⟩ : ByteArray), (⟨#[63]⟩ : ByteArray)]).length) ct)] := O986
     clear O986
     have O988 := O987.row_view 3 rfl
     clear O987
     have O989 : Own w0 w417 [R, Bk B [.int .u32 0, .int .i32 1, .int .u32 0, .nilIface, .slice Ao 8 co] 83, Chunk.view Kd.string So Ao 8 co OLDL, Chunk.view Kd.string St At (([(⟨#[92]⟩ : ByteArray), (⟨#[91]⟩ : ByteArray), (⟨#[42]⟩ : ByteArray), (⟨#[63]⟩ : ByteArray)]).length) ct ([(⟨#[92]⟩ : ByteArray), (⟨#[91]⟩ : ByteArray), (⟨#[42]⟩ : ByteArray), (⟨#[63]⟩ : ByteArray)]), Chunk.bsr g391 Sb tb (.slice At (([(⟨#[92]⟩ : ByteArray), (⟨#[91]⟩ : ByteArray), (⟨#[42]⟩ : ByteArray), (⟨#[63]⟩ : ByteArray)]).length) ct)] := O988
     clear O988
     exact ⟨_, _, _, _, _, _, rfl, O989.sel [4, 3, 0, 1, 2] (by decide)⟩
end GQbuild_
export GQbuild_ (build_walk)
end Go.Proofs.YtelbgmpeghhakaaGreat.PA
end
section
namespace Go.Proofs.YtelbgmpeghhakaaGreat.PA
open Go.RowKit Go.Proofs.YtelbgmpeghhakaaGreatW.PrintWords Go.Proofs.YtelbgmpeghhakaaGreatW.PrintLast Go.Proofs.YtelbgmpeghhakaaGreatW.PrintMore
set_option linter.unusedVariables false
set_option linter.unusedSimpArgs false
namespace GQonce_
theorem gwfld83_1 (g off : Nat) : ∀ w, (Instr.fieldAt 83 (.pointer (some ⟨g, off, none⟩)) 1).run Tryz.prog w = .ok (.pointer (some ⟨g, off + 3, none⟩)) w := fun _ => by kernel_rfl
theorem gwfld83_2 (g off : Nat) : ∀ w, (Instr.fieldAt 83 (.pointer (some ⟨g, off, none⟩)) 2).run Tryz.prog w = .ok (.pointer (some ⟨g, off + 4, none⟩)) w := fun _ => by kernel_rfl
theorem gwsiz67 : ∀ w, (sizeOf 67).run Tryz.prog w = .ok 1 w := fun _ => by kernel_rfl
theorem gwsiz81 : ∀ w, (sizeOf 81).run Tryz.prog w = .ok 1 w := fun _ => by kernel_rfl
set_option maxHeartbeats 4000000 in
set_option maxRecDepth 100000 in
theorem buildOnce_walk (w0 w : World) (R : Chunk) (B : Nat) (So : Nat → Prop) (Ao : Option Addr) (co : Nat) (HO : Own w0 w [R, Bk B [.int .u32 0, .int .i32 1, .int .u32 0, .nilIface, .slice Ao 8 co] 83, Chunk.view Kd.string So Ao 8 co OLDL]) :
    Calls Tryz.prog 41 #[.pointer (some ⟨B, 0, none⟩)] w fun e w' => e = .returned (.tuple #[]) ∧ ∃ G Sb tb At ct St, Own w0 w' [R, Bk B [.int .u32 0, .int .i32 1, .int .u32 0, .iface 109 (.pointer (some ⟨G, 0, none⟩)), .slice none 0 0] 83, Chunk.bsr G Sb tb (.slice At 4 ct), Chunk.view Kd.string St At 4 ct TRL] := by
 refine gw_startO (N := 10) (vs := [.pointer (some ⟨B, 0, none⟩)]) Tryz.func41 rfl rfl (by simp) fun a HF => ?_
 refine gR fun K1 hK1 => ?_
 refine V HF (op_move rfl (HF.ev rfl)) ?_
 intro _ H3; clear HF
 refine V H3 (op_move rfl (H3.ev rfl)) ?_
 intro _ H5; clear H3
 have O12 : Own w0 _ [(Chunk.all [R]), Bk B [.int .u32 0, .int .i32 1, .int .u32 0, .nilIface, .slice Ao 8 co] 83, Chunk.view Kd.string So Ao 8 co OLDL] := Own.bundle (HO.sel [0, 1, 2] (by decide))
 refine gw_call H5 (want_none rfl) rfl (by decide) (op_callL Tryz.func49 (by kernel_rfl) rfl rfl (ar_cons (H5.ev rfl) ar_nil)) (build_walk w0 _ (Chunk.all [R]) B So Ao co O12) ?_
 rintro e6 w7 ⟨G, Sb, tb, At, ct, St, rfl, hb8⟩
 refine ⟨_, rfl, fun _ H10 => ?_⟩
 have O11 : Own w0 w7 [R, Chunk.bsr G Sb tb (.slice At 4 ct), Chunk.view Kd.string St At 4 ct TRL, Bk B [.int .u32 0, .int .i32 1, .int .u32 0, .nilIface, .slice Ao 8 co] 83, Chunk.view Kd.string So Ao 8 co OLDL] := Own.unbundle (hb8.sel [2, 0, 1, 3, 4] (by decide))
 clear O12
 clear H5 HO hb8
 refine V H10 (op_nil rfl (H10.ev rfl)) ?_
 intro _ H15; clear H10
 refine V H15 (op_field (gwfld83_1 _ _) rfl (H15.ev rfl)) ?_
 intro _ H17; clear H15
 refine gw_set 3 H17 O11 rfl (want_none rfl) rfl (op_store1 gwsiz81 rfl (H17.ev rfl) (H17.ev rfl) rfl (blk_at (O11.get 3 rfl) rfl) (blkf (O11.get 3 rfl))) ?_
 intro _ w20 H19 O21; clear H17 O11
 refine gE hK1 ?_
 refine wp_region_lit ?_
 refine V H19 (op_move rfl (H19.ev rfl)) ?_
 intro _ H23; clear H19
 refine V H23 (op_nil rfl (H23.ev rfl)) ?_
 intro _ H25; clear H23
 refine V H25 (op_field (gwfld83_2 _ _) rfl (H25.ev rfl)) ?_
 intro _ H27; clear H25
 refine gw_set 3 H27 O21 rfl (want_none rfl) rfl (op_store1 gwsiz67 rfl (H27.ev rfl) (ev_c _ _) rfl (blk_at (O21.get 3 rfl) rfl) (blkf (O21.get 3 rfl))) ?_
 intro _ w30 H29 O31; clear H27 O21
 refine wpList_nil ?_
 refine gw_end0 H29 rfl ?_
 exact ⟨rfl, G, Sb, tb, At, ct, St, O31.sel [0, 3, 1, 2] (by decide)⟩
end GQonce_
export GQonce_ (buildOnce_walk)
end Go.Proofs.YtelbgmpeghhakaaGreat.PA
end
section
namespace Go.Proofs.YtelbgmpeghhakaaGreat.PA
open Go.RowKit Go.Proofs.YtelbgmpeghhakaaGreatW.PrintWords Go.Proofs.YtelbgmpeghhakaaGreatW.PrintLast Go.Proofs.YtelbgmpeghhakaaGreatW.PrintMore
set_option linter.unusedVariables false
set_option linter.unusedSimpArgs false
set_option maxRecDepth 100000
theorem op_invoke {P : Program} {o : Oper} {a : Act} {w : World} {f : FuncId} {m : String} {x : Operand} {T : TypeId} {v : Value} {args : List Operand} {tys : Array TypeId} {vs : List Value} (hinv : ∀ w, (invoke (.fn (.method m) #[]) (.iface T v :: vs).toArray).run P w = .ok (.enter f (v :: vs).toArray) w) (ho : o.op = .call { callee := .invoke x m, args := args.toArray, argTypes := tys }) (hx : a.eval x = .iface T v) (hv : args.map a.eval = vs) : Enters P o a w f (v :: vs).toArray := by
  have h := hinv w
  have e : (.iface T v :: vs).toArray = #[.iface T v] ++ vs.toArray := by simp
  rw [e] at h
  unfold Enters execOp
  simp only [ho, resolve, Sem.run_bind, Sem.run_pure, Result.andThen_ok, List.map_toArray, hx, hv, h]
set_option maxHeartbeats 1600000 in
theorem do_once (B : Nat) (w : World) (h0 : w.cell? ⟨B, 0, none⟩ = some (.int .u32 0)) (h1 : w.cell? ⟨B, 0 + 1, none⟩ = some (.int .i32 0)) (f0 : w.frozen? ⟨B, 0, none⟩ = false) (f1 : w.frozen? ⟨B, 0 + 1, none⟩ = false) (R : World → Prop)
    (hcon : Calls Tryz.prog 41 #[.pointer (some ⟨B, 0, none⟩)] (w.setCell ⟨B, 0 + 1, none⟩ (.int .i32 1)) fun e w' => e = .returned (.tuple #[]) ∧ R w')
    (hR : ∀ w', R w' → w'.cell? ⟨B, 0, none⟩ = some (.int .u32 0) ∧ w'.frozen? ⟨B, 0, none⟩ = false ∧ w'.cell? ⟨B, 0 + 1, none⟩ = some (.int .i32 1) ∧ w'.frozen? ⟨B, 0 + 1, none⟩ = false) :
    Calls Tryz.prog 40 #[.pointer (some ⟨B, 0, none⟩), .func (.func 41) #[.pointer (some ⟨B, 0, none⟩)] #[]] w fun e w' => e = .returned (.tuple #[]) ∧ ∃ w2, R w2 ∧ w' = (w2.drew.setCell ⟨B, 0, none⟩ (.int .u32 1)).setCell ⟨B, 0 + 1, none⟩ (.int .i32 0) := by
  have hl := run_call_load (P := Tryz.prog) Tryz.func53 (by kernel_rfl) (by kernel_rfl) (by kernel_rfl) .u32 (by kernel_rfl) h0
  have hnot : ∀ (x : Bool) (w : World), (Op.unary .not (.bool x)).run Tryz.prog w = .ok (.bool (!x)) w := fun _ _ => rfl
  go_enter Tryz.func40, Tryz.ntmps40
  go_wp2_with (first | (go_at_call 48; refine (slow_once B _ h0 h1 f0 f1 R hcon hR).mono ?_; rintro e w' ⟨rfl, w2, hw2, rfl⟩) | (go_at_call 47; go_in))
  go_end0
  exact ⟨rfl, w2, hw2, rfl⟩
theorem do_own (w0 w : World) (R : Chunk) (B : Nat) (So : Nat → Prop) (Ao : Option Addr) (co : Nat) (HO : Own w0 w [R, Bk B [.int .u32 0, .int .i32 0, .int .u32 0, .nilIface, .slice Ao 8 co] 83, Chunk.view Kd.string So Ao 8 co OLDL]) :
    Calls Tryz.prog 40 #[.pointer (some ⟨B, 0, none⟩), .func (.func 41) #[.pointer (some ⟨B, 0, none⟩)] #[]] w fun e w' => ∃ G Sb tb At ct St, e = .returned (.tuple #[]) ∧ Own w0 w' [Chunk.bsr G Sb tb (.slice At 4 ct), Chunk.view Kd.string St At 4 ct TRL, R, Bk B [.int .u32 1, .int .i32 0, .int .u32 0, .iface 109 (.pointer (some ⟨G, 0, none⟩)), .slice none 0 0] 83] := by
  have hg := HO.get 1 rfl
  have H1 := HO.setBlk 1 rfl (0 + 1) (.int .i32 1)
  refine (do_once B w (blk_at hg rfl) (blk_at hg rfl) (blkf hg) (blkf hg) (fun w' => ∃ G Sb tb At ct St, Own w0 w' [R, Bk B [.int .u32 0, .int .i32 1, .int .u32 0, .iface 109 (.pointer (some ⟨G, 0, none⟩)), .slice none 0 0] 83, Chunk.bsr G Sb tb (.slice At 4 ct), Chunk.view Kd.string St At 4 ct TRL]) (buildOnce_walk w0 _ R B So Ao co H1) ?_).mono ?_
  · rintro w' ⟨G, Sb, tb, At, ct, St, h⟩
    have hg := h.get 1 rfl
    exact ⟨blk_at hg rfl, blkf hg, blk_at hg rfl, blkf hg⟩
  · rintro e w' ⟨rfl, w2, ⟨G, Sb, tb, At, ct, St, h⟩, rfl⟩
    have h2 : Own w0 (w2.drew.setCell ⟨B, 0, none⟩ (.int .u32 1)) [R, Bk B [.int .u32 1, .int .i32 1, .int .u32 0, .iface 109 (.pointer (some ⟨G, 0, none⟩)), .slice none 0 0] 83, Chunk.bsr G Sb tb (.slice At 4 ct), Chunk.view Kd.string St At 4 ct TRL] := h.drew.setBlk 1 rfl 0 (.int .u32 1)
    have h3 : Own w0 ((w2.drew.setCell ⟨B, 0, none⟩ (.int .u32 1)).setCell ⟨B, 0 + 1, none⟩ (.int .i32 0)) [R, Bk B [.int .u32 1, .int .i32 0, .int .u32 0, .iface 109 (.pointer (some ⟨G, 0, none⟩)), .slice none 0 0] 83, Chunk.bsr G Sb tb (.slice At 4 ct), Chunk.view Kd.string St At 4 ct TRL] := h2.setBlk 1 rfl (0 + 1) (.int .i32 0)
    exact ⟨G, Sb, tb, At, ct, St, rfl, h3.sel [2, 3, 0, 1] (by decide)⟩
theorem invoke_repl (v : Value) (s : ByteArray) (w : World) : (invoke (.fn (.method "Replace") #[]) #[.iface 109 v, .string s]).run Tryz.prog w = .ok (.enter 128 #[v, .string s]) w := by kernel_rfl
end Go.Proofs.YtelbgmpeghhakaaGreat.PA
end
section
namespace Go.Proofs.YtelbgmpeghhakaaGreat.PA
open Go.RowKit Go.Proofs.YtelbgmpeghhakaaGreatW.PrintWords Go.Proofs.YtelbgmpeghhakaaGreatW.PrintLast Go.Proofs.YtelbgmpeghhakaaGreatW.PrintMore
set_option linter.unusedVariables false
set_option linter.unusedSimpArgs false
namespace GQrep_
theorem gwagg40 : ∀ w, (isAgg 40).run Tryz.prog w = .ok false w := fun _ => by kernel_rfl
theorem gwagg67 : ∀ w, (isAgg 67).run Tryz.prog w = .ok false w := fun _ => by kernel_rfl
theorem gwagg9 : ∀ w, (isAgg 9).run Tryz.prog w = .ok false w := fun _ => by kernel_rfl
theorem gwfld108_0 (g off : Nat) : ∀ w, (Instr.fieldAt 108 (.pointer (some ⟨g, off, none⟩)) 0).run Tryz.prog w = .ok (.pointer (some ⟨g, off + 0, none⟩)) w := fun _ => by kernel_rfl
theorem gwfld108_1 (g off : Nat) : ∀ w, (Instr.fieldAt 108 (.pointer (some ⟨g, off, none⟩)) 1).run Tryz.prog w = .ok (.pointer (some ⟨g, off + 256, none⟩)) w := fun _ => by kernel_rfl
theorem gwinfo5 : (Tryz.prog.info? 5).map (fun i => (i.zero, i.size, i.bytes)) = some (some (.int .u8 0), 1, 1) := by kernel_rfl
theorem gwsiz40 : ∀ w, (sizeOf 40).run Tryz.prog w = .ok 1 w := fun _ => by kernel_rfl
theorem gwsiz5 : ∀ w, (sizeOf 5).run Tryz.prog w = .ok 1 w := fun _ => by kernel_rfl
theorem gwsiz9 : ∀ w, (sizeOf 9).run Tryz.prog w = .ok 1 w := fun _ => by kernel_rfl
set_option maxHeartbeats 4000000 in
set_option maxRecDepth 100000 in
theorem bsrReplace_walk (w0 w : World) (R : Chunk) (G : Nat) (Sb St : Nat → Prop) (tb : List (Int × Value)) (At : Option Addr) (ct : Nat) (s : ByteArray) (hs : s.size ≤ 35184372088832) (HO : Own w0 w [R, Chunk.bsr G Sb tb (.slice At 4 ct), Chunk.view Kd.string St At 4 ct TRL]) :
    Calls Tryz.prog 128 #[.pointer (some ⟨G, 0, none⟩), .string s] w fun e w' => e = .returned (.string (quoteB s)) ∧ Own w0 w' [R] := by
 have h92 := cnt_nonneg (bytesOf s) 92
 have h91 := cnt_nonneg (bytesOf s) 91
 have h42 := cnt_nonneg (bytesOf s) 42
 have h63 := cnt_nonneg (bytesOf s) 63
 rw [bytesOf_length] at h92 h91 h42 h63
 refine gw_startO (N := 122) (vs := [.pointer (some ⟨G, 0, none⟩), .string s]) Tryz.func128 rfl rfl (by simp) fun a HF => ?_
 refine gR fun K1 hK1 => ?_
 refine V HF (op_assign rfl (ev_c _ _)) ?_
 intro _ H3; clear HF
 refine gE hK1 ?_
 refine gR fun K4 hK4 => ?_
 refine V H3 (op_move rfl (H3.ev rfl)) ?_
 intro _ H6; clear H3
 refine V H6 (op_lens Tryz.underlying9 rfl (H6.ev rfl)) ?_
 intro _ H8; clear H6
 refine V H8 (op_assign rfl (H8.ev rfl)) ?_
 intro _ H10; clear H8
 refine gE hK4 ?_
 refine gR fun K11 hK11 => ?_
 refine V H10 (op_assign rfl (ev_c _ _)) ?_
 intro _ H13; clear H10
 refine gE hK11 ?_
 refine gw_seq fun K14 hK14 => ?_
 refine gR fun K15 hK15 => ?_
 refine V H13 (op_move rfl (H13.ev rfl)) ?_
 intro _ H17; clear H13
 refine V H17 (op_nil rfl (H17.ev rfl)) ?_
 intro _ H19; clear H17
 refine V H19 (op_field (gwfld108_1 _ _) rfl (H19.ev rfl)) ?_
 intro _ H21; clear H19
 refine V H21 (op_load1 gwagg67 rfl (H21.ev rfl) (blk_at (bsr_blk (HO.get 1 rfl)) (tabC_last _ _))) ?_
 intro _ H23; clear H21
 refine V H23 (op_len Tryz.underlying67 rfl (H23.ev rfl)) ?_
 intro _ H25; clear H23
 refine V H25 (op_mul rfl (H25.ev rfl) (ev_c _ _) (by omega)) ?_
 intro _ H27; clear H25
 refine V H27 (op_move rfl (H27.ev rfl)) ?_
 intro _ H29; clear H27
 refine V H29 (op_lens Tryz.underlying9 rfl (H29.ev rfl)) ?_
 intro _ H31; clear H29
 refine V H31 (op_leq rfl (H31.ev rfl) (H31.ev rfl)) ?_
 intro _ H33; clear H31
 refine gE hK15 ?_
 refine gw_cond H33 rfl (fun hb34 => ?_) (fun hb34 => ?_)
 ·
  have H35 := H33.subst_ (d := 26) (b := true) rfl hb34
  clear H33
  (try simp only [decide_eq_true_eq] at hb34)
  refine gR fun K36 hK36 => ?_
  refine V H35 (op_move rfl (H35.ev rfl)) ?_
  intro _ H38; clear H35
  refine V H38 (op_nil rfl (H38.ev rfl)) ?_
  intro _ H40; clear H38
  refine V H40 (op_field (gwfld108_1 _ _) rfl (H40.ev rfl)) ?_
  intro _ H42; clear H40
  refine V H42 (op_load1 gwagg67 rfl (H42.ev rfl) (blk_at (bsr_blk (HO.get 1 rfl)) (tabC_last _ _))) ?_
  intro _ H44; clear H42
  refine V H44 (op_len Tryz.underlying67 rfl (H44.ev rfl)) ?_
  intro _ H46; clear H44
  refine V H46 (op_move rfl (ev_c _ _)) ?_
  intro _ H48; clear H46
  refine gE hK36 ?_
  refine wp_block ?_
  refine gw_loop (fun m_ a_ w_ => ∃ (q : Int) (ns : Int) (fl : Bool), Fr 122 a_ [(32, J q), (5, J ns), (6, .bool fl), (0, .pointer (some ⟨G, 0, none⟩)), (1, .string s), (4, .string (⟨#[]⟩ : ByteArray)), (30, .slice At 4 ct), (31, J ((4 : Nat) : Int))] ∧ Own w0 w_ [R, Chunk.bsr G Sb tb (.slice At 4 ct), Chunk.view Kd.string St At 4 ct TRL] ∧ (0 ≤ q ∧ q ≤ 4) ∧ (ns = s.size + cqI (bytesOf s) q) ∧ (fl = decide (cqI (bytesOf s) q ≠ 0)) ∧ m_ = (4 - q.toNat)) ((4 - (0 : Int).toNat)) ?_ ?_
  ·
   refine ⟨0, (s.size : Int), false, (H48.pick (t := 32) rfl (H48.pick (t := 5) rfl (H48.pick (t := 6) rfl (H48.pick (t := 0) rfl (H48.pick (t := 1) rfl (H48.pick (t := 4) rfl (H48.pick (t := 30) rfl (H48.pick (t := 31) rfl H48.nil)))))))), HO.sel [0, 1, 2] (by decide), ?_, ?_, ?_, rfl⟩
   ·
    omega
   ·
    rw [cq0]; omega
   ·
    rw [cq0]; rfl
  ·
   rintro m50 _ w52 ⟨q, ns, fl, H53, O54, hq, hns, hfl, hm55⟩
   rcases (show q = 0 ∨ q = 1 ∨ q = 2 ∨ q = 3 ∨ q = 4 from by omega) with rfl | rfl | rfl | rfl | rfl
   ·
    have hnsx := hns
    rw [cq0] at hnsx
    refine gR fun K56 hK56 => ?_
    refine V H53 (op_lss rfl (H53.ev rfl) (H53.ev rfl)) ?_
    intro _ H58; clear H53
    have H59 := H58.lit (b := true) (by decide)
    clear H58
    refine gE hK56 ?_
    refine gw_seq fun K60 hK60 => ?_
    refine gw_cond H59 rfl (fun hb61 => ?_) (fun hb61 => ?_)
    rotate_left
    ·
     cases hb61
    refine wp_skip ?_
    refine gw_nx (hK60 _ _ ?_)
    refine gw_seq fun K62 hK62 => ?_
    refine wp_block ?_
    refine gR fun K63 hK63 => ?_
    have O70 := O54.pin 2 rfl
    clear O54
    have O71 : Own w0 w52 [R, Chunk.bsr G Sb tb (.slice At 4 ct), Chunk.viewAt w52 Kd.string St At 4 ct TRL] := O70
    clear O70
    obtain ⟨ad64, cs67, hA65, hl68, hK69, hc66, _⟩ := Kd.F_get (viewAt_F (O71.get 2 rfl)) (⟨#[]⟩ : ByteArray) 0 (by omega) (by omega)
    obtain rfl := str_openF hK69
    clear hl68
    refine V H59 (op_index Tryz.underlying67 gwsiz9 rfl (H59.ev rfl) (H59.ev rfl) hA65 (⟨by omega, by omega⟩)) ?_
    intro _ H73; clear H59
    refine V H73 (op_load1 gwagg9 rfl (H73.ev rfl) (((pin_cells (O71.get 2 rfl) hA65 hc66) 0 _ rfl))) ?_
    intro _ H75; clear H73
    have H76 := H75.conv (v' := .string (⟨#[92]⟩ : ByteArray)) (rfl)
    clear H75
    refine V H76 (op_assign rfl (H76.ev rfl)) ?_
    intro _ H78; clear H76
    refine gE hK63 ?_
    refine gR fun K79 hK79 => ?_
    refine V H78 (op_move rfl (H78.ev rfl)) ?_
    intro _ H81; clear H78
    refine V H81 (op_move rfl (H81.ev rfl)) ?_
    intro _ H83; clear H81
    refine gw_call H83 (want_none rfl) rfl (by decide) (op_callL Tryz.func130 (by kernel_rfl) rfl rfl (ar_cons (H83.ev rfl) (ar_cons (H83.ev rfl) ar_nil))) (count_x s 92 92 _ (by decide)) ?_
    rintro e84 w85 ⟨rfl, hb86⟩
    refine ⟨_, rfl, fun _ H88 => ?_⟩
    have O89 := O71.after hb86
    clear H83 O71 hb86
    refine V H88 (op_assign rfl (H88.ev rfl)) ?_
    intro _ H92; clear H88
    refine gE hK79 ?_
    refine gR fun K93 hK93 => ?_
    refine V H92 (op_move rfl (H92.ev rfl)) ?_
    intro _ H95; clear H92
    refine V H95 (op_nei rfl (H95.ev rfl) (ev_c _ _)) ?_
    intro _ H97; clear H95
    refine gE hK93 ?_
    refine gw_cond H97 rfl (fun hb98 => ?_) (fun hb98 => ?_)
    ·
     have H99 := H97.subst_ (d := 40) (b := true) rfl hb98
     clear H97
     (try simp only [decide_eq_true_eq, ne_eq] at hb98)
     obtain ⟨adb, ccb, htb, hcb⟩ := bsr_spec (x := 92) (O89.get 1 rfl) ⟨by decide, by decide⟩ rfl
     refine gw_seq fun K100 hK100 => ?_
     refine gw_drawB O89 (by kernel_rfl) (by kernel_rfl) fun w101 O102 => ?_
     clear O89
     refine gq_ev H99 (want_none rfl) rfl (by decide) (fun wq hq => have HO := O102.after hq; (op_move rfl (H99.ev rfl))) ?_
     intro _ H104; clear H99
     refine gq_ev H104 (want_none rfl) rfl (by decide) (fun wq hq => have HO := O102.after hq; (op_move rfl (H104.ev rfl))) ?_
     intro _ H106; clear H104
     refine gq_ev H106 (want_none rfl) rfl (by decide) (fun wq hq => have HO := O102.after hq; (op_move rfl (H106.ev rfl))) ?_
     intro _ H108; clear H106
     refine gq_ev H108 (want_none rfl) rfl (by decide) (fun wq hq => have HO := O102.after hq; (op_move rfl (H108.ev rfl))) ?_
     intro _ H110; clear H108
     refine gq_ev H110 (want_none rfl) rfl (by decide) (fun wq hq => have HO := O102.after hq; (op_sidx Tryz.underlying9 rfl (H110.ev rfl) (ev_c _ _) ⟨by decide, by decide⟩)) ?_
     intro _ H112; clear H110
     have H113 := H112.conv (v' := .int .u8 92) (rfl)
     clear H112
     refine gq_ev H113 (want_none rfl) rfl (by decide) (fun wq hq => have HO := O102.after hq; (op_nil rfl (H113.ev rfl))) ?_
     intro _ H115; clear H113
     refine gq_ev H115 (want_none rfl) rfl (by decide) (fun wq hq => have HO := O102.after hq; (op_field (gwfld108_0 _ _) rfl (H115.ev rfl))) ?_
     intro _ H117; clear H115
     refine gq_ev H117 (want_none rfl) rfl (by decide) (fun wq hq => have HO := O102.after hq; (op_indexP (q := 92) Tryz.underlying106 gwsiz40 rfl (H117.ev rfl) (H117.ev rfl) (by decide) rfl)) ?_
     intro _ H119; clear H117
     refine gq_ev H119 (want_none rfl) rfl (by decide) (fun wq hq => have HO := O102.after hq; (op_load1 gwagg40 rfl (H119.ev rfl) (blk_at (bsr_blk (HO.get 1 rfl)) (tabC_get _ _ (92 : Int) ⟨by decide, by decide⟩)))) ?_
     intro _ H121; clear H119
     have H122 := H121.conv (v' := .slice (some adb) 2 ccb) (htb)
     clear H121
     refine gq_ev H122 (want_none rfl) rfl (by decide) (fun wq hq => have HO := O102.after hq; (op_len Tryz.underlying40 rfl (H122.ev rfl))) ?_
     intro _ H124; clear H122
     refine gq_ev H124 (want_none rfl) rfl (by decide) (fun wq hq => have HO := O102.after hq; (op_sub rfl (H124.ev rfl) (ev_c _ _) (by omega))) ?_
     intro _ H126; clear H124
     have H127 := H126.conv (v' := J 1) (rfl)
     clear H126
     refine gq_ev H127 (want_none rfl) rfl (by decide) (fun wq hq => have HO := O102.after hq; (op_mul rfl (H127.ev rfl) (H127.ev rfl) (by omega))) ?_
     intro _ H129; clear H127
     refine gq_ev H129 (want_none rfl) rfl (by decide) (fun wq hq => have HO := O102.after hq; (op_add rfl (H129.ev rfl) (H129.ev rfl) (by omega))) ?_
     intro _ H131; clear H129
     refine gq_ev H131 (want_none rfl) rfl (by decide) (fun wq hq => have HO := O102.after hq; (op_assign rfl (H131.ev rfl))) ?_
     intro _ H133; clear H131
     refine wpQuiet_nil ?_
     intro w134 hq
     have O135 := O102.after hq
     clear O102 hq
     refine gw_nx (hK100 _ _ ?_)
     refine wp_region_lit ?_
     refine V H133 (op_assign rfl (ev_c _ _)) ?_
     intro _ H137; clear H133
     refine wpList_nil ?_
     refine gw_blk ?_
     refine gw_nx (hK62 _ _ ?_)
     refine wp_region_lit ?_
     refine V H137 (op_add rfl (H137.ev rfl) (ev_c _ _) (by omega)) ?_
     intro _ H139; clear H137
     refine V H139 (op_move rfl (H139.ev rfl)) ?_
     intro _ H141; clear H139
     refine wpList_nil ?_
     have O142 := O135.unpin 2 rfl
     clear O135
     have O143 : Own w0 w134 [R, Chunk.bsr G Sb tb (.slice At 4 ct), Chunk.view Kd.string St At 4 ct TRL] := O142
     clear O142
     refine gw_nx ⟨_, ?_, 1, ns + ((cntI (bytesOf s) 92) * 1), true, (H141.pick (t := 32) rfl (H141.pick (t := 5) rfl (H141.pick (t := 6) rfl (H141.pick (t := 0) rfl (H141.pick (t := 1) rfl (H141.pick (t := 4) rfl (H141.pick (t := 30) rfl (H141.pick (t := 31) rfl H141.nil)))))))), O143.sel [0, 1, 2] (by decide), ?_, ?_, ?_, rfl⟩
     ·
      rw [hm55]; omega
     ·
      omega
     ·
      rw [cq1]; rw [cq0] at hns; omega
     ·
      rw [cq1]; symm; rw [decide_eq_true_eq]; omega
    ·
     have H144 := H97.subst_ (d := 40) (b := false) rfl hb98
     clear H97
     (try simp only [decide_eq_false_iff_not, ne_eq, Decidable.not_not] at hb98)
     refine wp_skip ?_
     refine gw_blk ?_
     refine gw_nx (hK62 _ _ ?_)
     refine wp_region_lit ?_
     refine V H144 (op_add rfl (H144.ev rfl) (ev_c _ _) (by omega)) ?_
     intro _ H146; clear H144
     refine V H146 (op_move rfl (H146.ev rfl)) ?_
     intro _ H148; clear H146
     refine wpList_nil ?_
     have O149 := O89.unpin 2 rfl
     clear O89
     have O150 : Own w0 w85 [R, Chunk.bsr G Sb tb (.slice At 4 ct), Chunk.view Kd.string St At 4 ct TRL] := O149
     clear O149
     refine gw_nx ⟨_, ?_, 1, ns, fl, (H148.pick (t := 32) rfl (H148.pick (t := 5) rfl (H148.pick (t := 6) rfl (H148.pick (t := 0) rfl (H148.pick (t := 1) rfl (H148.pick (t := 4) rfl (H148.pick (t := 30) rfl (H148.pick (t := 31) rfl H148.nil)))))))), O150.sel [0, 1, 2] (by decide), ?_, ?_, ?_, rfl⟩
     ·
      rw [hm55]; omega
     ·
      omega
     ·
      rw [cq1]; rw [cq0] at hns; omega
     ·
      rw [hfl, decide_eq_decide]; rw [cq1]; rw [cq0]; omega
   ·
    have hnsx := hns
    rw [cq1] at hnsx
    refine gR fun K151 hK151 => ?_
    refine V H53 (op_lss rfl (H53.ev rfl) (H53.ev rfl)) ?_
    intro _ H153; clear H53
    have H154 := H153.lit (b := true) (by decide)
    clear H153
    refine gE hK151 ?_
    refine gw_seq fun K155 hK155 => ?_
    refine gw_cond H154 rfl (fun hb156 => ?_) (fun hb156 => ?_)
    rotate_left
    ·
     cases hb156
    refine wp_skip ?_
    refine gw_nx (hK155 _ _ ?_)
    refine gw_seq fun K157 hK157 => ?_
    refine wp_block ?_
    refine gR fun K158 hK158 => ?_
    have O165 := O54.pin 2 rfl
    clear O54
    have O166 : Own w0 w52 [R, Chunk.bsr G Sb tb (.slice At 4 ct), Chunk.viewAt w52 Kd.string St At 4 ct TRL] := O165
    clear O165
    obtain ⟨ad159, cs162, hA160, hl163, hK164, hc161, _⟩ := Kd.F_get (viewAt_F (O166.get 2 rfl)) (⟨#[]⟩ : ByteArray) 1 (by omega) (by omega)
    obtain rfl := str_openF hK164
    clear hl163
    refine V H154 (op_index Tryz.underlying67 gwsiz9 rfl (H154.ev rfl) (H154.ev rfl) hA160 (⟨by omega, by omega⟩)) ?_
    intro _ H168; clear H154
    refine V H168 (op_load1 gwagg9 rfl (H168.ev rfl) (((pin_cells (O166.get 2 rfl) hA160 hc161) 0 _ rfl))) ?_
    intro _ H170; clear H168
    have H171 := H170.conv (v' := .string (⟨#[91]⟩ : ByteArray)) (rfl)
    clear H170
    refine V H171 (op_assign rfl (H171.ev rfl)) ?_
    intro _ H173; clear H171
    refine gE hK158 ?_
    refine gR fun K174 hK174 => ?_
    refine V H173 (op_move rfl (H173.ev rfl)) ?_
    intro _ H176; clear H173
    refine V H176 (op_move rfl (H176.ev rfl)) ?_
    intro _ H178; clear H176
    refine gw_call H178 (want_none rfl) rfl (by decide) (op_callL Tryz.func130 (by kernel_rfl) rfl rfl (ar_cons (H178.ev rfl) (ar_cons (H178.ev rfl) ar_nil))) (count_x s 91 91 _ (by decide)) ?_
    rintro e179 w180 ⟨rfl, hb181⟩
    refine ⟨_, rfl, fun _ H183 => ?_⟩
    have O184 := O166.after hb181
    clear H178 O166 hb181
    refine V H183 (op_assign rfl (H183.ev rfl)) ?_
    intro _ H187; clear H183
    refine gE hK174 ?_
    refine gR fun K188 hK188 => ?_
    refine V H187 (op_move rfl (H187.ev rfl)) ?_
    intro _ H190; clear H187
    refine V H190 (op_nei rfl (H190.ev rfl) (ev_c _ _)) ?_
    intro _ H192; clear H190
    refine gE hK188 ?_
    refine gw_cond H192 rfl (fun hb193 => ?_) (fun hb193 => ?_)
    ·
     have H194 := H192.subst_ (d := 40) (b := true) rfl hb193
     clear H192
     (try simp only [decide_eq_true_eq, ne_eq] at hb193)
     obtain ⟨adb, ccb, htb, hcb⟩ := bsr_spec (x := 91) (O184.get 1 rfl) ⟨by decide, by decide⟩ rfl
     refine gw_seq fun K195 hK195 => ?_
     refine gw_drawB O184 (by kernel_rfl) (by kernel_rfl) fun w196 O197 => ?_
     clear O184
     refine gq_ev H194 (want_none rfl) rfl (by decide) (fun wq hq => have HO := O197.after hq; (op_move rfl (H194.ev rfl))) ?_
     intro _ H199; clear H194
     refine gq_ev H199 (want_none rfl) rfl (by decide) (fun wq hq => have HO := O197.after hq; (op_move rfl (H199.ev rfl))) ?_
     intro _ H201; clear H199
     refine gq_ev H201 (want_none rfl) rfl (by decide) (fun wq hq => have HO := O197.after hq; (op_move rfl (H201.ev rfl))) ?_
     intro _ H203; clear H201
     refine gq_ev H203 (want_none rfl) rfl (by decide) (fun wq hq => have HO := O197.after hq; (op_move rfl (H203.ev rfl))) ?_
     intro _ H205; clear H203
     refine gq_ev H205 (want_none rfl) rfl (by decide) (fun wq hq => have HO := O197.after hq; (op_sidx Tryz.underlying9 rfl (H205.ev rfl) (ev_c _ _) ⟨by decide, by decide⟩)) ?_
     intro _ H207; clear H205
     have H208 := H207.conv (v' := .int .u8 91) (rfl)
     clear H207
     refine gq_ev H208 (want_none rfl) rfl (by decide) (fun wq hq => have HO := O197.after hq; (op_nil rfl (H208.ev rfl))) ?_
     intro _ H210; clear H208
     refine gq_ev H210 (want_none rfl) rfl (by decide) (fun wq hq => have HO := O197.after hq; (op_field (gwfld108_0 _ _) rfl (H210.ev rfl))) ?_
     intro _ H212; clear H210
     refine gq_ev H212 (want_none rfl) rfl (by decide) (fun wq hq => have HO := O197.after hq; (op_indexP (q := 91) Tryz.underlying106 gwsiz40 rfl (H212.ev rfl) (H212.ev rfl) (by decide) rfl)) ?_
     intro _ H214; clear H212
     refine gq_ev H214 (want_none rfl) rfl (by decide) (fun wq hq => have HO := O197.after hq; (op_load1 gwagg40 rfl (H214.ev rfl) (blk_at (bsr_blk (HO.get 1 rfl)) (tabC_get _ _ (91 : Int) ⟨by decide, by decide⟩)))) ?_
     intro _ H216; clear H214
     have H217 := H216.conv (v' := .slice (some adb) 2 ccb) (htb)
     clear H216
     refine gq_ev H217 (want_none rfl) rfl (by decide) (fun wq hq => have HO := O197.after hq; (op_len Tryz.underlying40 rfl (H217.ev rfl))) ?_
     intro _ H219; clear H217
     refine gq_ev H219 (want_none rfl) rfl (by decide) (fun wq hq => have HO := O197.after hq; (op_sub rfl (H219.ev rfl) (ev_c _ _) (by omega))) ?_
     intro _ H221; clear H219
     have H222 := H221.conv (v' := J 1) (rfl)
     clear H221
     refine gq_ev H222 (want_none rfl) rfl (by decide) (fun wq hq => have HO := O197.after hq; (op_mul rfl (H222.ev rfl) (H222.ev rfl) (by omega))) ?_
     intro _ H224; clear H222
     refine gq_ev H224 (want_none rfl) rfl (by decide) (fun wq hq => have HO := O197.after hq; (op_add rfl (H224.ev rfl) (H224.ev rfl) (by omega))) ?_
     intro _ H226; clear H224
     refine gq_ev H226 (want_none rfl) rfl (by decide) (fun wq hq => have HO := O197.after hq; (op_assign rfl (H226.ev rfl))) ?_
     intro _ H228; clear H226
     refine wpQuiet_nil ?_
     intro w229 hq
     have O230 := O197.after hq
     clear O197 hq
     refine gw_nx (hK195 _ _ ?_)
     refine wp_region_lit ?_
     refine V H228 (op_assign rfl (ev_c _ _)) ?_
     intro _ H232; clear H228
     refine wpList_nil ?_
     refine gw_blk ?_
     refine gw_nx (hK157 _ _ ?_)
     refine wp_region_lit ?_
     refine V H232 (op_add rfl (H232.ev rfl) (ev_c _ _) (by omega)) ?_
     intro _ H234; clear H232
     refine V H234 (op_move rfl (H234.ev rfl)) ?_
     intro _ H236; clear H234
     refine wpList_nil ?_
     have O237 := O230.unpin 2 rfl
     clear O230
     have O238 : Own w0 w229 [R, Chunk.bsr G Sb tb (.slice At 4 ct), Chunk.view Kd.string St At 4 ct TRL] := O237
     clear O237
     refine gw_nx ⟨_, ?_, 2, ns + ((cntI (bytesOf s) 91) * 1), true, (H236.pick (t := 32) rfl (H236.pick (t := 5) rfl (H236.pick (t := 6) rfl (H236.pick (t := 0) rfl (H236.pick (t := 1) rfl (H236.pick (t := 4) rfl (H236.pick (t := 30) rfl (H236.pick (t := 31) rfl H236.nil)))))))), O238.sel [0, 1, 2] (by decide), ?_, ?_, ?_, rfl⟩
     ·
      rw [hm55]; omega
     ·
      omega
     ·
      rw [cq2]; rw [cq1] at hns; omega
     ·
      rw [cq2]; symm; rw [decide_eq_true_eq]; omega
    ·
     have H239 := H192.subst_ (d := 40) (b := false) rfl hb193
     clear H192
     (try simp only [decide_eq_false_iff_not, ne_eq, Decidable.not_not] at hb193)
     refine wp_skip ?_
     refine gw_blk ?_
     refine gw_nx (hK157 _ _ ?_)
     refine wp_region_lit ?_
     refine V H239 (op_add rfl (H239.ev rfl) (ev_c _ _) (by omega)) ?_
     intro _ H241; clear H239
     refine V H241 (op_move rfl (H241.ev rfl)) ?_
     intro _ H243; clear H241
     refine wpList_nil ?_
     have O244 := O184.unpin 2 rfl
     clear O184
     have O245 : Own w0 w180 [R, Chunk.bsr G Sb tb (.slice At 4 ct), Chunk.view Kd.string St At 4 ct TRL] := O244
     clear O244
     refine gw_nx ⟨_, ?_, 2, ns, fl, (H243.pick (t := 32) rfl (H243.pick (t := 5) rfl (H243.pick (t := 6) rfl (H243.pick (t := 0) rfl (H243.pick (t := 1) rfl (H243.pick (t := 4) rfl (H243.pick (t := 30) rfl (H243.pick (t := 31) rfl H243.nil)))))))), O245.sel [0, 1, 2] (by decide), ?_, ?_, ?_, rfl⟩
     ·
      rw [hm55]; omega
     ·
      omega
     ·
      rw [cq2]; rw [cq1] at hns; omega
     ·
      rw [hfl, decide_eq_decide]; rw [cq2]; rw [cq1]; omega
   ·
    have hnsx := hns
    rw [cq2] at hnsx
    refine gR fun K246 hK246 => ?_
    refine V H53 (op_lss rfl (H53.ev rfl) (H53.ev rfl)) ?_
    intro _ H248; clear H53
    have H249 := H248.lit (b := true) (by decide)
    clear H248
    refine gE hK246 ?_
    refine gw_seq fun K250 hK250 => ?_
    refine gw_cond H249 rfl (fun hb251 => ?_) (fun hb251 => ?_)
    rotate_left
    ·
     cases hb251
    refine wp_skip ?_
    refine gw_nx (hK250 _ _ ?_)
    refine gw_seq fun K252 hK252 => ?_
    refine wp_block ?_
    refine gR fun K253 hK253 => ?_
    have O260 := O54.pin 2 rfl
    clear O54
    have O261 : Own w0 w52 [R, Chunk.bsr G Sb tb (.slice At 4 ct), Chunk.viewAt w52 Kd.string St At 4 ct TRL] := O260
    clear O260
    obtain ⟨ad254, cs257, hA255, hl258, hK259, hc256, _⟩ := Kd.F_get (viewAt_F (O261.get 2 rfl)) (⟨#[]⟩ : ByteArray) 2 (by omega) (by omega)
    obtain rfl := str_openF hK259
    clear hl258
    refine V H249 (op_index Tryz.underlying67 gwsiz9 rfl (H249.ev rfl) (H249.ev rfl) hA255 (⟨by omega, by omega⟩)) ?_
    intro _ H263; clear H249
    refine V H263 (op_load1 gwagg9 rfl (H263.ev rfl) (((pin_cells (O261.get 2 rfl) hA255 hc256) 0 _ rfl))) ?_
    intro _ H265; clear H263
    have H266 := H265.conv (v' := .string (⟨#[42]⟩ : ByteArray)) (rfl)
    clear H265
    refine V H266 (op_assign rfl (H266.ev rfl)) ?_
    intro _ H268; clear H266
    refine gE hK253 ?_
    refine gR fun K269 hK269 => ?_
    refine V H268 (op_move rfl (H268.ev rfl)) ?_
    intro _ H271; clear H268
    refine V H271 (op_move rfl (H271.ev rfl)) ?_
    intro _ H273; clear H271
    refine gw_call H273 (want_none rfl) rfl (by decide) (op_callL Tryz.func130 (by kernel_rfl) rfl rfl (ar_cons (H273.ev rfl) (ar_cons (H273.ev rfl) ar_nil))) (count_x s 42 42 _ (by decide)) ?_
    rintro e274 w275 ⟨rfl, hb276⟩
    refine ⟨_, rfl, fun _ H278 => ?_⟩
    have O279 := O261.after hb276
    clear H273 O261 hb276
    refine V H278 (op_assign rfl (H278.ev rfl)) ?_
    intro _ H282; clear H278
    refine gE hK269 ?_
    refine gR fun K283 hK283 => ?_
    refine V H282 (op_move rfl (H282.ev rfl)) ?_
    intro _ H285; clear H282
    refine V H285 (op_nei rfl (H285.ev rfl) (ev_c _ _)) ?_
    intro _ H287; clear H285
    refine gE hK283 ?_
    refine gw_cond H287 rfl (fun hb288 => ?_) (fun hb288 => ?_)
    ·
     have H289 := H287.subst_ (d := 40) (b := true) rfl hb288
     clear H287
     (try simp only [decide_eq_true_eq, ne_eq] at hb288)
     obtain ⟨adb, ccb, htb, hcb⟩ := bsr_spec (x := 42) (O279.get 1 rfl) ⟨by decide, by decide⟩ rfl
     refine gw_seq fun K290 hK290 => ?_
     refine gw_drawB O279 (by kernel_rfl) (by kernel_rfl) fun w291 O292 => ?_
     clear O279
     refine gq_ev H289 (want_none rfl) rfl (by decide) (fun wq hq => have HO := O292.after hq; (op_move rfl (H289.ev rfl))) ?_
     intro _ H294; clear H289
     refine gq_ev H294 (want_none rfl) rfl (by decide) (fun wq hq => have HO := O292.after hq; (op_move rfl (H294.ev rfl))) ?_
     intro _ H296; clear H294
     refine gq_ev H296 (want_none rfl) rfl (by decide) (fun wq hq => have HO := O292.after hq; (op_move rfl (H296.ev rfl))) ?_
     intro _ H298; clear H296
     refine gq_ev H298 (want_none rfl) rfl (by decide) (fun wq hq => have HO := O292.after hq; (op_move rfl (H298.ev rfl))) ?_
     intro _ H300; clear H298
     refine gq_ev H300 (want_none rfl) rfl (by decide) (fun wq hq => have HO := O292.after hq; (op_sidx Tryz.underlying9 rfl (H300.ev rfl) (ev_c _ _) ⟨by decide, by decide⟩)) ?_
     intro _ H302; clear H300
     have H303 := H302.conv (v' := .int .u8 42) (rfl)
     clear H302
     refine gq_ev H303 (want_none rfl) rfl (by decide) (fun wq hq => have HO := O292.after hq; (op_nil rfl (H303.ev rfl))) ?_
     intro _ H305; clear H303
     refine gq_ev H305 (want_none rfl) rfl (by decide) (fun wq hq => have HO := O292.after hq; (op_field (gwfld108_0 _ _) rfl (H305.ev rfl))) ?_
     intro _ H307; clear H305
     refine gq_ev H307 (want_none rfl) rfl (by decide) (fun wq hq => have HO := O292.after hq; (op_indexP (q := 42) Tryz.underlying106 gwsiz40 rfl (H307.ev rfl) (H307.ev rfl) (by decide) rfl)) ?_
     intro _ H309; clear H307
     refine gq_ev H309 (want_none rfl) rfl (by decide) (fun wq hq => have HO := O292.after hq; (op_load1 gwagg40 rfl (H309.ev rfl) (blk_at (bsr_blk (HO.get 1 rfl)) (tabC_get _ _ (42 : Int) ⟨by decide, by decide⟩)))) ?_
     intro _ H311; clear H309
     have H312 := H311.conv (v' := .slice (some adb) 2 ccb) (htb)
     clear H311
     refine gq_ev H312 (want_none rfl) rfl (by decide) (fun wq hq => have HO := O292.after hq; (op_len Tryz.underlying40 rfl (H312.ev rfl))) ?_
     intro _ H314; clear H312
     refine gq_ev H314 (want_none rfl) rfl (by decide) (fun wq hq => have HO := O292.after hq; (op_sub rfl (H314.ev rfl) (ev_c _ _) (by omega))) ?_
     intro _ H316; clear H314
     have H317 := H316.conv (v' := J 1) (rfl)
     clear H316
     refine gq_ev H317 (want_none rfl) rfl (by decide) (fun wq hq => have HO := O292.after hq; (op_mul rfl (H317.ev rfl) (H317.ev rfl) (by omega))) ?_
     intro _ H319; clear H317
     refine gq_ev H319 (want_none rfl) rfl (by decide) (fun wq hq => have HO := O292.after hq; (op_add rfl (H319.ev rfl) (H319.ev rfl) (by omega))) ?_
     intro _ H321; clear H319
     refine gq_ev H321 (want_none rfl) rfl (by decide) (fun wq hq => have HO := O292.after hq; (op_assign rfl (H321.ev rfl))) ?_
     intro _ H323; clear H321
     refine wpQuiet_nil ?_
     intro w324 hq
     have O325 := O292.after hq
     clear O292 hq
     refine gw_nx (hK290 _ _ ?_)
     refine wp_region_lit ?_
     refine V H323 (op_assign rfl (ev_c _ _)) ?_
     intro _ H327; clear H323
     refine wpList_nil ?_
     refine gw_blk ?_
     refine gw_nx (hK252 _ _ ?_)
     refine wp_region_lit ?_
     refine V H327 (op_add rfl (H327.ev rfl) (ev_c _ _) (by omega)) ?_
     intro _ H329; clear H327
     refine V H329 (op_move rfl (H329.ev rfl)) ?_
     intro _ H331; clear H329
     refine wpList_nil ?_
     have O332 := O325.unpin 2 rfl
     clear O325
     have O333 : Own w0 w324 [R, Chunk.bsr G Sb tb (.slice At 4 ct), Chunk.view Kd.string St At 4 ct TRL] := O332
     clear O332
     refine gw_nx ⟨_, ?_, 3, ns + ((cntI (bytesOf s) 42) * 1), true, (H331.pick (t := 32) rfl (H331.pick (t := 5) rfl (H331.pick (t := 6) rfl (H331.pick (t := 0) rfl (H331.pick (t := 1) rfl (H331.pick (t := 4) rfl (H331.pick (t := 30) rfl (H331.pick (t := 31) rfl H331.nil)))))))), O333.sel [0, 1, 2] (by decide), ?_, ?_, ?_, rfl⟩
     ·
      rw [hm55]; omega
     ·
      omega
     ·
      rw [cq3]; rw [cq2] at hns; omega
     ·
      rw [cq3]; symm; rw [decide_eq_true_eq]; omega
    ·
     have H334 := H287.subst_ (d := 40) (b := false) rfl hb288
     clear H287
     (try simp only [decide_eq_false_iff_not, ne_eq, Decidable.not_not] at hb288)
     refine wp_skip ?_
     refine gw_blk ?_
     refine gw_nx (hK252 _ _ ?_)
     refine wp_region_lit ?_
     refine V H334 (op_add rfl (H334.ev rfl) (ev_c _ _) (by omega)) ?_
     intro _ H336; clear H334
     refine V H336 (op_move rfl (H336.ev rfl)) ?_
     intro _ H338; clear H336
     refine wpList_nil ?_
     have O339 := O279.unpin 2 rfl
     clear O279
     have O340 : Own w0 w275 [R, Chunk.bsr G Sb tb (.slice At 4 ct), Chunk.view Kd.string St At 4 ct TRL] := O339
     clear O339
     refine gw_nx ⟨_, ?_, 3, ns, fl, (H338.pick (t := 32) rfl (H338.pick (t := 5) rfl (H338.pick (t := 6) rfl (H338.pick (t := 0) rfl (H338.pick (t := 1) rfl (H338.pick (t := 4) rfl (H338.pick (t := 30) rfl (H338.pick (t := 31) rfl H338.nil)))))))), O340.sel [0, 1, 2] (by decide), ?_, ?_, ?_, rfl⟩
     ·
      rw [hm55]; omega
     ·
      omega
     ·
      rw [cq3]; rw [cq2] at hns; omega
     ·
      rw [hfl, decide_eq_decide]; rw [cq3]; rw [cq2]; omega
   ·
    have hnsx := hns
    rw [cq3] at hnsx
    refine gR fun K341 hK341 => ?_
    refine V H53 (op_lss rfl (H53.ev rfl) (H53.ev rfl)) ?_
    intro _ H343; clear H53
    have H344 := H343.lit (b := true) (by decide)
    clear H343
    refine gE hK341 ?_
    refine gw_seq fun K345 hK345 => ?_
    refine gw_cond H344 rfl (fun hb346 => ?_) (fun hb346 => ?_)
    rotate_left
    ·
     cases hb346
    refine wp_skip ?_
    refine gw_nx (hK345 _ _ ?_)
    refine gw_seq fun K347 hK347 => ?_
    refine wp_block ?_
    refine gR fun K348 hK348 => ?_
    have O355 := O54.pin 2 rfl
    clear O54
    have O356 : Own w0 w52 [R, Chunk.bsr G Sb tb (.slice At 4 ct), Chunk.viewAt w52 Kd.string St At 4 ct TRL] := O355
    clear O355
    obtain ⟨ad349, cs352, hA350, hl353, hK354, hc351, _⟩ := Kd.F_get (viewAt_F (O356.get 2 rfl)) (⟨#[]⟩ : ByteArray) 3 (by omega) (by omega)
    obtain rfl := str_openF hK354
    clear hl353
    refine V H344 (op_index Tryz.underlying67 gwsiz9 rfl (H344.ev rfl) (H344.ev rfl) hA350 (⟨by omega, by omega⟩)) ?_
    intro _ H358; clear H344
    refine V H358 (op_load1 gwagg9 rfl (H358.ev rfl) (((pin_cells (O356.get 2 rfl) hA350 hc351) 0 _ rfl))) ?_
    intro _ H360; clear H358
    have H361 := H360.conv (v' := .string (⟨#[63]⟩ : ByteArray)) (rfl)
    clear H360
    refine V H361 (op_assign rfl (H361.ev rfl)) ?_
    intro _ H363; clear H361
    refine gE hK348 ?_
    refine gR fun K364 hK364 => ?_
    refine V H363 (op_move rfl (H363.ev rfl)) ?_
    intro _ H366; clear H363
    refine V H366 (op_move rfl (H366.ev rfl)) ?_
    intro _ H368; clear H366
    refine gw_call H368 (want_none rfl) rfl (by decide) (op_callL Tryz.func130 (by kernel_rfl) rfl rfl (ar_cons (H368.ev rfl) (ar_cons (H368.ev rfl) ar_nil))) (count_x s 63 63 _ (by decide)) ?_
    rintro e369 w370 ⟨rfl, hb371⟩
    refine ⟨_, rfl, fun _ H373 => ?_⟩
    have O374 := O356.after hb371
    clear H368 O356 hb371
    refine V H373 (op_assign rfl (H373.ev rfl)) ?_
    intro _ H377; clear H373
    refine gE hK364 ?_
    refine gR fun K378 hK378 => ?_
    refine V H377 (op_move rfl (H377.ev rfl)) ?_
    intro _ H380; clear H377
    refine V H380 (op_nei rfl (H380.ev rfl) (ev_c _ _)) ?_
    intro _ H382; clear H380
    refine gE hK378 ?_
    refine gw_cond H382 rfl (fun hb383 => ?_) (fun hb383 => ?_)
    ·
     have H384 := H382.subst_ (d := 40) (b := true) rfl hb383
     clear H382
     (try simp only [decide_eq_true_eq, ne_eq] at hb383)
     obtain ⟨adb, ccb, htb, hcb⟩ := bsr_spec (x := 63) (O374.get 1 rfl) ⟨by decide, by decide⟩ rfl
     refine gw_seq fun K385 hK385 => ?_
     refine gw_drawB O374 (by kernel_rfl) (by kernel_rfl) fun w386 O387 => ?_
     clear O374
     refine gq_ev H384 (want_none rfl) rfl (by decide) (fun wq hq => have HO := O387.after hq; (op_move rfl (H384.ev rfl))) ?_
     intro _ H389; clear H384
     refine gq_ev H389 (want_none rfl) rfl (by decide) (fun wq hq => have HO := O387.after hq; (op_move rfl (H389.ev rfl))) ?_
     intro _ H391; clear H389
     refine gq_ev H391 (want_none rfl) rfl (by decide) (fun wq hq => have HO := O387.after hq; (op_move rfl (H391.ev rfl))) ?_
     intro _ H393; clear H391
     refine gq_ev H393 (want_none rfl) rfl (by decide) (fun wq hq => have HO := O387.after hq; (op_move rfl (H393.ev rfl))) ?_
     intro _ H395; clear H393
     refine gq_ev H395 (want_none rfl) rfl (by decide) (fun wq hq => have HO := O387.after hq; (op_sidx Tryz.underlying9 rfl (H395.ev rfl) (ev_c _ _) ⟨by decide, by decide⟩)) ?_
     intro _ H397; clear H395
     have H398 := H397.conv (v' := .int .u8 63) (rfl)
     clear H397
     refine gq_ev H398 (want_none rfl) rfl (by decide) (fun wq hq => have HO := O387.after hq; (op_nil rfl (H398.ev rfl))) ?_
     intro _ H400; clear H398
     refine gq_ev H400 (want_none rfl) rfl (by decide) (fun wq hq => have HO := O387.after hq; (op_field (gwfld108_0 _ _) rfl (H400.ev rfl))) ?_
     intro _ H402; clear H400
     refine gq_ev H402 (want_none rfl) rfl (by decide) (fun wq hq => have HO := O387.after hq; (op_indexP (q := 63) Tryz.underlying106 gwsiz40 rfl (H402.ev rfl) (H402.ev rfl) (by decide) rfl)) ?_
     intro _ H404; clear H402
     refine gq_ev H404 (want_none rfl) rfl (by decide) (fun wq hq => have HO := O387.after hq; (op_load1 gwagg40 rfl (H404.ev rfl) (blk_at (bsr_blk (HO.get 1 rfl)) (tabC_get _ _ (63 : Int) ⟨by decide, by decide⟩)))) ?_
     intro _ H406; clear H404
     have H407 := H406.conv (v' := .slice (some adb) 2 ccb) (htb)
     clear H406
     refine gq_ev H407 (want_none rfl) rfl (by decide) (fun wq hq => have HO := O387.after hq; (op_len Tryz.underlying40 rfl (H407.ev rfl))) ?_
     intro _ H409; clear H407
     refine gq_ev H409 (want_none rfl) rfl (by decide) (fun wq hq => have HO := O387.after hq; (op_sub rfl (H409.ev rfl) (ev_c _ _) (by omega))) ?_
     intro _ H411; clear H409
     have H412 := H411.conv (v' := J 1) (rfl)
     clear H411
     refine gq_ev H412 (want_none rfl) rfl (by decide) (fun wq hq => have HO := O387.after hq; (op_mul rfl (H412.ev rfl) (H412.ev rfl) (by omega))) ?_
     intro _ H414; clear H412
     refine gq_ev H414 (want_none rfl) rfl (by decide) (fun wq hq => have HO := O387.after hq; (op_add rfl (H414.ev rfl) (H414.ev rfl) (by omega))) ?_
     intro _ H416; clear H414
     refine gq_ev H416 (want_none rfl) rfl (by decide) (fun wq hq => have HO := O387.after hq; (op_assign rfl (H416.ev rfl))) ?_
     intro _ H418; clear H416
     refine wpQuiet_nil ?_
     intro w419 hq
     have O420 := O387.after hq
     clear O387 hq
     refine gw_nx (hK385 _ _ ?_)
     refine wp_region_lit ?_
     refine V H418 (op_assign rfl (ev_c _ _)) ?_
     intro _ H422; clear H418
     refine wpList_nil ?_
     refine gw_blk ?_
     refine gw_nx (hK347 _ _ ?_)
     refine wp_region_lit ?_
     refine V H422 (op_add rfl (H422.ev rfl) (ev_c _ _) (by omega)) ?_
     intro _ H424; clear H422
     refine V H424 (op_move rfl (H424.ev rfl)) ?_
     intro _ H426; clear H424
     refine wpList_nil ?_
     have O427 := O420.unpin 2 rfl
     clear O420
     have O428 : Own w0 w419 [R, Chunk.bsr G Sb tb (.slice At 4 ct), Chunk.view Kd.string St At 4 ct TRL] := O427
     clear O427
     refine gw_nx ⟨_, ?_, 4, ns + ((cntI (bytesOf s) 63) * 1), true, (H426.pick (t := 32) rfl (H426.pick (t := 5) rfl (H426.pick (t := 6) rfl (H426.pick (t := 0) rfl (H426.pick (t := 1) rfl (H426.pick (t := 4) rfl (H426.pick (t := 30) rfl (H426.pick (t := 31) rfl H426.nil)))))))), O428.sel [0, 1, 2] (by decide), ?_, ?_, ?_, rfl⟩
     ·
      rw [hm55]; omega
     ·
      omega
     ·
      rw [cq4, ← cnt_spc]; rw [cq3] at hns; omega
     ·
      rw [cq4, ← cnt_spc]; symm; rw [decide_eq_true_eq]; omega
    ·
     have H429 := H382.subst_ (d := 40) (b := false) rfl hb383
     clear H382
     (try simp only [decide_eq_false_iff_not, ne_eq, Decidable.not_not] at hb383)
     refine wp_skip ?_
     refine gw_blk ?_
     refine gw_nx (hK347 _ _ ?_)
     refine wp_region_lit ?_
     refine V H429 (op_add rfl (H429.ev rfl) (ev_c _ _) (by omega)) ?_
     intro _ H431; clear H429
     refine V H431 (op_move rfl (H431.ev rfl)) ?_
     intro _ H433; clear H431
     refine wpList_nil ?_
     have O434 := O374.unpin 2 rfl
     clear O374
     have O435 : Own w0 w370 [R, Chunk.bsr G Sb tb (.slice At 4 ct), Chunk.view Kd.string St At 4 ct TRL] := O434
     clear O434
     refine gw_nx ⟨_, ?_, 4, ns, fl, (H433.pick (t := 32) rfl (H433.pick (t := 5) rfl (H433.pick (t := 6) rfl (H433.pick (t := 0) rfl (H433.pick (t := 1) rfl (H433.pick (t := 4) rfl (H433.pick (t := 30) rfl (H433.pick (t := 31) rfl H433.nil)))))))), O435.sel [0, 1, 2] (by decide), ?_, ?_, ?_, rfl⟩
     ·
      rw [hm55]; omega
     ·
      omega
     ·
      rw [cq4, ← cnt_spc]; rw [cq3] at hns; omega
     ·
      rw [hfl, decide_eq_decide]; rw [cq4, ← cnt_spc]; rw [cq3]; omega
   ·
    refine gR fun K436 hK436 => ?_
    refine V H53 (op_lss rfl (H53.ev rfl) (H53.ev rfl)) ?_
    intro _ H438; clear H53
    have H439 := H438.lit (b := false) (by decide)
    clear H438
    refine gE hK436 ?_
    refine gw_seq fun K440 hK440 => ?_
    refine gw_cond H439 rfl (fun hb441 => ?_) (fun hb441 => ?_)
    skip
    ·
     cases hb441
    refine wp_exit ?_
    refine gw_thx ?_
    refine gw_thx ?_
    refine gw_in ?_
    refine gw_nx (hK14 _ _ ?_)
    refine gw_seq fun K442 hK442 => ?_
    refine gR fun K443 hK443 => ?_
    refine V H439 (op_move rfl (H439.ev rfl)) ?_
    intro _ H445; clear H439
    refine V H445 (op_not rfl (H445.ev rfl)) ?_
    intro _ H447; clear H445
    refine gE hK443 ?_
    refine gw_cond H447 rfl (fun hb448 => ?_) (fun hb448 => ?_)
    ·
     have H449 := H447.subst_ (d := 82) (b := true) rfl hb448
     clear H447
     (try simp only [Bool.and_eq_true, Bool.and_eq_false_iff, Bool.not_and, Bool.or_eq_true, Bool.or_eq_false_iff, Bool.not_or, Bool.not_not, Bool.not_eq_true', Bool.not_eq_false', Bool.not_eq_true, Bool.not_eq_false] at hb448)
     have hns2 : ns = s.size + spc (bytesOf s) := by rw [cq4] at hns; exact hns
     have hfl2 : fl = decide (spc (bytesOf s) ≠ 0) := by rw [cq4] at hfl; exact hfl
     have hsn2 := spc_nonneg (bytesOf s)
     have hql := quote_len s
     have hbl := bytesOf_length s
     have hz : spc (bytesOf s) = 0 := by have h_ := hb448; rw [hfl2] at h_; simpa using h_
     refine gR fun K450 hK450 => ?_
     refine V H449 (op_move rfl (H449.ev rfl)) ?_
     intro _ H452; clear H449
     refine V H452 (op_assign rfl (H452.ev rfl)) ?_
     intro _ H454; clear H452
     refine gE hK450 ?_
     refine wp_ret ?_
     refine gw_thr ?_
     refine gw_ret1 H454 rfl rfl ?_
     exact ⟨by unfold quoteB; rw [spc_zero _ hz, strOf_bytes], O54.sel [0] (by decide)⟩
    ·
     have H455 := H447.subst_ (d := 82) (b := false) rfl hb448
     clear H447
     (try simp only [Bool.and_eq_true, Bool.and_eq_false_iff, Bool.not_and, Bool.or_eq_true, Bool.or_eq_false_iff, Bool.not_or, Bool.not_not, Bool.not_eq_true', Bool.not_eq_false', Bool.not_eq_true, Bool.not_eq_false] at hb448)
     have hns2 : ns = s.size + spc (bytesOf s) := by rw [cq4] at hns; exact hns
     have hfl2 : fl = decide (spc (bytesOf s) ≠ 0) := by rw [cq4] at hfl; exact hfl
     have hsn2 := spc_nonneg (bytesOf s)
     have hql := quote_len s
     have hbl := bytesOf_length s
     have hnz : spc (bytesOf s) ≠ 0 := by have h_ := hb448; rw [hfl2] at h_; simpa using h_
     refine wp_skip ?_
     refine gw_nx (hK442 _ _ ?_)
     refine gR fun K456 hK456 => ?_
     refine V H455 (op_move rfl (H455.ev rfl)) ?_
     intro _ H458; clear H455
     refine gw_lit (enc := Value.int .u8) (fun _ => rfl) (xs := (List.replicate ns.toNat (0 : Int))) (e := 5) H458 O54 (want_none rfl) rfl (by decide) (op_make Tryz.underlying40 gwinfo5 rfl rfl (H458.ev rfl) (H458.ev rfl) (by omega) (by omega)) (by rw [List.length_replicate]; omega) ?_
     intro A459 S460 _ w462 H463 O464; clear H458 O54
     have O465 : Own w0 w462 [Chunk.row (Kd.int .u8) 5 w0.heap.size S460 (.slice A459 ((List.replicate ns.toNat (0 : Int)).length) ((List.replicate ns.toNat (0 : Int)).length)) (List.replicate ns.toNat (0 : Int)), R, Chunk.bsr G Sb tb (.slice At 4 ct), Chunk.view Kd.string St At 4 ct TRL] := O464
     clear O464
     have hrl_ : (List.replicate ns.toNat (0 : Int)).length = ns.toNat := List.length_replicate
     refine V H463 (op_assign rfl (H463.ev rfl)) ?_
     intro _ H467; clear H463
     refine gE hK456 ?_
     refine gR fun K468 hK468 => ?_
     refine V H467 (op_assign rfl (ev_c _ _)) ?_
     intro _ H470; clear H467
     refine gE hK468 ?_
     refine gw_seq fun K471 hK471 => ?_
     refine gR fun K472 hK472 => ?_
     refine V H470 (op_assign rfl (ev_c _ _)) ?_
     intro _ H474; clear H470
     refine gE hK472 ?_
     refine wp_block ?_
     obtain ⟨gb475, hgb475⟩ := row_form (O465.get 0 rfl) (by omega)
     subst hgb475
     have hcap := row_cap (O465.get 0 rfl)
     refine gw_loop (fun m_ a_ w_ => ∃ (i2 : Int) (j : Int) (X : List Int), Fr 122 a_ [(14, J i2), (13, J j), (0, .pointer (some ⟨G, 0, none⟩)), (1, .string s), (4, .string (⟨#[]⟩ : ByteArray)), (12, .slice (some ⟨gb475, 0, none⟩) ((List.replicate ns.toNat (0 : Int)).length) ((List.replicate ns.toNat (0 : Int)).length))] ∧ Own w0 w_ [Chunk.row (Kd.int .u8) 5 w0.heap.size S460 (.slice (some ⟨gb475, 0, none⟩) ((List.replicate ns.toNat (0 : Int)).length) ((List.replicate ns.toNat (0 : Int)).length)) X, R, Chunk.bsr G Sb tb (.slice At 4 ct), Chunk.view Kd.string St At 4 ct TRL] ∧ (0 ≤ i2 ∧ i2 ≤ s.size) ∧ (j = ((quoteL ((bytesOf s).take i2.toNat)).length : Int)) ∧ (X.length = (List.replicate ns.toNat (0 : Int)).length) ∧ (X.take j.toNat = quoteL ((bytesOf s).take i2.toNat)) ∧ m_ = (s.size - i2.toNat)) ((s.size - (0 : Int).toNat)) ?_ ?_
     ·
      refine ⟨0, 0, (List.replicate ns.toNat (0 : Int)), (H474.pick (t := 14) rfl (H474.pick (t := 13) rfl (H474.pick (t := 0) rfl (H474.pick (t := 1) rfl (H474.pick (t := 4) rfl (H474.pick (t := 12) rfl H474.nil)))))), O465.sel [0, 1, 2, 3] (by decide), ?_, ?_, ?_, ?_, rfl⟩
      ·
       omega
      ·
       rfl
      ·
       rfl
      ·
       rfl
     ·
      rintro m477 _ w479 ⟨i2, j, X, H480, O481, hi2, hj, hX, hp, hm482⟩
      have hbt := bt_range s i2
      have hle1 := quote_le (bytesOf s) (i2 + 1).toNat
      have hle0 := quote_le (bytesOf s) i2.toNat
      refine gw_seq fun K483 hK483 => ?_
      refine gR fun K484 hK484 => ?_
      refine V H480 (op_move rfl (H480.ev rfl)) ?_
      intro _ H486; clear H480
      refine V H486 (op_move rfl (H486.ev rfl)) ?_
      intro _ H488; clear H486
      refine V H488 (op_lens Tryz.underlying9 rfl (H488.ev rfl)) ?_
      intro _ H490; clear H488
      refine V H490 (op_lss rfl (H490.ev rfl) (H490.ev rfl)) ?_
      intro _ H492; clear H490
      refine gE hK484 ?_
      refine gw_cond H492 rfl (fun hb493 => ?_) (fun hb493 => ?_)
      ·
       have H494 := H492.subst_ (d := 89) (b := true) rfl hb493
       clear H492
       (try simp only [decide_eq_true_eq] at hb493)
       refine wp_skip ?_
       refine gw_nx (hK483 _ _ ?_)
       refine gw_seq fun K495 hK495 => ?_
       refine wp_block ?_
       refine gR fun K496 hK496 => ?_
       refine V H494 (op_move rfl (H494.ev rfl)) ?_
       intro _ H498; clear H494
       refine V H498 (op_move rfl (H498.ev rfl)) ?_
       intro _ H500; clear H498
       refine V H500 (op_sidx Tryz.underlying9 rfl (H500.ev rfl) (H500.ev rfl) ⟨by omega, by omega⟩) ?_
       intro _ H502; clear H500
       refine V H502 (op_assign rfl (H502.ev rfl)) ?_
       intro _ H504; clear H502
       refine gE hK496 ?_
       refine gR fun K505 hK505 => ?_
       refine V H504 (op_move rfl (H504.ev rfl)) ?_
       intro _ H507; clear H504
       refine V H507 (op_move rfl (H507.ev rfl)) ?_
       intro _ H509; clear H507
       refine V H509 (op_nil rfl (H509.ev rfl)) ?_
       intro _ H511; clear H509
       refine V H511 (op_field (gwfld108_0 _ _) rfl (H511.ev rfl)) ?_
       intro _ H513; clear H511
       refine V H513 (op_indexA Tryz.underlying106 gwsiz40 rfl (H513.ev rfl) (H513.ev rfl) ⟨by omega, by omega⟩) ?_
       intro _ H515; clear H513
       refine V H515 (op_load1 gwagg40 rfl (H515.ev rfl) (blk_at (bsr_blk (O481.get 2 rfl)) (tabC_get _ _ (bt s i2) ⟨by omega, by omega⟩))) ?_
       intro _ H517; clear H515
       refine V H517 (op_bin_run (r := .bool (specB (bt s i2))) rfl (H517.ev rfl) (ev_c _ _) (bsr_neq Tryz.underlying40 (O481.get 2 rfl) ⟨by omega, by omega⟩)) ?_
       intro _ H519; clear H517
       refine gE hK505 ?_
       refine gw_cond H519 rfl (fun hb520 => ?_) (fun hb520 => ?_)
       ·
        have H521 := H519.subst_ (d := 101) (b := true) rfl hb520
        clear H519
        (try simp only [Bool.not_eq_true] at hb520)
        have hsp : specB (bt s i2) = true := hb520
        rw [takeB s i2 (by omega), quoteL_append, quoteL_one, if_pos hsp, List.length_append] at hle1
        simp only [List.length_cons, List.length_nil] at hle1
        obtain ⟨adb, ccb, htb, hcb⟩ := bsr_spec (O481.get 2 rfl) (x := bt s i2) ⟨by omega, by omega⟩ hsp
        have O522 := O481.pin 3 rfl
        clear O481
        have O523 : Own w0 w479 [Chunk.row (Kd.int .u8) 5 w0.heap.size S460 (.slice (some ⟨gb475, 0, none⟩) ((List.replicate ns.toNat (0 : Int)).length) ((List.replicate ns.toNat (0 : Int)).length)) X, R, Chunk.bsr G Sb tb (.slice At 4 ct), Chunk.viewAt w479 Kd.string St At 4 ct TRL] := O522
        clear O522
        refine gx_draw (M := [Chunk.bsr G Sb tb (.slice At 4 ct)]) (fun j_ => false) O523 (by kernel_rfl) fun w524 O525 => ?_
        clear O523
        refine gx_take 0 rfl (by kernel_rfl) H521 (by exact O525.sel [2] (by decide)) (want_none rfl) rfl (by decide) (fun wq HO => (op_move rfl (H521.ev rfl))) ?_
        intro _ H527; clear H521
        refine gx_take 1 rfl (by kernel_rfl) H527 (by exact O525.sel [2] (by decide)) (want_none rfl) rfl (by decide) (fun wq HO => (op_move rfl (H527.ev rfl))) ?_
        intro _ H529; clear H527
        refine gx_take 2 rfl (by kernel_rfl) H529 (by exact O525.sel [2] (by decide)) (want_none rfl) rfl (by decide) (fun wq HO => (op_move rfl (H529.ev rfl))) ?_
        intro _ H531; clear H529
        refine gx_take 3 rfl (by kernel_rfl) H531 (by exact O525.sel [2] (by decide)) (want_none rfl) rfl (by decide) (fun wq HO => (op_cutat Tryz.underlying40 gwsiz5 rfl (H531.ev rfl) (H531.ev rfl) (by omega) (by omega) hcap)) ?_
        intro _ H533; clear H531
        refine gx_take 4 rfl (by kernel_rfl) H533 (by exact O525.sel [2] (by decide)) (want_none rfl) rfl (by decide) (fun wq HO => (op_move rfl (H533.ev rfl))) ?_
        intro _ H535; clear H533
        refine gx_take 5 rfl (by kernel_rfl) H535 (by exact O525.sel [2] (by decide)) (want_none rfl) rfl (by decide) (fun wq HO => (op_move rfl (H535.ev rfl))) ?_
        intro _ H537; clear H535
        refine gx_take 6 rfl (by kernel_rfl) H537 (by exact O525.sel [2] (by decide)) (want_none rfl) rfl (by decide) (fun wq HO => (op_nil rfl (H537.ev rfl))) ?_
        intro _ H539; clear H537
        refine gx_take 7 rfl (by kernel_rfl) H539 (by exact O525.sel [2] (by decide)) (want_none rfl) rfl (by decide) (fun wq HO => (op_field (gwfld108_0 _ _) rfl (H539.ev rfl))) ?_
        intro _ H541; clear H539
        refine gx_take 8 rfl (by kernel_rfl) H541 (by exact O525.sel [2] (by decide)) (want_none rfl) rfl (by decide) (fun wq HO => (op_indexA Tryz.underlying106 gwsiz40 rfl (H541.ev rfl) (H541.ev rfl) ⟨by omega, by omega⟩)) ?_
        intro _ H543; clear H541
        refine gx_take 9 rfl (by kernel_rfl) H543 (by exact O525.sel [2] (by decide)) (want_none rfl) rfl (by decide) (fun wq HO => (op_load1 gwagg40 rfl (H543.ev rfl) (blk_at (bsr_blk (HO.get 0 rfl)) (tabC_get _ _ (bt s i2) ⟨by omega, by omega⟩)))) ?_
        intro _ H545; clear H543
        have H546 := H545.conv (v' := .slice (some adb) 2 ccb) (htb)
        clear H545
        refine gx_step 10 rfl (by kernel_rfl) ?_
        refine gw_copy2 (u := 92) (v := bt s i2) (j := j) 0 H546 O525 rfl (want_none rfl) rfl (by decide) rfl Tryz.underlying40 (by kernel_rfl) (H546.ev rfl) (H546.ev rfl) (bsr_C (O525.get 2 rfl) ⟨by omega, by omega⟩ hsp htb) (by omega) (by omega) ?_
        intro _ w549 H548 O550; clear H546 O525
        have O551 : Own w0 w549 [Chunk.row (Kd.int .u8) 5 w0.heap.size S460 (.slice (some ⟨gb475, 0, none⟩) ((List.replicate ns.toNat (0 : Int)).length) ((List.replicate ns.toNat (0 : Int)).length)) ((X.set j.toNat 92).set (j.toNat + 1) (bt s i2)), R, Chunk.bsr G Sb tb (.slice At 4 ct), Chunk.viewAt w479 Kd.string St At 4 ct TRL] := O550
        clear O550
        refine gx_on (i := 10) (B := (fun j_ => false)) (fun _ => (by exact O551.sel [2] (by decide))) ?_
        refine gx_take 11 rfl (by kernel_rfl) H548 (by exact O551.sel [2] (by decide)) (want_none rfl) rfl (by decide) (fun wq HO => (op_add rfl (H548.ev rfl) (H548.ev rfl) (by omega))) ?_
        intro _ H553; clear H548
        refine gx_take 12 rfl (by kernel_rfl) H553 (by exact O551.sel [2] (by decide)) (want_none rfl) rfl (by decide) (fun wq HO => (op_assign rfl (H553.ev rfl))) ?_
        intro _ H555; clear H553
        refine gx_done (by kernel_rfl) ?_
        refine gw_blk ?_
        refine gw_nx (hK495 _ _ ?_)
        refine wp_region_lit ?_
        refine V H555 (op_move rfl (H555.ev rfl)) ?_
        intro _ H557; clear H555
        refine V H557 (op_add rfl (H557.ev rfl) (ev_c _ _) (by omega)) ?_
        intro _ H559; clear H557
        refine V H559 (op_assign rfl (H559.ev rfl)) ?_
        intro _ H561; clear H559
        refine wpList_nil ?_
        have O562 := O551.unpin 3 rfl
        clear O551
        have O563 : Own w0 w549 [Chunk.row (Kd.int .u8) 5 w0.heap.size S460 (.slice (some ⟨gb475, 0, none⟩) ((List.replicate ns.toNat (0 : Int)).length) ((List.replicate ns.toNat (0 : Int)).length)) ((X.set j.toNat 92).set (j.toNat + 1) (bt s i2)), R, Chunk.bsr G Sb tb (.slice At 4 ct), Chunk.view Kd.string St At 4 ct TRL] := O562
        clear O562
        refine gw_nx ⟨_, ?_, i2 + 1, j + 2, ((X.set j.toNat 92).set (j.toNat + 1) (bt s i2)), (H561.pick (t := 14) rfl (H561.pick (t := 13) rfl (H561.pick (t := 0) rfl (H561.pick (t := 1) rfl (H561.pick (t := 4) rfl (H561.pick (t := 12) rfl H561.nil)))))), O563.sel [0, 1, 2, 3] (by decide), ?_, ?_, ?_, ?_, rfl⟩
        ·
         rw [hm482]; omega
        ·
         omega
        ·
         rw [takeB s i2 (by omega), quoteL_append, quoteL_one, if_pos hsp]; rw [List.length_append]; simp only [List.length_cons, List.length_nil]; omega
        ·
         simp only [List.length_set]; exact hX
        ·
         rw [takeB s i2 (by omega), quoteL_append, quoteL_one, if_pos hsp, show (j + 2).toNat = j.toNat + 2 by omega, set2_take _ _ _ _ (by omega), hp]
       ·
        have H564 := H519.subst_ (d := 101) (b := false) rfl hb520
        clear H519
        (try simp only [Bool.not_eq_true] at hb520)
        have hsp : specB (bt s i2) = false := hb520
        rw [takeB s i2 (by omega), quoteL_append, quoteL_one, if_neg (by rw [hsp]; decide), List.length_append] at hle1
        simp only [List.length_cons, List.length_nil] at hle1
        refine gR fun K565 hK565 => ?_
        refine V H564 (op_move rfl (H564.ev rfl)) ?_
        intro _ H567; clear H564
        refine V H567 (op_move rfl (H567.ev rfl)) ?_
        intro _ H569; clear H567
        refine V H569 (op_move rfl (H569.ev rfl)) ?_
        intro _ H571; clear H569
        refine V H571 (op_index Tryz.underlying40 gwsiz5 rfl (H571.ev rfl) (H571.ev rfl) rfl (⟨by omega, by omega⟩)) ?_
        intro _ H576; clear H571
        refine gw_row 0 H576 O481 rfl (want_none rfl) rfl gwsiz5 (by omega) (by omega) rfl (H576.ev rfl) (H576.ev rfl) ?_
        intro _ w579 H578 O580; clear H576 O481
        have O581 : Own w0 w579 [Chunk.row (Kd.int .u8) 5 w0.heap.size S460 (.slice (some ⟨gb475, 0, none⟩) ((List.replicate ns.toNat (0 : Int)).length) ((List.replicate ns.toNat (0 : Int)).length)) (X.set j.toNat (bt s i2)), R, Chunk.bsr G Sb tb (.slice At 4 ct), Chunk.view Kd.string St At 4 ct TRL] := O580
        clear O580
        refine gE hK565 ?_
        refine wp_region_lit ?_
        refine V H578 (op_move rfl (H578.ev rfl)) ?_
        intro _ H583; clear H578
        refine V H583 (op_add rfl (H583.ev rfl) (ev_c _ _) (by omega)) ?_
        intro _ H585; clear H583
        refine V H585 (op_assign rfl (H585.ev rfl)) ?_
        intro _ H587; clear H585
        refine wpList_nil ?_
        refine gw_blk ?_
        refine gw_nx (hK495 _ _ ?_)
        refine wp_region_lit ?_
        refine V H587 (op_move rfl (H587.ev rfl)) ?_
        intro _ H589; clear H587
        refine V H589 (op_add rfl (H589.ev rfl) (ev_c _ _) (by omega)) ?_
        intro _ H591; clear H589
        refine V H591 (op_assign rfl (H591.ev rfl)) ?_
        intro _ H593; clear H591
        refine wpList_nil ?_
        refine gw_nx ⟨_, ?_, i2 + 1, j + 1, (X.set j.toNat (bt s i2)), (H593.pick (t := 14) rfl (H593.pick (t := 13) rfl (H593.pick (t := 0) rfl (H593.pick (t := 1) rfl (H593.pick (t := 4) rfl (H593.pick (t := 12) rfl H593.nil)))))), O581.sel [0, 1, 2, 3] (by decide), ?_, ?_, ?_, ?_, rfl⟩
        ·
         rw [hm482]; omega
        ·
         omega
        ·
         rw [takeB s i2 (by omega), quoteL_append, quoteL_one, if_neg (by rw [hsp]; decide)]; rw [List.length_append]; simp only [List.length_cons, List.length_nil]; omega
        ·
         simp only [List.length_set]; exact hX
        ·
         rw [takeB s i2 (by omega), quoteL_append, quoteL_one, if_neg (by rw [hsp]; decide), show (j + 1).toNat = j.toNat + 1 by omega, set1_take _ _ _ (by omega), hp]
      ·
       have H594 := H492.subst_ (d := 89) (b := false) rfl hb493
       clear H492
       (try simp only [decide_eq_false_iff_not, Int.not_lt] at hb493)
       rw [← hX] at O481
       (try rw [← hX] at H594)
       refine wp_exit ?_
       refine gw_thx ?_
       refine gw_thx ?_
       refine gw_in ?_
       refine gw_nx (hK471 _ _ ?_)
       refine gR fun K595 hK595 => ?_
       refine V H594 (op_move rfl (H594.ev rfl)) ?_
       intro _ H597; clear H594
       refine V H597 (op_conv_str Tryz.underlying40 Tryz.underlying5 Tryz.underlying9 (Kd.R_reads' (O481.get 0 rfl)).2.2 rfl (H597.ev rfl)) ?_
       intro _ H599; clear H597
       refine V H599 (op_assign rfl (H599.ev rfl)) ?_
       intro _ H601; clear H599
       refine gE hK595 ?_
       refine wp_ret ?_
       refine gw_ret1 H601 rfl rfl ?_
       have hall : X = quoteL (bytesOf s) := by have h_ := hp; rw [takeB_all s i2 (by omega)] at h_ hj; rw [← h_, List.take_of_length_le (by omega)]
       exact ⟨by unfold quoteB; rw [hall], O481.sel [1] (by decide)⟩
 ·
  have H602 := H33.subst_ (d := 26) (b := false) rfl hb34
  clear H33
  (try simp only [decide_eq_false_iff_not, Int.not_le] at hb34)
  refine gR fun K603 hK603 => ?_
  refine V H602 (op_assign rfl (ev_c _ _)) ?_
  intro _ H605; clear H602
  refine gE hK603 ?_
  refine wp_block ?_
  refine gw_loop (fun m_ a_ w_ => ∃ (i : Int) (ns : Int) (fl : Bool), Fr 122 a_ [(10, J i), (5, J ns), (6, .bool fl), (0, .pointer (some ⟨G, 0, none⟩)), (1, .string s), (4, .string (⟨#[]⟩ : ByteArray))] ∧ Own w0 w_ [R, Chunk.bsr G Sb tb (.slice At 4 ct), Chunk.view Kd.string St At 4 ct TRL] ∧ (0 ≤ i ∧ i ≤ s.size) ∧ (ns = s.size + spc ((bytesOf s).take i.toNat)) ∧ (fl = decide (spc ((bytesOf s).take i.toNat) ≠ 0)) ∧ m_ = (s.size - i.toNat)) ((s.size - (0 : Int).toNat)) ?_ ?_
  ·
   refine ⟨0, (s.size : Int), false, (H605.pick (t := 10) rfl (H605.pick (t := 5) rfl (H605.pick (t := 6) rfl (H605.pick (t := 0) rfl (H605.pick (t := 1) rfl (H605.pick (t := 4) rfl H605.nil)))))), HO.sel [0, 1, 2] (by decide), ?_, ?_, ?_, rfl⟩
   ·
    omega
   ·
    show _ = (s.size : Int) + 0; omega
   ·
    rfl
  ·
   rintro m607 _ w609 ⟨i, ns, fl, H610, O611, hi, hns, hfl, hm612⟩
   have hsn := spc_nonneg ((bytesOf s).take i.toNat)
   have hbt := bt_range s i
   have htl : (((bytesOf s).take i.toNat).length : Int) ≤ i := by rw [List.length_take]; omega
   refine gw_seq fun K613 hK613 => ?_
   refine gR fun K614 hK614 => ?_
   refine V H610 (op_move rfl (H610.ev rfl)) ?_
   intro _ H616; clear H610
   refine V H616 (op_move rfl (H616.ev rfl)) ?_
   intro _ H618; clear H616
   refine V H618 (op_lens Tryz.underlying9 rfl (H618.ev rfl)) ?_
   intro _ H620; clear H618
   refine V H620 (op_lss rfl (H620.ev rfl) (H620.ev rfl)) ?_
   intro _ H622; clear H620
   refine gE hK614 ?_
   refine gw_cond H622 rfl (fun hb623 => ?_) (fun hb623 => ?_)
   ·
    have H624 := H622.subst_ (d := 58) (b := true) rfl hb623
    clear H622
    (try simp only [decide_eq_true_eq] at hb623)
    refine wp_skip ?_
    refine gw_nx (hK613 _ _ ?_)
    refine gw_seq fun K625 hK625 => ?_
    refine wp_block ?_
    refine gR fun K626 hK626 => ?_
    refine V H624 (op_move rfl (H624.ev rfl)) ?_
    intro _ H628; clear H624
    refine V H628 (op_move rfl (H628.ev rfl)) ?_
    intro _ H630; clear H628
    refine V H630 (op_sidx Tryz.underlying9 rfl (H630.ev rfl) (H630.ev rfl) ⟨by omega, by omega⟩) ?_
    intro _ H632; clear H630
    refine V H632 (op_assign rfl (H632.ev rfl)) ?_
    intro _ H634; clear H632
    refine gE hK626 ?_
    refine gR fun K635 hK635 => ?_
    refine V H634 (op_move rfl (H634.ev rfl)) ?_
    intro _ H637; clear H634
    refine V H637 (op_move rfl (H637.ev rfl)) ?_
    intro _ H639; clear H637
    refine V H639 (op_nil rfl (H639.ev rfl)) ?_
    intro _ H641; clear H639
    refine V H641 (op_field (gwfld108_0 _ _) rfl (H641.ev rfl)) ?_
    intro _ H643; clear H641
    refine V H643 (op_indexA Tryz.underlying106 gwsiz40 rfl (H643.ev rfl) (H643.ev rfl) ⟨by omega, by omega⟩) ?_
    intro _ H645; clear H643
    refine V H645 (op_load1 gwagg40 rfl (H645.ev rfl) (blk_at (bsr_blk (O611.get 1 rfl)) (tabC_get _ _ (bt s i) ⟨by omega, by omega⟩))) ?_
    intro _ H647; clear H645
    refine V H647 (op_bin_run (r := .bool (specB (bt s i))) rfl (H647.ev rfl) (ev_c _ _) (bsr_neq Tryz.underlying40 (O611.get 1 rfl) ⟨by omega, by omega⟩)) ?_
    intro _ H649; clear H647
    refine gE hK635 ?_
    refine gw_cond H649 rfl (fun hb650 => ?_) (fun hb650 => ?_)
    ·
     have H651 := H649.subst_ (d := 70) (b := true) rfl hb650
     clear H649
     (try simp only [Bool.not_eq_true] at hb650)
     have hsp : specB (bt s i) = true := hb650
     obtain ⟨adb, ccb, htb, hcb⟩ := bsr_spec (O611.get 1 rfl) (x := bt s i) ⟨by omega, by omega⟩ hsp
     refine gR fun K652 hK652 => ?_
     refine V H651 (op_move rfl (H651.ev rfl)) ?_
     intro _ H654; clear H651
     refine V H654 (op_move rfl (H654.ev rfl)) ?_
     intro _ H656; clear H654
     refine V H656 (op_move rfl (H656.ev rfl)) ?_
     intro _ H658; clear H656
     refine V H658 (op_nil rfl (H658.ev rfl)) ?_
     intro _ H660; clear H658
     refine V H660 (op_field (gwfld108_0 _ _) rfl (H660.ev rfl)) ?_
     intro _ H662; clear H660
     refine V H662 (op_indexA Tryz.underlying106 gwsiz40 rfl (H662.ev rfl) (H662.ev rfl) ⟨by omega, by omega⟩) ?_
     intro _ H664; clear H662
     refine V H664 (op_load1 gwagg40 rfl (H664.ev rfl) (blk_at (bsr_blk (O611.get 1 rfl)) (tabC_get _ _ (bt s i) ⟨by omega, by omega⟩))) ?_
     intro _ H666; clear H664
     have H667 := H666.conv (v' := .slice (some adb) 2 ccb) (htb)
     clear H666
     refine V H667 (op_len Tryz.underlying40 rfl (H667.ev rfl)) ?_
     intro _ H669; clear H667
     refine V H669 (op_sub rfl (H669.ev rfl) (ev_c _ _) (by omega)) ?_
     intro _ H671; clear H669
     have H672 := H671.conv (v' := J 1) (rfl)
     clear H671
     refine V H672 (op_add rfl (H672.ev rfl) (H672.ev rfl) (by omega)) ?_
     intro _ H674; clear H672
     refine V H674 (op_assign rfl (H674.ev rfl)) ?_
     intro _ H676; clear H674
     refine gE hK652 ?_
     refine wp_region_lit ?_
     refine V H676 (op_assign rfl (ev_c _ _)) ?_
     intro _ H678; clear H676
     refine wpList_nil ?_
     refine gw_blk ?_
     refine gw_nx (hK625 _ _ ?_)
     refine wp_region_lit ?_
     refine V H678 (op_move rfl (H678.ev rfl)) ?_
     intro _ H680; clear H678
     refine V H680 (op_add rfl (H680.ev rfl) (ev_c _ _) (by omega)) ?_
     intro _ H682; clear H680
     refine V H682 (op_assign rfl (H682.ev rfl)) ?_
     intro _ H684; clear H682
     refine wpList_nil ?_
     refine gw_nx ⟨_, ?_, i + 1, ns + 1, true, (H684.pick (t := 10) rfl (H684.pick (t := 5) rfl (H684.pick (t := 6) rfl (H684.pick (t := 0) rfl (H684.pick (t := 1) rfl (H684.pick (t := 4) rfl H684.nil)))))), O611.sel [0, 1, 2] (by decide), ?_, ?_, ?_, rfl⟩
     ·
      rw [hm612]; omega
     ·
      omega
     ·
      rw [takeB s i (by omega), spc_snoc, if_pos hsp]; omega
     ·
      rw [takeB s i (by omega), spc_snoc, if_pos hsp]; symm; rw [decide_eq_true_eq]; omega
    ·
     have H685 := H649.subst_ (d := 70) (b := false) rfl hb650
     clear H649
     (try simp only [Bool.not_eq_true] at hb650)
     have hsp : specB (bt s i) = false := hb650
     refine wp_skip ?_
     refine gw_blk ?_
     refine gw_nx (hK625 _ _ ?_)
     refine wp_region_lit ?_
     refine V H685 (op_move rfl (H685.ev rfl)) ?_
     intro _ H687; clear H685
     refine V H687 (op_add rfl (H687.ev rfl) (ev_c _ _) (by omega)) ?_
     intro _ H689; clear H687
     refine V H689 (op_assign rfl (H689.ev rfl)) ?_
     intro _ H691; clear H689
     refine wpList_nil ?_
     refine gw_nx ⟨_, ?_, i + 1, ns, fl, (H691.pick (t := 10) rfl (H691.pick (t := 5) rfl (H691.pick (t := 6) rfl (H691.pick (t := 0) rfl (H691.pick (t := 1) rfl (H691.pick (t := 4) rfl H691.nil)))))), O611.sel [0, 1, 2] (by decide), ?_, ?_, ?_, rfl⟩
     ·
      rw [hm612]; omega
     ·
      omega
     ·
      rw [takeB s i (by omega), spc_snoc, if_neg (by rw [hsp]; decide)]; omega
     ·
      rw [takeB s i (by omega), spc_snoc, if_neg (by rw [hsp]; decide)]; rw [hfl, decide_eq_decide]; omega
   ·
    have H692 := H622.subst_ (d := 58) (b := false) rfl hb623
    clear H622
    (try simp only [decide_eq_false_iff_not, Int.not_lt] at hb623)
    refine wp_exit ?_
    refine gw_thx ?_
    refine gw_thx ?_
    refine gw_in ?_
    refine gw_nx (hK14 _ _ ?_)
    refine gw_seq fun K693 hK693 => ?_
    refine gR fun K694 hK694 => ?_
    refine V H692 (op_move rfl (H692.ev rfl)) ?_
    intro _ H696; clear H692
    refine V H696 (op_not rfl (H696.ev rfl)) ?_
    intro _ H698; clear H696
    refine gE hK694 ?_
    refine gw_cond H698 rfl (fun hb699 => ?_) (fun hb699 => ?_)
    ·
     have H700 := H698.subst_ (d := 82) (b := true) rfl hb699
     clear H698
     (try simp only [Bool.and_eq_true, Bool.and_eq_false_iff, Bool.not_and, Bool.or_eq_true, Bool.or_eq_false_iff, Bool.not_or, Bool.not_not, Bool.not_eq_true', Bool.not_eq_false', Bool.not_eq_true, Bool.not_eq_false] at hb699)
     have hns2 : ns = s.size + spc (bytesOf s) := by rw [takeB_all s i (by omega)] at hns; exact hns
     have hfl2 : fl = decide (spc (bytesOf s) ≠ 0) := by rw [takeB_all s i (by omega)] at hfl; exact hfl
     have hsn2 := spc_nonneg (bytesOf s)
     have hql := quote_len s
     have hbl := bytesOf_length s
     have hz : spc (bytesOf s) = 0 := by have h_ := hb699; rw [hfl2] at h_; simpa using h_
     refine gR fun K701 hK701 => ?_
     refine V H700 (op_move rfl (H700.ev rfl)) ?_
     intro _ H703; clear H700
     refine V H703 (op_assign rfl (H703.ev rfl)) ?_
     intro _ H705; clear H703
     refine gE hK701 ?_
     refine wp_ret ?_
     refine gw_thr ?_
     refine gw_ret1 H705 rfl rfl ?_
     exact ⟨by unfold quoteB; rw [spc_zero _ hz, strOf_bytes], O611.sel [0] (by decide)⟩
    ·
     have H706 := H698.subst_ (d := 82) (b := false) rfl hb699
     clear H698
     (try simp only [Bool.and_eq_true, Bool.and_eq_false_iff, Bool.not_and, Bool.or_eq_true, Bool.or_eq_false_iff, Bool.not_or, Bool.not_not, Bool.not_eq_true', Bool.not_eq_false', Bool.not_eq_true, Bool.not_eq_false] at hb699)
     have hns2 : ns = s.size + spc (bytesOf s) := by rw [takeB_all s i (by omega)] at hns; exact hns
     have hfl2 : fl = decide (spc (bytesOf s) ≠ 0) := by rw [takeB_all s i (by omega)] at hfl; exact hfl
     have hsn2 := spc_nonneg (bytesOf s)
     have hql := quote_len s
     have hbl := bytesOf_length s
     have hnz : spc (bytesOf s) ≠ 0 := by have h_ := hb699; rw [hfl2] at h_; simpa using h_
     refine wp_skip ?_
     refine gw_nx (hK693 _ _ ?_)
     refine gR fun K707 hK707 => ?_
     refine V H706 (op_move rfl (H706.ev rfl)) ?_
     intro _ H709; clear H706
     refine gw_lit (enc := Value.int .u8) (fun _ => rfl) (xs := (List.replicate ns.toNat (0 : Int))) (e := 5) H709 O611 (want_none rfl) rfl (by decide) (op_make Tryz.underlying40 gwinfo5 rfl rfl (H709.ev rfl) (H709.ev rfl) (by omega) (by omega)) (by rw [List.length_replicate]; omega) ?_
     intro A710 S711 _ w713 H714 O715; clear H709 O611
     have O716 : Own w0 w713 [Chunk.row (Kd.int .u8) 5 w0.heap.size S711 (.slice A710 ((List.replicate ns.toNat (0 : Int)).length) ((List.replicate ns.toNat (0 : Int)).length)) (List.replicate ns.toNat (0 : Int)), R, Chunk.bsr G Sb tb (.slice At 4 ct), Chunk.view Kd.string St At 4 ct TRL] := O715
     clear O715
     have hrl_ : (List.replicate ns.toNat (0 : Int)).length = ns.toNat := List.length_replicate
     refine V H714 (op_assign rfl (H714.ev rfl)) ?_
     intro _ H718; clear H714
     refine gE hK707 ?_
     refine gR fun K719 hK719 => ?_
     refine V H718 (op_assign rfl (ev_c _ _)) ?_
     intro _ H721; clear H718
     refine gE hK719 ?_
     refine gw_seq fun K722 hK722 => ?_
     refine gR fun K723 hK723 => ?_
     refine V H721 (op_assign rfl (ev_c _ _)) ?_
     intro _ H725; clear H721
     refine gE hK723 ?_
     refine wp_block ?_
     obtain ⟨gb726, hgb726⟩ := row_form (O716.get 0 rfl) (by omega)
     subst hgb726
     have hcap := row_cap (O716.get 0 rfl)
     refine gw_loop (fun m_ a_ w_ => ∃ (i2 : Int) (j : Int) (X : List Int), Fr 122 a_ [(14, J i2), (13, J j), (0, .pointer (some ⟨G, 0, none⟩)), (1, .string s), (4, .string (⟨#[]⟩ : ByteArray)), (12, .slice (some ⟨gb726, 0, none⟩) ((List.replicate ns.toNat (0 : Int)).length) ((List.replicate ns.toNat (0 : Int)).length))] ∧ Own w0 w_ [Chunk.row (Kd.int .u8) 5 w0.heap.size S711 (.slice (some ⟨gb726, 0, none⟩) ((List.replicate ns.toNat (0 : Int)).length) ((List.replicate ns.toNat (0 : Int)).length)) X, R, Chunk.bsr G Sb tb (.slice At 4 ct), Chunk.view Kd.string St At 4 ct TRL] ∧ (0 ≤ i2 ∧ i2 ≤ s.size) ∧ (j = ((quoteL ((bytesOf s).take i2.toNat)).length : Int)) ∧ (X.length = (List.replicate ns.toNat (0 : Int)).length) ∧ (X.take j.toNat = quoteL ((bytesOf s).take i2.toNat)) ∧ m_ = (s.size - i2.toNat)) ((s.size - (0 : Int).toNat)) ?_ ?_
     ·
      refine ⟨0, 0, (List.replicate ns.toNat (0 : Int)), (H725.pick (t := 14) rfl (H725.pick (t := 13) rfl (H725.pick (t := 0) rfl (H725.pick (t := 1) rfl (H725.pick (t := 4) rfl (H725.pick (t := 12) rfl H725.nil)))))), O716.sel [0, 1, 2, 3] (by decide), ?_, ?_, ?_, ?_, rfl⟩
      ·
       omega
      ·
       rfl
      ·
       rfl
      ·
       rfl
     ·
      rintro m728 _ w730 ⟨i2, j, X, H731, O732, hi2, hj, hX, hp, hm733⟩
      have hbt := bt_range s i2
      have hle1 := quote_le (bytesOf s) (i2 + 1).toNat
      have hle0 := quote_le (bytesOf s) i2.toNat
      refine gw_seq fun K734 hK734 => ?_
      refine gR fun K735 hK735 => ?_
      refine V H731 (op_move rfl (H731.ev rfl)) ?_
      intro _ H737; clear H731
      refine V H737 (op_move rfl (H737.ev rfl)) ?_
      intro _ H739; clear H737
      refine V H739 (op_lens Tryz.underlying9 rfl (H739.ev rfl)) ?_
      intro _ H741; clear H739
      refine V H741 (op_lss rfl (H741.ev rfl) (H741.ev rfl)) ?_
      intro _ H743; clear H741
      refine gE hK735 ?_
      refine gw_cond H743 rfl (fun hb744 => ?_) (fun hb744 => ?_)
      ·
       have H745 := H743.subst_ (d := 89) (b := true) rfl hb744
       clear H743
       (try simp only [decide_eq_true_eq] at hb744)
       refine wp_skip ?_
       refine gw_nx (hK734 _ _ ?_)
       refine gw_seq fun K746 hK746 => ?_
       refine wp_block ?_
       refine gR fun K747 hK747 => ?_
       refine V H745 (op_move rfl (H745.ev rfl)) ?_
       intro _ H749; clear H745
       refine V H749 (op_move rfl (H749.ev rfl)) ?_
       intro _ H751; clear H749
       refine V H751 (op_sidx Tryz.underlying9 rfl (H751.ev rfl) (H751.ev rfl) ⟨by omega, by omega⟩) ?_
       intro _ H753; clear H751
       refine V H753 (op_assign rfl (H753.ev rfl)) ?_
       intro _ H755; clear H753
       refine gE hK747 ?_
       refine gR fun K756 hK756 => ?_
       refine V H755 (op_move rfl (H755.ev rfl)) ?_
       intro _ H758; clear H755
       refine V H758 (op_move rfl (H758.ev rfl)) ?_
       intro _ H760; clear H758
       refine V H760 (op_nil rfl (H760.ev rfl)) ?_
       intro _ H762; clear H760
       refine V H762 (op_field (gwfld108_0 _ _) rfl (H762.ev rfl)) ?_
       intro _ H764; clear H762
       refine V H764 (op_indexA Tryz.underlying106 gwsiz40 rfl (H764.ev rfl) (H764.ev rfl) ⟨by omega, by omega⟩) ?_
       intro _ H766; clear H764
       refine V H766 (op_load1 gwagg40 rfl (H766.ev rfl) (blk_at (bsr_blk (O732.get 2 rfl)) (tabC_get _ _ (bt s i2) ⟨by omega, by omega⟩))) ?_
       intro _ H768; clear H766
       refine V H768 (op_bin_run (r := .bool (specB (bt s i2))) rfl (H768.ev rfl) (ev_c _ _) (bsr_neq Tryz.underlying40 (O732.get 2 rfl) ⟨by omega, by omega⟩)) ?_
       intro _ H770; clear H768
       refine gE hK756 ?_
       refine gw_cond H770 rfl (fun hb771 => ?_) (fun hb771 => ?_)
       ·
        have H772 := H770.subst_ (d := 101) (b := true) rfl hb771
        clear H770
        (try simp only [Bool.not_eq_true] at hb771)
        have hsp : specB (bt s i2) = true := hb771
        rw [takeB s i2 (by omega), quoteL_append, quoteL_one, if_pos hsp, List.length_append] at hle1
        simp only [List.length_cons, List.length_nil] at hle1
        obtain ⟨adb, ccb, htb, hcb⟩ := bsr_spec (O732.get 2 rfl) (x := bt s i2) ⟨by omega, by omega⟩ hsp
        have O773 := O732.pin 3 rfl
        clear O732
        have O774 : Own w0 w730 [Chunk.row (Kd.int .u8) 5 w0.heap.size S711 (.slice (some ⟨gb726, 0, none⟩) ((List.replicate ns.toNat (0 : Int)).length) ((List.replicate ns.toNat (0 : Int)).length)) X, R, Chunk.bsr G Sb tb (.slice At 4 ct), Chunk.viewAt w730 Kd.string St At 4 ct TRL] := O773
        clear O773
        refine gx_draw (M := [Chunk.bsr G Sb tb (.slice At 4 ct)]) (fun j_ => false) O774 (by kernel_rfl) fun w775 O776 => ?_
        clear O774
        refine gx_take 0 rfl (by kernel_rfl) H772 (by exact O776.sel [2] (by decide)) (want_none rfl) rfl (by decide) (fun wq HO => (op_move rfl (H772.ev rfl))) ?_
        intro _ H778; clear H772
        refine gx_take 1 rfl (by kernel_rfl) H778 (by exact O776.sel [2] (by decide)) (want_none rfl) rfl (by decide) (fun wq HO => (op_move rfl (H778.ev rfl))) ?_
        intro _ H780; clear H778
        refine gx_take 2 rfl (by kernel_rfl) H780 (by exact O776.sel [2] (by decide)) (want_none rfl) rfl (by decide) (fun wq HO => (op_move rfl (H780.ev rfl))) ?_
        intro _ H782; clear H780
        refine gx_take 3 rfl (by kernel_rfl) H782 (by exact O776.sel [2] (by decide)) (want_none rfl) rfl (by decide) (fun wq HO => (op_cutat Tryz.underlying40 gwsiz5 rfl (H782.ev rfl) (H782.ev rfl) (by omega) (by omega) hcap)) ?_
        intro _ H784; clear H782
        refine gx_take 4 rfl (by kernel_rfl) H784 (by exact O776.sel [2] (by decide)) (want_none rfl) rfl (by decide) (fun wq HO => (op_move rfl (H784.ev rfl))) ?_
        intro _ H786; clear H784
        refine gx_take 5 rfl (by kernel_rfl) H786 (by exact O776.sel [2] (by decide)) (want_none rfl) rfl (by decide) (fun wq HO => (op_move rfl (H786.ev rfl))) ?_
        intro _ H788; clear H786
        refine gx_take 6 rfl (by kernel_rfl) H788 (by exact O776.sel [2] (by decide)) (want_none rfl) rfl (by decide) (fun wq HO => (op_nil rfl (H788.ev rfl))) ?_
        intro _ H790; clear H788
        refine gx_take 7 rfl (by kernel_rfl) H790 (by exact O776.sel [2] (by decide)) (want_none rfl) rfl (by decide) (fun wq HO => (op_field (gwfld108_0 _ _) rfl (H790.ev rfl))) ?_
        intro _ H792; clear H790
        refine gx_take 8 rfl (by kernel_rfl) H792 (by exact O776.sel [2] (by decide)) (want_none rfl) rfl (by decide) (fun wq HO => (op_indexA Tryz.underlying106 gwsiz40 rfl (H792.ev rfl) (H792.ev rfl) ⟨by omega, by omega⟩)) ?_
        intro _ H794; clear H792
        refine gx_take 9 rfl (by kernel_rfl) H794 (by exact O776.sel [2] (by decide)) (want_none rfl) rfl (by decide) (fun wq HO => (op_load1 gwagg40 rfl (H794.ev rfl) (blk_at (bsr_blk (HO.get 0 rfl)) (tabC_get _ _ (bt s i2) ⟨by omega, by omega⟩)))) ?_
        intro _ H796; clear H794
        have H797 := H796.conv (v' := .slice (some adb) 2 ccb) (htb)
        clear H796
        refine gx_step 10 rfl (by kernel_rfl) ?_
        refine gw_copy2 (u := 92) (v := bt s i2) (j := j) 0 H797 O776 rfl (want_none rfl) rfl (by decide) rfl Tryz.underlying40 (by kernel_rfl) (H797.ev rfl) (H797.ev rfl) (bsr_C (O776.get 2 rfl) ⟨by omega, by omega⟩ hsp htb) (by omega) (by omega) ?_
        intro _ w800 H799 O801; clear H797 O776
        have O802 : Own w0 w800 [Chunk.row (Kd.int .u8) 5 w0.heap.size S711 (.slice (some ⟨gb726, 0, none⟩) ((List.replicate ns.toNat (0 : Int)).length) ((List.replicate ns.toNat (0 : Int)).length)) ((X.set j.toNat 92).set (j.toNat + 1) (bt s i2)), R, Chunk.bsr G Sb tb (.slice At 4 ct), Chunk.viewAt w730 Kd.string St At 4 ct TRL] := O801
        clear O801
        refine gx_on (i := 10) (B := (fun j_ => false)) (fun _ => (by exact O802.sel [2] (by decide))) ?_
        refine gx_take 11 rfl (by kernel_rfl) H799 (by exact O802.sel [2] (by decide)) (want_none rfl) rfl (by decide) (fun wq HO => (op_add rfl (H799.ev rfl) (H799.ev rfl) (by omega))) ?_
        intro _ H804; clear H799
        refine gx_take 12 rfl (by kernel_rfl) H804 (by exact O802.sel [2] (by decide)) (want_none rfl) rfl (by decide) (fun wq HO => (op_assign rfl (H804.ev rfl))) ?_
        intro _ H806; clear H804
        refine gx_done (by kernel_rfl) ?_
        refine gw_blk ?_
        refine gw_nx (hK746 _ _ ?_)
        refine wp_region_lit ?_
        refine V H806 (op_move rfl (H806.ev rfl)) ?_
        intro _ H808; clear H806
        refine V H808 (op_add rfl (H808.ev rfl) (ev_c _ _) (by omega)) ?_
        intro _ H810; clear H808
        refine V H810 (op_assign rfl (H810.ev rfl)) ?_
        intro _ H812; clear H810
        refine wpList_nil ?_
        have O813 := O802.unpin 3 rfl
        clear O802
        have O814 : Own w0 w800 [Chunk.row (Kd.int .u8) 5 w0.heap.size S711 (.slice (some ⟨gb726, 0, none⟩) ((List.replicate ns.toNat (0 : Int)).length) ((List.replicate ns.toNat (0 : Int)).length)) ((X.set j.toNat 92).set (j.toNat + 1) (bt s i2)), R, Chunk.bsr G Sb tb (.slice At 4 ct), Chunk.view Kd.string St At 4 ct TRL] := O813
        clear O813
        refine gw_nx ⟨_, ?_, i2 + 1, j + 2, ((X.set j.toNat 92).set (j.toNat + 1) (bt s i2)), (H812.pick (t := 14) rfl (H812.pick (t := 13) rfl (H812.pick (t := 0) rfl (H812.pick (t := 1) rfl (H812.pick (t := 4) rfl (H812.pick (t := 12) rfl H812.nil)))))), O814.sel [0, 1, 2, 3] (by decide), ?_, ?_, ?_, ?_, rfl⟩
        ·
         rw [hm733]; omega
        ·
         omega
        ·
         rw [takeB s i2 (by omega), quoteL_append, quoteL_one, if_pos hsp]; rw [List.length_append]; simp only [List.length_cons, List.length_nil]; omega
        ·
         simp only [List.length_set]; exact hX
        ·
         rw [takeB s i2 (by omega), quoteL_append, quoteL_one, if_pos hsp, show (j + 2).toNat = j.toNat + 2 by omega, set2_take _ _ _ _ (by omega), hp]
       ·
        have H815 := H770.subst_ (d := 101) (b := false) rfl hb771
        clear H770
        (try simp only [Bool.not_eq_true] at hb771)
        have hsp : specB (bt s i2) = false := hb771
        rw [takeB s i2 (by omega), quoteL_append, quoteL_one, if_neg (by rw [hsp]; decide), List.length_append] at hle1
        simp only [List.length_cons, List.length_nil] at hle1
        refine gR fun K816 hK816 => ?_
        refine V H815 (op_move rfl (H815.ev rfl)) ?_
        intro _ H818; clear H815
        refine V H818 (op_move rfl (H818.ev rfl)) ?_
        intro _ H820; clear H818
        refine V H820 (op_move rfl (H820.ev rfl)) ?_
        intro _ H822; clear H820
        refine V H822 (op_index Tryz.underlying40 gwsiz5 rfl (H822.ev rfl) (H822.ev rfl) rfl (⟨by omega, by omega⟩)) ?_
        intro _ H827; clear H822
        refine gw_row 0 H827 O732 rfl (want_none rfl) rfl gwsiz5 (by omega) (by omega) rfl (H827.ev rfl) (H827.ev rfl) ?_
        intro _ w830 H829 O831; clear H827 O732
        have O832 : Own w0 w830 [Chunk.row (Kd.int .u8) 5 w0.heap.size S711 (.slice (some ⟨gb726, 0, none⟩) ((List.replicate ns.toNat (0 : Int)).length) ((List.replicate ns.toNat (0 : Int)).length)) (X.set j.toNat (bt s i2)), R, Chunk.bsr G Sb tb (.slice At 4 ct), Chunk.view Kd.string St At 4 ct TRL] := O831
        clear O831
        refine gE hK816 ?_
        refine wp_region_lit ?_
        refine V H829 (op_move rfl (H829.ev rfl)) ?_
        intro _ H834; clear H829
        refine V H834 (op_add rfl (H834.ev rfl) (ev_c _ _) (by omega)) ?_
        intro _ H836; clear H834
        refine V H836 (op_assign rfl (H836.ev rfl)) ?_
        intro _ H838; clear H836
        refine wpList_nil ?_
        refine gw_blk ?_
        refine gw_nx (hK746 _ _ ?_)
        refine wp_region_lit ?_
        refine V H838 (op_move rfl (H838.ev rfl)) ?_
        intro _ H840; clear H838
        refine V H840 (op_add rfl (H840.ev rfl) (ev_c _ _) (by omega)) ?_
        intro _ H842; clear H840
        refine V H842 (op_assign rfl (H842.ev rfl)) ?_
        intro _ H844; clear H842
        refine wpList_nil ?_
        refine gw_nx ⟨_, ?_, i2 + 1, j + 1, (X.set j.toNat (bt s i2)), (H844.pick (t := 14) rfl (H844.pick (t := 13) rfl (H844.pick (t := 0) rfl (H844.pick (t := 1) rfl (H844.pick (t := 4) rfl (H844.pick (t := 12) rfl H844.nil)))))), O832.sel [0, 1, 2, 3] (by decide), ?_, ?_, ?_, ?_, rfl⟩
        ·
         rw [hm733]; omega
        ·
         omega
        ·
         rw [takeB s i2 (by omega), quoteL_append, quoteL_one, if_neg (by rw [hsp]; decide)]; rw [List.length_append]; simp only [List.length_cons, List.length_nil]; omega
        ·
         simp only [List.length_set]; exact hX
        ·
         rw [takeB s i2 (by omega), quoteL_append, quoteL_one, if_neg (by rw [hsp]; decide), show (j + 1).toNat = j.toNat + 1 by omega, set1_take _ _ _ (by omega), hp]
      ·
       have H845 := H743.subst_ (d := 89) (b := false) rfl hb744
       clear H743
       (try simp only [decide_eq_false_iff_not, Int.not_lt] at hb744)
       rw [← hX] at O732
       (try rw [← hX] at H845)
       refine wp_exit ?_
       refine gw_thx ?_
       refine gw_thx ?_
       refine gw_in ?_
       refine gw_nx (hK722 _ _ ?_)
       refine gR fun K846 hK846 => ?_
       refine V H845 (op_move rfl (H845.ev rfl)) ?_
       intro _ H848; clear H845
       refine V H848 (op_conv_str Tryz.underlying40 Tryz.underlying5 Tryz.underlying9 (Kd.R_reads' (O732.get 0 rfl)).2.2 rfl (H848.ev rfl)) ?_
       intro _ H850; clear H848
       refine V H850 (op_assign rfl (H850.ev rfl)) ?_
       intro _ H852; clear H850
       refine gE hK846 ?_
       refine wp_ret ?_
       refine gw_ret1 H852 rfl rfl ?_
       have hall : X = quoteL (bytesOf s) := by have h_ := hp; rw [takeB_all s i2 (by omega)] at h_ hj; rw [← h_, List.take_of_length_le (by omega)]
       exact ⟨by unfold quoteB; rw [hall], O732.sel [1] (by decide)⟩
end GQrep_
export GQrep_ (bsrReplace_walk)
end Go.Proofs.YtelbgmpeghhakaaGreat.PA
end
section
namespace Go.Proofs.YtelbgmpeghhakaaGreat.PA
open Go.RowKit Go.Proofs.YtelbgmpeghhakaaGreatW.PrintWords Go.Proofs.YtelbgmpeghhakaaGreatW.PrintLast Go.Proofs.YtelbgmpeghhakaaGreatW.PrintMore
set_option linter.unusedVariables false
set_option linter.unusedSimpArgs false
namespace GQrepl_
theorem gwagg81 : ∀ w, (isAgg 81).run Tryz.prog w = .ok false w := fun _ => by kernel_rfl
theorem gwfld83_0 (g off : Nat) : ∀ w, (Instr.fieldAt 83 (.pointer (some ⟨g, off, none⟩)) 0).run Tryz.prog w = .ok (.pointer (some ⟨g, off + 0, none⟩)) w := fun _ => by kernel_rfl
theorem gwfld83_1 (g off : Nat) : ∀ w, (Instr.fieldAt 83 (.pointer (some ⟨g, off, none⟩)) 1).run Tryz.prog w = .ok (.pointer (some ⟨g, off + 3, none⟩)) w := fun _ => by kernel_rfl
set_option maxHeartbeats 4000000 in
set_option maxRecDepth 100000 in
theorem replace_walk (w0 w : World) (R : Chunk) (B : Nat) (So : Nat → Prop) (Ao : Option Addr) (co : Nat) (s : ByteArray) (hs : s.size ≤ 35184372088832) (HO : Own w0 w [R, Bk B [.int .u32 0, .int .i32 0, .int .u32 0, .nilIface, .slice Ao 8 co] 83, Chunk.view Kd.string So Ao 8 co OLDL]) :
    Calls Tryz.prog 32 #[.pointer (some ⟨B, 0, none⟩), .string s] w fun e w' => e = .returned (.string (quoteB s)) ∧ Own w0 w' [R] := by
 refine gw_startO (N := 17) (vs := [.pointer (some ⟨B, 0, none⟩), .string s]) Tryz.func32 rfl rfl (by simp) fun a HF => ?_
 refine gR fun K1 hK1 => ?_
 refine V HF (op_assign rfl (ev_c _ _)) ?_
 intro _ H3; clear HF
 refine gE hK1 ?_
 refine gR fun K4 hK4 => ?_
 refine V H3 (op_move rfl (H3.ev rfl)) ?_
 intro _ H6; clear H3
 refine V H6 (op_nil rfl (H6.ev rfl)) ?_
 intro _ H8; clear H6
 refine V H8 (op_field (gwfld83_0 _ _) rfl (H8.ev rfl)) ?_
 intro _ H10; clear H8
 refine V H10 (op_move rfl (H10.ev rfl)) ?_
 intro _ H12; clear H10
 refine V H12 (op_bound rfl (H12.ev rfl)) ?_
 intro _ H14; clear H12
 have O21 : Own w0 _ [(Chunk.all [R]), Bk B [.int .u32 0, .int .i32 0, .int .u32 0, .nilIface, .slice Ao 8 co] 83, Chunk.view Kd.string So Ao 8 co OLDL] := Own.bundle (HO.sel [0, 1, 2] (by decide))
 refine gw_call H14 (want_none rfl) rfl (by decide) (op_callL Tryz.func40 (by kernel_rfl) rfl rfl (ar_cons (H14.ev rfl) (ar_cons (H14.ev rfl) ar_nil))) (do_own w0 _ (Chunk.all [R]) B So Ao co O21) ?_
 rintro e15 w16 ⟨G, Sb, tb, At, ct, St, rfl, hb17⟩
 refine ⟨_, rfl, fun _ H19 => ?_⟩
 have O20 : Own w0 w16 [R, Chunk.bsr G Sb tb (.slice At 4 ct), Chunk.view Kd.string St At 4 ct TRL, Bk B [.int .u32 1, .int .i32 0, .int .u32 0, .iface 109 (.pointer (some ⟨G, 0, none⟩)), .slice none 0 0] 83] := Own.unbundle (hb17.sel [2, 0, 1, 3] (by decide))
 clear O21
 clear H14 HO hb17
 refine gE hK4 ?_
 refine gR fun K23 hK23 => ?_
 refine V H19 (op_move rfl (H19.ev rfl)) ?_
 intro _ H25; clear H19
 refine V H25 (op_nil rfl (H25.ev rfl)) ?_
 intro _ H27; clear H25
 refine V H27 (op_field (gwfld83_1 _ _) rfl (H27.ev rfl)) ?_
 intro _ H29; clear H27
 refine V H29 (op_load1 gwagg81 rfl (H29.ev rfl) (blk_at (O20.get 3 rfl) rfl)) ?_
 intro _ H31; clear H29
 refine V H31 (op_move rfl (H31.ev rfl)) ?_
 intro _ H33; clear H31
 have O40 : Own w0 _ [(Chunk.all [R, Bk B [.int .u32 1, .int .i32 0, .int .u32 0, .iface 109 (.pointer (some ⟨G, 0, none⟩)), .slice none 0 0] 83]), Chunk.bsr G Sb tb (.slice At 4 ct), Chunk.view Kd.string St At 4 ct TRL] := Own.bundle (O20.sel [0, 3, 1, 2] (by decide))
 refine gw_call H33 (want_none rfl) rfl (by decide) (op_invoke (fun w => invoke_repl _ _ w) rfl (H33.ev rfl) (ar_cons (H33.ev rfl) ar_nil)) (bsrReplace_walk w0 _ (Chunk.all [R, Bk B [.int .u32 1, .int .i32 0, .int .u32 0, .iface 109 (.pointer (some ⟨G, 0, none⟩)), .slice none 0 0] 83]) G Sb St tb At ct s hs O40) ?_
 rintro e34 w35 ⟨rfl, hb36⟩
 refine ⟨_, rfl, fun _ H38 => ?_⟩
 have O39 : Own w0 w35 [R, Bk B [.int .u32 1, .int .i32 0, .int .u32 0, .iface 109 (.pointer (some ⟨G, 0, none⟩)), .slice none 0 0] 83] := Own.unbundle (hb36.sel [0] (by decide))
 clear O40
 clear H33 O20 hb36
 refine V H38 (op_assign rfl (H38.ev rfl)) ?_
 intro _ H43; clear H38
 refine gE hK23 ?_
 refine wp_ret ?_
 refine gw_ret1 H43 rfl rfl ?_
 exact ⟨rfl, O39.sel [0] (by decide)⟩
end GQrepl_
export GQrepl_ (replace_walk)
end Go.Proofs.YtelbgmpeghhakaaGreat.PA
end
section
namespace Go.Proofs.YtelbgmpeghhakaaGreat.PA
open Go.RowKit Go.Proofs.YtelbgmpeghhakaaGreatW.PrintWords Go.Proofs.YtelbgmpeghhakaaGreatW.PrintLast Go.Proofs.YtelbgmpeghhakaaGreatW.PrintMore
set_option linter.unusedVariables false
set_option linter.unusedSimpArgs false
namespace GQuote_
set_option maxHeartbeats 4000000 in
set_option maxRecDepth 100000 in
theorem quote_own (w0 w : World) (R : Chunk) (s : ByteArray) (hs : s.size ≤ 35184372088832) (HO : Own w0 w [R]) :
    Calls Tryz.prog 15 #[.string s] w fun e w' => e = .returned (.string (quoteB s)) ∧ Own w0 w' [R] := by
 refine gw_startO (N := 7) (vs := [.string s]) Tryz.func15 rfl rfl (by simp) fun a HF => ?_
 refine gR fun K1 hK1 => ?_
 refine V HF (op_assign rfl (ev_c _ _)) ?_
 intro _ H3; clear HF
 refine gE hK1 ?_
 refine gR fun K4 hK4 => ?_
 refine gw_lit (enc := Value.string) (fun _ => rfl) (xs := [(⟨#[63]⟩ : ByteArray), (⟨#[92, 63]⟩ : ByteArray), (⟨#[42]⟩ : ByteArray), (⟨#[92, 42]⟩ : ByteArray), (⟨#[91]⟩ : ByteArray), (⟨#[92, 91]⟩ : ByteArray), (⟨#[92]⟩ : ByteArray), (⟨#[92, 92]⟩ : ByteArray)]) (e := 9) H3 HO (want_none rfl) rfl (by decide) (op_bslice (by kernel_rfl) rfl (pt_cons (ev_c _ _) (pt_cons (ev_c _ _) (pt_cons (ev_c _ _) (pt_cons (ev_c _ _) (pt_cons (ev_c _ _) (pt_cons (ev_c _ _) (pt_cons (ev_c _ _) (pt_cons (ev_c _ _) pt_nil))))))))) (by simp) ?_
 intro A5 S6 _ w8 H9 O10; clear H3 HO
 have O11 : Own w0 w8 [Chunk.row Kd.string 9 w0.heap.size S6 (.slice A5 (([(⟨#[63]⟩ : ByteArray), (⟨#[92, 63]⟩ : ByteArray), (⟨#[42]⟩ : ByteArray), (⟨#[92, 42]⟩ : ByteArray), (⟨#[91]⟩ : ByteArray), (⟨#[92, 91]⟩ : ByteArray), (⟨#[92]⟩ : ByteArray), (⟨#[92, 92]⟩ : ByteArray)]).length) (([(⟨#[63]⟩ : ByteArray), (⟨#[92, 63]⟩ : ByteArray), (⟨#[42]⟩ : ByteArray), (⟨#[92, 42]⟩ : ByteArray), (⟨#[91]⟩ : ByteArray), (⟨#[92, 91]⟩ : ByteArray), (⟨#[92]⟩ : ByteArray), (⟨#[92, 92]⟩ : ByteArray)]).length)) ([(⟨#[63]⟩ : ByteArray), (⟨#[92, 63]⟩ : ByteArray), (⟨#[42]⟩ : ByteArray), (⟨#[92, 42]⟩ : ByteArray), (⟨#[91]⟩ : ByteArray), (⟨#[92, 91]⟩ : ByteArray), (⟨#[92]⟩ : ByteArray), (⟨#[92, 92]⟩ : ByteArray)]), R] := O10
 clear O10
 have O12 := O11.row_view 0 rfl
 clear O11
 have O13 : Own w0 w8 [Chunk.view Kd.string S6 A5 (([(⟨#[63]⟩ : ByteArray), (⟨#[92, 63]⟩ : ByteArray), (⟨#[42]⟩ : ByteArray), (⟨#[92, 42]⟩ : ByteArray), (⟨#[91]⟩ : ByteArray), (⟨#[92, 91]⟩ : ByteArray), (⟨#[92]⟩ : ByteArray), (⟨#[92, 92]⟩ : ByteArray)]).length) (([(⟨#[63]⟩ : ByteArray), (⟨#[92, 63]⟩ : ByteArray), (⟨#[42]⟩ : ByteArray), (⟨#[92, 42]⟩ : ByteArray), (⟨#[91]⟩ : ByteArray), (⟨#[92, 91]⟩ : ByteArray), (⟨#[92]⟩ : ByteArray), (⟨#[92, 92]⟩ : ByteArray)]).length) ([(⟨#[63]⟩ : ByteArray), (⟨#[92, 63]⟩ : ByteArray), (⟨#[42]⟩ : ByteArray), (⟨#[92, 42]⟩ : ByteArray), (⟨#[91]⟩ : ByteArray), (⟨#[92, 91]⟩ : ByteArray), (⟨#[92]⟩ : ByteArray), (⟨#[92, 92]⟩ : ByteArray)]), R] := O12
 clear O12
 have O20 : Own w0 _ [(Chunk.all [R]), Chunk.view Kd.string S6 A5 (([(⟨#[63]⟩ : ByteArray), (⟨#[92, 63]⟩ : ByteArray), (⟨#[42]⟩ : ByteArray), (⟨#[92, 42]⟩ : ByteArray), (⟨#[91]⟩ : ByteArray), (⟨#[92, 91]⟩ : ByteArray), (⟨#[92]⟩ : ByteArray), (⟨#[92, 92]⟩ : ByteArray)]).length) (([(⟨#[63]⟩ : ByteArray), (⟨#[92, 63]⟩ : ByteArray), (⟨#[42]⟩ : ByteArray), (⟨#[92, 42]⟩ : ByteArray), (⟨#[91]⟩ : ByteArray), (⟨#[92, 91]⟩ : ByteArray), (⟨#[92]⟩ : ByteArray), (⟨#[92, 92]⟩ : ByteArray)]).length) ([(⟨#[63]⟩ : ByteArray), (⟨#[92, 63]⟩ : ByteArray), (⟨#[42]⟩ : ByteArray), (⟨#[92, 42]⟩ : ByteArray), (⟨#[91]⟩ : ByteArray), (⟨#[92, 91]⟩ : ByteArray), (⟨#[92]⟩ : ByteArray), (⟨#[92, 92]⟩ : ByteArray)])] := Own.bundle (O13.sel [1, 0] (by decide))
 refine gw_call H9 (want_none rfl) rfl (by decide) (op_callL Tryz.func31 (by kernel_rfl) rfl rfl (ar_cons (H9.ev rfl) ar_nil)) (newReplacer_walk w0 _ (Chunk.all [R]) S6 A5 (([(⟨#[63]⟩ : ByteArray), (⟨#[92, 63]⟩ : ByteArray), (⟨#[42]⟩ : ByteArray), (⟨#[92, 42]⟩ : ByteArray), (⟨#[91]⟩ : ByteArray), (⟨#[92, 91]⟩ : ByteArray), (⟨#[92]⟩ : ByteArray), (⟨#[92, 92]⟩ : ByteArray)]).length) O20) ?_
 rintro e14 w15 ⟨B, So, Ao, co, rfl, hb16⟩
 refine ⟨_, rfl, fun _ H18 => ?_⟩
 have O19 : Own w0 w15 [R, Bk B [.int .u32 0, .int .i32 0, .int .u32 0, .nilIface, .slice Ao 8 co] 83, Chunk.view Kd.string So Ao 8 co OLDL, Chunk.view Kd.string S6 A5 (([(⟨#[63]⟩ : ByteArray), (⟨#[92, 63]⟩ : ByteArray), (⟨#[42]⟩ : ByteArray), (⟨#[92, 42]⟩ : ByteArray), (⟨#[91]⟩ : ByteArray), (⟨#[92, 91]⟩ : ByteArray), (⟨#[92]⟩ : ByteArray), (⟨#[92, 92]⟩ : ByteArray)]).length) (([(⟨#[63]⟩ : ByteArray), (⟨#[92, 63]⟩ : ByteArray), (⟨#[42]⟩ : ByteArray), (⟨#[92, 42]⟩ : ByteArray), (⟨#[91]⟩ : ByteArray), (⟨#[92, 91]⟩ : ByteArray), (⟨#[92]⟩ : ByteArray), (⟨#[92, 92]⟩ : ByteArray)]).length) ([(⟨#[63]⟩ : ByteArray), (⟨#[92, 63]⟩ : ByteArray), (⟨#[42]⟩ : ByteArray), (⟨#[92, 42]⟩ : ByteArray), (⟨#[91]⟩ : ByteArray), (⟨#[92, 91]⟩ : ByteArray), (⟨#[92]⟩ : ByteArray), (⟨#[92, 92]⟩ : ByteArray)])] := Own.unbundle (hb16.sel [2, 0, 1, 3] (by decide))
 clear O20
 clear H9 O13 hb16
 refine V H18 (op_move rfl (H18.ev rfl)) ?_
 intro _ H23; clear H18
 have O30 : Own w0 _ [(Chunk.all [R, Chunk.view Kd.string S6 A5 (([(⟨#[63]⟩ : ByteArray), (⟨#[92, 63]⟩ : ByteArray), (⟨#[42]⟩ : ByteArray), (⟨#[92, 42]⟩ : ByteArray), (⟨#[91]⟩ : ByteArray), (⟨#[92, 91]⟩ : ByteArray), (⟨#[92]⟩ : ByteArray), (⟨#[92, 92]⟩ : ByteArray)]).length) (([(⟨#[63]⟩ : ByteArray), (⟨#[92, 63]⟩ : ByteArray), (⟨#[42]⟩ : ByteArray), (⟨#[92, 42]⟩ : ByteArray), (⟨#[91]⟩ : ByteArray), (⟨#[92, 91]⟩ : ByteArray), (⟨#[92]⟩ : ByteArray), (⟨#[92, 92]⟩ : ByteArray)]).length) ([(⟨#[63]⟩ : ByteArray), (⟨#[92, 63]⟩ : ByteArray), (⟨#[42]⟩ : ByteArray), (⟨#[92, 42]⟩ : ByteArray), (⟨#[91]⟩ : ByteArray), (⟨#[92, 91]⟩ : ByteArray), (⟨#[92]⟩ : ByteArray), (⟨#[92, 92]⟩ : ByteArray)])]), Bk B [.int .u32 0, .int .i32 0, .int .u32 0, .nilIface, .slice Ao 8 co] 83, Chunk.view Kd.string So Ao 8 co OLDL] := Own.bundle (O19.sel [0, 3, 1, 2] (by decide))
 refine gw_call H23 (want_none rfl) rfl (by decide) (op_callL Tryz.func32 (by kernel_rfl) rfl rfl (ar_cons (H23.ev rfl) (ar_cons (H23.ev rfl) ar_nil))) (replace_walk w0 _ (Chunk.all [R, Chunk.view Kd.string S6 A5 (([(⟨#[63]⟩ : ByteArray), (⟨#[92, 63]⟩ : ByteArray), (⟨#[42]⟩ : ByteArray), (⟨#[92, 42]⟩ : ByteArray), (⟨#[91]⟩ : ByteArray), (⟨#[92, 91]⟩ : ByteArray), (⟨#[92]⟩ : ByteArray), (⟨#[92, 92]⟩ : ByteArray)]).length) (([(⟨#[63]⟩ : ByteArray), (⟨#[92, 63]⟩ : ByteArray), (⟨#[42]⟩ : ByteArray), (⟨#[92, 42]⟩ : ByteArray), (⟨#[91]⟩ : ByteArray), (⟨#[92, 91]⟩ : ByteArray), (⟨#[92]⟩ : ByteArray), (⟨#[92, 92]⟩ : ByteArray)]).length) ([(⟨#[63]⟩ : ByteArray), (⟨#[92, 63]⟩ : ByteArray), (⟨#[42]⟩ : ByteArray), (⟨#[92, 42]⟩ : ByteArray), (⟨#[91]⟩ : ByteArray), (⟨#[92, 91]⟩ : ByteArray), (⟨#[92]⟩ : ByteArray), (⟨#[92, 92]⟩ : ByteArray)])]) B So Ao co s hs O30) ?_
 rintro e24 w25 ⟨rfl, hb26⟩
 refine ⟨_, rfl, fun _ H28 => ?_⟩
 have O29 : Own w0 w25 [R, Chunk.view Kd.string S6 A5 (([(⟨#[63]⟩ : ByteArray), (⟨#[92, 63]⟩ : ByteArray), (⟨#[42]⟩ : ByteArray), (⟨#[92, 42]⟩ : ByteArray), (⟨#[91]⟩ : ByteArray), (⟨#[92, 91]⟩ : ByteArray), (⟨#[92]⟩ : ByteArray), (⟨#[92, 92]⟩ : ByteArray)]).length) (([(⟨#[63]⟩ : ByteArray), (⟨#[92, 63]⟩ : ByteArray), (⟨#[42]⟩ : ByteArray), (⟨#[92, 42]⟩ : ByteArray), (⟨#[91]⟩ : ByteArray), (⟨#[92, 91]⟩ : ByteArray), (⟨#[92]⟩ : ByteArray), (⟨#[92, 92]⟩ : ByteArray)]).length) ([(⟨#[63]⟩ : ByteArray), (⟨#[92, 63]⟩ : ByteArray), (⟨#[42]⟩ : ByteArray), (⟨#[92, 42]⟩ : ByteArray), (⟨#[91]⟩ : ByteArray), (⟨#[92, 91]⟩ : ByteArray), (⟨#[92]⟩ : ByteArray), (⟨#[92, 92]⟩ : ByteArray)])] := Own.unbundle (hb26.sel [0] (by decide))
 clear O30
 clear H23 O19 hb26
 refine V H28 (op_assign rfl (H28.ev rfl)) ?_
 intro _ H33; clear H28
 refine gE hK4 ?_
 refine wp_ret ?_
 refine gw_ret1 H33 rfl rfl ?_
 exact ⟨rfl, O29.sel [0] (by decide)⟩
end GQuote_
export GQuote_ (quote_own)
theorem quote_walk (s : ByteArray) (w : World) (hs : s.size ≤ 35184372088832) : Calls Tryz.prog 15 #[.string s] w fun e w' => e = .returned (.string (quoteB s)) ∧ Below w.heap.size w w' := (quote_own w w Chunk.void s hs (Own.start w).void).mono fun e w' h => ⟨h.1, h.2.below⟩
end Go.Proofs.YtelbgmpeghhakaaGreat.PA
end
section
namespace Go.Proofs.YtelbgmpeghhakaaGreat.PA
open Go.RowKit Go.Proofs.YtelbgmpeghhakaaGreatW.PrintWords Go.Proofs.YtelbgmpeghhakaaGreatW.PrintLast Go.Proofs.YtelbgmpeghhakaaGreatW.PrintMore
set_option linter.unusedVariables false
set_option linter.unusedSimpArgs false
def matchB (pt tx : ByteArray) : Bool := decide ((parseG pt).2.2.1 = 0) && matchL (parseG pt).2.1 (bytesOf tx)
theorem match_calls (pt tx : ByteArray) (w : World) (hts : tx.size ≤ 9223372036854775806) : Calls Tryz.prog 13 #[.string pt, .string tx] w fun e w' => e = .returned (.bool (matchB pt tx)) ∧ Below w.heap.size w w' := Match_walk pt tx w hts
theorem match_at (pt tx : ByteArray) (b : Bool) (h : matchB pt tx = b) (w : World) (hts : tx.size ≤ 9223372036854775806) : Calls Tryz.prog 13 #[.string pt, .string tx] w fun e w' => e = .returned (.bool b) ∧ Below w.heap.size w w' := h ▸ match_calls pt tx w hts
theorem parse_at (s : ByteArray) (k c p : Int) (K : List NN) (h : parseG s = (k, K, c, p)) (w : World) :
    Calls Tryz.prog 10 #[.string s] w fun e w' => ∃ A c' S, e = .returned (.tuple #[.agg #[.int .i64 k, .slice none 0 0, .slice A K.length c'], .int .i64 c, .int .i64 p]) ∧ Out w w' (fun _ => False) [Chunk.nrow k26 26 w.heap.size S (.slice A K.length c') K] := by
  have h2 := Parse_walk s w
  rw [h] at h2
  exact h2
theorem al_parse : parseG (⟨#[97, 63, 42]⟩ : ByteArray) = (2, [oneN 97, allN, starN], 0, 0) := by kernel_rfl
theorem al_bad : parseG (⟨#[91, 97]⟩ : ByteArray) = (0, [], 31, 2) := by kernel_rfl
theorem al_yes : matchB (⟨#[42, 46, 103, 111]⟩ : ByteArray) (⟨#[120, 46, 103, 111]⟩ : ByteArray) = true := by kernel_rfl
theorem al_no : matchB (⟨#[42, 46, 103, 111]⟩ : ByteArray) (⟨#[120, 46, 99]⟩ : ByteArray) = false := by kernel_rfl
theorem al_quote : quoteB (⟨#[97, 42]⟩ : ByteArray) = (⟨#[97, 92, 42]⟩ : ByteArray) := by kernel_rfl
end Go.Proofs.YtelbgmpeghhakaaGreat.PA
end
section
namespace Go.Proofs.YtelbgmpeghhakaaGreat.PA
open Go.RowKit Go.Proofs.YtelbgmpeghhakaaGreatW.PrintWords Go.Proofs.YtelbgmpeghhakaaGreatW.PrintLast Go.Proofs.YtelbgmpeghhakaaGreatW.PrintMore
set_option linter.unusedVariables false
set_option linter.unusedSimpArgs false
namespace GAlive_
theorem gwagg24 : ∀ w, (isAgg 24).run Tryz.prog w = .ok false w := fun _ => by kernel_rfl
theorem gwagg3 : ∀ w, (isAgg 3).run Tryz.prog w = .ok false w := fun _ => by kernel_rfl
theorem gwfld26_2 (g off : Nat) : ∀ w, (Instr.fieldAt 26 (.pointer (some ⟨g, off, none⟩)) 2).run Tryz.prog w = .ok (.pointer (some ⟨g, off + 2, none⟩)) w := fun _ => by kernel_rfl
theorem gwflda26_0 (ad : Addr) : ∀ w, (Instr.fieldAt 26 (.pointer (some ad)) 0).run Tryz.prog w = .ok (.pointer (some (ad.add 0))) w := fun _ => by kernel_rfl
theorem gwsiz26 : ∀ w, (sizeOf 26).run Tryz.prog w = .ok 3 w := fun _ => by kernel_rfl
theorem gwzer26 : ∀ w, (zeroValue 26).run Tryz.prog w = .ok (.agg #[.int .i64 0, .slice none 0 0, .slice none 0 0]) w := fun _ => by kernel_rfl
set_option maxHeartbeats 4000000 in
set_option maxRecDepth 100000 in
theorem alive_walk (w : World) :
    Calls Tryz.prog 9 #[] w fun e w' => e = .returned (.bool true) ∧ Below w.heap.size w w' := by
 refine gw_start (N := 52) (vs := []) Tryz.func9 rfl rfl (by simp) fun a HF HO => ?_
 replace HO : Own w w [] := HO
 refine gR fun K1 hK1 => ?_
 refine V HF (op_assign rfl (ev_c _ _)) ?_
 intro _ H3; clear HF
 refine gE hK1 ?_
 refine gR fun K4 hK4 => ?_
 refine gw_call H3 (want_none rfl) rfl (by decide) (op_callL Tryz.func10 (by kernel_rfl) rfl rfl (ar_cons (ev_c _ _) ar_nil)) (parse_at (⟨#[97, 63, 42]⟩ : ByteArray) 2 0 0 [oneN 97, allN, starN] al_parse _) ?_
 rintro e9 w10 ⟨A5, c6, S7, rfl, hb11⟩
 refine ⟨_, rfl, fun _ H13 => ?_⟩
 have O14 := HO.fresh hb11
 clear H3 HO hb11
 have O16 := O14.nrow_view 0 rfl
 clear O14
 have O17 : Own w w10 [Chunk.view k26 S7 A5 (([oneN 97, allN, starN]).length) c6 ([oneN 97, allN, starN])] := O16
 clear O16
 refine V H13 (op_move rfl (H13.ev rfl)) ?_
 intro _ H19; clear H13
 refine V H19 (op_extract rfl (H19.ev rfl) rfl) ?_
 intro _ H21; clear H19
 refine V H21 (op_extract rfl (H21.ev rfl) rfl) ?_
 intro _ H23; clear H21
 refine V H23 (op_extract rfl (H23.ev rfl) rfl) ?_
 intro _ H25; clear H23
 refine gw_new H25 O17 (want_none rfl) rfl (by decide) (op_alloc gwzer26 rfl) ?_
 intro g26 _ w28 H29 O30; clear H25 O17
 have O31 : Own w w28 [Bk g26 [J 0, .slice none 0 0, .slice none 0 0] 26, Chunk.view k26 S7 A5 (([oneN 97, allN, starN]).length) c6 ([oneN 97, allN, starN])] := O30
 clear O30
 refine gw_setn 0 H29 O31 rfl (want_none rfl) rfl (op_storen gwsiz26 rfl (H29.ev rfl) (H29.ev rfl) (O31.get 0 rfl) rfl (by simp) (by simp [Value.oneCell'])) ?_
 intro _ w34 H33 O35; clear H29 O31
 refine V H33 (op_assign rfl (H33.ev rfl)) ?_
 intro _ H37; clear H33
 refine V H37 (op_assign rfl (H37.ev rfl)) ?_
 intro _ H39; clear H37
 refine gE hK4 ?_
 refine gR fun K40 hK40 => ?_
 refine gw_call H39 (want_none rfl) rfl (by decide) (op_callL Tryz.func10 (by kernel_rfl) rfl rfl (ar_cons (ev_c _ _) ar_nil)) (parse_at (⟨#[91, 97]⟩ : ByteArray) 0 31 2 ([] : List S26) al_bad _) ?_
 rintro e45 w46 ⟨A41, c42, S43, rfl, hb47⟩
 refine ⟨_, rfl, fun _ H49 => ?_⟩
 have O50 := O35.fresh hb47
 clear H39 O35 hb47
 refine V H49 (op_move rfl (H49.ev rfl)) ?_
 intro _ H53; clear H49
 refine V H53 (op_extract rfl (H53.ev rfl) rfl) ?_
 intro _ H55; clear H53
 refine V H55 (op_extract rfl (H55.ev rfl) rfl) ?_
 intro _ H57; clear H55
 refine V H57 (op_extract rfl (H57.ev rfl) rfl) ?_
 intro _ H59; clear H57
 refine gw_new H59 O50 (want_none rfl) rfl (by decide) (op_alloc gwzer26 rfl) ?_
 intro g60 _ w62 H63 O64; clear H59 O50
 have O65 : Own w w62 [Bk g60 [J 0, .slice none 0 0, .slice none 0 0] 26, Chunk.nrow k26 26 w34.heap.size S43 (.slice A41 (([] : List S26).length) c42) ([] : List S26), Bk g26 [J 2, .slice none 0 0, .slice A5 (([oneN 97, allN, starN]).length) c6] 26, Chunk.view k26 S7 A5 (([oneN 97, allN, starN]).length) c6 ([oneN 97, allN, starN])] := O64
 clear O64
 refine gw_setn 0 H63 O65 rfl (want_none rfl) rfl (op_storen gwsiz26 rfl (H63.ev rfl) (H63.ev rfl) (O65.get 0 rfl) rfl (by simp) (by simp [Value.oneCell'])) ?_
 intro _ w68 H67 O69; clear H63 O65
 refine V H67 (op_assign rfl (H67.ev rfl)) ?_
 intro _ H71; clear H67
 refine V H71 (op_assign rfl (H71.ev rfl)) ?_
 intro _ H73; clear H71
 refine gE hK40 ?_
 refine gR fun K74 hK74 => ?_
 refine V H73 (op_move rfl (H73.ev rfl)) ?_
 intro _ H76; clear H73
 refine V H76 (op_eqi rfl (H76.ev rfl) (ev_c _ _)) ?_
 intro _ H78; clear H76
 have H79 := H78.lit (b := true) (by decide)
 clear H78
 refine V H79 (op_move rfl (H79.ev rfl)) ?_
 intro _ H81; clear H79
 refine V2 H81 (want_yes H81 rfl rfl rfl rfl) (op_field (gwfld26_2 _ _) rfl (H81.ev rfl)) ?_
 intro _ H83; clear H81
 refine V2 H83 (want_yes H83 rfl rfl rfl rfl) (op_load1 gwagg24 rfl (H83.ev rfl) (blk_at (O69.get 2 rfl) rfl)) ?_
 intro _ H85; clear H83
 refine V2 H85 (want_yes H85 rfl rfl rfl rfl) (op_len Tryz.underlying24 rfl (H85.ev rfl)) ?_
 intro _ H87; clear H85
 refine V2 H87 (want_yes H87 rfl rfl rfl rfl) (op_eqi rfl (H87.ev rfl) (ev_c _ _)) ?_
 intro _ H89; clear H87
 have H90 := H89.lit (b := true) (by decide)
 clear H89
 refine V H90 (op_pick_t rfl (H90.ev rfl) (H90.ev rfl)) ?_
 intro _ H92; clear H90
 refine V H92 (op_move rfl (H92.ev rfl)) ?_
 intro _ H94; clear H92
 refine V2 H94 (want_yes H94 rfl rfl rfl rfl) (op_field (gwfld26_2 _ _) rfl (H94.ev rfl)) ?_
 intro _ H96; clear H94
 refine V2 H96 (want_yes H96 rfl rfl rfl rfl) (op_load1 gwagg24 rfl (H96.ev rfl) (blk_at (O69.get 2 rfl) rfl)) ?_
 intro _ H98; clear H96
 have O105 := O69.pin 3 rfl
 clear O69
 have O106 : Own w w68 [Bk g60 [J 0, .slice none 0 0, .slice A41 (([] : List S26).length) c42] 26, Chunk.nrow k26 26 w34.heap.size S43 (.slice A41 (([] : List S26).length) c42) ([] : List S26), Bk g26 [J 2, .slice none 0 0, .slice A5 (([oneN 97, allN, starN]).length) c6] 26, Chunk.viewAt w68 k26 S7 A5 (([oneN 97, allN, starN]).length) c6 ([oneN 97, allN, starN])] := O105
 clear O105
 obtain ⟨ad99, cs102, hA100, hl103, hK104, hc101, _⟩ := Kd.F_get (viewAt_F (O106.get 3 rfl)) z26 2 (by decide) (by decide)
 obtain ⟨A107, c108, A111, c112, rfl, hl109, hC110, hl113, hC114⟩ := k26_openF hK104
 clear hl103
 refine V2 H98 (want_yes H98 rfl rfl rfl rfl) (op_index Tryz.underlying24 gwsiz26 rfl (H98.ev rfl) (ev_c _ _) hA100 (⟨by decide, by decide⟩)) ?_
 intro _ H116; clear H98
 refine V2 H116 (want_yes H116 rfl rfl rfl rfl) (op_field (gwflda26_0 _) rfl (H116.ev rfl)) ?_
 intro _ H118; clear H116
 refine V2 H118 (want_yes H118 rfl rfl rfl rfl) (op_load1 gwagg3 rfl (H118.ev rfl) (((pin_cells (O106.get 3 rfl) hA100 hc101) 0 _ rfl))) ?_
 intro _ H120; clear H118
 refine V2 H120 (want_yes H120 rfl rfl rfl rfl) (op_eqi rfl (H120.ev rfl) (ev_c _ _)) ?_
 intro _ H122; clear H120
 have H123 := H122.lit (b := true) (by decide)
 clear H122
 refine V H123 (op_pick_t rfl (H123.ev rfl) (H123.ev rfl)) ?_
 intro _ H125; clear H123
 refine V H125 (op_move rfl (H125.ev rfl)) ?_
 intro _ H127; clear H125
 refine V2 H127 (want_yes H127 rfl rfl rfl rfl) (op_move rfl (H127.ev rfl)) ?_
 intro _ H129; clear H127
 refine V2 H129 (want_yes H129 rfl rfl rfl rfl) (op_eqi rfl (H129.ev rfl) (ev_c _ _)) ?_
 intro _ H131; clear H129
 have H132 := H131.lit (b := true) (by decide)
 clear H131
 refine V H132 (op_pick_t rfl (H132.ev rfl) (H132.ev rfl)) ?_
 intro _ H134; clear H132
 refine V H134 (op_move rfl (H134.ev rfl)) ?_
 intro _ H136; clear H134
 refine V2 H136 (want_yes H136 rfl rfl rfl rfl) (op_move rfl (H136.ev rfl)) ?_
 intro _ H138; clear H136
 refine V2 H138 (want_yes H138 rfl rfl rfl rfl) (op_eqi rfl (H138.ev rfl) (ev_c _ _)) ?_
 intro _ H140; clear H138
 have H141 := H140.lit (b := true) (by decide)
 clear H140
 refine V H141 (op_pick_t rfl (H141.ev rfl) (H141.ev rfl)) ?_
 intro _ H143; clear H141
 refine V H143 (op_move rfl (H143.ev rfl)) ?_
 intro _ H145; clear H143
 refine gw_call H145 (want_yes H145 rfl rfl rfl rfl) rfl (by decide) (op_callL Tryz.func13 (by kernel_rfl) rfl rfl (ar_cons (ev_c _ _) (ar_cons (ev_c _ _) ar_nil))) (match_at (⟨#[42, 46, 103, 111]⟩ : ByteArray) (⟨#[120, 46, 103, 111]⟩ : ByteArray) true al_yes _ (by decide)) ?_
 rintro e146 w147 ⟨rfl, hb148⟩
 refine ⟨_, rfl, fun _ H150 => ?_⟩
 have O151 := O106.after hb148
 clear H145 O106 hb148
 refine V H150 (op_pick_t rfl (H150.ev rfl) (H150.ev rfl)) ?_
 intro _ H154; clear H150
 refine V H154 (op_move rfl (H154.ev rfl)) ?_
 intro _ H156; clear H154
 refine gw_call H156 (want_yes H156 rfl rfl rfl rfl) rfl (by decide) (op_callL Tryz.func13 (by kernel_rfl) rfl rfl (ar_cons (ev_c _ _) (ar_cons (ev_c _ _) ar_nil))) (match_at (⟨#[42, 46, 103, 111]⟩ : ByteArray) (⟨#[120, 46, 99]⟩ : ByteArray) false al_no _ (by decide)) ?_
 rintro e157 w158 ⟨rfl, hb159⟩
 refine ⟨_, rfl, fun _ H161 => ?_⟩
 have O162 := O151.after hb159
 clear H156 O151 hb159
 refine V2 H161 (want_yes H161 rfl rfl rfl rfl) (op_not rfl (H161.ev rfl)) ?_
 intro _ H165; clear H161
 refine V H165 (op_pick_t rfl (H165.ev rfl) (H165.ev rfl)) ?_
 intro _ H167; clear H165
 refine V H167 (op_move rfl (H167.ev rfl)) ?_
 intro _ H169; clear H167
 refine gw_call H169 (want_yes H169 rfl rfl rfl rfl) rfl (by decide) (op_callL Tryz.func15 (by kernel_rfl) rfl rfl (ar_cons (ev_c _ _) ar_nil)) (al_quote ▸ quote_walk (⟨#[97, 42]⟩ : ByteArray) _ (by decide)) ?_
 rintro e170 w171 ⟨rfl, hb172⟩
 refine ⟨_, rfl, fun _ H174 => ?_⟩
 have O175 := O162.after hb172
 clear H169 O162 hb172
 refine V2 H174 (want_yes H174 rfl rfl rfl rfl) (op_eqs rfl (H174.ev rfl) (ev_c _ _)) ?_
 intro _ H178; clear H174
 have H179 := H178.lit (b := true) (by decide +kernel)
 clear H178
 refine V H179 (op_pick_t rfl (H179.ev rfl) (H179.ev rfl)) ?_
 intro _ H181; clear H179
 refine V H181 (op_assign rfl (H181.ev rfl)) ?_
 intro _ H183; clear H181
 refine gE hK74 ?_
 refine wp_ret ?_
 have O184 := O175.unpin 3 rfl
 clear O175
 have O185 : Own w w171 [Bk g60 [J 0, .slice none 0 0, .slice A41 (([] : List S26).length) c42] 26, Chunk.nrow k26 26 w34.heap.size S43 (.slice A41 (([] : List S26).length) c42) ([] : List S26), Bk g26 [J 2, .slice none 0 0, .slice A5 (([oneN 97, allN, starN]).length) c6] 26, Chunk.view k26 S7 A5 (([oneN 97, allN, starN]).length) c6 ([oneN 97, allN, starN])] := O184
 clear O184
 refine gw_ret1 H183 rfl rfl ?_
 exact ⟨rfl, O185.below⟩
end GAlive_
export GAlive_ (alive_walk)
end Go.Proofs.YtelbgmpeghhakaaGreat.PA
end
section
namespace Go.Proofs.YtelbgmpeghhakaaGreat.PA
open Go.RowKit Go.Proofs.YtelbgmpeghhakaaGreatW.PrintWords Go.Proofs.YtelbgmpeghhakaaGreatW.PrintLast Go.Proofs.YtelbgmpeghhakaaGreatW.PrintMore
set_option linter.unusedVariables false
set_option linter.unusedSimpArgs false
structure Tb where
  g : Nat
  B : Nat → Nat
  C : Nat → Nat
  c : Nat
structure TabP (w : World) (Z : Tb) (n : Nat) (T : Nat → Nat → Bool) : Prop where
  row : ∀ i, i < n → w.cell? ⟨Z.g, i, none⟩ = some (.slice (some ⟨Z.B i, 0, none⟩) n (Z.C i))
  cell : ∀ i j, i < n → j < n → w.cell? ⟨Z.B i, j, none⟩ = some (.bool (T i j))
  soft : ∀ i j, i < n → j < n → w.frozen? ⟨Z.B i, j, none⟩ = false
  apart : ∀ i k, i < n → k < n → Z.B i = Z.B k → i = k
  out : ∀ i, i < n → Z.B i ≠ Z.g
theorem cell_blk {w w' : World} {p : Addr} (h : w'.heap[p.block]? = w.heap[p.block]?) : w'.cell? p = w.cell? p := by
  unfold World.cell?
  rw [h]
theorem frozen_blk {w w' : World} {p : Addr} (h : w'.heap[p.block]? = w.heap[p.block]?) : w'.frozen? p = w.frozen? p := by
  unfold World.frozen?
  rw [h]
def Chunk.tab (S : Nat → Prop) (Z : Tb) (n : Nat) (T : Nat → Nat → Bool) : Chunk :=
  ⟨S, fun w => TabP w Z n T ∧ S Z.g ∧ ∀ i, i < n → S (Z.B i), fun {w w'} h hm =>
    ⟨⟨fun i hi => (cell_blk (hm _ h.2.1)).trans (h.1.row i hi), fun i j hi hj => (cell_blk (hm _ (h.2.2 i hi))).trans (h.1.cell i j hi hj), fun i j hi hj => (frozen_blk (hm _ (h.2.2 i hi))).trans (h.1.soft i j hi hj), h.1.apart, h.1.out⟩, h.2⟩⟩
def tset (T : Nat → Nat → Bool) (i j : Nat) (b : Bool) : Nat → Nat → Bool := fun x y => if x = i ∧ y = j then b else T x y
theorem tset_at (T : Nat → Nat → Bool) (i j : Nat) (b : Bool) (x y : Nat) : tset T i j b x y = if x = i ∧ y = j then b else T x y := rfl
section
variable {w w0 : World} {S : Nat → Prop} {Z : Tb} {n : Nat} {T : Nat → Nat → Bool} {L : List Chunk}
theorem tab_row (h : (Chunk.tab S Z n T).P w) (i : Int) (h0 : 0 ≤ i) (h1 : i < n) : w.cell? ((⟨Z.g, 0, none⟩ : Addr).add (i.toNat * 1)) = some (.slice (some ⟨Z.B i.toNat, 0, none⟩) n (Z.C i.toNat)) := by
  rw [Nat.mul_one, add_plain]
  exact h.1.row i.toNat (by omega)
theorem tab_cell (h : (Chunk.tab S Z n T).P w) (i j : Int) (h0 : 0 ≤ i) (h1 : i < n) (h2 : 0 ≤ j) (h3 : j < n) : w.cell? ((⟨Z.B i.toNat, 0, none⟩ : Addr).add (j.toNat * 1)) = some (.bool (T i.toNat j.toNat)) := by
  rw [Nat.mul_one, add_plain]
  exact h.1.cell i.toNat j.toNat (by omega) (by omega)
theorem tab_put (h : (Chunk.tab S Z n T).P w) (i j : Int) (b : Bool) (h0 : 0 ≤ i) (h1 : i < n) (h2 : 0 ≤ j) (h3 : j < n) : (Chunk.tab S Z n (tset T i.toNat j.toNat b)).P (w.setCell ((⟨Z.B i.toNat, 0, none⟩ : Addr).add (j.toNat * 1)) (.bool b)) := by
  have hc := tab_cell h i j h0 h1 h2 h3
  rw [Nat.mul_one, add_plain] at *
  obtain ⟨ht, hg, hs⟩ := h
  have hi : i.toNat < n := by omega
  have hj : j.toNat < n := by omega
  refine ⟨⟨fun k hk => ?_, fun x y hx hy => ?_, fun x y hx hy => ?_, ht.apart, ht.out⟩, hg, hs⟩
  · rw [World.cell?_setCell_other _ _ _ _ (fun e => ht.out _ hi (congrArg Addr.block e))]
    exact ht.row k hk
  · rw [tset_at]
    split
    · rename_i e
      rw [e.1, e.2]
      exact World.cell?_setCell_same _ _ _ hc
    · rename_i e
      rw [World.cell?_setCell_other _ _ _ _ (fun q => e ⟨(ht.apart _ _ hi hx (congrArg Addr.block q)).symm, (congrArg Addr.off q).symm⟩)]
      exact ht.cell x y hx hy
  · rw [World.frozen?_setCell]
    exact ht.soft x y hx hy
theorem tab_of {e e' base : Nat} {ok : Nat → Prop} {w : World} {v : Value} {n : Nat} {xs : List (List Bool)} (h : Kd.S (Kd.slice e' Kd.bool) e w base ok v xs) (hn : 0 < n) (hl : xs.length = n) (hr : ∀ l ∈ xs, l = List.replicate n false) :
    ∃ Z : Tb, v = .slice (some ⟨Z.g, 0, none⟩) n Z.c ∧ (Chunk.tab (fun k => base ≤ k ∧ k < w.heap.size) Z n (fun _ _ => false)).P w := by
  obtain ⟨f, h⟩ := h
  have hz : xs.zipIdx.length = n := by rw [List.length_zipIdx, hl]
  obtain ⟨g, cap, hv, hbg, hg, _⟩ := Kd.R_form h (by omega)
  rw [hz] at hv
  subst hv
  have key : ∀ i, ∃ b c : Nat, i < n → w.cell? ⟨g, i, none⟩ = some (.slice (some ⟨b, 0, none⟩) n c) ∧ (base ≤ b ∧ b < w.heap.size ∧ b ≠ g ∧ f b = i) ∧ ∀ j, j < n → w.cell? ⟨b, j, none⟩ = some (.bool false) ∧ w.frozen? ⟨b, j, none⟩ = false := by
    intro i
    by_cases hi : i < n
    · obtain ⟨cs, hc1, hM, hcc, _⟩ := Kd.R_elem h ([], 0) (i : Int) (by omega) (by omega)
      have hget : xs.zipIdx.getD (i : Int).toNat ([], 0) = (List.replicate n false, i) := by
        rw [Int.toNat_natCast, List.getD_eq_getElem?_getD, List.getElem?_zipIdx, Nat.zero_add, List.getElem?_eq_getElem (show i < xs.length by omega)]
        show (xs[i], i) = _
        rw [hr _ (List.getElem_mem (show i < xs.length by omega))]
      rw [hget] at hM
      obtain ⟨v, rfl, hR⟩ := hM
      have hR : Kd.bool.R e' w base (fun k => (ok k ∧ k ≠ g) ∧ f k = i) v (List.replicate n false) := hR
      obtain ⟨b, c, rfl, hbb, hb, _⟩ := Kd.R_form hR (by rw [List.length_replicate]; omega)
      have hS := hR.1 b (by simp [Value.ownBlock])
      refine ⟨b, c, fun _ => ⟨?_, ⟨hbb, hb, hS.1.2, hS.2⟩, fun j hj => ?_⟩⟩
      · have := hcc 0 _ rfl
        rw [List.length_replicate] at this
        simpa [Kd.tag, Kd.slice] using this
      · have := Kd.R_cell false hR (j : Int) (by omega) (by rw [List.length_replicate]; omega)
        rw [Int.toNat_natCast] at this
        refine ⟨this.1.trans ?_, this.2⟩
        show some (Value.bool (rdOf false (List.replicate n false) (j : Int))) = _
        unfold rdOf
        rw [Int.toNat_natCast, List.getD_eq_getElem?_getD, List.getElem?_eq_getElem (by rw [List.length_replicate]; exact hj), List.getElem_replicate]
        rfl
    · exact ⟨0, 0, fun h => absurd h hi⟩
  obtain ⟨B, key⟩ := Classical.skolem.1 key
  obtain ⟨C, key⟩ := Classical.skolem.1 key
  exact ⟨⟨g, B, C, cap⟩, rfl, ⟨fun i hi => (key i hi).1, fun i j hi hj => ((key i hi).2.2 j hj).1, fun i j hi hj => ((key i hi).2.2 j hj).2, fun i k hi hk he => by
    have he : B i = B k := he
    have h1 := (key i hi).2.1.2.2.2
    have h2 := (key k hk).2.1.2.2.2
    rw [he] at h1
    exact h1.symm.trans h2, fun i hi => (key i hi).2.1.2.2.1⟩, ⟨hbg, hg⟩, fun i hi => ⟨(key i hi).2.1.1, (key i hi).2.1.2.1⟩⟩
theorem none_own {e e' : Nat} {w w' : World} {v : Value} {n : Nat} {xs : List (List Bool)} (h : Kd.S (Kd.slice e' Kd.bool) e w' w.heap.size (fun _ => True) v xs) (hb : Below w.heap.size w w') (hn : 0 < n) (hl : xs.length = n) (hr : ∀ l ∈ xs, l = List.replicate n false) :
    ∃ (Z : Tb) (S : Nat → Prop), v = .slice (some ⟨Z.g, 0, none⟩) n Z.c ∧ Out w w' (fun _ => False) [Chunk.tab S Z n (fun _ _ => false)] := by
  obtain ⟨Z, hv, hP⟩ := tab_of h hn hl hr
  exact ⟨Z, _, hv, Out.one (Out.of_below hb _) hP fun k hk => ⟨.inr hk.1, hk.2⟩⟩
end
section
variable {D : List Deferred} {P : Program} {ops : Array Oper} {Q : Exit → Act → World → Prop} {rest : List Oper} {o : Oper} {N : Nat} {a : Act} {F : List (Nat × Value)} {w w0 : World} {L : List Chunk}
theorem gw_tab {S : Nat → Prop} {Z : Tb} {n : Nat} {T : Nat → Nat → Bool} {t : TypeId} {x y : Operand} {it jt : Int} {b : Bool} (i : Nat) (HF : FrD D N a F) (HO : Own w0 w L) (hi : L[i]? = some (Chunk.tab S Z n T)) (hw : Region.wanted o (yielded ops a.tmps) = true) (hd : o.dst = none)
    (hS : ∀ w, (sizeOf t).run P w = .ok 1 w) (h0 : 0 ≤ it) (h1 : it < n) (h2 : 0 ≤ jt) (h3 : jt < n) (ho : o.op = .store t x y) (hx : a.eval x = .pointer (some ((⟨Z.B it.toNat, 0, none⟩ : Addr).add (jt.toNat * 1)))) (hy : a.eval y = .bool b)
    (kk : ∀ a' w1, FrD D N a' F → Own w0 w1 (L.set i (Chunk.tab S Z n (tset T it.toNat jt.toNat b))) → wpList P ops Q rest a' w1) : wpList P ops Q (o :: rest) a w := by
  have hR : (Chunk.tab S Z n T).P w := HO.get i hi
  have hc := tab_cell hR it jt h0 h1 h2 h3
  have hf : w.frozen? ((⟨Z.B it.toNat, 0, none⟩ : Addr).add (jt.toNat * 1)) = false := by
    rw [Nat.mul_one, add_plain]
    exact hR.1.soft _ _ (by omega) (by omega)
  have hp := tab_put hR it jt b h0 h1 h2 h3
  refine gw_skip HF hw hd (op_store1 hS ho hx hy rfl hc hf) fun a' HF' => kk a' _ HF' (HO.calls (cs := []) i hi ?_)
  refine Out.one (c := Chunk.tab S Z n (tset T it.toNat jt.toNat b)) ((Out.refl w S).setCell (.inl (by rw [Nat.mul_one, add_plain]; exact hR.2.2 _ (by omega))) _) hp ?_
  intro q hq
  exact ⟨.inl hq, by have := (HO.lt i hi hq).2; simpa [World.setCell] using this⟩
end
end Go.Proofs.YtelbgmpeghhakaaGreat.PA
end
section
namespace Go.Proofs.YtelbgmpeghhakaaGreat.PA
open Go.RowKit Go.Proofs.YtelbgmpeghhakaaGreatW.PrintWords Go.Proofs.YtelbgmpeghhakaaGreatW.PrintLast Go.Proofs.YtelbgmpeghhakaaGreatW.PrintMore
set_option linter.unusedVariables false
set_option linter.unusedSimpArgs false
theorem inR_just (x y c : Int) : inR [(⟨x, y⟩ : RR)] c = (decide (x ≤ c) && decide (c ≤ y)) := by rw [inR_cons]; show (_ || false) = _; rw [Bool.or_false]
end Go.Proofs.YtelbgmpeghhakaaGreat.PA
end
section
namespace Go.Proofs.YtelbgmpeghhakaaGreat.PA
open Go.RowKit Go.Proofs.YtelbgmpeghhakaaGreatW.PrintWords Go.Proofs.YtelbgmpeghhakaaGreatW.PrintLast Go.Proofs.YtelbgmpeghhakaaGreatW.PrintMore
set_option linter.unusedVariables false
set_option linter.unusedSimpArgs false
theorem byteS_app : ∀ {t : List Int} {x : Int} {q : Bool} {r : List Int} (u : List Int), byteS t = some (x, q, r) → byteS (t ++ u) = some (x, q, r ++ u)
  | [], _, _, _, _, h => by cases h
  | c :: t, x, q, r, u, h => by
    rw [List.cons_append, byteS_cons]
    rw [byteS_cons] at h
    by_cases hc : c = 92
    · rw [if_pos hc] at h ⊢
      cases t with
      | nil => cases h
      | cons d t => simp only [Option.some.injEq, Prod.mk.injEq] at h; obtain ⟨rfl, rfl, rfl⟩ := h; rfl
    · rw [if_neg hc] at h ⊢
      simp only [Option.some.injEq, Prod.mk.injEq] at h
      obtain ⟨rfl, rfl, rfl⟩ := h
      rfl
theorem classS_nil (k : Nat) (f : Bool) (acc : List RR) (v : List RR × List Int) : classS k [] f acc ≠ .inl v := by
  cases k with
  | zero => intro h; cases h
  | succ k => intro h; rw [classS] at h; cases h
theorem classS_hy (k : Nat) (f : Bool) (acc : List RR) (v : List RR × List Int) : classS k [45] f acc ≠ .inl v := by
  cases k with
  | zero => intro h; cases h
  | succ k =>
    intro h
    rw [classS] at h
    simp only [byteS, if_neg (show ¬ (45 : Int) = 92 by decide), if_neg (show ¬ ((45 : Int) = 93 ∧ False ∧ f = false) by simp), hyph] at h
    simp at h
    exact classS_nil k _ _ _ h
theorem hyph_app : ∀ {r : List Int} (u : List Int), r ≠ [] → r ≠ [45] → hyph (r ++ u) = hyph r
  | [], _, h, _ => absurd rfl h
  | [c], u, _, h => by
    have hc : c ≠ 45 := fun e => h (by rw [e])
    cases u with
    | nil => rfl
    | cons d u =>
      show (decide (c = 45) && decide (d ≠ 93)) = false
      rw [decide_eq_false hc]
      rfl
  | c :: d :: r, u, _, _ => rfl
theorem hyph_two : ∀ {r : List Int}, hyph r = true → r ≠ [] ∧ r ≠ [45]
  | [], h => by cases h
  | [c], h => by cases h
  | c :: d :: r, _ => ⟨by simp, by simp⟩
theorem classS_app : ∀ (k : Nat) (t : List Int) (f : Bool) (acc rs : List RR) (r u : List Int) (k' : Nat), k ≤ k' → classS k t f acc = .inl (rs, r) → classS k' (t ++ u) f acc = .inl (rs, r ++ u)
  | 0, t, f, acc, rs, r, u, k', _, h => by cases h
  | k + 1, t, f, acc, rs, r, u, k', hk, h => by
    obtain ⟨k', rfl⟩ : ∃ j, k' = j + 1 := ⟨k' - 1, by omega⟩
    rw [classS] at h ⊢
    cases hb : byteS t with
    | none => rw [hb] at h; cases h
    | some v =>
      obtain ⟨lo, q, r1⟩ := v
      rw [hb] at h
      rw [byteS_app u hb]
      simp only at h ⊢
      by_cases he : lo = 93 ∧ q = false ∧ f = false
      · rw [if_pos he] at h ⊢
        simp only [Sum.inl.injEq, Prod.mk.injEq] at h
        obtain ⟨rfl, rfl⟩ := h
        rfl
      · rw [if_neg he] at h ⊢
        by_cases hy : hyph r1 = true
        · have h2 := hyph_two hy
          rw [if_pos hy] at h
          rw [hyph_app u h2.1 h2.2, if_pos hy]
          have et : (r1 ++ u).tail = r1.tail ++ u := by
            cases r1 with
            | nil => exact absurd rfl h2.1
            | cons _ _ => rfl
          rw [et]
          cases hb2 : byteS r1.tail with
          | none => rw [hb2] at h; cases h
          | some v2 =>
            obtain ⟨hi, q2, r2⟩ := v2
            rw [hb2] at h
            rw [byteS_app u hb2]
            simp only at h ⊢
            by_cases hl : hi < lo
            · rw [if_pos hl] at h; cases h
            · rw [if_neg hl] at h ⊢
              exact classS_app k r2 false _ rs r u k' (by omega) h
        · rw [if_neg hy] at h
          have h0 : r1 ≠ [] := fun e => classS_nil k _ _ _ (e ▸ h)
          have h1 : r1 ≠ [45] := fun e => classS_hy k _ _ _ (e ▸ h)
          rw [hyph_app u h0 h1, if_neg hy]
          exact classS_app k r1 false _ rs r u k' (by omega) h
theorem classT_app {t : List Int} {rs : List RR} {nt : Bool} {r : List Int} (u : List Int) (h : classT t = .inl (rs, nt, r)) : classT (t ++ u) = .inl (rs, nt, r ++ u) ∧ r.length ≤ t.length := by
  unfold classT at h ⊢
  have hne : t ≠ [] := fun e => by
    subst e
    rw [show classS (([] : List Int).length + 1) (if ([] : List Int).head? = some 33 then ([] : List Int).tail else []) true [] = .inr (31, 0) from rfl] at h
    cases h
  have eh : (t ++ u).head? = t.head? := by
    cases t with
    | nil => exact absurd rfl hne
    | cons _ _ => rfl
  have et : (if (t ++ u).head? = some 33 then (t ++ u).tail else t ++ u) = (if t.head? = some 33 then t.tail else t) ++ u := by
    rw [eh]
    split
    · cases t with
      | nil => exact absurd rfl hne
      | cons _ _ => rfl
    · rfl
  cases hc : classS (t.length + 1) (if t.head? = some 33 then t.tail else t) true [] with
  | inr e => rw [hc] at h; cases h
  | inl v =>
    obtain ⟨rs', r'⟩ := v
    rw [hc] at h
    simp only [Sum.inl.injEq, Prod.mk.injEq] at h
    obtain ⟨rfl, rfl, rfl⟩ := h
    rw [et, classS_app _ _ _ _ _ _ u ((t ++ u).length + 1) (by rw [List.length_append]; omega) hc, eh]
    refine ⟨rfl, ?_⟩
    have hs := (classS_suf _ _ _ _ _ _ hc).length_le
    split at hs
    · rw [List.length_tail] at hs; omega
    · exact hs
theorem classS_err : ∀ (k : Nat) (t : List Int) (f : Bool) (acc : List RR) (e : Int) (m : Nat), t.length < k → classS k t f acc = .inr (e, m) → e ≠ 0
  | 0, t, _, _, _, _, hk, _ => by omega
  | k + 1, t, f, acc, e, m, hk, h => by
    rw [classS] at h
    cases hb : byteS t with
    | none => rw [hb] at h; cases h; decide
    | some v =>
      obtain ⟨lo, q, r1⟩ := v
      have hlt := byteS_lt hb
      rw [hb] at h
      simp only at h
      split at h
      · cases h
      · split at h
        · cases hb2 : byteS r1.tail with
          | none => rw [hb2] at h; cases h; decide
          | some v2 =>
            obtain ⟨hi, q2, r2⟩ := v2
            have hlt2 := byteS_lt hb2
            rw [List.length_tail] at hlt2
            rw [hb2] at h
            simp only at h
            split at h
            · cases h; decide
            · exact classS_err k r2 _ _ e m (by omega) h
        · exact classS_err k r1 _ _ e m (by omega) h
theorem classT_err {t : List Int} {e : Int} {m : Nat} (h : classT t = .inr (e, m)) : e ≠ 0 := by
  unfold classT at h
  split at h
  · cases h
  · rename_i v hc
    cases h
    refine classS_err _ _ _ _ _ _ ?_ hc
    split
    · rw [List.length_tail]; omega
    · omega
theorem parseS_err : ∀ (k : Nat) (t : List Int) (acc : List NN) (e : Int) (m : Nat), t.length < k → parseS k t acc = .inr (e, m) → e ≠ 0
  | 0, t, _, _, _, hk, _ => by omega
  | k + 1, [], acc, e, m, hk, h => by rw [parseS] at h; cases h
  | k + 1, c :: t, acc, e, m, hk, h => by
    rw [parseS] at h
    cases hb : byteS (c :: t) with
    | none => rw [hb] at h; cases h; decide
    | some v =>
      obtain ⟨x, q, r⟩ := v
      have hlt := byteS_lt hb
      rw [hb] at h
      simp only at h
      have ih := fun acc' => parseS_err k r acc' e m (by omega)
      split at h
      · exact ih _ h
      split at h
      · exact ih _ h
      split at h
      · exact ih _ h
      split at h
      · cases hc : classT r with
        | inr v => obtain ⟨e', m'⟩ := v; rw [hc] at h; cases h; exact classT_err hc
        | inl v =>
          obtain ⟨rs, nt, r2⟩ := v
          have hc3 := (classT_app [] hc).2
          rw [hc] at h
          exact parseS_err k r2 _ e m (by omega) h
      · exact ih _ h
theorem matchL_app : ∀ (K1 K2 : List NN) (t : List Int), matchL (K1 ++ K2) t = true ↔ ∃ i, i ≤ t.length ∧ matchL K1 (t.take i) = true ∧ matchL K2 (t.drop i) = true
  | [], K2, t => by
    constructor
    · intro h; exact ⟨0, Nat.zero_le _, rfl, h⟩
    · rintro ⟨i, hi, h1, h2⟩
      rw [matchL_none, List.isEmpty_iff] at h1
      have h3 := congrArg List.length h1
      rw [List.length_take] at h3
      obtain rfl : i = 0 := by simp at h3; rcases h3 with h3 | h3 <;> simp_all
      exact h2
  | n :: K1, K2, t => by
    rw [List.cons_append]
    by_cases hn : n.f0 = 4
    · rw [matchL_star _ _ _ hn, endsA_iff]
      constructor
      · rintro ⟨j, hj, h⟩
        obtain ⟨i, hi, h1, h2⟩ := (matchL_app K1 K2 _).1 h
        rw [List.length_drop] at hi
        refine ⟨j + i, by omega, ?_, by rw [← List.drop_drop]; exact h2⟩
        rw [matchL_star _ _ _ hn, endsA_iff]
        exact ⟨j, by rw [List.length_take]; omega, by rw [List.drop_take, show j + i - j = i by omega]; exact h1⟩
      · rintro ⟨i, hi, h1, h2⟩
        rw [matchL_star _ _ _ hn, endsA_iff] at h1
        obtain ⟨j, hj, h1⟩ := h1
        rw [List.length_take] at hj
        refine ⟨j, by omega, (matchL_app K1 K2 _).2 ⟨i - j, by rw [List.length_drop]; omega, by rw [← List.drop_take]; exact h1, by rw [List.drop_drop, show j + (i - j) = i by omega]; exact h2⟩⟩
    · cases t with
      | nil =>
        rw [matchL_set0 _ _ hn]
        constructor
        · intro h; cases h
        · rintro ⟨i, hi, h1, _⟩
          rw [List.take_nil, matchL_set0 _ _ hn] at h1
          cases h1
      | cons c t =>
        rw [matchL_set _ _ _ _ hn, Bool.and_eq_true, matchL_app K1 K2 t]
        constructor
        · rintro ⟨hc, i, hi, h1, h2⟩
          exact ⟨i + 1, by simpa using hi, by rw [List.take_succ_cons, matchL_set _ _ _ _ hn, hc, h1]; rfl, h2⟩
        · rintro ⟨i, hi, h1, h2⟩
          cases i with
          | zero => rw [List.take_zero, matchL_set0 _ _ hn] at h1; cases h1
          | succ i =>
            rw [List.take_succ_cons, matchL_set _ _ _ _ hn, Bool.and_eq_true] at h1
            exact ⟨h1.1, i, by simpa using hi, h1.2, h2⟩
end Go.Proofs.YtelbgmpeghhakaaGreat.PA
end
section
namespace Go.Proofs.YtelbgmpeghhakaaGreat.PA
open Go.RowKit Go.Proofs.YtelbgmpeghhakaaGreatW.PrintWords Go.Proofs.YtelbgmpeghhakaaGreatW.PrintLast Go.Proofs.YtelbgmpeghhakaaGreatW.PrintMore
set_option linter.unusedVariables false
set_option linter.unusedSimpArgs false
def pieceL (t : List Int) (i j : Nat) : List Int := (t.drop i).take (j - i)
def segM (K : List NN) (t : List Int) (i j : Nat) : Bool := decide (i ≤ j) && matchL K (pieceL t i j)
theorem piece_len (t : List Int) (i j : Nat) (h : i ≤ j) (hj : j ≤ t.length) : (pieceL t i j).length = j - i := by
  unfold pieceL
  rw [List.length_take, List.length_drop]
  omega
theorem segM_iff (K : List NN) (t : List Int) (i j : Nat) : segM K t i j = true ↔ i ≤ j ∧ matchL K (pieceL t i j) = true := by
  unfold segM
  rw [Bool.and_eq_true, decide_eq_true_eq]
theorem segM_all (K : List NN) (t : List Int) : segM K t 0 t.length = matchL K t := by
  unfold segM pieceL
  simp
theorem piece_take (t : List Int) (i j m : Nat) (h : i + m ≤ j) : (pieceL t i j).take m = pieceL t i (i + m) := by
  unfold pieceL
  rw [List.take_take, show min m (j - i) = i + m - i by omega]
theorem piece_drop (t : List Int) (i j m : Nat) : (pieceL t i j).drop m = pieceL t (i + m) j := by
  unfold pieceL
  rw [List.drop_take, List.drop_drop, show j - i - m = j - (i + m) by omega]
theorem segM_app (K1 K2 : List NN) (t : List Int) (i j : Nat) (hj : j ≤ t.length) : segM (K1 ++ K2) t i j = true ↔ ∃ m, m ≤ t.length ∧ segM K1 t i m = true ∧ segM K2 t m j = true := by
  rw [segM_iff, matchL_app]
  constructor
  · rintro ⟨h, m, hm, h1, h2⟩
    rw [piece_len t i j h hj] at hm
    rw [piece_take t i j m (by omega)] at h1
    rw [piece_drop] at h2
    exact ⟨i + m, by omega, (segM_iff ..).2 ⟨by omega, h1⟩, (segM_iff ..).2 ⟨by omega, h2⟩⟩
  · rintro ⟨m, hm, h1, h2⟩
    obtain ⟨h3, h1⟩ := (segM_iff ..).1 h1
    obtain ⟨h4, h2⟩ := (segM_iff ..).1 h2
    refine ⟨by omega, m - i, by rw [piece_len t i j (by omega) hj]; omega, ?_, ?_⟩
    · rw [piece_take t i j _ (by omega), show i + (m - i) = m by omega]; exact h1
    · rw [piece_drop, show i + (m - i) = m by omega]; exact h2
theorem segM_none (t : List Int) (i j : Nat) (hj : j ≤ t.length) : segM [] t i j = decide (i = j) := by
  rw [Bool.eq_iff_iff, segM_iff, decide_eq_true_eq, matchL_none, List.isEmpty_iff]
  constructor
  · rintro ⟨h, h1⟩
    have := piece_len t i j h hj
    rw [h1] at this
    simp at this
    omega
  · rintro rfl
    exact ⟨Nat.le_refl _, by unfold pieceL; simp⟩
theorem segM_star (n : NN) (hn : n.f0 = 4) (t : List Int) (i j : Nat) : segM [n] t i j = decide (i ≤ j) := by
  unfold segM
  rw [matchL_star _ _ _ hn, (endsA_iff _ _).2 ⟨(pieceL t i j).length, Nat.le_refl _, by rw [List.drop_length]; rfl⟩, Bool.and_true]
theorem segM_set (n : NN) (hn : n.f0 ≠ 4) (t : List Int) (i j : Nat) (hj : j ≤ t.length) : segM [n] t i j = (decide (j = i + 1) && inR n.f1 (t.getD i 0)) := by
  rw [Bool.eq_iff_iff, segM_iff, Bool.and_eq_true, decide_eq_true_eq]
  constructor
  · rintro ⟨h, h1⟩
    have hl := piece_len t i j h hj
    cases hp : pieceL t i j with
    | nil => rw [hp, matchL_set0 _ _ hn] at h1; cases h1
    | cons c u =>
      rw [hp, matchL_set _ _ _ _ hn, Bool.and_eq_true, matchL_none, List.isEmpty_iff] at h1
      obtain ⟨h1, rfl⟩ := h1
      rw [hp] at hl
      simp at hl
      have hji : j = i + 1 := by omega
      subst hji
      refine ⟨rfl, ?_⟩
      have hlt : i < t.length := by omega
      have hc : t[i] = c := by
        unfold pieceL at hp
        rw [List.drop_eq_getElem_cons hlt, show i + 1 - i = 1 by omega] at hp
        exact (List.cons.inj hp).1
      rw [List.getD_eq_getElem?_getD, List.getElem?_eq_getElem hlt]
      show inR n.f1 t[i] = true
      rw [hc]
      exact h1
  · rintro ⟨rfl, h1⟩
    have hlt : i < t.length := by omega
    refine ⟨by omega, ?_⟩
    rw [List.getD_eq_getElem?_getD, List.getElem?_eq_getElem hlt] at h1
    unfold pieceL
    rw [List.drop_eq_getElem_cons hlt, show i + 1 - i = 1 by omega]
    show matchL [n] [t[i]] = true
    rw [matchL_set _ _ _ _ hn, Bool.and_eq_true]
    exact ⟨h1, rfl⟩
end Go.Proofs.YtelbgmpeghhakaaGreat.PA
end
section
namespace Go.Proofs.YtelbgmpeghhakaaGreat.PA
open Go.RowKit Go.Proofs.YtelbgmpeghhakaaGreatW.PrintWords Go.Proofs.YtelbgmpeghhakaaGreatW.PrintLast Go.Proofs.YtelbgmpeghhakaaGreatW.PrintMore
set_option linter.unusedVariables false
set_option linter.unusedSimpArgs false
theorem canonN_next (p : Int → Bool) (c : Int) (h : 0 ≤ c) : canonN p (c + 1).toNat = stepC p (canonN p c.toNat) c := by
  rw [show (c + 1).toNat = c.toNat + 1 by omega]
  show stepC p (canonN p c.toNat) (c.toNat : Int) = _
  rw [Int.toNat_of_nonneg h]
theorem canonN_len (p : Int → Bool) (n : Nat) (h : n ≤ 256) : (canonN p n).length ≤ 128 := by
  rcases canon_len (canonN_is p n h).1 with h | h
  · rw [h]; simp
  · omega
theorem canonN_byte (p : Int → Bool) (n : Nat) (h : n ≤ 256) : ∀ r ∈ canonN p n, 0 ≤ r.f0 ∧ r.f0 ≤ 255 ∧ 0 ≤ r.f1 ∧ r.f1 ≤ 255 := by
  have hc := (canonN_is p n h).1
  generalize canonN p n = l at hc
  suffices H : ∀ (l : List RR) (k : Int), 0 ≤ k → CanonFrom k l → ∀ r ∈ l, 0 ≤ r.f0 ∧ r.f0 ≤ 255 ∧ 0 ≤ r.f1 ∧ r.f1 ≤ 255 from H l 0 (Int.le_refl _) hc
  intro l
  induction l with
  | nil => intro _ _ _ r hr; simp at hr
  | cons x l ih =>
    intro k hk hx r hr
    obtain ⟨h1, h2, h3, h4⟩ := hx
    rcases List.mem_cons.1 hr with rfl | hr
    · omega
    · exact ih _ (by omega) h4 r hr
theorem step_skip {p : Int → Bool} {o : List RR} {c : Int} (h : p c = false) : o = stepC p o c := by unfold stepC; rw [h]; rfl
theorem step_grow {p : Int → Bool} {o : List RR} {c : Int} (h : p c = true) (h1 : 0 < (o.length : Int)) (h2 : (o.getD ((o.length : Int) - 1).toNat z55).f1 = c - 1) : o.take ((o.length : Int) - 1).toNat ++ [(⟨(o.getD ((o.length : Int) - 1).toNat z55).f0, c⟩ : S55)] = stepC p o c := by
  have e : ((o.length : Int) - 1).toNat = o.length - 1 := by omega
  rw [e] at h2 ⊢
  unfold stepC
  rw [if_pos h, if_pos ⟨by omega, h2⟩]
theorem step_add {p : Int → Bool} {o : List RR} {c : Int} (h : p c = true) (h1 : (o.length : Int) ≤ 0 ∨ ¬ (o.getD ((o.length : Int) - 1).toNat z55).f1 = c - 1) : o ++ [(⟨c, c⟩ : S55)] = stepC p o c := by
  have e : ((o.length : Int) - 1).toNat = o.length - 1 := by omega
  rw [e] at h1
  unfold stepC
  rw [if_pos h, if_neg (fun ⟨a, b⟩ => by rcases h1 with h1 | h1; omega; exact h1 b)]
theorem inR_none {l : List RR} {c : Int} (h : ∀ j : Nat, j < l.length → ¬ ((l.getD j z55).f0 ≤ c ∧ c ≤ (l.getD j z55).f1)) : inR l c = false := by
  rw [← Bool.not_eq_true, inR_iff]
  rintro ⟨r, hr, h2⟩
  obtain ⟨j, hj, rfl⟩ := List.getElem_of_mem hr
  exact h j hj (by simpa [List.getD_eq_getElem?_getD, List.getElem?_eq_getElem hj] using h2)
theorem inR_some {l : List RR} {c i : Int} (h0 : 0 ≤ i) (h1 : i < l.length) (h : (l.getD i.toNat z55).f0 ≤ c ∧ c ≤ (l.getD i.toNat z55).f1) : inR l c = true := inR_iff.2 ⟨_, getD_mem l i.toNat (by omega), h⟩
end Go.Proofs.YtelbgmpeghhakaaGreat.PA
end
section
namespace Go.Proofs.YtelbgmpeghhakaaGreat.PA
open Go.RowKit Go.Proofs.YtelbgmpeghhakaaGreatW.PrintWords Go.Proofs.YtelbgmpeghhakaaGreatW.PrintLast Go.Proofs.YtelbgmpeghhakaaGreatW.PrintMore
attribute [local go_sem] max2_int min2_int max_two min_two max_three min_three max_four min_four   -- for this text's walks alone
set_option linter.unusedVariables false
set_option linter.unusedSimpArgs false
def colloquyref03_none.l0 : Nat → Int → List (List Bool) → Int → Option ((List (List Bool)))
  | 0, _, _, _ => none
  | k + 1, x0, x3, x4 => if x4 < x0 then (if 0 ≤ x0 then (if (x0 : Int).toNat ≤ 281474976710656 then (if x3.length < 5864062014805 then (colloquyref03_none.l0 k x0 (x3 ++ [(List.replicate (x0 : Int).toNat false)]) (wrap64 (x4 + 1))) else (none)) else (none)) else (none)) else (some x3)
def colloquyref03_none.f (k : Nat) (a0 : Int) : Option ((List (List Bool))) := colloquyref03_none.l0 k a0 (([] : List (List Bool))) 0
theorem colloquyref03_none.mono_l : ∀ k, (∀ y0 y1 y2, LeO (colloquyref03_none.l0 k y0 y1 y2) (colloquyref03_none.l0 (k + 1) y0 y1 y2))
  | 0 => fun _ _ _ r h => by simp [colloquyref03_none.l0] at h
  | k + 1 => by
    have ih0 := colloquyref03_none.mono_l k
    · intro y0 y1 y2
      unfold colloquyref03_none.l0
      repeat' first
      | (with_reducible exact ih0 _ _ _)
      | (with_reducible exact LeO.refl _)
      | (with_reducible exact LeO.none _)
      | (with_reducible refine LeO.ite ?_ ?_)
      | (with_reducible refine LeO.bind ?_ (fun _ => ?_))
      | exact ih0 _ _ _
      | exact LeO.none _
      | refine LeO.ite ?_ ?_
      | refine LeO.bind ?_ (fun _ => ?_)
theorem colloquyref03_none.mono : ∀ a0 k, LeO (colloquyref03_none.f k a0) (colloquyref03_none.f (k + 1) a0) := by
  intro a0 k
  have ih0 := colloquyref03_none.mono_l k
  unfold colloquyref03_none.f
  repeat' first
      | (with_reducible exact ih0 _ _ _)
      | (with_reducible exact LeO.refl _)
      | (with_reducible exact LeO.none _)
      | (with_reducible refine LeO.ite ?_ ?_)
      | (with_reducible refine LeO.bind ?_ (fun _ => ?_))
      | exact ih0 _ _ _
      | exact LeO.none _
      | refine LeO.ite ?_ ?_
      | refine LeO.bind ?_ (fun _ => ?_)
set_option maxHeartbeats 8000000 in
set_option maxRecDepth 100000 in
theorem colloquyref03_none.calls (k : Nat) (a0 : Int) (r : List (List Bool)) (w : World) (h : colloquyref03_none.f k a0 = some r) :
    Calls Tryz.prog 26 #[.int .i64 a0] w fun e w' => ∃ v0_ : Value, e = .returned (v0_) ∧ Kd.S (Kd.slice 4 Kd.bool) 35 w' w.heap.size (fun _ => True) v0_ r ∧ Below w.heap.size w w' := by
  have HB := Aside0.mk (Below.refl w.heap.size w)
  have H : (colloquyref03_none.l0 k a0 (([] : List (List Bool))) 0) = some r := h
  clear h
  obtain ⟨y329, hy329⟩ : ∃ y_ : List (List Bool), y_ = (([] : List (List Bool))) := ⟨_, rfl⟩
  replace H : (colloquyref03_none.l0 k a0 y329 0) = some r := by first | (rw [hy329]; with_reducible exact H) | (have H2_ := (Option.bind_some _ _).symm.trans H; rw [hy329]; with_reducible exact H2_) | (have H2_ := (Option.bind_some _ _).symm.trans H; with_reducible exact H2_) | with_reducible exact H | (rw [hy329]; exact H) | exact H
  have Ny329 := Aside0.mk hy329
  clear hy329
  have H' := Aside0.mk H
  clear H
  go_enter Tryz.func26, Tryz.ntmps26
  go_wp2_with (first | ((with_reducible refine gate_dst (N := 5) rfl ?_); refine Kd.S_lit (Kd.slice 4 Kd.bool) _ 35 ?hg (N := 5) ?hd (xs := ([] : List (List Bool))) (inner := []) (ok := fun _ => True) (okp := fun _ => True) ?hr ?hp (fun _ hk => hk) trivial (Below.refl _ _) (Nat.le_refl _) (by simp) ?_; (case hd => rfl); (case hg => rfl); (case hr => first | (go_simp; done) | (go_simp; rfl)); (case hp => exact (Reps.none _ _)); intro v330 w2 ho3 hb hg_ hnew_; clear hg_ hnew_; (first | rw [← Ny329.out] at ho3 | (simp only [Int.reduceToNat] at ho3; rw [← Ny329.out] at ho3)); have n0_ := Aside0.mk (Kd.S_lower ho3 (below_size (by repeat (first | (with_reducible first | exact HB.out | apply below_alloc | apply pw_below_drewN | apply below_drew1) | exact HB.out)))); have n1_ := Aside0.mk (below_step (by repeat (first | (with_reducible first | exact HB.out | apply below_alloc | apply pw_below_drewN | apply below_drew1) | exact HB.out)) hb); clear HB; have HO331 := n0_; have HB := n1_; clear n0_ n1_; clear hb ho3))
  go_loopg [3, 4] k (fun kq v3 v4 w' => ∃ (x3_1 : List (List Bool)) (x4_1 : Int), v4 = .int .i64 x4_1 ∧ Aside0 (colloquyref03_none.l0 kq a0 x3_1 x4_1 = some r) ∧ Aside0 (kq ≤ k) ∧ Aside0 (Kd.S (Kd.slice 4 Kd.bool) 35 w' w.heap.size (fun _ => True) v3 x3_1) ∧ Aside0 (Below w.heap.size w w'))
  case atStart => exact ⟨(y329), (0), (by first | rfl | (simp; done) | (simp [*]; done)), H', ⟨Nat.le_refl _⟩, ⟨by (with_reducible repeat (first | apply Kd.S_alloc | apply Kd.S_drewN | apply Kd.S_drew)); exact HO331.out⟩, ⟨by repeat (first | (with_reducible first | exact HB.out | apply below_alloc | apply pw_below_drewN | apply below_drew1) | exact HB.out)⟩⟩
  case round =>
    clear H'
    try clear c2
    try clear p2
    obtain ⟨x3_1, x4_1, rfl, HA, HK1, HO_3, HB⟩ := hrel
    cases gk with
    | zero => exact absurd HA.out (by simp [colloquyref03_none.l0])
    | succ k1 =>
      have H := HA.out
      clear HA
      simp only [colloquyref03_none.l0] at H
      by_cases c4 : x4_1 < a0
      · rw [if_pos c4] at H
        have c4b0 : decide (x4_1 < a0) = true := decide_eq_true c4
        clear c4
        by_cases c5 : 0 ≤ a0
        · rw [if_pos c5] at H
          have c5b0 := eq_true c5
          have c5b1 : decide (0 ≤ a0) = true := decide_eq_true c5
          clear c5
          by_cases c6 : (a0 : Int).toNat ≤ 281474976710656
          · rw [if_pos c6] at H
            have c6b0 := eq_true c6
            have c6b1 : decide ((a0 : Int).toNat ≤ 281474976710656) = true := decide_eq_true c6
            clear c6
            obtain ⟨y332, hy332⟩ : ∃ y_ : List Bool, y_ = (List.replicate (a0 : Int).toNat false) := ⟨_, rfl⟩
            replace H : (if x3_1.length < 5864062014805 then (colloquyref03_none.l0 k1 a0 (x3_1 ++ [y332]) (wrap64 (x4_1 + 1))) else (none)) = some r := by first | (rw [hy332]; with_reducible exact H) | (have H2_ := (Option.bind_some _ _).symm.trans H; rw [hy332]; with_reducible exact H2_) | (have H2_ := (Option.bind_some _ _).symm.trans H; with_reducible exact H2_) | with_reducible exact H | (rw [hy332]; exact H) | exact H
            have Ny332 := Aside0.mk hy332
            clear hy332
            by_cases c7 : x3_1.length < 5864062014805
            · rw [if_pos c7] at H
              have LMc7 := Aside0.mk c7
              clear c7
              obtain ⟨y335, hy335⟩ : ∃ y_ : List (List Bool), y_ = (x3_1 ++ [y332]) := ⟨_, rfl⟩
              replace H : (colloquyref03_none.l0 k1 a0 y335 (wrap64 (x4_1 + 1))) = some r := by first | (rw [hy335]; with_reducible exact H) | (have H2_ := (Option.bind_some _ _).symm.trans H; rw [hy335]; with_reducible exact H2_) | (have H2_ := (Option.bind_some _ _).symm.trans H; with_reducible exact H2_) | with_reducible exact H | (rw [hy335]; exact H) | exact H
              have Ny335 := Aside0.mk hy335
              clear hy335
              have H' := Aside0.mk H
              clear H
              go_wp2_with (first | ((with_reducible refine gate_dst (N := 13) rfl ?_); refine Kd.R_make Kd.bool _ 4 rfl (N := 13) rfl 35 _ _ rfl a0 rfl rfl Tryz.underlying35 (.bool false) 1 info4 rfl (by decide) (by omega) false (ok := fun _ => True) (okp := fun _ => True) rfl (fun _ hk => hk) trivial (of_decide_eq_true (by first | (with_reducible assumption) | assumption)) (Nat.le_trans (Nat.mul_le_mul_right _ (of_decide_eq_true (by first | (with_reducible assumption) | assumption) : a0.toNat ≤ 281474976710656)) (by omega)) (Below.refl _ _) (Nat.le_refl _) ?_; intro v333 w8 ho9 hb hg_ hnew_; clear hg_ hnew_; (first | rw [← Ny332.out] at ho9 | (simp only [Int.reduceToNat] at ho9; rw [← Ny332.out] at ho9)); have n0_ := Aside0.mk (Kd.S_elder' (by (with_reducible repeat (first | apply Kd.S_alloc | apply Kd.S_drewN | apply Kd.S_drew)); exact HO_3.out) (Kd.R_base ho9) hb); have n1_ := Aside0.mk (Kd.R_lower ho9 (below_size (by repeat (first | (with_reducible first | exact HB.out | apply below_alloc | apply pw_below_drewN | apply below_drew1) | exact HB.out)))); have n2_ := Aside0.mk (below_step (by repeat (first | (with_reducible first | exact HB.out | apply below_alloc | apply pw_below_drewN | apply below_drew1) | exact HB.out)) hb); clear HO_3; clear HB; have HO_3 := n0_; have HO334 := n1_; have HB := n2_; clear n0_ n1_ n2_; clear hb ho9; obtain ⟨Ao11, co11, eo11⟩ := Kd.R_slice HO334.out; subst eo11) | ((with_reducible refine gate_builtin (b := .append) (xs := #[.tmp 11, .tmp 14]) rfl ?_); at_builtin; refine Kd.S_append (Kd.slice 4 Kd.bool) (w0 := w) w.heap.size rfl (.tmp 11) (.tmp 14) 36 35 (.slice none 0 0) 24 rfl Tryz.underlying36 info35 rfl (by decide) (by omega) u3 x3_1 y332 [.slice Ao11 y332.length co11] (fun _ => True) (fun k_ => some k_ = (.slice Ao11 y332.length co11 : Value).ownBlock) rfl rfl ?aP (fun k_ hk_ => ((Kd.R_mono (ok' := fun k_ => ((fun _ => True)) k_ ∧ some k_ ≠ (u3 : Value).ownBlock) (Kd.R_apart' (HO334.out) (Kd.S_typed HO_3.out) (by decide)) (fun k_ hk => ⟨trivial, hk.2⟩))).1 k_ hk_.symm) ?aF ?aO ?aB ?aS ?aL ?_; (case aP => exact Kd.M_row (Kd.R_mono (Kd.R_tight rfl (Kd.R_mono (ok' := fun k_ => ((fun _ => True)) k_ ∧ some k_ ≠ (u3 : Value).ownBlock) (Kd.R_apart' (HO334.out) (Kd.S_typed HO_3.out) (by decide)) (fun k_ hk => ⟨trivial, hk.2⟩))) (fun _ h_ => h_))); (case aB => exact (by repeat (first | (with_reducible first | exact HB.out | apply below_alloc | apply pw_below_drewN | apply below_drew1) | exact HB.out))); (case aF => exact (fun _ _ => trivial)); (case aO => exact (by (with_reducible repeat (first | apply Kd.S_alloc | apply Kd.S_drewN | apply Kd.S_drew)); exact Kd.S_mono HO_3.out (fun k_ hk => ⟨trivial, fun e_ => hk.2 e_⟩))); (case aS => exact (below_size (by repeat (first | (with_reducible first | exact HB.out | apply below_alloc | apply pw_below_drewN | apply below_drew1) | exact HB.out)))); (case aL => have := LMc7.out; omega); intro v336 w10 ho hb hg hat; rw [← Ny335.out] at ho; have n0_ := Aside0.mk (hb); have n1_ := Aside0.mk (ho); clear HB; clear HO_3; clear HO334; have HB := n0_; have HO337 := n1_; clear n0_ n1_; clear ho hb hg hat))
              go_roundg k1
              case measure => have := HK1.out; omega
              case rel => exact ⟨(y335), (wrap64 (x4_1 + 1)), (by first | rfl | (simp; done) | (simp [*]; done)), H', ⟨by have := HK1.out; omega⟩, ⟨by (with_reducible repeat (first | apply Kd.S_alloc | apply Kd.S_drewN | apply Kd.S_drew)); exact HO337.out⟩, ⟨by repeat (first | (with_reducible first | exact HB.out | apply below_alloc | apply pw_below_drewN | apply below_drew1) | exact HB.out)⟩⟩
            · rw [if_neg c7] at H
              exact absurd H (by simp)
          · rw [if_neg c6] at H
            exact absurd H (by simp)
        · rw [if_neg c5] at H
          exact absurd H (by simp)
      · rw [if_neg c4] at H
        have c4b0 : decide (x4_1 < a0) = false := decide_eq_false c4
        clear c4
        obtain rfl := Option.some.inj H
        go_wp2
        go_ret
        exact ⟨_, by first | rfl | (simp [errW_none, errW_some] <;> rfl) | (simp [*, errW_none, errW_some] <;> rfl), by (with_reducible repeat (first | apply Kd.S_alloc | apply Kd.S_drewN | apply Kd.S_drew)); exact HO_3.out, by repeat (first | (with_reducible first | exact HB.out | apply below_alloc | apply pw_below_drewN | apply below_drew1) | exact HB.out)⟩
end Go.Proofs.YtelbgmpeghhakaaGreat.PA
end
section
namespace Go.Proofs.YtelbgmpeghhakaaGreat.PA
open Go.RowKit Go.Proofs.YtelbgmpeghhakaaGreatW.PrintWords Go.Proofs.YtelbgmpeghhakaaGreatW.PrintLast Go.Proofs.YtelbgmpeghhakaaGreatW.PrintMore
set_option linter.unusedVariables false
set_option linter.unusedSimpArgs false
theorem none_l0 (n : Nat) (hn : n ≤ 1000) : ∀ (m i : Nat), i + m = n → colloquyref03_none.l0 (m + 1) (n : Int) (List.replicate i (List.replicate n false)) (i : Int) = some (List.replicate n (List.replicate n false))
  | 0, i, h => by
    obtain rfl : i = n := by omega
    unfold colloquyref03_none.l0
    rw [if_neg (by omega)]
  | m + 1, i, h => by
    unfold colloquyref03_none.l0
    rw [if_pos (by omega), if_pos (by omega), if_pos (by omega), if_pos (by rw [List.length_replicate]; omega), Int.toNat_natCast, show wrap64 ((i : Int) + 1) = ((i + 1 : Nat) : Int) by unfold wrap64; omega]
    have := none_l0 n hn m (i + 1) (by omega)
    rw [List.replicate_succ'] at this
    exact this
theorem tnone_calls (a0 : Int) (n : Nat) (w : World) (ha : a0 = n) (h0 : 0 < n) (hn : n ≤ 1000) :
    Calls Tryz.prog 26 #[.int .i64 a0] w fun e w' => ∃ (Z : Tb) (S : Nat → Prop), e = .returned (.slice (some ⟨Z.g, 0, none⟩) n Z.c) ∧ Out w w' (fun _ => False) [Chunk.tab S Z n (fun _ _ => false)] := by
  subst ha
  have hf : colloquyref03_none.f (n + 1) (n : Int) = some (List.replicate n (List.replicate n false)) := none_l0 n hn n 0 (by omega)
  refine (colloquyref03_none.calls _ _ _ w hf).mono ?_
  rintro e w' ⟨v, rfl, hS, hb⟩
  obtain ⟨Z, S, rfl, ho⟩ := none_own hS hb h0 (by rw [List.length_replicate]) (fun l hl => (List.mem_replicate.1 hl).2)
  exact ⟨Z, S, rfl, ho⟩
theorem tset_iff (T : Nat → Nat → Bool) (i j : Nat) (b : Bool) (x y : Nat) : tset T i j b x y = true ↔ (x = i ∧ y = j ∧ b = true) ∨ ¬ (x = i ∧ y = j) ∧ T x y = true := by
  rw [tset_at]
  split
  · rename_i h
    constructor
    · exact fun hb => .inl ⟨h.1, h.2, hb⟩
    · rintro (⟨_, _, hb⟩ | ⟨hn, _⟩)
      · exact hb
      · exact absurd h hn
  · rename_i h
    constructor
    · exact fun hb => .inr ⟨h, hb⟩
    · rintro (⟨h1, h2, _⟩ | ⟨_, hb⟩)
      · exact absurd ⟨h1, h2⟩ h
      · exact hb
def sameI (n : Nat) (T : Nat → Nat → Bool) (i : Nat) : Prop := ∀ x y, x < n → y < n → (T x y = true ↔ x = y ∧ x < i)
theorem sameI0 (n : Nat) : sameI n (fun _ _ => false) 0 := fun x y _ _ => ⟨fun h => (by cases h), fun h => by omega⟩
theorem sameI_step {n : Nat} {T : Nat → Nat → Bool} {i : Nat} (h : sameI n T i) : sameI n (tset T i i true) (i + 1) := fun x y hx hy => by
  rw [tset_iff, h x y hx hy]
  constructor
  · rintro (⟨h1, h2, _⟩ | ⟨h1, h2, h3⟩)
    · omega
    · omega
  · rintro ⟨h1, h2⟩
    by_cases hi : x = i
    · exact .inl ⟨hi, by omega, rfl⟩
    · exact .inr ⟨by omega, h1, by omega⟩
theorem sameI_end {n : Nat} {T : Nat → Nat → Bool} (h : sameI n T n) (x y : Nat) (hx : x < n) (hy : y < n) : T x y = true ↔ x = y := (h x y hx hy).trans ⟨fun h => h.1, fun h => ⟨h, hx⟩⟩
def bothI (P Q : Nat → Nat → Bool) (n : Nat) (T : Nat → Nat → Bool) (i k j : Nat) : Prop :=
  ∀ x y, x < n → y < n → (T x y = true ↔ ∃ m, m < n ∧ P x m = true ∧ Q m y = true ∧ (x < i ∨ x = i ∧ (m < k ∨ m = k ∧ y < j)))
theorem bothI0 (P Q : Nat → Nat → Bool) (n : Nat) : bothI P Q n (fun _ _ => false) 0 0 0 := fun x y _ _ => ⟨fun h => (by cases h), fun ⟨m, _, _, _, h⟩ => by omega⟩
section
variable {P Q T : Nat → Nat → Bool} {n i k j : Nat}
theorem bothI_j (h : bothI P Q n T i k j) (hi : i < n) (hk : k < n) (hj : j < n) (hp : P i k = true) : bothI P Q n (tset T i j (T i j || Q k j)) i k (j + 1) := fun x y hx hy => by
  rw [tset_iff, Bool.or_eq_true, h x y hx hy, h i j hi hj]
  constructor
  · rintro (⟨rfl, rfl, ⟨m, h1, h2, h3, h4⟩ | h4⟩ | ⟨h0, m, h1, h2, h3, h4⟩)
    · exact ⟨m, h1, h2, h3, by omega⟩
    · exact ⟨k, hk, hp, h4, by omega⟩
    · exact ⟨m, h1, h2, h3, by omega⟩
  · rintro ⟨m, h1, h2, h3, h4⟩
    by_cases he : x = i ∧ y = j
    · obtain ⟨rfl, rfl⟩ := he
      refine .inl ⟨rfl, rfl, ?_⟩
      by_cases hm : m = k
      · subst hm; exact .inr h3
      · exact .inl ⟨m, h1, h2, h3, by omega⟩
    · exact .inr ⟨he, m, h1, h2, h3, by omega⟩
theorem bothI_k (h : bothI P Q n T i k j) (hn : ¬ (j < n ∧ P i k = true)) : bothI P Q n T i (k + 1) 0 := fun x y hx hy => by
  rw [h x y hx hy]
  constructor
  · rintro ⟨m, h1, h2, h3, h4⟩
    exact ⟨m, h1, h2, h3, by omega⟩
  · rintro ⟨m, h1, h2, h3, h4⟩
    refine ⟨m, h1, h2, h3, ?_⟩
    by_cases hm : x = i ∧ m = k
    · obtain ⟨rfl, rfl⟩ := hm
      have : ¬ j < n := fun hj => hn ⟨hj, h2⟩
      omega
    · omega
theorem bothI_i (h : bothI P Q n T i k j) (hk : k = n) : bothI P Q n T (i + 1) 0 0 := fun x y hx hy => by
  rw [h x y hx hy]
  exact ⟨fun ⟨m, h1, h2, h3, h4⟩ => ⟨m, h1, h2, h3, by omega⟩, fun ⟨m, h1, h2, h3, h4⟩ => ⟨m, h1, h2, h3, by omega⟩⟩
theorem bothI_end (h : bothI P Q n T i k j) (hi : i = n) (x y : Nat) (hx : x < n) (hy : y < n) : T x y = true ↔ ∃ m, m < n ∧ P x m = true ∧ Q m y = true := by
  rw [h x y hx hy]
  exact ⟨fun ⟨m, h1, h2, h3, h4⟩ => ⟨m, h1, h2, h3⟩, fun ⟨m, h1, h2, h3⟩ => ⟨m, h1, h2, h3, by omega⟩⟩
end
def eithI (P Q : Nat → Nat → Bool) (n : Nat) (T : Nat → Nat → Bool) (i j : Nat) : Prop :=
  ∀ x y, x < n → y < n → (T x y = true ↔ (P x y = true ∨ Q x y = true) ∧ (x < i ∨ x = i ∧ y < j))
theorem eithI0 (P Q : Nat → Nat → Bool) (n : Nat) : eithI P Q n (fun _ _ => false) 0 0 := fun x y _ _ => ⟨fun h => (by cases h), fun ⟨_, h⟩ => by omega⟩
section
variable {P Q T : Nat → Nat → Bool} {n i j : Nat}
theorem eithI_j (h : eithI P Q n T i j) : eithI P Q n (tset T i j (P i j || Q i j)) i (j + 1) := fun x y hx hy => by
  rw [tset_iff, Bool.or_eq_true, h x y hx hy]
  constructor
  · rintro (⟨rfl, rfl, h1⟩ | ⟨h0, h1, h2⟩)
    · exact ⟨h1, by omega⟩
    · exact ⟨h1, by omega⟩
  · rintro ⟨h1, h2⟩
    by_cases he : x = i ∧ y = j
    · obtain ⟨rfl, rfl⟩ := he
      exact .inl ⟨rfl, rfl, h1⟩
    · exact .inr ⟨he, h1, by omega⟩
theorem eithI_i (h : eithI P Q n T i j) (hj : j = n) : eithI P Q n T (i + 1) 0 := fun x y hx hy => by
  rw [h x y hx hy]
  exact ⟨fun ⟨h1, h2⟩ => ⟨h1, by omega⟩, fun ⟨h1, h2⟩ => ⟨h1, by omega⟩⟩
theorem eithI_end (h : eithI P Q n T i j) (hi : i = n) (x y : Nat) (hx : x < n) (hy : y < n) : T x y = true ↔ P x y = true ∨ Q x y = true := by
  rw [h x y hx hy]
  exact ⟨fun h => h.1, fun h1 => ⟨h1, by omega⟩⟩
end
def warI (n : Nat) (T : Nat → Nat → Bool) (k i j : Nat) : Prop :=
  ∀ x y, x < n → y < n → (T x y = true ↔ x < y ∧ (y = x + 1 ∨ y ≤ k ∨ y = k + 1 ∧ (x < i ∨ x = i ∧ y < j)))
section
variable {T : Nat → Nat → Bool} {n i k j : Nat}
theorem warI0 (h : ∀ x y, x < n → y < n → (T x y = true ↔ y = x + 1)) : warI n T 0 0 0 := fun x y hx hy => by rw [h x y hx hy]; omega
theorem warI_j (h : warI n T k i j) (hi : i < n) (hk : k < n) (hj : j < n) (hp : T i k = true) : warI n (tset T i j (T i j || T k j)) k i (j + 1) := fun x y hx hy => by
  have hp := (h i k hi hk).1 hp
  have e : (T i j || T k j) = true ↔ (i < j ∧ (j = i + 1 ∨ j ≤ k ∨ j = k + 1 ∧ (i < i ∨ i = i ∧ j < j))) ∨ (k < j ∧ (j = k + 1 ∨ j ≤ k ∨ j = k + 1 ∧ (k < i ∨ k = i ∧ j < j))) := by rw [Bool.or_eq_true, h i j hi hj, h k j hk hj]
  rw [tset_iff, e, h x y hx hy]
  omega
theorem warI_i (h : warI n T k i j) (hi : i < n) (hk : k < n) (hn : ¬ (j < n ∧ T i k = true)) : warI n T k (i + 1) 0 := fun x y hx hy => by
  rw [h i k hi hk] at hn
  rw [h x y hx hy]
  omega
theorem warI_k (h : warI n T k i j) (hi : i = n) : warI n T (k + 1) 0 0 := fun x y hx hy => by
  rw [h x y hx hy]
  omega
theorem warI_end (h : warI n T k i j) (hk : k = n) (x y : Nat) (hx : x < n) (hy : y < n) : T x y = true ↔ x < y := by
  rw [h x y hx hy]
  omega
end
def kidOK (n : NN) : Prop := (n.f0 = 1 ∧ ∀ r ∈ n.f1, 0 ≤ r.f0 ∧ r.f0 ≤ 255 ∧ 0 ≤ r.f1 ∧ r.f1 ≤ 255) ∨ n = starN
def setI (rs : List RR) (s : ByteArray) (T : Nat → Nat → Bool) (i : Nat) : Prop := ∀ x y, x < s.size + 1 → y < s.size + 1 → (T x y = true ↔ (y = x + 1 ∧ inR rs ((bytesOf s).getD x 0) = true) ∧ x < i)
theorem setI0 (rs : List RR) (s : ByteArray) : setI rs s (fun _ _ => false) 0 := fun x y _ _ => ⟨fun h => (by cases h), fun h => by omega⟩
theorem setI_step {rs : List RR} {s : ByteArray} {T : Nat → Nat → Bool} {i : Nat} (h : setI rs s T i) : setI rs s (tset T i (i + 1) (inR rs ((bytesOf s).getD i 0))) (i + 1) := fun x y hx hy => by
  rw [tset_iff, h x y hx hy]
  constructor
  · rintro (⟨rfl, rfl, h1⟩ | ⟨h0, h1, h2⟩)
    · exact ⟨⟨rfl, h1⟩, by omega⟩
    · exact ⟨h1, by omega⟩
  · rintro ⟨⟨h1, h2⟩, h3⟩
    by_cases he : x = i
    · subst he
      exact .inl ⟨rfl, h1, h2⟩
    · exact .inr ⟨by omega, ⟨h1, h2⟩, by omega⟩
theorem setI_end {n : NN} (hn : n.f0 = 1) {s : ByteArray} {T : Nat → Nat → Bool} (h : setI n.f1 s T s.size) (x y : Nat) (hx : x < s.size + 1) (hy : y < s.size + 1) : T x y = true ↔ segM [n] (bytesOf s) x y = true := by
  rw [h x y hx hy, segM_set n (by omega) _ _ _ (by rw [bytesOf_length]; omega), Bool.and_eq_true, decide_eq_true_eq]
  exact ⟨fun h => h.1, fun h => ⟨h, by omega⟩⟩
theorem bt_getD (s : ByteArray) (i : Int) : bt s i = (bytesOf s).getD i.toNat 0 := (rd_bytesOf s i).symm
theorem bytes_in (s : ByteArray) (x : Nat) : 0 ≤ (bytesOf s).getD x 0 ∧ (bytesOf s).getD x 0 ≤ 255 := by
  have h := bt_range s (x : Int)
  rwa [bt_getD, Int.toNat_natCast] at h
theorem allN_step {s : ByteArray} {T : Nat → Nat → Bool} (h : ∀ x y, x < s.size + 1 → y < s.size + 1 → (T x y = true ↔ segM [allN] (bytesOf s) x y = true)) (x y : Nat) (hx : x < s.size + 1) (hy : y < s.size + 1) : T x y = true ↔ y = x + 1 := by
  rw [h x y hx hy, segM_set allN (by show (1 : Int) ≠ 4; decide) _ _ _ (by rw [bytesOf_length]; omega), Bool.and_eq_true, decide_eq_true_eq]
  constructor
  · exact fun h => h.1
  · intro he
    refine ⟨he, ?_⟩
    have hb := bytes_in s x
    generalize (bytesOf s).getD x 0 = c at hb ⊢
    show inR [(⟨0, 255⟩ : RR)] c = true
    rw [inR_just]
    simp [hb]
theorem all_in : allN.f0 = 1 ∧ ∀ r ∈ allN.f1, 0 ≤ r.f0 ∧ r.f0 ≤ 255 ∧ 0 ≤ r.f1 ∧ r.f1 ≤ 255 := ⟨rfl, fun r hr => by rw [List.mem_singleton.1 hr]; decide⟩
theorem star_seg {s : ByteArray} {T : Nat → Nat → Bool} {x y : Nat} (h : T x y = true ↔ x < y ∨ x = y) : T x y = true ↔ segM [starN] (bytesOf s) x y = true := by
  rw [h, segM_star starN rfl, decide_eq_true_eq]
  omega
theorem seg_take {K : List NN} {s : ByteArray} {i : Nat} (hi : i < K.length) {T P Q : Nat → Nat → Bool} (hP : ∀ x y, x < s.size + 1 → y < s.size + 1 → (P x y = true ↔ segM (K.take i) (bytesOf s) x y = true)) (hQ : ∀ x y, x < s.size + 1 → y < s.size + 1 → (Q x y = true ↔ segM [K.getD i zN] (bytesOf s) x y = true))
    (hT : ∀ x y, x < s.size + 1 → y < s.size + 1 → (T x y = true ↔ ∃ m, m < s.size + 1 ∧ P x m = true ∧ Q m y = true)) : ∀ x y, x < s.size + 1 → y < s.size + 1 → (T x y = true ↔ segM (K.take (i + 1)) (bytesOf s) x y = true) := fun x y hx hy => by
  have e : K.take (i + 1) = K.take i ++ [K.getD i zN] := by
    rw [List.take_add_one, List.getD_eq_getElem?_getD, List.getElem?_eq_getElem hi]
    rfl
  rw [hT x y hx hy, e, segM_app _ _ _ _ _ (by rw [bytesOf_length]; omega), bytesOf_length]
  constructor
  · rintro ⟨m, h1, h2, h3⟩
    exact ⟨m, by omega, (hP x m hx h1).1 h2, (hQ m y h1 hy).1 h3⟩
  · rintro ⟨m, h1, h2, h3⟩
    exact ⟨m, by omega, (hP x m hx (by omega)).2 h2, (hQ m y (by omega) hy).2 h3⟩
theorem seg_none {s : ByteArray} {T : Nat → Nat → Bool} (h : ∀ x y, x < s.size + 1 → y < s.size + 1 → (T x y = true ↔ x = y)) : ∀ x y, x < s.size + 1 → y < s.size + 1 → (T x y = true ↔ segM [] (bytesOf s) x y = true) := fun x y hx hy => by
  rw [h x y hx hy, segM_none _ _ _ (by rw [bytesOf_length]; omega), decide_eq_true_eq]
theorem kid_set (rs : List RR) (h : ∀ r ∈ rs, 0 ≤ r.f0 ∧ r.f0 ≤ 255 ∧ 0 ≤ r.f1 ∧ r.f1 ≤ 255) : kidOK (setN rs) := .inl ⟨rfl, h⟩
theorem kid_one (c : Int) (h : 0 ≤ c ∧ c ≤ 255) : kidOK (oneN c) := kid_set _ fun r hr => by rw [List.mem_singleton.1 hr]; exact ⟨h.1, h.2, h.1, h.2⟩
theorem kid_all : kidOK allN := kid_set _ fun r hr => by rw [List.mem_singleton.1 hr]; decide
theorem kid_snoc {acc : List NN} {x : NN} (h : ∀ y ∈ acc, kidOK y) (hx : kidOK x) : ∀ y ∈ acc ++ [x], kidOK y := fun y hy => by
  rcases List.mem_append.1 hy with h1 | h1
  · exact h y h1
  · rw [List.mem_singleton.1 h1]; exact hx
theorem byteS_mem : ∀ {t : List Int} {x : Int} {q : Bool} {r : List Int}, byteS t = some (x, q, r) → x ∈ t ∧ ∀ y ∈ r, y ∈ t
  | [], _, _, _, h => by cases h
  | c :: t, x, q, r, h => by
    rw [byteS_cons] at h
    split at h
    · cases t with
      | nil => cases h
      | cons d t => simp only [Option.some.injEq, Prod.mk.injEq] at h; obtain ⟨rfl, _, rfl⟩ := h; exact ⟨by simp, fun y hy => by simp [hy]⟩
    · simp only [Option.some.injEq, Prod.mk.injEq] at h; obtain ⟨rfl, _, rfl⟩ := h; exact ⟨by simp, fun y hy => by simp [hy]⟩
theorem classS_mem : ∀ (k : Nat) (t : List Int) (f : Bool) (acc rs : List RR) (r : List Int), classS k t f acc = .inl (rs, r) → ∀ y ∈ r, y ∈ t
  | 0, _, _, _, _, _, h => by cases h
  | k + 1, t, f, acc, rs, r, h => by
    rw [classS] at h
    cases hb : byteS t with
    | none => rw [hb] at h; cases h
    | some v =>
      obtain ⟨lo, q, r1⟩ := v
      have h1 := (byteS_mem hb).2
      rw [hb] at h
      simp only at h
      split at h
      · cases h; exact h1
      split at h
      · cases hb2 : byteS r1.tail with
        | none => rw [hb2] at h; cases h
        | some v2 =>
          obtain ⟨hi, q2, r2⟩ := v2
          rw [hb2] at h
          simp only at h
          have h2 := (byteS_mem hb2).2
          split at h
          · cases h
          · exact fun y hy => h1 y (List.mem_of_mem_tail (h2 y (classS_mem k _ _ _ _ _ h y hy)))
      · exact fun y hy => h1 y (classS_mem k _ _ _ _ _ h y hy)
theorem classT_mem {t : List Int} {rs : List RR} {nt : Bool} {r : List Int} (h : classT t = .inl (rs, nt, r)) : ∀ y ∈ r, y ∈ t := by
  unfold classT at h
  cases hc : classS (t.length + 1) (if t.head? = some 33 then t.tail else t) true [] with
  | inr v => rw [hc] at h; cases h
  | inl v =>
    obtain ⟨rs', r'⟩ := v
    rw [hc] at h
    cases h
    intro y hy
    have := classS_mem _ _ _ _ _ _ hc y hy
    split at this
    · exact List.mem_of_mem_tail this
    · exact this
theorem parseS_kids : ∀ (k : Nat) (t : List Int) (acc K : List NN), parseS k t acc = .inl K → (∀ c ∈ t, 0 ≤ c ∧ c ≤ 255) → (∀ y ∈ acc, kidOK y) → ∀ y ∈ K, kidOK y
  | 0, t, acc, K, h, _, _ => by cases h
  | k + 1, [], acc, K, h, _, ha => by rw [parseS] at h; cases h; exact ha
  | k + 1, c :: t, acc, K, h, ht, ha => by
    rw [parseS] at h
    cases hb : byteS (c :: t) with
    | none => rw [hb] at h; cases h
    | some v =>
      obtain ⟨x, q, r⟩ := v
      obtain ⟨hx, hr⟩ := byteS_mem hb
      have hx := ht x hx
      have hr : ∀ c ∈ r, 0 ≤ c ∧ c ≤ 255 := fun c hc => ht c (hr c hc)
      rw [hb] at h
      simp only at h
      split at h
      · exact parseS_kids k r _ K h hr (kid_snoc ha (kid_one x hx))
      split at h
      · exact parseS_kids k r _ K h hr (kid_snoc ha kid_all)
      split at h
      · exact parseS_kids k r _ K h hr (kid_snoc ha (.inr rfl))
      split at h
      · cases hc : classT r with
        | inr v => rw [hc] at h; cases h
        | inl v =>
          obtain ⟨rs, nt, r2⟩ := v
          have hc3 := classT_mem hc
          rw [hc] at h
          exact parseS_kids k r2 _ K h (fun c h2 => hr c (hc3 c h2)) (kid_snoc ha (kid_set _ (canonN_byte _ 256 (Nat.le_refl _))))
      · exact parseS_kids k r _ K h hr (kid_snoc ha (kid_one x hx))
theorem parseG_kids (s : ByteArray) : ∀ y ∈ (parseG s).2.1, kidOK y := by
  unfold parseG
  by_cases hl : 256 < (s.size : Int)
  · rw [if_pos hl]; exact fun y hy => by cases hy
  · rw [if_neg hl]
    cases hp : parseS (s.size + 1) (bytesOf s) [] with
    | inr v => exact fun y hy => by cases hy
    | inl K =>
      refine parseS_kids _ _ _ _ hp (fun c hc => ?_) (fun y hy => by cases hy)
      obtain ⟨j, hj, rfl⟩ := List.mem_iff_getElem.1 hc
      have := bytes_in s j
      rwa [List.getD_eq_getElem?_getD, List.getElem?_eq_getElem hj] at this
end Go.Proofs.YtelbgmpeghhakaaGreat.PA
end
