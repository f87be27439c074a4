/- pack.Num and pack.Text, told by what they leave; places in what is read back. -/
import Derived.Test.YtmlemnfleicnfaaHBack
import Derived.Test.YtmlemnfleicnfaaHKeep
import Derived.Test.YtmlemnfleicnfaaPAx17
import Derived.Test.YtmlemnfleicnfaaPAx18
import Derived.Test.YtmlemnfleicnfaaPAx20
namespace Go.Proofs.Ytmlemnfleicnfaa.PA
open Go.RowKit Go.Proofs.YtmlemnfleicnfaaW.PrintWords Go.Proofs.YtmlemnfleicnfaaW.PrintLast Go.Proofs.YtmlemnfleicnfaaW.PrintMore
set_option linter.unusedVariables false
set_option linter.unusedSimpArgs false
theorem enc_len (f : Nat) : ∀ u, (putN f u).length ≤ f := by
  induction f with
  | zero => intro u; simp [putN]
  | succ f ih =>
    intro u
    unfold putN
    split
    · have := ih (u / 128)
      simp; omega
    · simp
theorem num_f (xs : List Int) (n : Int) (h : xs.length < 140737488355300) : pack_Num.f xs n = some (xs ++ encN n) := by
  unfold pack_Num.f slices_Clone_byte_byte.f
  rw [if_pos (by omega), Option.bind_some]
  unfold pack_put.f
  rw [if_pos h]
  rfl
theorem text_f (xs : List Int) (s : ByteArray) (h : xs.length + s.size < 140737488355300) : pack_Text.f xs s = some (xs ++ encT s) := by
  unfold pack_Text.f
  rw [num_f xs _ (by omega), Option.bind_some, if_pos (by have := enc_len 9 (numOf s.size); simp only [encN, List.length_append]; omega)]
  simp [encT, List.append_assoc]
theorem num_own (A : Option Addr) (c : Nat) (xs : List Int) (n : Int) (w : World) (hr : Kd.C (Kd.int .u8) w A xs.length xs) (hc : xs.length ≤ c) (h : xs.length < 140737488355300) :
    Calls Try.prog 19 #[.slice A xs.length c, .int .i64 n] w fun e w' => ∃ A' c' S, e = .returned (.slice A' (xs ++ encN n).length c') ∧ Out w w' (fun _ => False) [Chunk.row (Kd.int .u8) 5 w.heap.size S (.slice A' (xs ++ encN n).length c') (xs ++ encN n)] := by
  refine (pack_Num.calls A c xs n _ w hr hc (num_f xs n h)).mono ?_
  rintro e w' ⟨v, rfl, hR, hb⟩
  obtain ⟨A', c', rfl⟩ := Kd.R_slice hR
  exact ⟨A', c', _, rfl, Out.row hR hb⟩
theorem text_own (A : Option Addr) (c : Nat) (xs : List Int) (s : ByteArray) (w : World) (hr : Kd.C (Kd.int .u8) w A xs.length xs) (hc : xs.length ≤ c) (h : xs.length + s.size < 140737488355300) :
    Calls Try.prog 20 #[.slice A xs.length c, .string s] w fun e w' => ∃ A' c' S, e = .returned (.slice A' (xs ++ encT s).length c') ∧ Out w w' (fun _ => False) [Chunk.row (Kd.int .u8) 5 w.heap.size S (.slice A' (xs ++ encT s).length c') (xs ++ encT s)] := by
  refine (pack_Text.calls A c xs s _ w hr hc (text_f xs s h)).mono ?_
  rintro e w' ⟨v, rfl, hR, hb⟩
  obtain ⟨A', c', rfl⟩ := Kd.R_slice hR
  exact ⟨A', c', _, rfl, Out.row hR hb⟩
theorem putN_byte : ∀ f u, ByteL (putN f u)
  | 0, _ => fun x hx => by simp [putN] at hx
  | f + 1, u => fun x hx => by
    unfold putN at hx
    split at hx
    · rcases List.mem_cons.1 hx with rfl | hx
      · omega
      · exact putN_byte f _ x hx
    · simp only [List.mem_singleton] at hx
      omega
theorem byteL_app {l m : List Int} (h : ByteL l) (k : ByteL m) : ByteL (l ++ m) := fun x hx => (List.mem_append.1 hx).elim (h x) (k x)
theorem bytesOf_byte (s : ByteArray) : ByteL (bytesOf s) := fun x hx => by
  simp only [bytesOf, List.mem_map] at hx
  obtain ⟨b, _, rfl⟩ := hx
  have := b.toNat_lt
  omega
theorem encNi_byte (ns : List Int) : ∀ f i, ByteL (encNi ns f i)
  | 0, _ => fun x hx => by simp [encNi] at hx
  | f + 1, i => by
    unfold encNi
    split
    · exact byteL_app (putN_byte _ _) (encNi_byte ns f (i + 1))
    · exact fun x hx => by simp at hx
theorem encTi_byte (ts : List ByteArray) : ∀ f i, ByteL (encTi ts f i)
  | 0, _ => fun x hx => by simp [encTi] at hx
  | f + 1, i => by
    unfold encTi
    split
    · exact byteL_app (byteL_app (putN_byte _ _) (bytesOf_byte _)) (encTi_byte ts f (i + 1))
    · exact fun x hx => by simp at hx
section
variable {ns : List Int} {ts : List ByteArray} {i : Int} {xs : List Int} {r : Option (List Int)} {n : Int} {k : Nat} {bs : List Int}
theorem numOf_is (x : Int) : (numOf x : Int) = mn (mx x 0) 4611686018427387904 := by
  unfold numOf mn mx
  split <;> split <;> omega
theorem fn_num (h0 : 0 ≤ i) (h : finNi ns ts (51 - i.toNat) i.toNat xs = some r) (h1 : i < ns.length) (h2 : i < 50) (hg : gnum xs = some (n, k)) : n = mn (mx (ns.getD i.toNat 0) 0) 4611686018427387904 ∧ finNi ns ts (51 - (i + 1).toNat) (i + 1).toNat (xs.drop k) = some r := by
  rw [show 51 - i.toNat = (50 - i.toNat) + 1 by omega] at h
  unfold finNi at h
  rw [if_pos (by omega), hg] at h
  simp only at h
  split at h
  · rename_i hv
    refine ⟨by rw [hv, numOf_is], ?_⟩
    rw [show (i + 1).toNat = i.toNat + 1 by omega, show 51 - (i.toNat + 1) = 50 - i.toNat by omega]
    exact h
  · cases h
theorem fn_pan (h0 : 0 ≤ i) (h : finNi ns ts (51 - i.toNat) i.toNat xs = some r) (h1 : i < ns.length) (h2 : i < 50) (hg : gnum xs = none) : r = none := by
  rw [show 51 - i.toNat = (50 - i.toNat) + 1 by omega] at h
  unfold finNi at h
  rw [if_pos (by omega), hg] at h
  simp only [Option.some.injEq] at h
  exact h.symm
theorem fn_out (h0 : 0 ≤ i) (hi : i ≤ 50) (h : finNi ns ts (51 - i.toNat) i.toNat xs = some r) (h1 : ¬ (i < ns.length ∧ i < 50)) : finTi ts (51 - (0 : Int).toNat) (0 : Int).toNat xs = some r := by
  rw [show 51 - i.toNat = (50 - i.toNat) + 1 by omega] at h
  unfold finNi at h
  rw [if_neg (by omega)] at h
  exact h
theorem ft_text (h0 : 0 ≤ i) (h : finTi ts (51 - i.toNat) i.toNat xs = some r) (h1 : i < ts.length) (h2 : i < 50) (h3 : ((ts.getD i.toNat ⟨#[]⟩).size : Int) ≤ 500) (hg : gtext xs 500 = some (bs, k)) : strOfNums bs = ts.getD i.toNat ⟨#[]⟩ ∧ finTi ts (51 - (i + 1).toNat) (i + 1).toNat (xs.drop k) = some r := by
  rw [show 51 - i.toNat = (50 - i.toNat) + 1 by omega] at h
  unfold finTi at h
  rw [if_pos (by omega), hg] at h
  simp only at h
  split at h
  · rename_i hv
    refine ⟨hv, ?_⟩
    rw [show (i + 1).toNat = i.toNat + 1 by omega, show 51 - (i.toNat + 1) = 50 - i.toNat by omega]
    exact h
  · cases h
theorem ft_pan (h0 : 0 ≤ i) (h : finTi ts (51 - i.toNat) i.toNat xs = some r) (h1 : i < ts.length) (h2 : i < 50) (h3 : ((ts.getD i.toNat ⟨#[]⟩).size : Int) ≤ 500) (hg : gtext xs 500 = none) : r = none := by
  rw [show 51 - i.toNat = (50 - i.toNat) + 1 by omega] at h
  unfold finTi at h
  rw [if_pos (by omega), hg] at h
  simp only [Option.some.injEq] at h
  exact h.symm
theorem ft_out (h0 : 0 ≤ i) (hi : i ≤ 50) (h : finTi ts (51 - i.toNat) i.toNat xs = some r) (h1 : ¬ (i < ts.length ∧ i < 50 ∧ ((ts.getD i.toNat ⟨#[]⟩).size : Int) ≤ 500)) : r = some xs := by
  rw [show 51 - i.toNat = (50 - i.toNat) + 1 by omega] at h
  unfold finTi at h
  rw [if_neg (by omega)] at h
  simp only [Option.some.injEq] at h
  exact h.symm
theorem en_in (h0 : 0 ≤ i) (h1 : i < ns.length) (h2 : i < 50) : encNi ns (51 - i.toNat) i.toNat = encN (ns.getD i.toNat 0) ++ encNi ns (51 - (i + 1).toNat) (i + 1).toNat := by
  rw [show 51 - i.toNat = (50 - i.toNat) + 1 by omega, show (i + 1).toNat = i.toNat + 1 by omega, show 51 - (i.toNat + 1) = 50 - i.toNat by omega]
  conv => lhs; unfold encNi
  rw [if_pos (by omega)]
theorem en_out (h0 : 0 ≤ i) (hi : i ≤ 50) (h1 : ¬ (i < ns.length ∧ i < 50)) : encNi ns (51 - i.toNat) i.toNat = [] := by
  rw [show 51 - i.toNat = (50 - i.toNat) + 1 by omega]
  unfold encNi
  rw [if_neg (by omega)]
theorem et_in (h0 : 0 ≤ i) (h1 : i < ts.length) (h2 : i < 50) (h3 : ((ts.getD i.toNat ⟨#[]⟩).size : Int) ≤ 500) : encTi ts (51 - i.toNat) i.toNat = encT (ts.getD i.toNat ⟨#[]⟩) ++ encTi ts (51 - (i + 1).toNat) (i + 1).toNat := by
  rw [show 51 - i.toNat = (50 - i.toNat) + 1 by omega, show (i + 1).toNat = i.toNat + 1 by omega, show 51 - (i.toNat + 1) = 50 - i.toNat by omega]
  conv => lhs; unfold encTi
  rw [if_pos (by omega)]
theorem et_out (h0 : 0 ≤ i) (hi : i ≤ 50) (h1 : ¬ (i < ts.length ∧ i < 50 ∧ ((ts.getD i.toNat ⟨#[]⟩).size : Int) ≤ 500)) : encTi ts (51 - i.toNat) i.toNat = [] := by
  rw [show 51 - i.toNat = (50 - i.toNat) + 1 by omega]
  unfold encTi
  rw [if_neg (by omega)]
theorem encN_len (x : Int) : (encN x).length ≤ 9 := enc_len 9 _
theorem encT_len (s : ByteArray) : (encT s).length ≤ 9 + s.size := by
  have := enc_len 9 (numOf s.size)
  simp only [encT, encN, List.length_append, bytesOf_length]
  omega
def ecOf : Option (List Int) → Int
  | some q => if q.length = 0 then 0 else 80
  | none => 80
theorem fin1 (h : bs = encNi ns 51 0 ++ encTi ts 51 0) : finNi ns ts 51 0 bs = some (some []) := by
  have := finNi_enc ns ts [] 51 0
  rw [List.append_nil, ← h] at this
  exact this
theorem fin2 (h : bs = encNi ns 51 0 ++ encTi ts 51 0) : finNi ns ts 51 0 (bs ++ [0]) = some (some [0]) := by
  have := finNi_enc ns ts [0] 51 0
  rw [← List.append_assoc, ← h] at this
  exact this
theorem fin3 (h : bs = encNi ns 51 0 ++ encTi ts 51 0) (hn : ¬ (bs.length : Int) = 0) : finNi ns ts 51 0 (bs.take ((bs.length : Int) - 1).toNat) = some none := by
  have e : bs.take ((bs.length : Int) - 1).toNat = bs.dropLast := by
    rw [List.dropLast_eq_take]
    congr 1
    omega
  rw [e, h]
  refine finNi_cut ns ts 51 0 ?_
  rw [← h]
  intro h0
  rw [h0] at hn
  exact hn rfl
end
end Go.Proofs.Ytmlemnfleicnfaa.PA
