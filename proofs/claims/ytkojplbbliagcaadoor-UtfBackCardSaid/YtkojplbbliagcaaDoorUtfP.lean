/- What the document's functions on characters tell: Char, At, Read, Put. -/
import Derived.Test.YtkojplbbliagcaaDoorGUtfx3
import Derived.Test.YtkojplbbliagcaaDoorUtfR
namespace Go.Proofs.YtkojplbbliagcaaDoor.U
open Go.RowKit Go.Lib Go.Proofs.YtkojplbbliagcaaDoor.GUtf Go.Proofs.YtkojplbbliagcaaDoorW.PrintWords Go.Proofs.YtkojplbbliagcaaDoorW.PrintLast
set_option linter.unusedVariables false
set_option linter.unusedSimpArgs false
instance (x : Nat × Nat) : Decidable (Good x) := by unfold Good; infer_instance
instance (b0 : Nat) : Decidable (isOne b0) := by unfold isOne; infer_instance
instance (n b0 b1 : Nat) : Decidable (isTwo n b0 b1) := by unfold isTwo; infer_instance
instance (n b0 b1 b2 : Nat) : Decidable (isThree n b0 b1 b2) := by unfold isThree; infer_instance
instance (n b0 b1 b2 b3 : Nat) : Decidable (isFour n b0 b1 b2 b3) := by unfold isFour; infer_instance
theorem w64 {n : Int} (h : -9223372036854775808 ≤ n) (h2 : n ≤ 9223372036854775807) : wrap64 n = n := by unfold wrap64; omega
theorem w32 {n : Int} (h : -2147483648 ≤ n) (h2 : n ≤ 2147483647) : wrap32 n = n := by unfold wrap32; omega
theorem char_f (k : Nat) (c : Int) (h0 : -2147483648 ≤ c) (h1 : c ≤ 2147483647) : dioramaref05_Char.f (k + 1) c = some (strOfNums (charZ c)) := by
  have hd : ∀ d : Int, 0 ≤ c → Int.tdiv c d = c / d := fun d h => Int.tdiv_eq_ediv_of_nonneg h
  have hm : ∀ d : Int, 0 ≤ c → Int.tmod c d = c % d := fun d h => Int.tmod_eq_emod_of_nonneg h
  have ht : dioramaref05_Char.j0 (k + 1) c true = some (strOfNums []) := by rw [dioramaref05_Char.j0, if_pos rfl]; rfl
  unfold dioramaref05_Char.f
  by_cases c0 : c < 0
  · rw [if_pos c0, ht, charZ_bad (by omega)]
  rw [if_neg c0]
  by_cases c1 : c > 1114111
  · rw [if_pos c1, ht, charZ_bad (by omega)]
  rw [if_neg c1]
  have hf : ¬ (55296 ≤ c ∧ c ≤ 57343) → dioramaref05_Char.j0 (k + 1) c false = some (strOfNums (charZ c)) := by
    intro hs
    have q1 : 0 ≤ c / 64 := Int.ediv_nonneg (by omega) (by omega)
    have q2 : 0 ≤ c / 4096 := Int.ediv_nonneg (by omega) (by omega)
    have q3 : 0 ≤ c / 262144 := Int.ediv_nonneg (by omega) (by omega)
    rw [dioramaref05_Char.j0, if_neg (by simp), w64 (n := c) (by omega) (by omega)]
    by_cases g1 : c < 128
    · rw [if_pos g1, charZ_1 (by omega), show c % 256 = c by omega]
    rw [if_neg g1]
    simp only [hd _ (show 0 ≤ c by omega), hm _ (show 0 ≤ c by omega)]
    rw [w64 (n := c / 64) (by omega) (by omega), w64 (n := c / 4096) (by omega) (by omega), w64 (n := c / 262144) (by omega) (by omega), Int.tmod_eq_emod_of_nonneg q1, Int.tmod_eq_emod_of_nonneg q2]
    by_cases g2 : c < 2048
    · rw [if_pos g2, charZ_2 (by omega), w64 (by omega) (by omega), w64 (by omega) (by omega), show (192 + c / 64) % 256 = 192 + c / 64 by omega, show (128 + c % 64) % 256 = 128 + c % 64 by omega]
    rw [if_neg g2]
    by_cases g3 : c < 65536
    · rw [if_pos g3, charZ_3 (by omega), w64 (by omega) (by omega), w64 (by omega) (by omega), w64 (by omega) (by omega), show (224 + c / 4096) % 256 = 224 + c / 4096 by omega, show (128 + c / 64 % 64) % 256 = 128 + c / 64 % 64 by omega, show (128 + c % 64) % 256 = 128 + c % 64 by omega]
    rw [if_neg g3, charZ_4 (by omega), w64 (by omega) (by omega), w64 (by omega) (by omega), w64 (by omega) (by omega), w64 (by omega) (by omega), show (240 + c / 262144) % 256 = 240 + c / 262144 by omega, show (128 + c / 4096 % 64) % 256 = 128 + c / 4096 % 64 by omega, show (128 + c / 64 % 64) % 256 = 128 + c / 64 % 64 by omega, show (128 + c % 64) % 256 = 128 + c % 64 by omega]
  by_cases c2 : c ≥ 55296
  · rw [if_pos c2]
    by_cases c3 : c ≤ 57343
    · rw [decide_eq_true c3, ht, charZ_bad (by omega)]
    · rw [decide_eq_false c3]; exact hf (by omega)
  · rw [if_neg c2]; exact hf (by omega)
theorem charZ_byte (v : Int) : ∀ x ∈ charZ v, 0 ≤ x ∧ x < 256 := by
  unfold charZ
  split
  · exact encodeRuneZ_byte v
  · intro x hx; cases hx
theorem bytesZ_eq (s : ByteArray) (p n : Nat) (h : p + n ≤ s.size) : bytesZ s p n = (s.extract p (p + n)).data.toList.map fun b => (b.toNat : Int) := by
  have hl : s.data.toList.length = s.size := Array.length_toList
  unfold bytesZ
  rw [extract_data, Nat.add_sub_cancel_left]
  apply List.ext_getElem
  · simp; omega
  · intro i h1 h2
    simp only [List.length_map, List.length_range] at h1
    rw [List.getElem_map, List.getElem_map, List.getElem_range, List.getElem_take, List.getElem_drop, ← getD_get!', List.getD_eq_getElem?_getD, List.getElem?_eq_getElem (by omega)]
    rfl
theorem same_bytes (v : Int) (s : ByteArray) (p n : Nat) (h : p + n ≤ s.size) : ((strOfNums (charZ v)).toList = (s.extract p (p + n)).toList) = (charZ v = bytesZ s p n) := by
  rw [ByteArray.toList_eq, ByteArray.toList_eq, strOfNums_data, bytesZ_eq s p n h]
  generalize (s.extract p (p + n)).data.toList = L
  have hb := charZ_byte v
  generalize charZ v = Z at hb
  apply propext
  constructor
  · rintro rfl
    rw [List.map_map]
    conv => lhs; rw [← List.map_id Z]
    refine List.map_congr_left (fun x hx => ?_)
    have := hb x hx
    simp only [id, Function.comp, UInt8.toNat_ofNat']
    omega
  · rintro rfl
    rw [List.map_map]
    conv => rhs; rw [← List.map_id L]
    refine List.map_congr_left (fun x hx => ?_)
    simp [Function.comp]
theorem bt_get (s : ByteArray) (i : Nat) (h : i < s.size) : bt s (i : Int) = ((s.get! i).toNat : Int) := by
  unfold bt
  rw [Int.toNat_natCast, dif_pos h, ← getD_get!', List.getD_eq_getElem?_getD, List.getElem?_eq_getElem (by rw [Array.length_toList]; exact h)]
  rfl
/-- A size of At: what the loop l1 tells, with the number that it holds then. -/
theorem at_end (k : Nat) (s : ByteArray) (p i : Nat) (v : Int) (h0 : -1000000000 ≤ v) (h1 : v ≤ 1000000000) (hi : 1 ≤ i) (hi2 : i ≤ 4) (hp : p + i ≤ s.size) (hs : s.size ≤ 1000000) :
    dioramaref05_At.l1 (k + 2) s p i v i = if charZ v = bytesZ s p i then some (v, (i : Int)) else dioramaref05_At.l0 (k + 1) s p ((i : Int) + 1) := by
  have hbz : (bytesZ s p i).length = i := by unfold bytesZ; simp
  rw [dioramaref05_At.l1, if_neg (by omega)]
  by_cases hv : 0 ≤ v ∧ v ≤ 1114111
  · rw [if_pos hv.1, if_pos hv.2, w32 (by omega) (by omega), char_f k v (by omega) (by omega), Option.bind_some, if_pos (by omega), w64 (n := (p : Int) + i) (by omega) (by omega), if_pos (by omega), if_pos (by omega)]
    have e1 : ((p : Int) + (i : Int)).toNat = p + i := by omega
    rw [e1, Int.toNat_natCast]
    by_cases e : charZ v = bytesZ s p i
    · rw [if_pos e, if_pos ((same_bytes v s p i hp).symm ▸ e)]
    · rw [if_neg e, if_neg (fun h => e ((same_bytes v s p i hp) ▸ h)), w64 (by omega) (by omega)]
  · have hz : charZ v = [] := charZ_bad (by omega)
    have hne : ¬ charZ v = bytesZ s p i := by
      intro e
      rw [← e, hz] at hbz
      simp at hbz
      omega
    rw [if_neg hne]
    by_cases c0 : v ≥ 0
    · rw [if_pos c0, if_neg (by omega), w64 (by omega) (by omega)]
    · rw [if_neg c0, w64 (by omega) (by omega)]
/-- A round of At's loop l1. -/
theorem at_round (k : Nat) (s : ByteArray) (p i j : Nat) (v : Int) (h0 : -10000000 ≤ v) (h1 : v ≤ 10000000) (hj : j < i) (hi2 : i ≤ 4) (hp : p + i ≤ s.size) (hs : s.size ≤ 1000000) :
    dioramaref05_At.l1 (k + 1) s p i v j = dioramaref05_At.l1 k s p i (64 * v + ((s.get! (p + j)).toNat : Int) - 128) ((j + 1 : Nat) : Int) := by
  have hb := byte_lt s (p + j)
  have e1 : wrap64 ((p : Int) + (j : Int)) = ((p + j : Nat) : Int) := by rw [w64 (by omega) (by omega)]; omega
  rw [dioramaref05_At.l1, if_pos (by omega), e1, if_pos (by omega), if_pos (by omega), bt_get s (p + j) (by omega), w64 (n := 64 * v) (by omega) (by omega), w64 (n := ((s.get! (p + j)).toNat : Int)) (by omega) (by omega), w64 (n := 64 * v + _) (by omega) (by omega), w64 (by omega) (by omega), w64 (by omega) (by omega)]
  rfl
/-- At's number ahead of its loop. -/
theorem at_size (k : Nat) (s : ByteArray) (p i : Nat) (hi : 1 ≤ i) (hi2 : i ≤ 4) (hp : p + i ≤ s.size) (hs : s.size ≤ 1000000) :
    dioramaref05_At.l0 (k + 5) s p i = dioramaref05_At.l1 k s p i (((s.get! p).toNat : Int) - (if i = 2 then 192 else if i = 3 then 224 else if i = 4 then 240 else 0)) 1 := by
  have hb := byte_lt s p
  rw [dioramaref05_At.l0, if_pos (by omega), w64 (n := (p : Int) + i) (by omega) (by omega), decide_eq_true (show (p : Int) + i ≤ s.size by omega), dioramaref05_At.j1, if_pos rfl, if_pos (by omega), if_pos (by omega), bt_get s p (by omega), w64 (n := ((s.get! p).toNat : Int)) (by omega) (by omega)]
  obtain h | h | h | h : i = 1 ∨ i = 2 ∨ i = 3 ∨ i = 4 := by omega
  · subst h
    rw [if_neg (by decide), dioramaref05_At.j2, if_neg (by decide), dioramaref05_At.j3, if_neg (by decide), dioramaref05_At.j4]
    simp
  · subst h
    rw [if_pos (by decide), dioramaref05_At.j2, if_neg (by decide), dioramaref05_At.j3, if_neg (by decide), dioramaref05_At.j4, w64 (by omega) (by omega)]
    simp
  · subst h
    rw [if_neg (by decide), dioramaref05_At.j2, if_pos (by decide), dioramaref05_At.j3, if_neg (by decide), dioramaref05_At.j4, w64 (by omega) (by omega)]
    simp
  · subst h
    rw [if_neg (by decide), dioramaref05_At.j2, if_neg (by decide), dioramaref05_At.j3, if_pos (by decide), dioramaref05_At.j4, w64 (by omega) (by omega)]
    simp
theorem at_out (k : Nat) (s : ByteArray) (p i : Nat) (hi : 1 ≤ i) (hi2 : i ≤ 5) (hp : i = 5 ∨ ¬ p + i ≤ s.size) (hs : s.size ≤ 1000000) (hps : p ≤ s.size) :
    dioramaref05_At.l0 (k + 2) s p i = some (0, 0) := by
  rw [dioramaref05_At.l0]
  by_cases h5 : i = 5
  · subst h5
    rw [if_neg (by decide), dioramaref05_At.j1, if_neg (by simp)]
  · rw [if_pos (by omega), w64 (n := (p : Int) + i) (by omega) (by omega), decide_eq_false (show ¬ (p : Int) + i ≤ s.size by omega), dioramaref05_At.j1, if_neg (by simp)]
theorem at_f (k : Nat) (s : ByteArray) (p : Nat) (hp : p < s.size) (hs : s.size ≤ 1000000) :
    dioramaref05_At.f (k + 40) s p = some (if Good (Utf8.decode s p) then (((Utf8.decode s p).1 : Int), ((Utf8.decode s p).2 : Int)) else (0, 0)) := by
  have q0 := byte_lt s p
  have q1 := byte_lt s (p + 1)
  have q2 := byte_lt s (p + 2)
  have q3 := byte_lt s (p + 3)
  have z1 : bytesZ s p 1 = [((s.get! p).toNat : Int)] := by simp [bytesZ, List.range_succ]
  have z2 : bytesZ s p 2 = [((s.get! p).toNat : Int), ((s.get! (p + 1)).toNat : Int)] := by simp [bytesZ, List.range_succ]
  have z3 : bytesZ s p 3 = [((s.get! p).toNat : Int), ((s.get! (p + 1)).toNat : Int), ((s.get! (p + 2)).toNat : Int)] := by simp [bytesZ, List.range_succ]
  have z4 : bytesZ s p 4 = [((s.get! p).toNat : Int), ((s.get! (p + 1)).toNat : Int), ((s.get! (p + 2)).toNat : Int), ((s.get! (p + 3)).toNat : Int)] := by simp [bytesZ, List.range_succ]
  -- the four sizes
  have r1 : ∀ k, dioramaref05_At.l0 (k + 7) s p 1 = if isOne (s.get! p).toNat then some (((s.get! p).toNat : Int), 1) else dioramaref05_At.l0 (k + 1) s p 2 := by
    intro k
    have h := at_size (k + 2) s p 1 (by omega) (by omega) (by omega) hs
    have h2 := at_end k s p 1 ((s.get! p).toNat : Int) (by omega) (by omega) (by omega) (by omega) (by omega) hs
    simp only [show ¬ (1 : Nat) = 2 by decide, show ¬ (1 : Nat) = 3 by decide, show ¬ (1 : Nat) = 4 by decide, if_false, Int.sub_zero, Int.natCast_one] at h h2
    rw [show k + 7 = k + 2 + 5 by omega, h, h2, z1]
    by_cases c : isOne (s.get! p).toNat
    · rw [if_pos c, if_pos (charZ_1 (by unfold isOne at c; omega))]
    · rw [if_neg c, if_neg (fun e => c (by have := (charZ_one _ _).1 e; unfold isOne; omega))]; rfl
  have r2 : ∀ k, dioramaref05_At.l0 (k + 8) s p 2 = if isTwo (s.size - p) (s.get! p).toNat (s.get! (p + 1)).toNat then some (v2 (s.get! p).toNat (s.get! (p + 1)).toNat, 2) else if p + 2 ≤ s.size then dioramaref05_At.l0 (k + 1) s p 3 else some (0, 0) := by
    intro k
    by_cases hp2 : p + 2 ≤ s.size
    · have h := at_size (k + 3) s p 2 (by omega) (by omega) (by omega) hs
      have h3 := at_round (k + 2) s p 2 1 (((s.get! p).toNat : Int) - 192) (by omega) (by omega) (by omega) (by omega) (by omega) hs
      have h2 := at_end k s p 2 (v2 (s.get! p).toNat (s.get! (p + 1)).toNat) (by unfold v2; omega) (by unfold v2; omega) (by omega) (by omega) (by omega) hs
      have e : 64 * (((s.get! p).toNat : Int) - 192) + ((s.get! (p + 1)).toNat : Int) - 128 = v2 (s.get! p).toNat (s.get! (p + 1)).toNat := rfl
      rw [e] at h3
      simp only [if_true] at h
      have hl := h.trans (h3.trans h2)
      rw [show k + 8 = k + 3 + 5 by omega]
      refine hl.trans ?_
      rw [z2, if_pos hp2]
      by_cases c : charZ (v2 (s.get! p).toNat (s.get! (p + 1)).toNat) = [((s.get! p).toNat : Int), ((s.get! (p + 1)).toNat : Int)]
      · rw [if_pos c, if_pos (show isTwo _ _ _ from ⟨by omega, c⟩)]; rfl
      · rw [if_neg c, if_neg (show ¬ isTwo _ _ _ from fun e => c e.2)]; rfl
    · have := at_out (k + 6) s p 2 (by omega) (by omega) (.inr hp2) hs (by omega)
      rw [if_neg (show ¬ isTwo _ _ _ from fun e => hp2 (by have := e.1; omega)), if_neg hp2]
      exact this
  have r3 : ∀ k, p + 2 ≤ s.size → dioramaref05_At.l0 (k + 9) s p 3 = if isThree (s.size - p) (s.get! p).toNat (s.get! (p + 1)).toNat (s.get! (p + 2)).toNat then some (v3 (s.get! p).toNat (s.get! (p + 1)).toNat (s.get! (p + 2)).toNat, 3) else if p + 3 ≤ s.size then dioramaref05_At.l0 (k + 1) s p 4 else some (0, 0) := by
    intro k _
    by_cases hp3 : p + 3 ≤ s.size
    · have h := at_size (k + 4) s p 3 (by omega) (by omega) (by omega) hs
      have h3 := at_round (k + 3) s p 3 1 (((s.get! p).toNat : Int) - 224) (by omega) (by omega) (by omega) (by omega) (by omega) hs
      have h4 := at_round (k + 2) s p 3 2 (64 * (((s.get! p).toNat : Int) - 224) + ((s.get! (p + 1)).toNat : Int) - 128) (by omega) (by omega) (by omega) (by omega) (by omega) hs
      have h2 := at_end k s p 3 (v3 (s.get! p).toNat (s.get! (p + 1)).toNat (s.get! (p + 2)).toNat) (by unfold v3; omega) (by unfold v3; omega) (by omega) (by omega) (by omega) hs
      have e : 64 * (64 * (((s.get! p).toNat : Int) - 224) + ((s.get! (p + 1)).toNat : Int) - 128) + ((s.get! (p + 2)).toNat : Int) - 128 = v3 (s.get! p).toNat (s.get! (p + 1)).toNat (s.get! (p + 2)).toNat := rfl
      rw [e] at h4
      simp only [show ¬ (3 : Nat) = 2 by decide, if_true, if_false] at h
      have hl := h.trans (h3.trans (h4.trans h2))
      rw [show k + 9 = k + 4 + 5 by omega]
      refine hl.trans ?_
      rw [z3, if_pos hp3]
      by_cases c : charZ (v3 (s.get! p).toNat (s.get! (p + 1)).toNat (s.get! (p + 2)).toNat) = [((s.get! p).toNat : Int), ((s.get! (p + 1)).toNat : Int), ((s.get! (p + 2)).toNat : Int)]
      · rw [if_pos c, if_pos (show isThree _ _ _ _ from ⟨by omega, c⟩)]; rfl
      · rw [if_neg c, if_neg (show ¬ isThree _ _ _ _ from fun e => c e.2)]; rfl
    · have := at_out (k + 7) s p 3 (by omega) (by omega) (.inr hp3) hs (by omega)
      rw [if_neg (show ¬ isThree _ _ _ _ from fun e => hp3 (by have := e.1; omega)), if_neg hp3]
      exact this
  have r4 : ∀ k, p + 3 ≤ s.size → dioramaref05_At.l0 (k + 10) s p 4 = if isFour (s.size - p) (s.get! p).toNat (s.get! (p + 1)).toNat (s.get! (p + 2)).toNat (s.get! (p + 3)).toNat then some (v4 (s.get! p).toNat (s.get! (p + 1)).toNat (s.get! (p + 2)).toNat (s.get! (p + 3)).toNat, 4) else if p + 4 ≤ s.size then dioramaref05_At.l0 (k + 1) s p 5 else some (0, 0) := by
    intro k _
    by_cases hp4 : p + 4 ≤ s.size
    · have h := at_size (k + 5) s p 4 (by omega) (by omega) (by omega) hs
      have h3 := at_round (k + 4) s p 4 1 (((s.get! p).toNat : Int) - 240) (by omega) (by omega) (by omega) (by omega) (by omega) hs
      have h4 := at_round (k + 3) s p 4 2 (64 * (((s.get! p).toNat : Int) - 240) + ((s.get! (p + 1)).toNat : Int) - 128) (by omega) (by omega) (by omega) (by omega) (by omega) hs
      have h5 := at_round (k + 2) s p 4 3 (64 * (64 * (((s.get! p).toNat : Int) - 240) + ((s.get! (p + 1)).toNat : Int) - 128) + ((s.get! (p + 2)).toNat : Int) - 128) (by omega) (by omega) (by omega) (by omega) (by omega) hs
      have h2 := at_end k s p 4 (v4 (s.get! p).toNat (s.get! (p + 1)).toNat (s.get! (p + 2)).toNat (s.get! (p + 3)).toNat) (by unfold v4; omega) (by unfold v4; omega) (by omega) (by omega) (by omega) hs
      have e : 64 * (64 * (64 * (((s.get! p).toNat : Int) - 240) + ((s.get! (p + 1)).toNat : Int) - 128) + ((s.get! (p + 2)).toNat : Int) - 128) + ((s.get! (p + 3)).toNat : Int) - 128 = v4 (s.get! p).toNat (s.get! (p + 1)).toNat (s.get! (p + 2)).toNat (s.get! (p + 3)).toNat := rfl
      rw [e] at h5
      simp only [show ¬ (4 : Nat) = 2 by decide, show ¬ (4 : Nat) = 3 by decide, if_true, if_false] at h
      have hl := h.trans (h3.trans (h4.trans (h5.trans h2)))
      rw [show k + 10 = k + 5 + 5 by omega]
      refine hl.trans ?_
      rw [z4, if_pos hp4]
      by_cases c : charZ (v4 (s.get! p).toNat (s.get! (p + 1)).toNat (s.get! (p + 2)).toNat (s.get! (p + 3)).toNat) = [((s.get! p).toNat : Int), ((s.get! (p + 1)).toNat : Int), ((s.get! (p + 2)).toNat : Int), ((s.get! (p + 3)).toNat : Int)]
      · rw [if_pos c, if_pos (show isFour _ _ _ _ _ from ⟨by omega, c⟩)]; rfl
      · rw [if_neg c, if_neg (show ¬ isFour _ _ _ _ _ from fun e => c e.2)]; rfl
    · have := at_out (k + 8) s p 4 (by omega) (by omega) (.inr hp4) hs (by omega)
      rw [if_neg (show ¬ isFour _ _ _ _ _ from fun e => hp4 (by have := e.1; omega)), if_neg hp4]
      exact this
  have r5 : ∀ k, dioramaref05_At.l0 (k + 2) s p 5 = some (0, 0) := fun k => at_out k s p 5 (by omega) (by omega) (.inl rfl) hs (by omega)
  unfold dioramaref05_At.f
  rw [show k + 40 = (k + 33) + 7 by omega, r1, show k + 33 + 1 = (k + 26) + 8 by omega, r2]
  rw [decode_at]
  rcases decode_ways (s.size - p) _ _ _ _ (by omega) q0 q1 q2 q3 with ⟨h, e⟩ | ⟨g1, h, e1, e2⟩ | ⟨g1, g2, h, e1, e2⟩ | ⟨g1, g2, g3, h, e1, e2⟩ | ⟨g1, g2, g3, g4, e⟩
  · rw [if_pos h, e, if_pos (by unfold Good; unfold isOne at h; simp only; omega)]; rfl
  · rw [if_neg g1, if_pos h, e1, e2, if_pos (by unfold Good; omega)]; rfl
  · have hp2 : p + 2 ≤ s.size := by have := h.1; omega
    rw [if_neg g1, if_neg g2, if_pos hp2, show k + 26 + 1 = (k + 18) + 9 by omega, r3 _ hp2, if_pos h, e1, e2, if_pos (by unfold Good; omega)]; rfl
  · have hp3 : p + 3 ≤ s.size := by have := h.1; omega
    have hp2 : p + 2 ≤ s.size := by omega
    rw [if_neg g1, if_neg g2, if_pos hp2, show k + 26 + 1 = (k + 18) + 9 by omega, r3 _ hp2, if_neg g3, if_pos hp3, show k + 18 + 1 = (k + 9) + 10 by omega, r4 _ hp3, if_pos h, e1, e2, if_pos (by unfold Good; omega)]; rfl
  · rw [if_neg g1, if_neg g2, e, if_neg (show ¬ Good (65533, 1) from fun h => h ⟨rfl, Nat.le_refl _⟩)]
    by_cases hp2 : p + 2 ≤ s.size
    · rw [if_pos hp2, show k + 26 + 1 = (k + 18) + 9 by omega, r3 _ hp2, if_neg g3]
      by_cases hp3 : p + 3 ≤ s.size
      · rw [if_pos hp3, show k + 18 + 1 = (k + 9) + 10 by omega, r4 _ hp3, if_neg g4]
        by_cases hp4 : p + 4 ≤ s.size
        · rw [if_pos hp4, r5]
        · rw [if_neg hp4]
      · rw [if_neg hp3]
    · rw [if_neg hp2]
end Go.Proofs.YtkojplbbliagcaaDoor.U
