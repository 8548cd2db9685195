/- Plain facts of UTF-8: runs of characters that are right. -/
import Derived.Test.YtkojplbbliagcaaDoorUtfM
import Derived.Test.YtkojplbbliagcaaDoorUtfA
namespace Go.Proofs.YtkojplbbliagcaaDoor.U
open Go.RowKit Go.Lib
set_option linter.unusedVariables false
set_option linter.unusedSimpArgs false
/-- From a place on to another stand these characters. -/
inductive Run (s : ByteArray) : Nat → List Int → Nat → Prop
  | nil (p : Nat) : Run s p [] p
  | cons {p q : Nat} {l : List Int} : p < s.size → Good (Utf8.decode s p) → Run s (p + (Utf8.decode s p).2) l q → Run s p (((Utf8.decode s p).1 : Int) :: l) q
theorem first_good {s : ByteArray} {k p : Nat} (hp : p < s.size) (hg : Good (Utf8.decode s p)) : first s (k + 1) p = first s k (p + (Utf8.decode s p).2) := by
  rw [first, if_pos hp]
  by_cases h1 : (Utf8.decode s p).1 = 65533
  · rw [if_pos h1, go_tail s p hp, if_neg (fun h2 => hg ⟨h1, h2⟩)]
  · rw [if_neg h1]
theorem first_bad {s : ByteArray} {k p : Nat} (hp : p < s.size) (hg : ¬ Good (Utf8.decode s p)) : first s (k + 1) p = p := by
  have hb : (Utf8.decode s p).1 = 65533 ∧ (Utf8.decode s p).2 ≤ 1 := Classical.not_not.1 hg
  rw [first, if_pos hp, if_pos hb.1, go_tail s p hp, if_pos hb.2]
theorem Run.mono {s : ByteArray} {p q : Nat} {l : List Int} (h : Run s p l q) : p + l.length ≤ q := by
  induction h with
  | nil _ => exact Nat.le_refl _
  | cons hp _ _ ih =>
    have := width_pos s _ hp
    simp only [List.length_cons]
    omega
theorem Run.le {s : ByteArray} {p q : Nat} {l : List Int} (h : Run s p l q) (hp : p ≤ s.size) : q ≤ s.size := by
  induction h with
  | nil _ => exact hp
  | cons h1 hg _ ih => exact ih (width_fits s _ h1 hg)
theorem Run.append {s : ByteArray} {p q r : Nat} {l l' : List Int} (h : Run s p l q) (h2 : Run s q l' r) : Run s p (l ++ l') r := by
  induction h with
  | nil _ => exact h2
  | cons hp hg _ ih => exact .cons hp hg (ih h2)
theorem run_exists (s : ByteArray) : ∀ (j p : Nat), p ≤ s.size → s.size < p + j → ∃ l q, Run s p l q ∧ q ≤ s.size ∧ (q < s.size → ¬ Good (Utf8.decode s q))
  | 0, p, h, h2 => by omega
  | j + 1, p, h, h2 => by
    by_cases hp : p < s.size
    · by_cases hg : Good (Utf8.decode s p)
      · have hw := width_pos s p hp
        obtain ⟨l, q, h3, h4, h5⟩ := run_exists s j (p + (Utf8.decode s p).2) (width_fits s p hp hg) (by omega)
        exact ⟨_, q, .cons hp hg h3, h4, h5⟩
      · exact ⟨[], p, .nil p, h, fun _ => hg⟩
    · exact ⟨[], p, .nil p, h, fun h3 => absurd h3 hp⟩
theorem Run.first {s : ByteArray} {p q : Nat} {l : List Int} (h : Run s p l q) (hq : q ≤ s.size) (hb : q < s.size → ¬ Good (Utf8.decode s q)) : ∀ j, s.size < p + j → U.first s j p = if q < s.size then (q : Int) else -1 := by
  induction h with
  | nil p =>
    intro j hj
    by_cases hp : p < s.size
    · rw [if_pos hp]
      obtain ⟨j, rfl⟩ : ∃ m, j = m + 1 := ⟨j - 1, by omega⟩
      exact first_bad hp (hb hp)
    · rw [if_neg hp, first_end s j p hp]
  | cons hp hg _ ih =>
    intro j hj
    have hw := width_pos s _ hp
    obtain ⟨j, rfl⟩ : ∃ m, j = m + 1 := ⟨j - 1, by omega⟩
    rw [first_good hp hg]
    exact ih hq hb j (by omega)
theorem Run.runes {s : ByteArray} {p : Nat} {l : List Int} (h : Run s p l s.size) : ∀ j, s.size ≤ p + j → U.runes s j p = l := by
  generalize hq : s.size = q at h
  induction h with
  | nil p =>
    intro j _
    cases j with
    | zero => rfl
    | succ j => rw [U.runes, if_neg (by omega)]
  | cons hp hg _ ih =>
    intro j hj
    have hw := width_pos s _ hp
    obtain ⟨j, rfl⟩ : ∃ m, j = m + 1 := ⟨j - 1, by omega⟩
    rw [U.runes, if_pos hp, ih hq j (by omega)]
theorem Run.count {s : ByteArray} {p : Nat} {l : List Int} (h : Run s p l s.size) : ∀ j n, s.size ≤ p + j → U.count s j p n = n + l.length := by
  generalize hq : s.size = q at h
  induction h with
  | nil p =>
    intro j n _
    rw [count_end s j p n (by omega)]
    rfl
  | cons hp hg _ ih =>
    intro j n hj
    have hw := width_pos s _ hp
    obtain ⟨j, rfl⟩ : ∃ m, j = m + 1 := ⟨j - 1, by omega⟩
    rw [U.count, if_pos hp, ih hq j (n + 1) (by omega), List.length_cons]
    omega
/-- What is known of a text: how far it is UTF-8. -/
theorem text_ways (s : ByteArray) : ∃ l q, Run s 0 l q ∧ q ≤ s.size ∧ (q < s.size → ¬ Good (Utf8.decode s q)) ∧ U.first s (s.size + 1) 0 = (if q < s.size then (q : Int) else -1) ∧
    countOf s = (if q < s.size then -1 else (l.length : Int)) ∧ runesOf s = (if q < s.size then [] else l) := by
  obtain ⟨l, q, h, hq, hb⟩ := run_exists s (s.size + 1) 0 (Nat.zero_le _) (by omega)
  have hf := h.first hq hb (s.size + 1) (by omega)
  refine ⟨l, q, h, hq, hb, hf, ?_, ?_⟩
  · unfold countOf
    by_cases hlt : q < s.size
    · rw [if_pos hlt, hf, if_pos hlt, if_pos (by omega)]
    · obtain rfl : q = s.size := by omega
      rw [if_neg hlt, hf, if_neg hlt, if_neg (by omega), h.count (s.size + 1) 0 (by omega), Nat.zero_add]
  · unfold runesOf
    by_cases hlt : q < s.size
    · rw [if_pos hlt, hf, if_pos hlt, if_pos (by omega)]
    · obtain rfl : q = s.size := by omega
      rw [if_neg hlt, hf, if_neg hlt, if_neg (by omega), h.runes s.size (by omega)]
theorem of_run {s : ByteArray} {l : List Int} (h : Run s 0 l s.size) : U.first s (s.size + 1) 0 = -1 ∧ countOf s = l.length ∧ runesOf s = l := by
  have hf := h.first (Nat.le_refl _) (fun h => absurd h (Nat.lt_irrefl _)) (s.size + 1) (by omega)
  rw [if_neg (Nat.lt_irrefl _)] at hf
  refine ⟨hf, ?_, ?_⟩
  · unfold countOf
    rw [hf, if_neg (by omega), h.count (s.size + 1) 0 (by omega), Nat.zero_add]
  · unfold runesOf
    rw [hf, if_neg (by omega), h.runes s.size (by omega)]
/-! ### the beginning, and one text behind the other -/
theorem Run.head {s : ByteArray} {p q : Nat} {l : List Int} (n : Nat) (h : Run s p l q) (hn : q ≤ n) (hs : n ≤ s.size) : Run (s.extract 0 n) p l q := by
  induction h with
  | nil p => exact .nil p
  | @cons p q l hp hg hr ih =>
    have hm := hr.mono
    have e := decode_head s n p hp hg (by omega) hs
    have hz := head_size s n hs
    have hw := width_pos s p hp
    have := ih hn
    rw [← e] at this ⊢
    exact .cons (by omega) (by rw [e]; exact hg) this
theorem app_size (a b : ByteArray) : (a ++ b).size = a.size + b.size := ByteArray.size_append
theorem app_data (a b : ByteArray) : (a ++ b).data.toList = a.data.toList ++ b.data.toList := by
  rw [ByteArray.data_append, Array.toList_append]
theorem app_get!_left (a b : ByteArray) (j : Nat) (h : j < a.size) : (a ++ b).get! j = a.get! j := by
  rw [← getD_get!', ← getD_get!', app_data]
  have : j < a.data.toList.length := by rw [Array.length_toList]; exact h
  rw [List.getD_eq_getElem?_getD, List.getD_eq_getElem?_getD, List.getElem?_append_left this]
theorem app_get!_right (a b : ByteArray) (j : Nat) : (a ++ b).get! (a.size + j) = b.get! j := by
  rw [← getD_get!', ← getD_get!', app_data]
  have e : a.data.toList.length = a.size := Array.length_toList
  rw [List.getD_eq_getElem?_getD, List.getD_eq_getElem?_getD, List.getElem?_append_right (by omega), e, Nat.add_sub_cancel_left]
set_option maxRecDepth 100000 in
set_option maxHeartbeats 8000000 in
theorem decodeN_same {n m b0 b1 b2 b3 c1 c2 c3 : Nat} (hg : Good (decodeN n b0 b1 b2 b3)) (hm : (decodeN n b0 b1 b2 b3).2 ≤ m)
    (h1 : 1 < (decodeN n b0 b1 b2 b3).2 → b1 = c1) (h2 : 2 < (decodeN n b0 b1 b2 b3).2 → b2 = c2) (h3 : 3 < (decodeN n b0 b1 b2 b3).2 → b3 = c3) : decodeN m b0 c1 c2 c3 = decodeN n b0 b1 b2 b3 := by
  revert hg hm h1 h2 h3
  unfold decodeN Good
  by_cases a0 : b0 < 128
  · rw [if_pos a0, if_pos a0]; intros; rfl
  · rw [if_neg a0, if_neg a0]
    by_cases a1 : b0 / 32 = 6 ∧ 1 < n ∧ b1 / 64 = 2
    · rw [if_pos a1]
      by_cases d1 : b0 % 32 * 64 + b1 % 64 ≥ 128
      · rw [if_pos d1]
        intro _ hm h1 _ _
        simp only at hm h1
        obtain rfl := h1 (by omega)
        rw [if_pos ⟨a1.1, by omega, a1.2.2⟩, if_pos d1]
      · rw [if_neg d1]; intro hg; exact absurd ⟨rfl, Nat.le_refl _⟩ hg
    · rw [if_neg a1]
      by_cases a2 : b0 / 16 = 14 ∧ (1 < n ∧ b1 / 64 = 2) ∧ (2 < n ∧ b2 / 64 = 2)
      · rw [if_pos a2]
        by_cases d2 : b0 % 16 * 4096 + b1 % 64 * 64 + b2 % 64 ≥ 2048 ∧ (b0 % 16 * 4096 + b1 % 64 * 64 + b2 % 64 < 55296 ∨ (57344 ≤ b0 % 16 * 4096 + b1 % 64 * 64 + b2 % 64 ∧ b0 % 16 * 4096 + b1 % 64 * 64 + b2 % 64 ≤ 1114111))
        · rw [if_pos d2]
          intro _ hm h1 h2 _
          simp only at hm h1 h2
          obtain rfl := h1 (by omega)
          obtain rfl := h2 (by omega)
          rw [if_neg (by omega), if_pos ⟨a2.1, ⟨by omega, a2.2.1.2⟩, ⟨by omega, a2.2.2.2⟩⟩, if_pos d2]
        · rw [if_neg d2]; intro hg; exact absurd ⟨rfl, Nat.le_refl _⟩ hg
      · rw [if_neg a2]
        by_cases a3 : b0 / 8 = 30 ∧ (1 < n ∧ b1 / 64 = 2) ∧ (2 < n ∧ b2 / 64 = 2) ∧ (3 < n ∧ b3 / 64 = 2)
        · rw [if_pos a3]
          by_cases d3 : b0 % 8 * 262144 + b1 % 64 * 4096 + b2 % 64 * 64 + b3 % 64 ≥ 65536 ∧ (b0 % 8 * 262144 + b1 % 64 * 4096 + b2 % 64 * 64 + b3 % 64 < 55296 ∨ (57344 ≤ b0 % 8 * 262144 + b1 % 64 * 4096 + b2 % 64 * 64 + b3 % 64 ∧ b0 % 8 * 262144 + b1 % 64 * 4096 + b2 % 64 * 64 + b3 % 64 ≤ 1114111))
          · rw [if_pos d3]
            intro _ hm h1 h2 h3
            simp only at hm h1 h2 h3
            obtain rfl := h1 (by omega)
            obtain rfl := h2 (by omega)
            obtain rfl := h3 (by omega)
            rw [if_neg (by omega), if_neg (by omega), if_pos ⟨a3.1, ⟨by omega, a3.2.1.2⟩, ⟨by omega, a3.2.2.1.2⟩, ⟨by omega, a3.2.2.2.2⟩⟩, if_pos d3]
          · rw [if_neg d3]; intro hg; exact absurd ⟨rfl, Nat.le_refl _⟩ hg
        · rw [if_neg a3]; intro hg; exact absurd ⟨rfl, Nat.le_refl _⟩ hg
theorem decode_left (a b : ByteArray) (p : Nat) (hp : p < a.size) (hg : Good (Utf8.decode a p)) : Utf8.decode (a ++ b) p = Utf8.decode a p := by
  have hf := width_fits a p hp hg
  have hw := width_pos a p hp
  rw [decode_at] at hg hf hw ⊢
  rw [decode_at a p, app_size, app_get!_left a b p hp]
  refine decodeN_same hg (by omega) (fun h => ?_) (fun h => ?_) (fun h => ?_)
  · rw [app_get!_left a b (p + 1) (by omega)]
  · rw [app_get!_left a b (p + 2) (by omega)]
  · rw [app_get!_left a b (p + 3) (by omega)]
theorem Run.left {a : ByteArray} {p q : Nat} {l : List Int} (b : ByteArray) (h : Run a p l q) : Run (a ++ b) p l q := by
  induction h with
  | nil p => exact .nil p
  | @cons p q l hp hg _ ih =>
    have e := decode_left a b p hp hg
    rw [← e] at ih ⊢
    exact .cons (by rw [app_size]; omega) (by rw [e]; exact hg) ih
theorem decode_right (a b : ByteArray) (q : Nat) : Utf8.decode (a ++ b) (a.size + q) = Utf8.decode b q := by
  rw [decode_at, decode_at b q, app_size, Nat.add_assoc, Nat.add_assoc, Nat.add_assoc, app_get!_right, app_get!_right, app_get!_right, app_get!_right]
  congr 1
  omega
theorem Run.right {b : ByteArray} {p q : Nat} {l : List Int} (a : ByteArray) (h : Run b p l q) : Run (a ++ b) (a.size + p) l (a.size + q) := by
  induction h with
  | nil p => exact .nil _
  | @cons p q l hp hg _ ih =>
    have e := decode_right a b p
    rw [← e] at ih ⊢
    exact .cons (by rw [app_size]; omega) (by rw [e]; exact hg) (by rw [Nat.add_assoc]; exact ih)
/-! ### a character's bytes -/
/-- The bytes from a place on, as numbers. -/
def bytesZ (s : ByteArray) (p n : Nat) : List Int := (List.range n).map fun i => ((s.get! (p + i)).toNat : Int)
theorem byte_lt (s : ByteArray) (p : Nat) : (s.get! p).toNat < 256 := (s.get! p).toNat_lt
theorem decode_bytes (s : ByteArray) (p : Nat) (hp : p < s.size) (hg : Good (Utf8.decode s p)) : Lib.validRune ((Utf8.decode s p).1 : Int) = true ∧ charZ ((Utf8.decode s p).1 : Int) = bytesZ s p (Utf8.decode s p).2 := by
  rw [decode_at] at hg ⊢
  have hv : ∀ v : Int, charZ v ≠ [] → Lib.validRune v = true := by
    intro v h
    apply Classical.byContradiction
    intro hn
    exact h (by unfold charZ; rw [if_neg hn])
  rcases decode_ways (s.size - p) _ _ _ _ (by omega) (byte_lt s p) (byte_lt s (p + 1)) (byte_lt s (p + 2)) (byte_lt s (p + 3)) with ⟨h, e⟩ | ⟨_, h, e1, e2⟩ | ⟨_, _, h, e1, e2⟩ | ⟨_, _, _, h, e1, e2⟩ | ⟨_, _, _, _, e⟩
  · rw [e]
    have hz : charZ ((s.get! p).toNat : Int) = [((s.get! p).toNat : Int)] := charZ_1 (by unfold isOne at h; omega)
    exact ⟨hv _ (by rw [hz]; simp), by rw [hz]; rfl⟩
  · rw [e1, e2]
    exact ⟨hv _ (by rw [h.2]; simp), h.2⟩
  · rw [e1, e2]
    exact ⟨hv _ (by rw [h.2]; simp), h.2⟩
  · rw [e1, e2]
    exact ⟨hv _ (by rw [h.2]; simp), h.2⟩
  · rw [e] at hg
    exact absurd ⟨rfl, Nat.le_refl _⟩ hg
set_option maxHeartbeats 8000000 in
theorem bytes_decode (s : ByteArray) (p : Nat) (c : Int) (hv : Lib.validRune c = true) (hp : p + (charZ c).length ≤ s.size) (hb : charZ c = bytesZ s p (charZ c).length) :
    Good (Utf8.decode s p) ∧ ((Utf8.decode s p).1 : Int) = c ∧ (Utf8.decode s p).2 = (charZ c).length := by
  have hv' := (valid_iff c).1 hv
  have q0 := byte_lt s p
  have q1 := byte_lt s (p + 1)
  have q2 := byte_lt s (p + 2)
  have q3 := byte_lt s (p + 3)
  have hp1 : 1 ≤ s.size - p := by
    rcases charZ_ways c with ⟨h, _⟩ | ⟨_, e⟩ | ⟨_, e⟩ | ⟨_, e⟩ | ⟨_, e⟩
    · exact absurd hv' h
    all_goals rw [e] at hp; simp only [List.length_cons, List.length_nil] at hp; omega
  have hW := decode_ways (s.size - p) _ _ _ _ hp1 q0 q1 q2 q3
  rw [decode_at]
  unfold isOne isTwo isThree isFour at hW
  rw [charZ_two, charZ_three, charZ_four] at hW
  unfold v2 v3 v4 at hW
  generalize decodeN (s.size - p) (s.get! p).toNat (s.get! (p + 1)).toNat (s.get! (p + 2)).toNat (s.get! (p + 3)).toNat = D at hW ⊢
  unfold Good
  rcases charZ_ways c with ⟨h, _⟩ | ⟨h, e⟩ | ⟨h, e⟩ | ⟨h, e⟩ | ⟨h, e⟩
  · exact absurd hv' h
  · rw [e] at hb hp ⊢
    simp [bytesZ, List.range_succ] at hb hp
    generalize (s.get! p).toNat = b0 at *
    generalize (s.get! (p + 1)).toNat = b1 at *
    generalize (s.get! (p + 2)).toNat = b2 at *
    generalize (s.get! (p + 3)).toNat = b3 at *
    rcases hW with ⟨g, d⟩ | ⟨g0, g, d1, d2⟩ | ⟨g0, g1, g, d1, d2⟩ | ⟨g0, g1, g2, g, d1, d2⟩ | ⟨g0, g1, g2, g3, d⟩
    · rw [d]; exact ⟨by omega, by omega, rfl⟩
    all_goals exfalso; omega
  · rw [e] at hb hp ⊢
    simp [bytesZ, List.range_succ] at hb hp
    generalize (s.get! p).toNat = b0 at *
    generalize (s.get! (p + 1)).toNat = b1 at *
    generalize (s.get! (p + 2)).toNat = b2 at *
    generalize (s.get! (p + 3)).toNat = b3 at *
    rcases hW with ⟨g, d⟩ | ⟨g0, g, d1, d2⟩ | ⟨g0, g1, g, d1, d2⟩ | ⟨g0, g1, g2, g, d1, d2⟩ | ⟨g0, g1, g2, g3, d⟩
    · exfalso; omega
    · exact ⟨by omega, by omega, d2⟩
    all_goals exfalso; omega
  · rw [e] at hb hp ⊢
    simp [bytesZ, List.range_succ] at hb hp
    generalize (s.get! p).toNat = b0 at *
    generalize (s.get! (p + 1)).toNat = b1 at *
    generalize (s.get! (p + 2)).toNat = b2 at *
    generalize (s.get! (p + 3)).toNat = b3 at *
    rcases hW with ⟨g, d⟩ | ⟨g0, g, d1, d2⟩ | ⟨g0, g1, g, d1, d2⟩ | ⟨g0, g1, g2, g, d1, d2⟩ | ⟨g0, g1, g2, g3, d⟩
    · exfalso; omega
    · exfalso; omega
    · exact ⟨by omega, by omega, d2⟩
    all_goals exfalso; omega
  · rw [e] at hb hp ⊢
    simp [bytesZ, List.range_succ] at hb hp
    generalize (s.get! p).toNat = b0 at *
    generalize (s.get! (p + 1)).toNat = b1 at *
    generalize (s.get! (p + 2)).toNat = b2 at *
    generalize (s.get! (p + 3)).toNat = b3 at *
    rcases hW with ⟨g, d⟩ | ⟨g0, g, d1, d2⟩ | ⟨g0, g1, g, d1, d2⟩ | ⟨g0, g1, g2, g, d1, d2⟩ | ⟨g0, g1, g2, g3, d⟩
    · exfalso; omega
    · exfalso; omega
    · exfalso; omega
    · exact ⟨by omega, by omega, d2⟩
    · exfalso; omega
end Go.Proofs.YtkojplbbliagcaaDoor.U
