/- Plain facts of UTF-8: a character's bytes, as the document has them, and the decoding of bytes, agree. -/
import Derived.Lib.DecodeN
import Derived.Lib.RuneBytes
import Derived.Lib.Small
namespace Go.Proofs.YtkojplbbliagcaaDoor.U
open Go.Lib
set_option linter.unusedVariables false
set_option linter.unusedSimpArgs false
/-- A character's bytes, as numbers; none: it is none. -/
def charZ (v : Int) : List Int := if validRune v = true then encodeRuneZ v else []
theorem valid_iff (v : Int) : validRune v = true ↔ (0 ≤ v ∧ v < 55296) ∨ (57343 < v ∧ v ≤ 1114111) := by
  unfold validRune
  rw [decide_eq_true_iff]
theorem charZ_bad {v : Int} (h : ¬ ((0 ≤ v ∧ v < 55296) ∨ (57343 < v ∧ v ≤ 1114111))) : charZ v = [] := by
  unfold charZ
  rw [if_neg (fun e => h ((valid_iff v).1 e))]
theorem charZ_1 {v : Int} (h : 0 ≤ v ∧ v ≤ 127) : charZ v = [v] := by
  unfold charZ
  rw [if_pos ((valid_iff v).2 (by omega)), encodeRuneZ_one h.1 h.2]
theorem charZ_2 {v : Int} (h : 128 ≤ v ∧ v ≤ 2047) : charZ v = [192 + v / 64, 128 + v % 64] := by
  unfold charZ
  rw [if_pos ((valid_iff v).2 (by omega)), encodeRuneZ_two h.1 h.2]
theorem charZ_3 {v : Int} (h : (2048 ≤ v ∧ v < 55296) ∨ (57343 < v ∧ v ≤ 65535)) : charZ v = [224 + v / 4096, 128 + v / 64 % 64, 128 + v % 64] := by
  unfold charZ
  rw [if_pos ((valid_iff v).2 (by omega)), encodeRuneZ_three h]
theorem charZ_4 {v : Int} (h : 65536 ≤ v ∧ v ≤ 1114111) : charZ v = [240 + v / 262144, 128 + v / 4096 % 64, 128 + v / 64 % 64, 128 + v % 64] := by
  unfold charZ
  rw [if_pos ((valid_iff v).2 (by omega)), encodeRuneZ_four h.1 h.2]
theorem charZ_ways (v : Int) : (¬ ((0 ≤ v ∧ v < 55296) ∨ (57343 < v ∧ v ≤ 1114111)) ∧ charZ v = []) ∨ ((0 ≤ v ∧ v ≤ 127) ∧ charZ v = [v]) ∨ ((128 ≤ v ∧ v ≤ 2047) ∧ charZ v = [192 + v / 64, 128 + v % 64]) ∨
    (((2048 ≤ v ∧ v < 55296) ∨ (57343 < v ∧ v ≤ 65535)) ∧ charZ v = [224 + v / 4096, 128 + v / 64 % 64, 128 + v % 64]) ∨ ((65536 ≤ v ∧ v ≤ 1114111) ∧ charZ v = [240 + v / 262144, 128 + v / 4096 % 64, 128 + v / 64 % 64, 128 + v % 64]) := by
  by_cases h : (0 ≤ v ∧ v < 55296) ∨ (57343 < v ∧ v ≤ 1114111)
  · by_cases h1 : v ≤ 127
    · exact .inr (.inl ⟨by omega, charZ_1 (by omega)⟩)
    · by_cases h2 : v ≤ 2047
      · exact .inr (.inr (.inl ⟨by omega, charZ_2 (by omega)⟩))
      · by_cases h3 : v ≤ 65535
        · exact .inr (.inr (.inr (.inl ⟨by omega, charZ_3 (by omega)⟩)))
        · exact .inr (.inr (.inr (.inr ⟨by omega, charZ_4 (by omega)⟩)))
  · exact .inl ⟨h, charZ_bad h⟩
theorem charZ_one (v x : Int) : charZ v = [x] ↔ (0 ≤ v ∧ v ≤ 127) ∧ x = v := by
  rcases charZ_ways v with ⟨h, e⟩ | ⟨h, e⟩ | ⟨h, e⟩ | ⟨h, e⟩ | ⟨h, e⟩ <;> rw [e] <;> simp <;> omega
theorem charZ_two (v x y : Int) : charZ v = [x, y] ↔ (128 ≤ v ∧ v ≤ 2047) ∧ x = 192 + v / 64 ∧ y = 128 + v % 64 := by
  rcases charZ_ways v with ⟨h, e⟩ | ⟨h, e⟩ | ⟨h, e⟩ | ⟨h, e⟩ | ⟨h, e⟩ <;> rw [e] <;> simp <;> omega
theorem charZ_three (v x y z : Int) : charZ v = [x, y, z] ↔ ((2048 ≤ v ∧ v < 55296) ∨ (57343 < v ∧ v ≤ 65535)) ∧ x = 224 + v / 4096 ∧ y = 128 + v / 64 % 64 ∧ z = 128 + v % 64 := by
  rcases charZ_ways v with ⟨h, e⟩ | ⟨h, e⟩ | ⟨h, e⟩ | ⟨h, e⟩ | ⟨h, e⟩ <;> rw [e] <;> simp <;> omega
theorem charZ_four (v x y z u : Int) : charZ v = [x, y, z, u] ↔ (65536 ≤ v ∧ v ≤ 1114111) ∧ x = 240 + v / 262144 ∧ y = 128 + v / 4096 % 64 ∧ z = 128 + v / 64 % 64 ∧ u = 128 + v % 64 := by
  rcases charZ_ways v with ⟨h, e⟩ | ⟨h, e⟩ | ⟨h, e⟩ | ⟨h, e⟩ | ⟨h, e⟩ <;> rw [e] <;> simp <;> omega
/-- What the document reads, a size at a time. -/
def v2 (b0 b1 : Nat) : Int := 64 * (b0 - 192) + b1 - 128
def v3 (b0 b1 b2 : Nat) : Int := 64 * (64 * (b0 - 224) + b1 - 128) + b2 - 128
def v4 (b0 b1 b2 b3 : Nat) : Int := 64 * (64 * (64 * (b0 - 240) + b1 - 128) + b2 - 128) + b3 - 128
set_option maxRecDepth 100000 in
set_option maxHeartbeats 4000000 in
theorem decode_1 (n b0 b1 b2 b3 : Nat) (h0 : b0 < 256) : charZ b0 = [(b0 : Int)] ↔ decodeN n b0 b1 b2 b3 = (b0, 1) ∧ b0 < 128 := by
  rw [charZ_one]
  unfold decodeN
  by_cases h : b0 < 128
  · rw [if_pos h]; simp; omega
  · rw [if_neg h]
    constructor
    · intro g; omega
    · intro g; omega
def isOne (b0 : Nat) : Prop := b0 < 128
def isTwo (n b0 b1 : Nat) : Prop := 1 < n ∧ charZ (v2 b0 b1) = [(b0 : Int), (b1 : Int)]
def isThree (n b0 b1 b2 : Nat) : Prop := 2 < n ∧ charZ (v3 b0 b1 b2) = [(b0 : Int), (b1 : Int), (b2 : Int)]
def isFour (n b0 b1 b2 b3 : Nat) : Prop := 3 < n ∧ charZ (v4 b0 b1 b2 b3) = [(b0 : Int), (b1 : Int), (b2 : Int), (b3 : Int)]
set_option maxRecDepth 100000 in
set_option maxHeartbeats 4000000 in
theorem decode_ways (n b0 b1 b2 b3 : Nat) (hn : 1 ≤ n) (h0 : b0 < 256) (h1 : b1 < 256) (h2 : b2 < 256) (h3 : b3 < 256) :
    (isOne b0 ∧ decodeN n b0 b1 b2 b3 = (b0, 1)) ∨ (¬ isOne b0 ∧ isTwo n b0 b1 ∧ ((decodeN n b0 b1 b2 b3).1 : Int) = v2 b0 b1 ∧ (decodeN n b0 b1 b2 b3).2 = 2) ∨
    (¬ isOne b0 ∧ ¬ isTwo n b0 b1 ∧ isThree n b0 b1 b2 ∧ ((decodeN n b0 b1 b2 b3).1 : Int) = v3 b0 b1 b2 ∧ (decodeN n b0 b1 b2 b3).2 = 3) ∨
    (¬ isOne b0 ∧ ¬ isTwo n b0 b1 ∧ ¬ isThree n b0 b1 b2 ∧ isFour n b0 b1 b2 b3 ∧ ((decodeN n b0 b1 b2 b3).1 : Int) = v4 b0 b1 b2 b3 ∧ (decodeN n b0 b1 b2 b3).2 = 4) ∨
    (¬ isOne b0 ∧ ¬ isTwo n b0 b1 ∧ ¬ isThree n b0 b1 b2 ∧ ¬ isFour n b0 b1 b2 b3 ∧ decodeN n b0 b1 b2 b3 = (65533, 1)) := by
  unfold isOne isTwo isThree isFour
  rw [charZ_two, charZ_three, charZ_four]
  unfold v2 v3 v4 decodeN
  by_cases c0 : b0 < 128
  · rw [if_pos c0]; exact .inl ⟨c0, rfl⟩
  · rw [if_neg c0]
    refine .inr ?_
    by_cases c1 : b0 / 32 = 6 ∧ 1 < n ∧ b1 / 64 = 2
    · rw [if_pos c1]
      by_cases d1 : b0 % 32 * 64 + b1 % 64 ≥ 128
      · rw [if_pos d1]
        exact .inl ⟨c0, by omega, by simp only; omega, rfl⟩
      · rw [if_neg d1]
        exact .inr (.inr (.inr ⟨c0, by omega, by omega, by omega, rfl⟩))
    · rw [if_neg c1]
      refine .inr ?_
      by_cases c2 : b0 / 16 = 14 ∧ (1 < n ∧ b1 / 64 = 2) ∧ (2 < n ∧ b2 / 64 = 2)
      · rw [if_pos c2]
        by_cases d2 : b0 % 16 * 4096 + b1 % 64 * 64 + b2 % 64 ≥ 2048 ∧ (b0 % 16 * 4096 + b1 % 64 * 64 + b2 % 64 < 55296 ∨ (57344 ≤ b0 % 16 * 4096 + b1 % 64 * 64 + b2 % 64 ∧ b0 % 16 * 4096 + b1 % 64 * 64 + b2 % 64 ≤ 1114111))
        · rw [if_pos d2]
          exact .inl ⟨c0, by omega, by omega, by simp only; omega, rfl⟩
        · rw [if_neg d2]
          exact .inr (.inr ⟨c0, by omega, by omega, by omega, rfl⟩)
      · rw [if_neg c2]
        refine .inr ?_
        by_cases c3 : b0 / 8 = 30 ∧ (1 < n ∧ b1 / 64 = 2) ∧ (2 < n ∧ b2 / 64 = 2) ∧ (3 < n ∧ b3 / 64 = 2)
        · rw [if_pos c3]
          by_cases d3 : b0 % 8 * 262144 + b1 % 64 * 4096 + b2 % 64 * 64 + b3 % 64 ≥ 65536 ∧ (b0 % 8 * 262144 + b1 % 64 * 4096 + b2 % 64 * 64 + b3 % 64 < 55296 ∨ (57344 ≤ b0 % 8 * 262144 + b1 % 64 * 4096 + b2 % 64 * 64 + b3 % 64 ∧ b0 % 8 * 262144 + b1 % 64 * 4096 + b2 % 64 * 64 + b3 % 64 ≤ 1114111))
          · rw [if_pos d3]
            exact .inl ⟨c0, by omega, by omega, by omega, by simp only; omega, rfl⟩
          · rw [if_neg d3]
            exact .inr ⟨c0, by omega, by omega, by omega, rfl⟩
        · rw [if_neg c3]
          exact .inr ⟨c0, by omega, by omega, by omega, rfl⟩
end Go.Proofs.YtkojplbbliagcaaDoor.U
