/- Plain mathematics of numbers by groups of seven bits: the bytes of a number, and the number that bytes begin with. -/
import Derived.Test.YtoigkneoaemcfaaDoorRxWAll
namespace Go.Proofs.YtoigkneoaemcfaaDoor.VM
open Go.RowKit Go.Proofs.YtoigkneoaemcfaaDoorW.PrintWords Go.Proofs.YtoigkneoaemcfaaDoorW.PrintLast Go.Proofs.YtoigkneoaemcfaaDoorW.PrintMore

/-- A number's bytes. -/
def enc (n : Nat) : List Nat := if n < 128 then [n] else (128 + n % 128) :: enc (n / 128)
termination_by n
decreasing_by omega

theorem enc_small {n : Nat} (h : n < 128) : enc n = [n] := by rw [enc, if_pos h]
theorem enc_big {n : Nat} (h : ¬ n < 128) : enc n = (128 + n % 128) :: enc (n / 128) := by rw [enc, if_neg h]
theorem enc_ne (n : Nat) : enc n ≠ [] := by
  rw [enc]; split <;> simp
theorem enc_byte (n : Nat) : ∀ x ∈ enc n, x < 256 := by
  induction n using enc.induct with
  | case1 n h => rw [enc_small h]; simp; omega
  | case2 n h ih => rw [enc_big h]; intro x hx; rcases List.mem_cons.mp hx with rfl | hx; omega; exact ih x hx
theorem enc_length_le (m : Nat) : ∀ n, n < 128 ^ (m + 1) → (enc n).length ≤ m + 1 := by
  induction m with
  | zero => intro n h; rw [enc_small (by omega)]; simp
  | succ m ih =>
    intro n h
    by_cases hn : n < 128
    · rw [enc_small hn]; simp
    · rw [enc_big hn]
      have := ih (n / 128) (by rw [Nat.div_lt_iff_lt_mul (by omega)]; rw [Nat.pow_succ] at h; exact h)
      simp; omega
theorem enc_length_u64 {n : Nat} (h : n < 18446744073709551616) : (enc n).length ≤ 10 := enc_length_le 9 n (by omega)

/-- What bytes begin with, the i-th byte at their head. -/
inductive Dec where
  | ok (v n : Nat)
  | cut
  | long

def Dec.step (c : Nat) : Dec → Dec
  | .ok v n => .ok (c % 128 + 128 * v) (n + 1)
  | .cut => .cut
  | .long => .long

def dec : Nat → List Nat → Dec
  | _, [] => .cut
  | i, c :: l => if i = 9 ∧ c > 1 ∨ c = 0 ∧ i > 0 then .long else if c < 128 then .ok c 1 else (dec (i + 1) l).step c

theorem dec_nil (i : Nat) : dec i [] = .cut := rfl
theorem dec_cons (i c : Nat) (l : List Nat) : dec i (c :: l) = if i = 9 ∧ c > 1 ∨ c = 0 ∧ i > 0 then .long else if c < 128 then .ok c 1 else (dec (i + 1) l).step c := rfl

/-- Bytes of a number are got. -/
theorem dec_enc (n : Nat) : ∀ (i : Nat) (l : List Nat), n < 2 ^ (64 - 7 * i) → i ≤ 9 → (i > 0 → 0 < n) → dec i (enc n ++ l) = .ok n (enc n).length := by
  induction n using enc.induct with
  | case1 n h =>
    intro i l hn hi h0
    rw [enc_small h]
    simp only [List.cons_append, List.nil_append, dec_cons]
    rw [if_neg, if_pos h]; rfl
    intro hc
    rcases hc with ⟨rfl, hc⟩ | ⟨rfl, hc⟩
    · simp at hn; omega
    · have := h0 hc; omega
  | case2 n h ih =>
    intro i l hn hi h0
    rw [enc_big h]
    simp only [List.cons_append, dec_cons]
    have hi9 : i ≤ 8 := by
      by_cases h9 : i = 9
      · subst h9; simp at hn; omega
      · omega
    rw [if_neg (by omega), if_neg (by omega), ih (i + 1) l]
    · simp only [Dec.step, List.length_cons]; congr 1; omega
    · have e : (2 : Nat) ^ (64 - 7 * i) = 128 * 2 ^ (64 - 7 * (i + 1)) := by
        rw [show 64 - 7 * i = 7 + (64 - 7 * (i + 1)) by omega, Nat.pow_add]
      rw [e] at hn
      exact Nat.div_lt_of_lt_mul hn
    · omega
    · intro _; omega

/-- What is got has the bytes that it was got from. -/
theorem dec_ok (l : List Nat) : ∀ (i v n : Nat), (∀ x ∈ l, x < 256) → dec i l = .ok v n → i ≤ 9 → n ≤ l.length ∧ n ≤ 10 - i ∧ 1 ≤ n ∧ v < 2 ^ (64 - 7 * i) ∧ enc v = l.take n ∧ (i > 0 → 0 < v) := by
  induction l with
  | nil => intro i v n _ h; simp [dec_nil] at h
  | cons c l ih =>
    intro i v n hl h hi
    rw [dec_cons] at h
    have hc := hl c (by simp)
    by_cases h1 : i = 9 ∧ c > 1 ∨ c = 0 ∧ i > 0
    · rw [if_pos h1] at h; cases h
    rw [if_neg h1] at h
    by_cases h2 : c < 128
    · rw [if_pos h2] at h
      cases h
      refine ⟨by simp, by omega, Nat.le_refl _, ?_, ?_, by omega⟩
      · by_cases h9 : i = 9
        · subst h9; simp; omega
        · have : (2 : Nat) ^ 7 ≤ 2 ^ (64 - 7 * i) := Nat.pow_le_pow_right (by omega) (by omega)
          omega
      · rw [enc_small h2]; rfl
    · rw [if_neg h2] at h
      have hi8 : i ≤ 8 := by omega
      cases hd : dec (i + 1) l with
      | cut => rw [hd] at h; cases h
      | long => rw [hd] at h; cases h
      | ok v' n' =>
        rw [hd] at h
        simp only [Dec.step, Dec.ok.injEq] at h
        obtain ⟨rfl, rfl⟩ := h
        obtain ⟨a1, a2, a3, a4, a5, a6⟩ := ih (i + 1) v' n' (fun x hx => hl x (by simp [hx])) hd (by omega)
        have hv := a6 (by omega)
        refine ⟨by simp; omega, by omega, by omega, ?_, ?_, fun _ => by omega⟩
        · have e : (2 : Nat) ^ (64 - 7 * i) = 128 * 2 ^ (64 - 7 * (i + 1)) := by
            rw [show 64 - 7 * i = 7 + (64 - 7 * (i + 1)) by omega, Nat.pow_add]
          rw [e]; omega
        · rw [enc_big (by omega), show (c % 128 + 128 * v') / 128 = v' by omega, a5]
          simp only [List.take_succ_cons]
          congr 1; omega


/-! ### bits -/
theorem u64_wrap (n : Int) : IntKind.u64.wrap n = n % 18446744073709551616 := by simp [IntKind.wrap, IntKind.bits, IntKind.signed]
theorem wraps_u64 (n : Int) (h₀ : 0 ≤ n) (h₁ : n < 2 ^ 64) : IntKind.u64.wrap n = n := by rw [u64_wrap]; omega
theorem or_128 (x : Int) : Go.bits .or .u8 (x % 256) 128 = 128 + x % 128 := by
  have key : ∀ a : Fin 256, Go.bits .or .u8 (a.val : Int) 128 = 128 + (a.val : Int) % 128 := by decide +kernel
  have := key ⟨(x % 256).toNat, by omega⟩
  simp only at this
  rw [show (((x % 256).toNat : Nat) : Int) = x % 256 by omega] at this
  rw [this]; omega
theorem and_127 (c : Int) (h0 : 0 ≤ c) (h1 : c < 256) : Go.bits .and .u8 c 127 = c % 128 := by
  have key : ∀ a : Fin 256, Go.bits .and .u8 (a.val : Int) 127 = (a.val : Int) % 128 := by decide +kernel
  have := key ⟨c.toNat, by omega⟩
  simp only at this
  rw [show ((c.toNat : Nat) : Int) = c by omega] at this
  exact this
/-- A higher group is laid over the lower ones. -/
theorem or_group (i a c : Nat) (ha : a < 2 ^ (7 * i)) (h : c % 128 * 2 ^ (7 * i) < 18446744073709551616) :
    Go.bits .or .u64 (a : Int) (IntKind.u64.wrap ((c % 128 : Nat) * 2 ^ (min (7 * i) 64))) = ((a + c % 128 * 2 ^ (7 * i) : Nat) : Int) ∨ 9 < i := by
  by_cases hi : 9 < i
  · exact .inr hi
  left
  rw [Nat.min_eq_left (by omega)]
  have hp : (2 : Nat) ^ (7 * i) ≤ 2 ^ 63 := Nat.pow_le_pow_right (by omega) (by omega)
  have e : (((c % 128 : Nat) : Int) * 2 ^ (7 * i)) = ((c % 128 * 2 ^ (7 * i) : Nat) : Int) := by push_cast; rfl
  rw [e, wraps_u64 _ (by omega) (by omega), (bits_nat .u64 64 (by decide) wraps_u64 a _ (by omega) (by omega)).2]
  rw [Nat.or_comm, Nat.mul_comm (c % 128), ← Nat.two_pow_add_eq_or_of_lt ha, Nat.add_comm]
theorem xor_zero (k : IntKind) (x : Int) : Go.bits .xor k x 0 = k.wrap ((x % 2 ^ k.bits).toNat : Nat) := by
  show k.wrap ((BitVec.ofInt k.bits x ^^^ BitVec.ofInt k.bits 0).toNat : Nat) = _
  rw [show BitVec.ofInt k.bits 0 = 0#k.bits from rfl, BitVec.xor_zero, BitVec.toNat_ofInt]; norm_cast
theorem xor_ones (k : IntKind) (x y : Int) (h : BitVec.ofInt k.bits y = BitVec.allOnes k.bits) : Go.bits .xor k x y = k.wrap ((2 ^ k.bits - 1 - (x % 2 ^ k.bits).toNat : Nat) : Int) := by
  show k.wrap ((BitVec.ofInt k.bits x ^^^ BitVec.ofInt k.bits y).toNat : Nat) = _
  rw [h, BitVec.xor_allOnes, BitVec.toNat_not, BitVec.toNat_ofInt]; norm_cast
end Go.Proofs.YtoigkneoaemcfaaDoor.VM
