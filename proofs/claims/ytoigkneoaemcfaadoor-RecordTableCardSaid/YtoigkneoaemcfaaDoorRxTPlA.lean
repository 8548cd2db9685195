/- What a cursor reads of what was put (plain). -/
import Derived.Test.YtoigkneoaemcfaaDoorRxTPut
import Derived.Test.YtoigkneoaemcfaaDoorRxDCurC
namespace Go.Proofs.YtoigkneoaemcfaaDoor.Cur
open Go.RowKit Go.Proofs.YtoigkneoaemcfaaDoorW.PrintWords Go.Proofs.YtoigkneoaemcfaaDoorW.PrintLast Go.Proofs.YtoigkneoaemcfaaDoorW.PrintMore Go.Proofs.YtoigkneoaemcfaaDoor.VM Go.Proofs.YtoigkneoaemcfaaDoor.B
set_option linter.unusedVariables false
set_option linter.unusedSimpArgs false
theorem uint_of {c : Cur} {v nx : Nat} {most : Int} (he : c.e = 0) (hg : gt c.b c.at' = ((v : Int), (nx : Int), 0)) (h1 : (v : Int) ≤ most) (h2 : v ≤ 16777216) : c.uint most = ((v : Int), { c with at' := nx }) := by
  unfold Cur.uint
  rw [hg, if_neg (by simpa using he), if_neg (by simp), if_neg (by simp only; omega)]
  simp
theorem uint_big {c : Cur} {v nx : Nat} {most : Int} (he : c.e = 0) (hg : gt c.b c.at' = ((v : Int), (nx : Int), 0)) (h1 : most < v ∨ 16777216 < v) : c.uint most = (0, { c with e := 19 }) := by
  unfold Cur.uint
  rw [hg, if_neg (by simpa using he), if_neg (by simp), if_pos (by simp only; omega)]
theorem int_of {c : Cur} {v nx : Nat} (he : c.e = 0) (hg : gt c.b c.at' = ((v : Int), (nx : Int), 0)) : c.int = (zag v, { c with at' := nx }) := by
  unfold Cur.int
  rw [hg, if_neg (by simpa using he), if_neg (by simp)]
  simp
theorem bytes_of {c : Cur} {n : Nat} (he : c.e = 0) (h : c.at' + n ≤ c.b.size) : c.bytes n = (c.b.extract c.at' (c.at' + n), { c with at' := c.at' + n }) := by
  unfold Cur.bytes Cur.left
  rw [if_neg (by simpa using he), if_neg (by omega), if_neg (by omega), Int.toNat_natCast]
theorem uint_inv {c : Cur} {m : Int} (h : (c.uint m).2.e = 0) : c.e = 0 ∧ ∃ v n : Nat, c.uint m = ((v : Int), ⟨c.b, c.at' + n, 0⟩) ∧ enc v = ((bl c.b).drop c.at').take n ∧ c.at' + n ≤ c.b.size ∧ (v : Int) ≤ m ∧ v ≤ 16777216 ∧ 1 ≤ n ∧ n ≤ 10 := by
  have hc := gt_cases c.b c.at'
  unfold Cur.uint at h ⊢
  by_cases h1 : c.e ≠ 0
  · rw [if_pos h1] at h; exact absurd h h1
  rw [if_neg h1] at h ⊢
  have he : c.e = 0 := by simpa using h1
  by_cases h2 : (gt c.b c.at').2.2 ≠ 0
  · rw [if_pos h2] at h; exact absurd h h2
  rw [if_neg h2] at h ⊢
  by_cases h3 : (gt c.b c.at').1 > m ∨ (gt c.b c.at').1 > 16777216
  · rw [if_pos h3] at h; exact absurd h (by simp)
  rw [if_neg h3] at h ⊢
  refine ⟨he, ?_⟩
  rcases hc with ⟨v, n, e, h4, h5, h6, h7, h8⟩ | e | e
  · rw [e] at h3 ⊢
    simp only at h3 ⊢
    refine ⟨v, n, ?_, h8, h5, by omega, by omega, h6, h7⟩
    rw [show ((c.at' : Int) + (n : Int)).toNat = c.at' + n by omega, he]
  · rw [e] at h2; exact absurd (by simp) h2
  · rw [e] at h2; exact absurd (by simp) h2
theorem int_inv {c : Cur} (h : c.int.2.e = 0) : c.e = 0 ∧ ∃ v n : Nat, c.int = (zag v, ⟨c.b, c.at' + n, 0⟩) ∧ enc v = ((bl c.b).drop c.at').take n ∧ c.at' + n ≤ c.b.size ∧ v < 18446744073709551616 ∧ 1 ≤ n ∧ n ≤ 10 := by
  have hc := gt_cases c.b c.at'
  unfold Cur.int at h ⊢
  by_cases h1 : c.e ≠ 0
  · rw [if_pos h1] at h; exact absurd h h1
  rw [if_neg h1] at h ⊢
  have he : c.e = 0 := by simpa using h1
  by_cases h2 : (gt c.b c.at').2.2 ≠ 0
  · rw [if_pos h2] at h; exact absurd h h2
  rw [if_neg h2] at h ⊢
  refine ⟨he, ?_⟩
  rcases hc with ⟨v, n, e, h4, h5, h6, h7, h8⟩ | e | e
  · rw [e]
    simp only
    refine ⟨v, n, ?_, h8, h5, h4, h6, h7⟩
    rw [show ((c.at' : Int) + (n : Int)).toNat = c.at' + n by omega, he]
  · rw [e] at h2; exact absurd (by simp) h2
  · rw [e] at h2; exact absurd (by simp) h2
theorem take_more (L : List Nat) (a n : Nat) : L.take (a + n) = L.take a ++ (L.drop a).take n := by
  rw [List.take_add]
theorem fail_e {c : Cur} (h : c.e ≠ 0) (k : Int) : c.fail k = c := by unfold Cur.fail; rw [if_neg h]
end Go.Proofs.YtoigkneoaemcfaaDoor.Cur
namespace Go.Proofs.YtoigkneoaemcfaaDoor.Tab
theorem total_append (l m : List ByteArray) : total (l ++ m) = total l + total m := by simp [total]
theorem total_cons (s : ByteArray) (m : List ByteArray) : total (s :: m) = s.size + total m := by simp [total]
end Go.Proofs.YtoigkneoaemcfaaDoor.Tab
