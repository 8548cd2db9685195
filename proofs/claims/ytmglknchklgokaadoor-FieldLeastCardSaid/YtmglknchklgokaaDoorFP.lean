/- Plain facts of the field laws: great, copy, awake. -/
import Derived.Test.YtmglknchklgokaaDoorGYx10
import Derived.Test.YtmglknchklgokaaDoorGYx9
namespace Go.Proofs.YtmglknchklgokaaDoor.GY
open Go.RowKit Go.Proofs.YtmglknchklgokaaDoorW.PrintWords Go.Proofs.YtmglknchklgokaaDoorW.PrintLast Go.Proofs.YtmglknchklgokaaDoorW.PrintMore
set_option linter.unusedVariables false
set_option linter.unusedSimpArgs false
theorem w64 {n : Int} (h : -9223372036854775808 ≤ n) (h2 : n ≤ 9223372036854775807) : wrap64 n = n := by unfold wrap64; omega
theorem rd_nat (xs : List Int) (i : Nat) : rd xs (i : Int) = xs.getD i 0 := by unfold rd; rw [Int.toNat_natCast]
theorem drop_rd {l : List Int} {i : Nat} (h : i < l.length) : l.drop i = rd l (i : Int) :: l.drop (i + 1) := by
  rw [List.drop_eq_getElem_cons h, rd_nat, List.getD_eq_getElem?_getD, List.getElem?_eq_getElem h]; rfl
theorem drop_txt {l : List ByteArray} {i : Nat} (h : i < l.length) : l.drop i = rdOf ByteArray.empty l (i : Int) :: l.drop (i + 1) := by
  rw [List.drop_eq_getElem_cons h]
  unfold rdOf
  rw [Int.toNat_natCast, List.getD_eq_getElem?_getD, List.getElem?_eq_getElem h]; rfl
theorem awake_true : dioramalaw08_awake.f 60 = some true := by decide +kernel
theorem awake_at : ∀ k : Nat, dioramalaw08_awake.f (k + 60) = some true
  | 0 => awake_true
  | k + 1 => dioramalaw08_awake.mono (k + 60) true (awake_at k)
theorem great8_loop (a0 : Int) (l1 : List Int) (l2 : List ByteArray) (l3 : List Int) (h2 : l2.length ≤ 100) : ∀ d i : Nat, i + d = l2.length → ∃ b, (∀ k, dioramaref08_Great.l0 (k + d + 1) (i : Int) a0 l1 l2 l3 = some b) ∧ (b = false → ∀ s ∈ l2.drop i, s.size ≤ 500) := by
  intro d
  induction d with
  | zero =>
    intro i hi
    refine ⟨false, fun k => ?_, fun _ s hs => ?_⟩
    · rw [dioramaref08_Great.l0, if_neg (by omega)]
    · rw [List.drop_of_length_le (by omega)] at hs; cases hs
  | succ d ih =>
    intro i hi
    obtain ⟨b, h, hb⟩ := ih (i + 1) (by omega)
    by_cases hc : ((rdOf ByteArray.empty l2 i).size : Int) > 500
    · refine ⟨true, fun k => ?_, fun h => by cases h⟩
      rw [dioramaref08_Great.l0, if_pos (by omega), if_pos (by omega), if_pos hc]
    · refine ⟨b, fun k => ?_, fun hf s hs => ?_⟩
      · rw [show k + (d + 1) + 1 = (k + d + 1) + 1 by omega, dioramaref08_Great.l0, if_pos (by omega), if_pos (by omega), if_neg hc, w64 (by omega) (by omega)]
        exact h k
      · rw [drop_txt (by omega)] at hs
        rcases List.mem_cons.1 hs with rfl | hs
        · omega
        · exact hb hf s hs
structure Fit (l1 : List Int) (l2 : List ByteArray) (l3 : List Int) : Prop where
  n1 : l1.length ≤ 100
  n2 : l2.length ≤ 100
  n3 : l3.length ≤ 300
  s2 : ∀ s ∈ l2, s.size ≤ 500
theorem great8 (a0 : Int) (l1 : List Int) (l2 : List ByteArray) (l3 : List Int) : ∃ b, (∀ k, dioramaref08_Great.f (k + 103) a0 l1 l2 l3 = some b) ∧ (b = false → Fit l1 l2 l3) := by
  have htrue : ∀ k, dioramaref08_Great.j0 (k + 103) true a0 l1 l2 l3 = some true := fun k => by rw [show k + 103 = (k + 102) + 1 by omega, dioramaref08_Great.j0, if_pos rfl]
  by_cases h1 : (l1.length : Int) > 100
  · refine ⟨true, fun k => ?_, fun h => by cases h⟩
    rw [dioramaref08_Great.f, if_pos h1]; exact htrue k
  · by_cases h2 : (l2.length : Int) > 100
    · refine ⟨true, fun k => ?_, fun h => by cases h⟩
      rw [dioramaref08_Great.f, if_neg h1, if_pos h2]; exact htrue k
    · by_cases h3 : (l3.length : Int) > 300
      · refine ⟨true, fun k => ?_, fun h => by cases h⟩
        rw [dioramaref08_Great.f, if_neg h1, if_neg h2, decide_eq_true h3]; exact htrue k
      · obtain ⟨b, h, hb⟩ := great8_loop a0 l1 l2 l3 (by omega) l2.length 0 (by omega)
        refine ⟨b, fun k => ?_, fun hf => ⟨by omega, by omega, by omega, fun s hs => hb hf s (by simpa using hs)⟩⟩
        rw [dioramaref08_Great.f, if_neg h1, if_neg h2, decide_eq_false h3, show k + 103 = (k + 101 - l2.length + l2.length + 1) + 1 by omega, dioramaref08_Great.j0, if_neg (by simp)]
        exact h _
end Go.Proofs.YtmglknchklgokaaDoor.GY
