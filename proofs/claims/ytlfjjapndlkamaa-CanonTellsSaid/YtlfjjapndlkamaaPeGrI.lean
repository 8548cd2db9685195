/- canon.Is and dioramaref09.Same of one and the same, plain. -/
import Derived.Test.YtlfjjapndlkamaaPeGrK
import Derived.Test.YtlfjjapndlkamaaPeGEx5
import Derived.Test.YtlfjjapndlkamaaPeGEx9
import Derived.Test.YtlfjjapndlkamaaPeGEx7
namespace Go.Proofs.Ytlfjjapndlkamaa.GE
open Go.RowKit Go.Proofs.YtlfjjapndlkamaaW.PrintWords Go.Proofs.YtlfjjapndlkamaaW.PrintLast Go.Proofs.YtlfjjapndlkamaaW.PrintMore
set_option linter.unusedVariables false
set_option linter.unusedSimpArgs false
theorem less_int (a b : Int) : cmp_Less_int.f a b = some (decide (a < b)) := by
  unfold cmp_Less_int.f cmp_isNaN_int.f
  simp
theorem sorted_l0 (tl : List Int) (n : Nat) (hn : n ≤ 1000000) (hl : tl.length = n) (h : ∀ j, j < n → tl.getD j 0 = (j : Int)) : ∀ i : Nat, i < n → ∀ k, slices_IsSorted_int_int.l0 (k + i + 1) tl (i : Int) = some true := by
  intro i
  induction i with
  | zero =>
    intro _ k
    rw [slices_IsSorted_int_int.l0, if_neg (by omega)]
  | succ i ih =>
    intro hi k
    rw [show k + (i + 1) + 1 = (k + i + 1) + 1 by omega, slices_IsSorted_int_int.l0, if_pos (by omega), if_pos (by omega), if_pos (by omega), w64 (by omega) (by omega), show ((i + 1 : Nat) : Int) - 1 = (i : Int) by omega, if_pos (by omega), if_pos (by omega), less_int, Option.bind_some, rd_nat, rd_nat, h _ hi, h _ (by omega), if_neg (by simp; omega)]
    exact ih (by omega) k
theorem sorted9 (tl : List Int) (hn : tl.length ≤ 1000000) (h : ∀ j, j < tl.length → tl.getD j 0 = (j : Int)) (k : Nat) : slices_IsSorted_int_int.f (k + tl.length + 1) tl = some true := by
  unfold slices_IsSorted_int_int.f
  rw [w64 (by omega) (by omega)]
  by_cases h0 : tl.length = 0
  · rw [h0]
    rw [slices_IsSorted_int_int.l0, if_neg (by omega)]
  · have := sorted_l0 tl tl.length hn rfl h (tl.length - 1) (by omega) (k + 1)
    rw [show k + 1 + (tl.length - 1) + 1 = k + tl.length + 1 by omega, show ((tl.length - 1 : Nat) : Int) = (tl.length : Int) - 1 by omega] at this
    exact this
theorem is_l0 (tl : List Int) (hn : tl.length ≤ 1000000) (h0 : 0 < tl.length) : ∀ (d i : Nat), i + d = tl.length → (∀ j, j < i → tl.getD j 0 = (j : Int)) → ∀ k, canon_Is.l0 (k + tl.length + 1 + d + 1) tl tl (tl.length : Int) (i : Int) = some (decide (∀ j, j < tl.length → tl.getD j 0 = (j : Int))) := by
  intro d
  induction d with
  | zero =>
    intro i hi hj k
    have hall : ∀ j, j < tl.length → tl.getD j 0 = (j : Int) := fun j h => hj j (by omega)
    rw [canon_Is.l0, if_neg (by omega), if_pos (by omega), sorted9 tl hn hall k, Option.bind_some, decide_eq_true hall]
  | succ d ih =>
    intro i hi hj k
    rw [show k + tl.length + 1 + (d + 1) + 1 = (k + tl.length + 1 + d + 1) + 1 by omega, canon_Is.l0, if_pos (by omega), if_pos (by omega), if_pos (by omega), rd_nat, w64 (by omega) (by omega)]
    by_cases e : (i : Int) = tl.getD i 0
    · rw [if_pos e]
      refine ih (i + 1) (by omega) (fun j h => ?_) k
      by_cases hji : j = i
      · subst hji; exact e.symm
      · exact hj j (by omega)
    · rw [if_neg e, decide_eq_false (fun h => e (h i (by omega)).symm)]
section
variable {l0 : List (S40)} {a1 : Int}
theorem cl_range (h : GT.Cn (GT.toG (kidsI l0)) a1.toNat (cl l0 a1)) : (∀ j, j < l0.length → (tlOf l0 a1).getD j 0 = (j : Int)) ↔ cl l0 a1 = List.range l0.length := by
  have hl := toG_len l0
  constructor
  · intro hj
    apply List.ext_getElem?
    intro i
    by_cases hi : i < l0.length
    · have h1 := h.get_lt (i := i) (by omega)
      have h2 := hj _ (show (cl l0 a1).getD i 0 < l0.length by omega)
      rw [tl_get (by omega), h.find_get (by omega)] at h2
      rw [List.getElem?_range hi]
      have h3 : (cl l0 a1).getD i 0 = i := by omega
      rw [List.getD_eq_getElem?_getD, List.getElem?_eq_getElem (by rw [h.len]; omega)] at h3
      rw [List.getElem?_eq_getElem (by rw [h.len]; omega)]
      exact congrArg some h3
    · rw [List.getElem?_eq_none (by rw [h.len]; omega), List.getElem?_eq_none (by rw [List.length_range]; omega)]
  · intro e j hj
    rw [tl_get hj, e, GT.find_range hj]
/-- canon.Is. -/
theorem gis (hn : l0.length ≤ 1000000) (hE : ((kidsI l0).map List.length).sum ≤ 1000000) : ∃ K, ∀ k, canon_Is.f (k + K) l0 a1 = some (decide ((checkP l0 a1).1 = 0 ∧ cl l0 a1 = List.range l0.length)) := by
  obtain ⟨K, h1⟩ := gnumbers (a1 := a1) hn hE
  by_cases hc : (checkP l0 a1).1 = 0
  · obtain ⟨h2, _⟩ := cn_of hn hE hc
    obtain ⟨h0, h3, _⟩ := checkP_zero hE hc
    refine ⟨K + l0.length + 1 + l0.length + 1, fun k => ?_⟩
    have h4 := h1 (k + l0.length + 1 + l0.length + 1)
    rw [if_pos hc] at h4
    have h5 := is_l0 (tlOf l0 a1) (by rw [tl_len]; exact hn) (by rw [tl_len]; omega) (tlOf l0 a1).length 0 (by omega) (fun j h => by omega) (k + K)
    rw [tl_len] at h5
    rw [show k + (K + l0.length + 1 + l0.length + 1) = k + l0.length + 1 + l0.length + 1 + K by omega, canon_Is.f, h4, Option.bind_some, tl_len, show k + l0.length + 1 + l0.length + 1 + K = k + K + l0.length + 1 + l0.length + 1 by omega]
    refine h5.trans ?_
    congr 1
    exact decide_eq_decide.2 (by rw [cl_range h2]; exact ⟨fun h => ⟨hc, h⟩, fun h => h.2⟩)
  · refine ⟨K + 1, fun k => ?_⟩
    have h4 := h1 (k + 1)
    rw [if_neg hc] at h4
    rw [show k + (K + 1) = k + 1 + K by omega, canon_Is.f, h4, Option.bind_some, show k + 1 + K = k + K + 1 by omega]
    rw [canon_Is.l0, if_neg (by simp), if_neg (by simp), decide_eq_false (fun h => hc h.1)]
/-! ### one and the same -/
end
end Go.Proofs.Ytlfjjapndlkamaa.GE
