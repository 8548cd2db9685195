/- canon.Is and dioramaref09.Same of one and the same, plain. -/
import Derived.Test.YtlfjjapndlkamaaCtGrK
import Derived.Test.YtlfjjapndlkamaaCtGHx5
import Derived.Test.YtlfjjapndlkamaaCtGHx9
import Derived.Test.YtlfjjapndlkamaaCtGHx7
namespace Go.Proofs.Ytlfjjapndlkamaa.GH
open Go.RowKit Go.Proofs.YtlfjjapndlkamaaW.PrintWords Go.Proofs.YtlfjjapndlkamaaW.PrintLast Go.Proofs.YtlfjjapndlkamaaW.PrintMore
set_option linter.unusedVariables false
set_option linter.unusedSimpArgs false
theorem less_int (a b : Int) : cmp_Less_int.f a b = some (decide (a < b)) := by
  unfold cmp_Less_int.f cmp_isNaN_int.f
  simp
theorem sorted_l0 (tl : List Int) (n : Nat) (hn : n ≤ 1000000) (hl : tl.length = n) (h : ∀ j, j < n → tl.getD j 0 = (j : Int)) : ∀ i : Nat, i < n → ∀ k, slices_IsSorted_int_int.l0 (k + i + 1) tl (i : Int) = some true := by
  intro i
  induction i with
  | zero =>
    intro _ k
    rw [slices_IsSorted_int_int.l0, if_neg (by omega)]
  | succ i ih =>
    intro hi k
    rw [show k + (i + 1) + 1 = (k + i + 1) + 1 by omega, slices_IsSorted_int_int.l0, if_pos (by omega), if_pos (by omega), if_pos (by omega), w64 (by omega) (by omega), show ((i + 1 : Nat) : Int) - 1 = (i : Int) by omega, if_pos (by omega), if_pos (by omega), less_int, Option.bind_some, rd_nat, rd_nat, h _ hi, h _ (by omega), if_neg (by simp; omega)]
    exact ih (by omega) k
theorem sorted9 (tl : List Int) (hn : tl.length ≤ 1000000) (h : ∀ j, j < tl.length → tl.getD j 0 = (j : Int)) (k : Nat) : slices_IsSorted_int_int.f (k + tl.length + 1) tl = some true := by
  unfold slices_IsSorted_int_int.f
  rw [w64 (by omega) (by omega)]
  by_cases h0 : tl.length = 0
  · rw [h0]
    rw [slices_IsSorted_int_int.l0, if_neg (by omega)]
  · have := sorted_l0 tl tl.length hn rfl h (tl.length - 1) (by omega) (k + 1)
    rw [show k + 1 + (tl.length - 1) + 1 = k + tl.length + 1 by omega, show ((tl.length - 1 : Nat) : Int) = (tl.length : Int) - 1 by omega] at this
    exact this
theorem is_l0 (tl : List Int) (hn : tl.length ≤ 1000000) (h0 : 0 < tl.length) : ∀ (d i : Nat), i + d = tl.length → (∀ j, j < i → tl.getD j 0 = (j : Int)) → ∀ k, canon_Is.l0 (k + tl.length + 1 + d + 1) tl tl (tl.length : Int) (i : Int) = some (decide (∀ j, j < tl.length → tl.getD j 0 = (j : Int))) := by
  intro d
  induction d with
  | zero =>
    intro i hi hj k
    have hall : ∀ j, j < tl.length → tl.getD j 0 = (j : Int) := fun j h => hj j (by omega)
    rw [canon_Is.l0, if_neg (by omega), if_pos (by omega), sorted9 tl hn hall k, Option.bind_some, decide_eq_true hall]
  | succ d ih =>
    intro i hi hj k
    rw [show k + tl.length + 1 + (d + 1) + 1 = (k + tl.length + 1 + d + 1) + 1 by omega, canon_Is.l0, if_pos (by omega), if_pos (by omega), if_pos (by omega), rd_nat, w64 (by omega) (by omega)]
    by_cases e : (i : Int) = tl.getD i 0
    · rw [if_pos e]
      refine ih (i + 1) (by omega) (fun j h => ?_) k
      by_cases hji : j = i
      · subst hji; exact e.symm
      · exact hj j (by omega)
    · rw [if_neg e, decide_eq_false (fun h => e (h i (by omega)).symm)]
section
variable {l0 : List (S40)} {a1 : Int}
theorem cl_range (h : GT.Cn (GT.toG (kidsI l0)) a1.toNat (cl l0 a1)) : (∀ j, j < l0.length → (tlOf l0 a1).getD j 0 = (j : Int)) ↔ cl l0 a1 = List.range l0.length := by
  have hl := toG_len l0
  constructor
  · intro hj
    apply List.ext_getElem?
    intro i
    by_cases hi : i < l0.length
    · have h1 := h.get_lt (i := i) (by omega)
      have h2 := hj _ (show (cl l0 a1).getD i 0 < l0.length by omega)
      rw [tl_get (by omega), h.find_get (by omega)] at h2
      rw [List.getElem?_range hi]
      have h3 : (cl l0 a1).getD i 0 = i := by omega
      rw [List.getD_eq_getElem?_getD, List.getElem?_eq_getElem (by rw [h.len]; omega)] at h3
      rw [List.getElem?_eq_getElem (by rw [h.len]; omega)]
      exact congrArg some h3
    · rw [List.getElem?_eq_none (by rw [h.len]; omega), List.getElem?_eq_none (by rw [List.length_range]; omega)]
  · intro e j hj
    rw [tl_get hj, e, GT.find_range hj]
/-! ### one and the same -/
theorem diff_l1 (a : Int) (l1 : List Int) (l2 : List ByteArray) (l3 : List Int) (b : Int) (m1 : List Int) (m3 : List Int) (h2 : l2.length < 8796093022208) : ∀ (d i : Nat), i + d = l2.length → ∀ k, dioramaref08_Diff.l1 (k + d + 1) [] (i : Int) a l1 l2 l3 b m1 l2 m3 = some ([], true) := by
  intro d
  induction d with
  | zero =>
    intro i hi k
    rw [dioramaref08_Diff.l1, if_neg (by omega)]
  | succ d ih =>
    intro i hi k
    rw [show k + (d + 1) + 1 = (k + d + 1) + 1 by omega, dioramaref08_Diff.l1, if_pos (by omega), if_pos (by omega), if_pos (by omega), if_pos rfl, w64 (by omega) (by omega)]
    exact ih (i + 1) (by omega) k
theorem diff_l0 (a : Int) (l1 : List Int) (l2 : List ByteArray) (l3 : List Int) (b : Int) (m3 : List Int) (h1 : l1.length < 8796093022208) (h2 : l2.length < 8796093022208) : ∀ (d i : Nat), i + d = l1.length → ∀ k, dioramaref08_Diff.l0 (k + l2.length + 1 + d + 1) [] (i : Int) a l1 l2 l3 b l1 l2 m3 = some ([], true) := by
  intro d
  induction d with
  | zero =>
    intro i hi k
    rw [dioramaref08_Diff.l0, if_neg (by omega)]
    exact diff_l1 a l1 l2 l3 b l1 m3 h2 l2.length 0 (by omega) k
  | succ d ih =>
    intro i hi k
    rw [show k + l2.length + 1 + (d + 1) + 1 = (k + l2.length + 1 + d + 1) + 1 by omega, dioramaref08_Diff.l0, if_pos (by omega), if_pos (by omega), if_pos (by omega), if_pos rfl, w64 (by omega) (by omega)]
    exact ih (i + 1) (by omega) k
theorem own8_refl (a : Int) (l1 : List Int) (l2 : List ByteArray) (l3 : List Int) (m3 : List Int) (h1 : l1.length < 8796093022208) (h2 : l2.length < 8796093022208) (k : Nat) : dioramaref08_Own.f (k + l2.length + 1 + l1.length + 1 + 1) a l1 l2 l3 a l1 l2 m3 = some true := by
  unfold dioramaref08_Own.f dioramaref08_Diff.f
  rw [if_pos rfl, if_pos rfl, dioramaref08_Diff.j0, if_neg (by simp)]
  have := diff_l0 a l1 l2 l3 a m3 h1 h2 l1.length 0 (by omega) k
  rw [show ((0 : Nat) : Int) = 0 from rfl] at this
  rw [this, Option.bind_some]
  rfl
theorem same8_l0 (a : Int) (l1 : List Int) (l2 : List ByteArray) (l3 : List Int) (h3 : l3.length < 8796093022208) : ∀ (d i : Nat), i + d = l3.length → ∀ k, dioramaref08_Same.l0 (k + d + 1) (i : Int) a l1 l2 l3 a l1 l2 l3 = some true := by
  intro d
  induction d with
  | zero =>
    intro i hi k
    rw [dioramaref08_Same.l0, if_neg (by omega)]
  | succ d ih =>
    intro i hi k
    rw [show k + (d + 1) + 1 = (k + d + 1) + 1 by omega, dioramaref08_Same.l0, if_pos (by omega), if_pos (by omega), if_pos (by omega), if_pos rfl, w64 (by omega) (by omega)]
    exact ih (i + 1) (by omega) k
theorem same8_refl (a : Int) (l1 : List Int) (l2 : List ByteArray) (l3 : List Int) (h1 : l1.length < 8796093022208) (h2 : l2.length < 8796093022208) (h3 : l3.length < 8796093022208) : ∃ K, ∀ k, dioramaref08_Same.f (k + K) a l1 l2 l3 a l1 l2 l3 = some true := by
  refine ⟨l2.length + 1 + l1.length + 1 + 1 + l3.length + 1, fun k => ?_⟩
  have h4 := own8_refl a l1 l2 l3 l3 h1 h2 (k + l3.length + 1)
  rw [show k + l3.length + 1 + l2.length + 1 + l1.length + 1 + 1 = k + (l2.length + 1 + l1.length + 1 + 1 + l3.length + 1) by omega] at h4
  have h5 := same8_l0 a l1 l2 l3 h3 l3.length 0 (by omega) (k + l2.length + 1 + l1.length + 1)
  rw [show k + l2.length + 1 + l1.length + 1 + l3.length + 1 = k + l2.length + 1 + l1.length + l3.length + 2 by omega] at h5
  rw [dioramaref08_Same.f, h4, Option.bind_some, if_pos rfl, show k + (l2.length + 1 + l1.length + 1 + 1 + l3.length + 1) = (k + l2.length + 1 + l1.length + l3.length + 2) + 1 by omega, dioramaref08_Same.j0, if_neg (by simp)]
  exact h5
theorem same9_l0 (b1 : Int) (hM : Mod l0) : ∀ (d i : Nat), i + d = l0.length → ∃ K, ∀ k, dioramaref09_Same.l0 (k + K) (i : Int) l0 b1 l0 b1 = some true := by
  intro d
  induction d with
  | zero =>
    intro i hi
    refine ⟨1, fun k => ?_⟩
    rw [dioramaref09_Same.l0, if_neg (by omega)]
  | succ d ih =>
    intro i hi
    obtain ⟨K, h1⟩ := ih (i + 1) (by omega)
    have hb := hM.one (rd_T40 l0 (i : Int)) (by rw [rdT_get (show i < l0.length by omega)]; exact List.getElem_mem _)
    have hk := kid_len l0 hM.sum (i : Int)
    have hn := hM.len
    obtain ⟨K2, h2⟩ := same8_refl (rd_T40 l0 (i : Int)).f0 (rd_T40 l0 (i : Int)).f1 (rd_T40 l0 (i : Int)).f2 (rd_T40 l0 (i : Int)).f3 hb.1 hb.2 (by omega)
    refine ⟨K + K2 + 1, fun k => ?_⟩
    have h3 := h2 (k + K)
    rw [show k + K + K2 = k + (K + K2) by omega] at h3
    have h4 := h1 (k + K2)
    rw [show k + K2 + K = k + (K + K2) by omega] at h4
    rw [show k + (K + K2 + 1) = (k + (K + K2)) + 1 by omega, dioramaref09_Same.l0, if_pos (by omega), if_pos (by omega), if_pos (by omega), h3, Option.bind_some, if_pos rfl, w64 (by omega) (by omega)]
    exact h4
theorem same9_refl (b1 : Int) (hM : Mod l0) : ∃ K, ∀ k, dioramaref09_Same.f (k + K) l0 b1 l0 b1 = some true := by
  obtain ⟨K, h⟩ := same9_l0 b1 hM l0.length 0 (by omega)
  refine ⟨K + 1, fun k => ?_⟩
  rw [show k + (K + 1) = (k + K) + 1 by omega, dioramaref09_Same.f, if_pos rfl, dioramaref09_Same.j0, if_neg (by simp)]
  exact h k
end
end Go.Proofs.Ytlfjjapndlkamaa.GH
