/- What Diff, Own and Same of layer 8 tell, in closed form. -/
import Derived.Test.YtmglknchklgokaaDoorFP
import Derived.Test.YtmglknchklgokaaDoorGYx6
import Derived.Test.YtmglknchklgokaaDoorGYx7
namespace Go.Proofs.YtmglknchklgokaaDoor.GY
open Go.RowKit Go.Proofs.YtmglknchklgokaaDoorW.PrintWords Go.Proofs.YtmglknchklgokaaDoorW.PrintLast Go.Proofs.YtmglknchklgokaaDoorW.PrintMore
set_option linter.unusedVariables false
set_option linter.unusedSimpArgs false
abbrev Sets := List S75
theorem bytes_eq {a b : ByteArray} : a.toList = b.toList ↔ a = b := by
  constructor
  · intro h
    rw [ByteArray.toList_eq, ByteArray.toList_eq] at h
    cases a; cases b
    simp only [Array.toList_inj] at h
    rw [h]
  · rintro rfl; rfl
/-- The numbers that differ, from a place on. -/
def dI : Nat → List Int → List Int → Sets
  | i, a :: x, b :: y => (if a = b then [] else [⟨false, (i : Int), b, ⟨#[]⟩⟩]) ++ dI (i + 1) x y
  | _, _, _ => []
def dT : Nat → List ByteArray → List ByteArray → Sets
  | i, a :: x, b :: y => (if a = b then [] else [⟨true, (i : Int), 0, b⟩]) ++ dT (i + 1) x y
  | _, _, _ => []
def diffs (l1 : List Int) (l2 : List ByteArray) (m1 : List Int) (m2 : List ByteArray) : Sets := dI 0 l1 m1 ++ dT 0 l2 m2
theorem ref_l1 (k : Nat) (a0 : Int) (l1 : List Int) (l2 : List ByteArray) (l3 : List Int) (b0 : Int) (m1 : List Int) (m2 : List ByteArray) (m3 : List Int) (he : l2.length = m2.length) (hn : l2.length ≤ 100) : ∀ (d i : Nat) (acc : Sets), i + d = l2.length → acc.length ≤ 100 + i →
    dioramaref08_Diff.l1 (k + d + 1) acc (i : Int) a0 l1 l2 l3 b0 m1 m2 m3 = some (acc ++ dT i (l2.drop i) (m2.drop i), true) := by
  intro d
  induction d with
  | zero =>
    intro i acc hi ha
    rw [dioramaref08_Diff.l1, if_neg (by omega), List.drop_of_length_le (l := l2) (by omega)]
    simp [dT]
  | succ d ih =>
    intro i acc hi ha
    rw [show k + (d + 1) + 1 = (k + d + 1) + 1 by omega, dioramaref08_Diff.l1, if_pos (by omega), if_pos (by omega), if_pos (by omega), drop_txt (l := l2) (by omega), drop_txt (l := m2) (by omega), dT, w64 (n := (i : Int) + 1) (by omega) (by omega)]
    by_cases hc : rdOf ByteArray.empty l2 (i : Int) = rdOf ByteArray.empty m2 (i : Int)
    · rw [if_pos (bytes_eq.2 hc), if_pos hc]
      exact ih (i + 1) acc (by omega) (by omega)
    · rw [if_neg (fun h => hc (bytes_eq.1 h)), if_neg hc, if_pos (by omega)]
      refine (ih (i + 1) _ (by omega) (by simp; omega)).trans ?_
      rw [List.append_assoc]
theorem ref_l0 (k : Nat) (hk : 101 ≤ k) (a0 : Int) (l1 : List Int) (l2 : List ByteArray) (l3 : List Int) (b0 : Int) (m1 : List Int) (m2 : List ByteArray) (m3 : List Int) (he1 : l1.length = m1.length) (hn1 : l1.length ≤ 100) (he : l2.length = m2.length) (hn : l2.length ≤ 100) : ∀ (d i : Nat) (acc : Sets), i + d = l1.length → acc.length ≤ i →
    dioramaref08_Diff.l0 (k + d + 1) acc (i : Int) a0 l1 l2 l3 b0 m1 m2 m3 = some (acc ++ dI i (l1.drop i) (m1.drop i) ++ dT 0 l2 m2, true) := by
  intro d
  induction d with
  | zero =>
    intro i acc hi ha
    rw [dioramaref08_Diff.l0, if_neg (by omega), List.drop_of_length_le (l := l1) (by omega)]
    have := ref_l1 (k - l2.length - 1) a0 l1 l2 l3 b0 m1 m2 m3 he hn l2.length 0 acc (by omega) (by omega)
    rw [show k = k - l2.length - 1 + l2.length + 1 by omega]
    simpa [dI] using this
  | succ d ih =>
    intro i acc hi ha
    rw [show k + (d + 1) + 1 = (k + d + 1) + 1 by omega, dioramaref08_Diff.l0, if_pos (by omega), if_pos (by omega), if_pos (by omega), drop_rd (l := l1) (by omega), drop_rd (l := m1) (by omega), dI, w64 (n := (i : Int) + 1) (by omega) (by omega)]
    by_cases hc : rd l1 (i : Int) = rd m1 (i : Int)
    · rw [if_pos hc, if_pos hc]
      exact ih (i + 1) acc (by omega) (by omega)
    · rw [if_neg hc, if_neg hc, if_pos (by omega)]
      refine (ih (i + 1) _ (by omega) (by simp; omega)).trans ?_
      rw [List.append_assoc, List.append_assoc, List.append_assoc, List.append_assoc]
/-- Can the one node's fields be set to the other one's? -/
def canB (a0 : Int) (l1 : List Int) (l2 : List ByteArray) (b0 : Int) (m1 : List Int) (m2 : List ByteArray) : Bool := decide (a0 = b0 ∧ l1.length = m1.length ∧ l2.length = m2.length)
theorem ref_diff (k : Nat) (hk : 300 ≤ k) (a0 : Int) (l1 : List Int) (l2 : List ByteArray) (l3 : List Int) (b0 : Int) (m1 : List Int) (m2 : List ByteArray) (m3 : List Int) (hn1 : l1.length ≤ 100) (hn : l2.length ≤ 100) :
    dioramaref08_Diff.f k a0 l1 l2 l3 b0 m1 m2 m3 = some (if canB a0 l1 l2 b0 m1 m2 = true then (diffs l1 l2 m1 m2, true) else ([], false)) := by
  unfold dioramaref08_Diff.f canB
  obtain ⟨q, rfl⟩ : ∃ q, k = q + 1 := ⟨k - 1, by omega⟩
  have hfail : dioramaref08_Diff.j0 (q + 1) true a0 l1 l2 l3 b0 m1 m2 m3 = some ([], false) := by rw [dioramaref08_Diff.j0, if_pos rfl]
  by_cases h0 : a0 = b0
  · rw [if_pos h0]
    by_cases h1 : l1.length = m1.length
    · rw [if_pos (by omega)]
      by_cases h2 : l2.length = m2.length
      · rw [if_pos (by simp [h0, h1, h2]), show ((l2.length : Int) != (m2.length : Int)) = false by simp [h2], dioramaref08_Diff.j0, if_neg (by simp)]
        have := ref_l0 (q - l1.length - 1) (by omega) a0 l1 l2 l3 b0 m1 m2 m3 h1 hn1 h2 hn l1.length 0 [] (by omega) (by simp)
        rw [show q = q - l1.length - 1 + l1.length + 1 by omega]
        simpa [diffs] using this
      · rw [if_neg (by simp [h2]), show ((l2.length : Int) != (m2.length : Int)) = true by simp; omega]
        exact hfail
    · rw [if_neg (by omega), if_neg (by simp [h1])]
      exact hfail
  · rw [if_neg h0, if_neg (by simp [h0])]
    exact hfail
theorem code_l1 (k : Nat) (a0 : Int) (l1 : List Int) (l2 : List ByteArray) (l3 : List Int) (m2 : List ByteArray) (he : l2.length = m2.length) (hn : l2.length ≤ 100) : ∀ (d i : Nat) (acc : Sets), i + d = l2.length → acc.length ≤ 100 + i →
    field_Diff.l1 (k + d + 1) acc m2 (m2.length : Int) (i : Int) a0 l1 l2 l3 = some (acc ++ dT i (l2.drop i) (m2.drop i), true) := by
  intro d
  induction d with
  | zero =>
    intro i acc hi ha
    rw [field_Diff.l1, if_neg (by omega), List.drop_of_length_le (l := l2) (by omega)]
    simp [dT]
  | succ d ih =>
    intro i acc hi ha
    rw [show k + (d + 1) + 1 = (k + d + 1) + 1 by omega, field_Diff.l1, if_pos (by omega), if_pos (by omega), if_pos (by omega), if_pos (by omega), drop_txt (l := l2) (by omega), drop_txt (l := m2) (by omega), dT, w64 (n := (i : Int) + 1) (by omega) (by omega)]
    by_cases hc : rdOf ByteArray.empty l2 (i : Int) = rdOf ByteArray.empty m2 (i : Int)
    · rw [if_pos (bytes_eq.2 hc), if_pos hc]
      exact ih (i + 1) acc (by omega) (by omega)
    · rw [if_neg (fun h => hc (bytes_eq.1 h)), if_neg hc, if_pos (by omega)]
      refine (ih (i + 1) _ (by omega) (by simp; omega)).trans ?_
      rw [List.append_assoc]
theorem code_l0 (k : Nat) (hk : 101 ≤ k) (a0 : Int) (l1 : List Int) (l2 : List ByteArray) (l3 : List Int) (b0 : Int) (m1 : List Int) (m2 : List ByteArray) (m3 : List Int) (he1 : l1.length = m1.length) (hn1 : l1.length ≤ 100) (he : l2.length = m2.length) (hn : l2.length ≤ 100) : ∀ (d i : Nat) (acc : Sets), i + d = l1.length → acc.length ≤ i →
    field_Diff.l0 (k + d + 1) acc m1 (m1.length : Int) (i : Int) a0 l1 l2 l3 b0 m1 m2 m3 = some (acc ++ dI i (l1.drop i) (m1.drop i) ++ dT 0 l2 m2, true) := by
  intro d
  induction d with
  | zero =>
    intro i acc hi ha
    rw [field_Diff.l0, if_neg (by omega), List.drop_of_length_le (l := l1) (by omega)]
    have := code_l1 (k - l2.length - 1) a0 l1 l2 l3 m2 he hn l2.length 0 acc (by omega) (by omega)
    rw [show k = k - l2.length - 1 + l2.length + 1 by omega]
    simpa [dI] using this
  | succ d ih =>
    intro i acc hi ha
    rw [show k + (d + 1) + 1 = (k + d + 1) + 1 by omega, field_Diff.l0, if_pos (by omega), if_pos (by omega), if_pos (by omega), if_pos (by omega), drop_rd (l := l1) (by omega), drop_rd (l := m1) (by omega), dI, w64 (n := (i : Int) + 1) (by omega) (by omega)]
    by_cases hc : rd l1 (i : Int) = rd m1 (i : Int)
    · rw [if_pos hc, if_pos hc]
      exact ih (i + 1) acc (by omega) (by omega)
    · rw [if_neg hc, if_neg hc, if_pos (by omega)]
      refine (ih (i + 1) _ (by omega) (by simp; omega)).trans ?_
      rw [List.append_assoc, List.append_assoc, List.append_assoc, List.append_assoc]
theorem code_diff (k : Nat) (hk : 300 ≤ k) (a0 : Int) (l1 : List Int) (l2 : List ByteArray) (l3 : List Int) (b0 : Int) (m1 : List Int) (m2 : List ByteArray) (m3 : List Int) (hn1 : l1.length ≤ 100) (hn : l2.length ≤ 100) :
    field_Diff.f k a0 l1 l2 l3 b0 m1 m2 m3 = some (if canB a0 l1 l2 b0 m1 m2 = true then (diffs l1 l2 m1 m2, true) else ([], false)) := by
  unfold field_Diff.f canB
  obtain ⟨q, rfl⟩ : ∃ q, k = q + 1 := ⟨k - 1, by omega⟩
  have hfail : field_Diff.j0 (q + 1) true a0 l1 l2 l3 b0 m1 m2 m3 = some ([], false) := by rw [field_Diff.j0, if_pos rfl]
  by_cases h0 : a0 = b0
  · rw [if_pos h0]
    by_cases h1 : l1.length = m1.length
    · rw [if_pos (by omega)]
      by_cases h2 : l2.length = m2.length
      · rw [if_pos (by simp [h0, h1, h2]), show ((l2.length : Int) != (m2.length : Int)) = false by simp [h2], field_Diff.j0, if_neg (by simp)]
        have := code_l0 (q - l1.length - 1) (by omega) a0 l1 l2 l3 b0 m1 m2 m3 h1 hn1 h2 hn l1.length 0 [] (by omega) (by simp)
        rw [show q = q - l1.length - 1 + l1.length + 1 by omega]
        simpa [diffs] using this
      · rw [if_neg (by simp [h2]), show ((l2.length : Int) != (m2.length : Int)) = true by simp; omega]
        exact hfail
    · rw [if_neg (by omega), if_neg (by simp [h1])]
      exact hfail
  · rw [if_neg h0, if_neg (by simp [h0])]
    exact hfail
theorem dI_nil : ∀ (i : Nat) (l m : List Int), l.length = m.length → (dI i l m = [] ↔ l = m)
  | i, [], [], _ => by simp [dI]
  | i, a :: l, b :: m, h => by
    have := dI_nil (i + 1) l m (by simpa using h)
    rw [dI]
    by_cases hc : a = b
    · subst hc; rw [if_pos rfl, List.nil_append, this]; simp
    · rw [if_neg hc]; simp [hc]
theorem dT_nil : ∀ (i : Nat) (l m : List ByteArray), l.length = m.length → (dT i l m = [] ↔ l = m)
  | i, [], [], _ => by simp [dT]
  | i, a :: l, b :: m, h => by
    have := dT_nil (i + 1) l m (by simpa using h)
    rw [dT]
    by_cases hc : a = b
    · subst hc; rw [if_pos rfl, List.nil_append, this]; simp
    · rw [if_neg hc]; simp [hc]
theorem own8 (k : Nat) (hk : 300 ≤ k) (a0 : Int) (l1 : List Int) (l2 : List ByteArray) (l3 : List Int) (b0 : Int) (m1 : List Int) (m2 : List ByteArray) (m3 : List Int) (hn1 : l1.length ≤ 100) (hn : l2.length ≤ 100) :
    dioramaref08_Own.f k a0 l1 l2 l3 b0 m1 m2 m3 = some (decide (a0 = b0 ∧ l1 = m1 ∧ l2 = m2)) := by
  unfold dioramaref08_Own.f
  rw [ref_diff k hk _ _ _ _ _ _ _ _ hn1 hn, Option.bind_some]
  by_cases hc : canB a0 l1 l2 b0 m1 m2 = true
  · rw [if_pos hc, if_pos rfl]
    congr 1
    unfold canB at hc
    obtain ⟨h0, h1, h2⟩ := of_decide_eq_true hc
    rw [Bool.eq_iff_iff, beq_iff_eq, decide_eq_true_eq]
    have e : ((diffs l1 l2 m1 m2).length : Int) = 0 ↔ diffs l1 l2 m1 m2 = [] := by rw [← List.length_eq_zero_iff]; omega
    simp only
    rw [e, diffs, List.append_eq_nil_iff, dI_nil 0 l1 m1 h1, dT_nil 0 l2 m2 h2]
    simp [h0]
  · rw [if_neg hc, if_neg (by simp)]
    congr 1
    rw [eq_comm, decide_eq_false_iff_not]
    rintro ⟨rfl, rfl, rfl⟩
    exact hc (by unfold canB; simp)
theorem same_l0 (k : Nat) (a0 : Int) (l1 : List Int) (l2 : List ByteArray) (l3 : List Int) (b0 : Int) (m1 : List Int) (m2 : List ByteArray) (m3 : List Int) (he : l3.length = m3.length) (hn : l3.length ≤ 300) : ∀ (d i : Nat), i + d = l3.length →
    dioramaref08_Same.l0 (k + d + 1) (i : Int) a0 l1 l2 l3 b0 m1 m2 m3 = some (decide (l3.drop i = m3.drop i)) := by
  intro d
  induction d with
  | zero =>
    intro i hi
    rw [dioramaref08_Same.l0, if_neg (by omega), List.drop_of_length_le (by omega), List.drop_of_length_le (by omega)]
    simp
  | succ d ih =>
    intro i hi
    rw [show k + (d + 1) + 1 = (k + d + 1) + 1 by omega, dioramaref08_Same.l0, if_pos (by omega), if_pos (by omega), if_pos (by omega), drop_rd (l := l3) (by omega), drop_rd (l := m3) (by omega), w64 (n := (i : Int) + 1) (by omega) (by omega)]
    by_cases hc : rd l3 (i : Int) = rd m3 (i : Int)
    · rw [if_pos hc]
      refine (ih (i + 1) (by omega)).trans ?_
      simp [hc]
    · rw [if_neg hc]
      simp [hc]
theorem same8 (k : Nat) (hk : 400 ≤ k) (a0 : Int) (l1 : List Int) (l2 : List ByteArray) (l3 : List Int) (b0 : Int) (m1 : List Int) (m2 : List ByteArray) (m3 : List Int) (hn1 : l1.length ≤ 100) (hn : l2.length ≤ 100) (hn3 : l3.length ≤ 300) :
    dioramaref08_Same.f k a0 l1 l2 l3 b0 m1 m2 m3 = some (decide (a0 = b0 ∧ l1 = m1 ∧ l2 = m2 ∧ l3 = m3)) := by
  unfold dioramaref08_Same.f
  rw [own8 k (by omega) _ _ _ _ _ _ _ _ hn1 hn, Option.bind_some]
  obtain ⟨q, rfl⟩ : ∃ q, k = q + 1 := ⟨k - 1, by omega⟩
  by_cases hc : a0 = b0 ∧ l1 = m1 ∧ l2 = m2
  · rw [decide_eq_true hc, if_pos rfl, dioramaref08_Same.j0]
    obtain ⟨h0, h1, h2⟩ := hc
    by_cases h3 : l3.length = m3.length
    · rw [show ((l3.length : Int) != (m3.length : Int)) = false by simp [h3], if_neg (by simp)]
      have := same_l0 (q - l3.length - 1) a0 l1 l2 l3 b0 m1 m2 m3 h3 hn3 l3.length 0 (by omega)
      rw [show q = q - l3.length - 1 + l3.length + 1 by omega]
      refine this.trans ?_
      simp [h0, h1, h2]
    · rw [show ((l3.length : Int) != (m3.length : Int)) = true by simp; omega, if_pos rfl]
      congr 1
      rw [eq_comm, decide_eq_false_iff_not]
      rintro ⟨_, _, _, rfl⟩
      exact h3 rfl
  · rw [decide_eq_false hc, if_neg (by simp), dioramaref08_Same.j0, if_pos rfl]
    congr 1
    rw [eq_comm, decide_eq_false_iff_not]
    rintro ⟨h0, h1, h2, _⟩
    exact hc ⟨h0, h1, h2⟩
theorem fcopy (a0 : Int) {l1 : List Int} {l2 : List ByteArray} {l3 : List Int} (h : Fit l1 l2 l3) : field_Copy.f a0 l1 l2 l3 = some (a0, l1, l2, l3) := by
  have h1 := h.n1
  have h2 := h.n2
  have h3 := h.n3
  unfold field_Copy.f slices_Clone_int64_int64.f slices_Clone_string_string.f slices_Clone_int_int.f
  rw [if_pos (by omega), if_pos (by omega), if_pos (by omega)]
  rfl
end Go.Proofs.YtmglknchklgokaaDoor.GY
