/- What the reference of layer 9 tells: great, copy, edges, refs, who is led to. -/
import Derived.Test.YtlfjjapndlkamaaCtGrO
import Derived.Test.YtlfjjapndlkamaaCtGHx6
import Derived.Test.YtlfjjapndlkamaaCtGHx5
import Derived.Test.YtlfjjapndlkamaaCtGHx9
import Derived.Test.YtlfjjapndlkamaaCtGHx10
namespace Go.Proofs.Ytlfjjapndlkamaa.GH
open Go.RowKit Go.Proofs.YtlfjjapndlkamaaW.PrintWords Go.Proofs.YtlfjjapndlkamaaW.PrintLast Go.Proofs.YtlfjjapndlkamaaW.PrintMore
set_option linter.unusedVariables false
set_option linter.unusedSimpArgs false
theorem rdT_get {l0 : List (S40)} {i : Nat} (h : i < l0.length) : rd_T40 l0 (i : Int) = l0[i] := by
  unfold rd_T40; rw [Int.toNat_natCast, List.getD_eq_getElem?_getD, List.getElem?_eq_getElem h]; rfl
/-- The kids of the nodes from a place on. -/
def restK (l0 : List (S40)) (i : Nat) : Nat := (((kidsI l0).drop i).map List.length).sum
theorem restK_step {l0 : List (S40)} {i : Nat} (h : i < l0.length) : restK l0 i = ((rd_T40 l0 (i : Int)).f3).length + restK l0 (i + 1) := by
  have h2 : i < (kidsI l0).length := by rw [kids_len]; exact h
  have := kidsI_at l0 (i : Int)
  rw [Int.toNat_natCast, List.getD_eq_getElem?_getD, List.getElem?_eq_getElem h2] at this
  unfold restK
  rw [List.drop_eq_getElem_cons h2, List.map_cons, List.sum_cons, ← this]
  rfl
theorem restK_end {l0 : List (S40)} {i : Nat} (h : l0.length ≤ i) : restK l0 i = 0 := by
  unfold restK
  rw [List.drop_of_length_le (by rw [kids_len]; exact h)]
  rfl
theorem redges_run (l0 : List (S40)) (a1 : Int) (hn : l0.length ≤ 1000000) : ∀ (d i : Nat) (x3 : Int), i + d = l0.length → ∃ v, (∀ k, dioramaref09_Edges.l0 (k + d + 1) x3 i l0 a1 = some v) ∧ (0 ≤ x3 → x3 + restK l0 i ≤ 1000000000000 → v = x3 + restK l0 i) := by
  intro d
  induction d with
  | zero =>
    intro i x3 hi
    refine ⟨x3, fun k => ?_, fun _ _ => ?_⟩
    · rw [dioramaref09_Edges.l0, if_neg (by omega)]
    · rw [restK_end (by omega)]; simp
  | succ d ih =>
    intro i x3 hi
    obtain ⟨v, h1, h2⟩ := ih (i + 1) (wrap64 (x3 + (((rd_T40 l0 (i : Int)).f3).length : Int))) (by omega)
    have hs := restK_step (l0 := l0) (i := i) (by omega)
    refine ⟨v, fun k => ?_, fun h3 h4 => ?_⟩
    · rw [show k + (d + 1) + 1 = (k + d + 1) + 1 by omega, dioramaref09_Edges.l0, if_pos (by omega), if_pos (by omega), w64 (n := (i : Int) + 1) (by omega) (by omega)]
      exact h1 k
    · rw [w64 (by omega) (by omega)] at h2
      rw [h2 (by omega) (by omega), hs]
      omega
theorem great8_loop (a0 : Int) (l1 : List Int) (l2 : List ByteArray) (l3 : List Int) (h2 : l2.length ≤ 100) : ∀ d i : Nat, i + d = l2.length → ∃ b, ∀ k, dioramaref08_Great.l0 (k + d + 1) (i : Int) a0 l1 l2 l3 = some b := by
  intro d
  induction d with
  | zero =>
    intro i hi
    refine ⟨false, fun k => ?_⟩
    rw [dioramaref08_Great.l0, if_neg (by omega)]
  | succ d ih =>
    intro i hi
    obtain ⟨b, h⟩ := ih (i + 1) (by omega)
    by_cases hc : ((rdOf ByteArray.empty l2 i).size : Int) > 500
    · refine ⟨true, fun k => ?_⟩
      rw [dioramaref08_Great.l0, if_pos (by omega), if_pos (by omega), if_pos hc]
    · refine ⟨b, fun k => ?_⟩
      rw [show k + (d + 1) + 1 = (k + d + 1) + 1 by omega, dioramaref08_Great.l0, if_pos (by omega), if_pos (by omega), if_neg hc, w64 (by omega) (by omega)]
      exact h k
theorem great8 (a0 : Int) (l1 : List Int) (l2 : List ByteArray) (l3 : List Int) : ∃ K b, (∀ k, dioramaref08_Great.f (k + K) a0 l1 l2 l3 = some b) ∧ (b = false → l1.length ≤ 100 ∧ l2.length ≤ 100 ∧ l3.length ≤ 300) := by
  have htrue : ∀ k, dioramaref08_Great.j0 (k + 1) true a0 l1 l2 l3 = some true := fun k => by rw [dioramaref08_Great.j0, if_pos rfl]
  by_cases h1 : (l1.length : Int) > 100
  · refine ⟨1, true, fun k => ?_, fun h => by cases h⟩
    rw [dioramaref08_Great.f, if_pos h1]; exact htrue k
  · by_cases h2 : (l2.length : Int) > 100
    · refine ⟨1, true, fun k => ?_, fun h => by cases h⟩
      rw [dioramaref08_Great.f, if_neg h1, if_pos h2]; exact htrue k
    · by_cases h3 : (l3.length : Int) > 300
      · refine ⟨1, true, fun k => ?_, fun h => by cases h⟩
        rw [dioramaref08_Great.f, if_neg h1, if_neg h2, decide_eq_true h3]; exact htrue k
      · obtain ⟨b, h⟩ := great8_loop a0 l1 l2 l3 (by omega) l2.length 0 (by omega)
        refine ⟨l2.length + 1 + 1, b, fun k => ?_, fun _ => ⟨by omega, by omega, by omega⟩⟩
        rw [dioramaref08_Great.f, if_neg h1, if_neg h2, decide_eq_false h3, show k + (l2.length + 1 + 1) = (k + l2.length + 1) + 1 by omega, dioramaref08_Great.j0, if_neg (by simp)]
        exact h k
/-- A scene that isn't too great. -/
structure Small (l0 : List (S40)) : Prop where
  len : l0.length ≤ 60
  one : ∀ i : Nat, i < l0.length → ((rd_T40 l0 (i : Int)).f1).length ≤ 100 ∧ ((rd_T40 l0 (i : Int)).f2).length ≤ 100 ∧ ((rd_T40 l0 (i : Int)).f3).length ≤ 300
  sum : restK l0 0 ≤ 300
theorem great9_loop (l0 : List (S40)) (a1 : Int) (hn : l0.length ≤ 60) : ∀ d i : Nat, i + d = l0.length → ∃ K b, (∀ k, dioramaref09_Great.l0 (k + K) (i : Int) l0 a1 = some b) ∧
    (b = false → ∀ j : Nat, i ≤ j → j < l0.length → ((rd_T40 l0 (j : Int)).f1).length ≤ 100 ∧ ((rd_T40 l0 (j : Int)).f2).length ≤ 100 ∧ ((rd_T40 l0 (j : Int)).f3).length ≤ 300) := by
  intro d
  induction d with
  | zero =>
    intro i hi
    refine ⟨1, false, fun k => ?_, fun _ j h1 h2 => by omega⟩
    rw [dioramaref09_Great.l0, if_neg (by omega)]
  | succ d ih =>
    intro i hi
    obtain ⟨K, b, h1, h2⟩ := ih (i + 1) (by omega)
    obtain ⟨K2, b2, h3, h4⟩ := great8 (rd_T40 l0 (i : Int)).f0 (rd_T40 l0 (i : Int)).f1 (rd_T40 l0 (i : Int)).f2 (rd_T40 l0 (i : Int)).f3
    have hstep : ∀ k, dioramaref09_Great.l0 (k + (K + K2 + 1)) (i : Int) l0 a1 = if b2 = true then some true else some b := by
      intro k
      rw [show k + (K + K2 + 1) = ((k + K) + K2) + 1 by omega, dioramaref09_Great.l0, if_pos (by omega), if_pos (by omega), h3, Option.bind_some, w64 (by omega) (by omega)]
      have := h1 (k + K2)
      rw [show k + K + K2 = k + K2 + K by omega]
      rw [show ((i : Int) + 1) = ((i + 1 : Nat) : Int) by omega, this]
    cases b2 with
    | true => exact ⟨_, true, fun k => hstep k, fun h => by cases h⟩
    | false =>
      refine ⟨_, b, fun k => hstep k, fun hb j hj hjl => ?_⟩
      by_cases e : j = i
      · subst e; exact h4 rfl
      · exact h2 hb j (by omega) hjl
theorem great9 (l0 : List (S40)) (a1 : Int) : ∃ K b, (∀ k, dioramaref09_Great.f (k + K) l0 a1 = some b) ∧ (b = false → Small l0) := by
  have htrue : ∀ k, dioramaref09_Great.j0 (k + 1) true l0 a1 = some true := fun k => by rw [dioramaref09_Great.j0, if_pos rfl]
  by_cases h1 : (l0.length : Int) > 60
  · refine ⟨1, true, fun k => ?_, fun h => by cases h⟩
    rw [dioramaref09_Great.f, if_pos h1]; exact htrue k
  · obtain ⟨v, h2, h3⟩ := redges_run l0 a1 (by omega) l0.length 0 0 (by omega)
    obtain ⟨K, b, h4, h5⟩ := great9_loop l0 a1 (by omega) l0.length 0 (by omega)
    by_cases hv : v > 300
    · refine ⟨l0.length + 1, true, fun k => ?_, fun h => by cases h⟩
      rw [dioramaref09_Great.f, if_neg h1, dioramaref09_Edges.f]
      have := h2 k
      rw [Nat.add_assoc] at this
      rw [show ((0 : Nat) : Int) = 0 from rfl] at this
      rw [this, Option.bind_some, decide_eq_true hv]
      exact htrue _
    · refine ⟨K + l0.length + 1, b, fun k => ?_, fun hb => ?_⟩
      · rw [dioramaref09_Great.f, if_neg h1, dioramaref09_Edges.f]
        have := h2 (k + K)
        rw [show ((0 : Nat) : Int) = 0 from rfl] at this
        rw [show k + (K + l0.length + 1) = k + K + l0.length + 1 by omega, this, Option.bind_some, decide_eq_false hv, dioramaref09_Great.j0, if_neg (by simp)]
        have := h4 (k + l0.length)
        rw [show ((0 : Nat) : Int) = 0 from rfl] at this
        rw [show k + K + l0.length = k + l0.length + K by omega]
        exact this
      · have hone := h5 hb
        have hb2 : ∀ d i : Nat, i + d = l0.length → restK l0 i ≤ 300 * d := by
          intro d
          induction d with
          | zero => intro i hi; rw [restK_end (by omega)]; omega
          | succ d ih =>
            intro i hi
            have := ih (i + 1) (by omega)
            have h6 := (hone i (by omega) (by omega)).2.2
            rw [restK_step (by omega)]
            omega
        have h7 := hb2 l0.length 0 (by omega)
        have h8 := h3 (by omega) (by omega)
        exact ⟨by omega, fun i hi => hone i (by omega) hi, by omega⟩
theorem copy8 (a0 : Int) (l1 : List Int) (l2 : List ByteArray) (l3 : List Int) (h1 : l1.length ≤ 100) (h2 : l2.length ≤ 100) (h3 : l3.length ≤ 300) : dioramaref08_Copy.f a0 l1 l2 l3 = some (a0, l1, l2, l3) := by
  unfold dioramaref08_Copy.f
  first | (rw [if_pos ⟨by omega, by omega, by omega⟩]; done) | (simp only [Option.bind_some, List.length_nil, Nat.zero_add, List.nil_append]; rw [if_pos (by omega), if_pos (by omega), if_pos (by omega)])
theorem copy9_loop {l0 : List (S40)} (hS : Small l0) (a1 b1 : Int) : ∀ (d i : Nat) (acc : List (S40)), i + d = l0.length → acc.length = i → ∀ k, dioramaref09_Copy.l0 (k + d + 1) (i : Int) l0 a1 acc b1 = some (acc ++ l0.drop i, b1) := by
  have hl := hS.len
  intro d
  induction d with
  | zero =>
    intro i acc hi ha k
    rw [dioramaref09_Copy.l0, if_neg (by omega), List.drop_of_length_le (by omega), List.append_nil]
  | succ d ih =>
    intro i acc hi ha k
    obtain ⟨h1, h2, h3⟩ := hS.one i (by omega)
    rw [show k + (d + 1) + 1 = (k + d + 1) + 1 by omega, dioramaref09_Copy.l0, if_pos (by omega), if_pos (by omega), copy8 _ _ _ _ h1 h2 h3, Option.bind_some, if_pos (by omega), w64 (by omega) (by omega)]
    refine (ih (i + 1) _ (by omega) (by rw [List.length_append]; simp; omega) k).trans ?_
    rw [List.append_assoc, List.drop_eq_getElem_cons (show i < l0.length by omega), ← rdT_get (show i < l0.length by omega)]
    rfl
theorem copy9 {l0 : List (S40)} (hS : Small l0) (a1 : Int) (k : Nat) : dioramaref09_Copy.f (k + l0.length + 1) l0 a1 = some (l0, a1) := by
  have := copy9_loop hS a1 a1 l0.length 0 [] (by omega) rfl k
  rw [List.nil_append, List.drop_zero] at this
  exact this
theorem place9 (l0 : List (S40)) (a1 v : Int) : dioramaref09_Place.f l0 a1 v = some (!GT.badKid l0.length v) := by
  unfold dioramaref09_Place.f GT.badKid
  by_cases h : v ≥ 0
  · rw [if_pos h]
    have h1 : decide (v < 0) = false := decide_eq_false (by omega)
    rw [h1, Bool.false_or]
    by_cases h2 : v < (l0.length : Int)
    · rw [decide_eq_true h2, decide_eq_false (by omega)]; rfl
    · rw [decide_eq_false h2, decide_eq_true (by omega)]; rfl
  · rw [if_neg h, decide_eq_true (show v < 0 by omega)]; rfl
theorem refs_l1 {l0 : List (S40)} (hn : l0.length ≤ 1000000) (a1 : Int) {i : Nat} (hi : i < l0.length) (hl : ((rd_T40 l0 (i : Int)).f3).length ≤ 1000000) : ∀ (e j : Nat), j + e = ((rd_T40 l0 (i : Int)).f3).length → ∀ k,
    dioramaref09_Refs.l1 (k + e + 1) (i : Int) j l0 a1 = if (((rd_T40 l0 (i : Int)).f3).drop j).any (GT.badKid l0.length) = true then some (i : Int) else dioramaref09_Refs.l0 (if (((rd_T40 l0 (i : Int)).f3).drop j).any (GT.badKid l0.length) = true then 0 else k) ((i + 1 : Nat) : Int) l0 a1 := by
  intro e
  induction e with
  | zero =>
    intro j hj k
    rw [List.drop_of_length_le (by omega), List.any_nil, if_neg (by simp), if_neg (by simp), dioramaref09_Refs.l1, if_pos (by omega), if_pos (by omega), if_neg (by omega), w64 (by omega) (by omega)]
    rfl
  | succ e ih =>
    intro j hj k
    have hj2 : j < ((rd_T40 l0 (i : Int)).f3).length := by omega
    have hx : rd ((rd_T40 l0 (i : Int)).f3) (j : Int) = ((rd_T40 l0 (i : Int)).f3)[j] := by
      rw [rd_nat, List.getD_eq_getElem?_getD, List.getElem?_eq_getElem hj2]; rfl
    rw [show k + (e + 1) + 1 = (k + e + 1) + 1 by omega, dioramaref09_Refs.l1, if_pos (by omega), if_pos (by omega), if_pos (by omega), if_pos (by omega), place9, Option.bind_some, hx, List.drop_eq_getElem_cons hj2, List.any_cons]
    by_cases hb : GT.badKid l0.length ((rd_T40 l0 (i : Int)).f3)[j] = true
    · rw [hb]; simp
    · rw [Bool.not_eq_true] at hb
      rw [hb, Bool.false_or, if_pos (by simp), w64 (by omega) (by omega)]
      exact ih (j + 1) (by omega) k
theorem refs_l0 {l0 : List (S40)} (hn : l0.length ≤ 1000000) (hl : ∀ i : Nat, i < l0.length → ((rd_T40 l0 (i : Int)).f3).length ≤ 1000000) (a1 : Int) : ∀ d i : Nat, i + d = l0.length → ∃ K, ∀ k, dioramaref09_Refs.l0 (k + K) (i : Int) l0 a1 = some (idxN l0.length ((kidsI l0).drop i) i) := by
  intro d
  induction d with
  | zero =>
    intro i hi
    refine ⟨1, fun k => ?_⟩
    rw [dioramaref09_Refs.l0, if_neg (by omega), List.drop_of_length_le (by rw [kids_len]; omega), idxN]
  | succ d ih =>
    intro i hi
    have hil : i < (kidsI l0).length := by rw [kids_len]; omega
    obtain ⟨K, h⟩ := ih (i + 1) (by omega)
    have h1 := refs_l1 hn a1 (i := i) (by omega) (hl i (by omega)) ((rd_T40 l0 (i : Int)).f3).length 0 (by omega)
    have hx : (kidsI l0)[i] = (rd_T40 l0 (i : Int)).f3 := by
      have := kidsI_at l0 (i : Int)
      rw [Int.toNat_natCast, List.getD_eq_getElem?_getD, List.getElem?_eq_getElem hil] at this
      exact this
    refine ⟨K + ((rd_T40 l0 (i : Int)).f3).length + 1 + 1, fun k => ?_⟩
    rw [show k + (K + ((rd_T40 l0 (i : Int)).f3).length + 1 + 1) = ((k + K) + ((rd_T40 l0 (i : Int)).f3).length + 1) + 1 by omega, dioramaref09_Refs.l0, if_pos (by omega)]
    refine (h1 (k + K)).trans ?_
    rw [List.drop_zero, List.drop_eq_getElem_cons hil, idxN, hx]
    by_cases hb : ((rd_T40 l0 (i : Int)).f3).any (GT.badKid l0.length) = true
    · rw [if_pos hb, if_pos hb]
    · rw [if_neg hb, if_neg hb, if_neg hb]
      exact h k
theorem refs9 {l0 : List (S40)} (hn : l0.length ≤ 1000000) (hl : ∀ i : Nat, i < l0.length → ((rd_T40 l0 (i : Int)).f3).length ≤ 1000000) (a1 : Int) : ∃ K, ∀ k, dioramaref09_Refs.f (k + K) l0 a1 = some (refsZ (kidsI l0)) := by
  obtain ⟨K, h⟩ := refs_l0 hn hl a1 l0.length 0 (by omega)
  refine ⟨K, fun k => (h k).trans ?_⟩
  rw [List.drop_zero, idxN_find]
  unfold refsZ GT.firstBad
  rw [kids_len]
  cases (kidsI l0).findIdx? (fun l => l.any (GT.badKid l0.length)) with
  | none => rfl
  | some j => simp
theorem small_len {l0 : List (S40)} (hS : Small l0) : l0.length ≤ 1000000 := by have := hS.len; omega
theorem small_sum {l0 : List (S40)} (hS : Small l0) : ((kidsI l0).map List.length).sum ≤ 1000000 := by
  have := hS.sum
  unfold restK at this
  rw [List.drop_zero] at this
  omega
end Go.Proofs.Ytlfjjapndlkamaa.GH
