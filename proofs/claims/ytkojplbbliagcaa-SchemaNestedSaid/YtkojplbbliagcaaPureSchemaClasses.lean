/- The plain law of SchemaClasses: a number is of just the classes that the document says. -/
import Derived.Test.YtkojplbbliagcaaGSchemax3
namespace Go.Proofs.Ytkojplbbliagcaa.Pure
open Go.RowKit Go.Proofs.Ytkojplbbliagcaa.GSchema Go.Proofs.YtkojplbbliagcaaW.PrintWords Go.Proofs.YtkojplbbliagcaaW.PrintLast
theorem awake : dioramalaw07_awake.f 20 = some true := by decide +kernel
theorem wf64 {a : Int} (h : (Lit.int .i64 a).wf = true) : -9223372036854775808 ≤ a ∧ a ≤ 9223372036854775807 := by
  have h2 : (decide (-9223372036854775808 ≤ a) && decide (a ≤ 9223372036854775807)) = true := h
  simpa using h2
theorem square (a : Int) (h : -9223372036854775808 ≤ a ∧ a ≤ 9223372036854775807) (h0 : 0 ≤ a) (h1 : a ≤ 1) : wrap64 (a * a) = a := by
  rcases (by omega : a = 0 ∨ a = 1) with rfl | rfl <;> decide +kernel
theorem same_In (a0 a1 : Int) (h : (Lit.int .i64 a1).wf = true) : ∃ b, schema_In.f a0 a1 = some b ∧ dioramaref07_In.f a0 a1 = some b := by
  have hw := wf64 h
  unfold schema_In.f dioramaref07_In.f
  by_cases c1 : a0 = 1
  · exact ⟨true, by rw [if_pos c1], by rw [if_pos c1]⟩
  rw [if_neg c1, if_neg c1]
  by_cases c2 : a0 = 2
  · rw [if_pos c2, if_pos c2]
    by_cases d1 : a1 ≥ 0
    · rw [if_pos d1, if_pos (by omega)]
      by_cases d2 : a1 ≤ 140737488355328
      · exact ⟨true, by rw [decide_eq_true d2], by rw [if_pos d2]⟩
      · exact ⟨false, by rw [decide_eq_false d2], by rw [if_neg d2, if_neg (by omega)]⟩
    · rw [if_neg d1, if_pos (by omega : a1 < 0)]
      by_cases d2 : a1 ≥ -140737488355328
      · exact ⟨true, by rw [if_pos d2, decide_eq_true (by omega)], by rw [decide_eq_true d2]⟩
      · exact ⟨false, by rw [if_neg d2], by rw [decide_eq_false d2]⟩
  rw [if_neg c2, if_neg c2]
  by_cases c3 : a0 = 3
  · rw [if_pos c3, if_pos c3]
    by_cases d1 : a1 ≥ 0
    · rw [if_pos d1]; exact ⟨_, rfl, rfl⟩
    · rw [if_neg d1]; exact ⟨_, rfl, rfl⟩
  rw [if_neg c3, if_neg c3]
  by_cases c4 : a0 = 4
  · rw [if_pos c4, if_pos c4]
    by_cases d1 : a1 ≥ 0
    · rw [if_pos d1, if_pos d1]
      exact ⟨_, rfl, by congr 1; rw [decide_eq_decide]; omega⟩
    · rw [if_neg d1, if_neg d1]; exact ⟨_, rfl, rfl⟩
  rw [if_neg c4, if_neg c4]
  by_cases c5 : a0 = 5
  · rw [if_pos c5, if_pos c5]
    by_cases d0 : a1 = 0
    · subst d0; exact ⟨true, rfl, by decide +kernel⟩
    · rw [if_neg d0]
      by_cases d1 : a1 = 1
      · subst d1; exact ⟨true, rfl, by decide +kernel⟩
      · refine ⟨false, by rw [beq_false_of_ne d1], ?_⟩
        by_cases e1 : wrap64 (a1 * a1) = a1
        · rw [if_pos e1]
          by_cases e2 : a1 ≥ 0
          · rw [if_pos e2, decide_eq_false (by omega)]
          · rw [if_neg e2]
        · rw [if_neg e1]
  rw [if_neg c5, if_neg c5]
  exact ⟨_, rfl, rfl⟩
theorem SchemaClasses : dioramalaw07_SchemaClasses.Pure := by
  intro a0 a1 _ h1
  obtain ⟨b, e1, e2⟩ := same_In a0 a1 h1
  refine ⟨20, ?_⟩
  simp [dioramalaw07_SchemaClasses.f, awake, e1, e2]
end Go.Proofs.Ytkojplbbliagcaa.Pure
