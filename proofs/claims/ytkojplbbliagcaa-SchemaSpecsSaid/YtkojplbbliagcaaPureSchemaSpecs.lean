/- The plain law of SchemaSpecs: any kind has, in both versions, what the document says, or isn't. -/
import Derived.Test.YtkojplbbliagcaaGSSpecsx5
namespace Go.Proofs.Ytkojplbbliagcaa.Pure
open Go.RowKit Go.Proofs.Ytkojplbbliagcaa.GSSpecs Go.Proofs.YtkojplbbliagcaaW.PrintWords Go.Proofs.YtkojplbbliagcaaW.PrintLast
set_option maxRecDepth 100000
theorem SchemaSpecs : dioramalaw07_SchemaSpecs.Pure := by
  intro a0 _
  refine ⟨40, ?_⟩
  by_cases k1 : a0 = 1
  · subst k1; decide +kernel
  by_cases k2 : a0 = 2
  · subst k2; decide +kernel
  by_cases k3 : a0 = 3
  · subst k3; decide +kernel
  by_cases k4 : a0 = 4
  · subst k4; decide +kernel
  by_cases k5 : a0 = 5
  · subst k5; decide +kernel
  by_cases k6 : a0 = 6
  · subst k6; decide +kernel
  by_cases k7 : a0 = 7
  · subst k7; decide +kernel
  by_cases k8 : a0 = 8
  · subst k8; decide +kernel
  have b3 : (a0 == 3) = false := beq_eq_false_iff_ne.mpr k3
  have b4 : (a0 == 4) = false := beq_eq_false_iff_ne.mpr k4
  have b2 : (a0 == 2) = false := beq_eq_false_iff_ne.mpr k2
  have b8 : (a0 == 8) = false := beq_eq_false_iff_ne.mpr k8
  have hn : schema_New.f a0 = some ([], 0, 0, 0, false) := by
    unfold schema_New.f
    rw [if_neg k1, if_neg k2, if_neg k3, if_neg k4, if_neg k5, if_neg k6, if_neg k7, if_neg k8]
  have ho : schema_Old.f a0 = some ([], 0, 0, 0, false) := by
    unfold schema_Old.f
    simp only [show schema_ints.f 4 2 = some [2, 2, 2, 2] from by decide +kernel, show schema_ints.f 1 3 = some [3] from by decide +kernel, show schema_ints.f 1 4 = some [4] from by decide +kernel, Option.bind_some]
    unfold schema_find.f
    by_cases h1 : a0 < 1
    · rw [if_pos h1]; rfl
    · rw [if_neg h1]
      simp only [List.length_cons, List.length_nil]
      rw [if_pos (by omega)]; rfl
  have hs : ∀ k, 4 ≤ k → ∀ v, (v = 1 ∨ v = 2) → dioramaref07_Spec.f k v a0 = some ([], 0, 0, 0, false) := by
    intro k hk v hv
    obtain ⟨k, rfl⟩ : ∃ j, k = j + 4 := ⟨k - 4, by omega⟩
    rcases hv with rfl | rfl <;> simp [dioramaref07_Spec.f, dioramaref07_Spec.j0, dioramaref07_Spec.j1, k1, k2, k3, k4, k5, k6, k7, b4, b8]
  have hl1 : ∀ k j, 1 ≤ k → dioramalaw07_SchemaSpecs.l1 k a0 j 0 0 [] 0 0 0 = dioramalaw07_SchemaSpecs.l0 (k - 1) a0 (wrap64 (j + 1)) := by
    intro k j hk
    obtain ⟨k, rfl⟩ : ∃ i, k = i + 1 := ⟨k - 1, by omega⟩
    rw [dioramalaw07_SchemaSpecs.l1, if_neg (by decide)]; rfl
  have hstep : ∀ k j, 20 ≤ k → j < 2 → dioramalaw07_SchemaSpecs.l0 k a0 j = dioramalaw07_SchemaSpecs.l0 (k - 2) a0 (wrap64 (j + 1)) := by
    intro k j hk hj
    obtain ⟨k, rfl⟩ : ∃ i, k = i + 1 := ⟨k - 1, by omega⟩
    rw [dioramalaw07_SchemaSpecs.l0, if_pos hj, hn, Option.bind_some, hs k (by omega) 2 (.inr rfl), Option.bind_some, ho, Option.bind_some, hs k (by omega) 1 (.inl rfl), Option.bind_some, if_neg (by decide), if_neg (by decide)]
    have hsame : dioramaref07_Same.f k [] 0 0 0 [] 0 0 0 = some true := by
      obtain ⟨i, rfl⟩ : ∃ i, k = i + 5 := ⟨k - 5, by omega⟩
      rfl
    rw [hsame, Option.bind_some, if_pos rfl, Option.bind_some, if_pos rfl]
    exact hl1 k j (by omega)
  unfold dioramalaw07_SchemaSpecs.f
  rw [show dioramalaw07_awake.f 40 = some true from by decide +kernel, Option.bind_some, if_pos rfl, hstep 40 0 (by omega) (by omega), show wrap64 ((0 : Int) + 1) = 1 from by decide +kernel, hstep 38 1 (by omega) (by omega), show wrap64 ((1 : Int) + 1) = 2 from by decide +kernel]
  rfl
end Go.Proofs.Ytkojplbbliagcaa.Pure
