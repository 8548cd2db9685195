/- GraphChecks tells true of whatever scene. -/
import Derived.Test.YtlfjjapndlkamaaGrC
import Derived.Test.YtlfjjapndlkamaaGGx10
namespace Go.Proofs.Ytlfjjapndlkamaa.GG
open Go.RowKit Go.Proofs.YtlfjjapndlkamaaW.PrintWords Go.Proofs.YtlfjjapndlkamaaW.PrintLast Go.Proofs.YtlfjjapndlkamaaW.PrintMore
set_option linter.unusedVariables false
set_option linter.unusedSimpArgs false
theorem small_len {l0 : List (S40)} (hS : Small l0) : l0.length ≤ 1000000 := by have := hS.len; omega
theorem small_sum {l0 : List (S40)} (hS : Small l0) : ((kidsI l0).map List.length).sum ≤ 1000000 := by
  have := hS.sum
  unfold restK at this
  rw [List.drop_zero] at this
  omega
theorem graphChecks_true (l0 : List (S40)) (a1 : Int) : ∃ k, dioramalaw09_GraphChecks.f k l0 a1 = some true := by
  obtain ⟨K, b, h1, h2⟩ := great9 l0 a1
  cases b with
  | true =>
    refine ⟨K + 1, ?_⟩
    have := h1 1
    rw [Nat.add_comm] at this
    rw [dioramalaw09_GraphChecks.f, dioramalaw09_awake.f, Option.bind_some, if_pos rfl, this, Option.bind_some, dioramalaw09_GraphChecks.j0, if_pos rfl, dioramalaw09_awake.f]
    rfl
  | false =>
    have hS := h2 rfl
    obtain ⟨K2, h3⟩ := gcheck l0 a1 (small_len hS) (small_sum hS)
    obtain ⟨K3, h4⟩ := rcheck l0 a1 (small_len hS) (small_sum hS)
    refine ⟨K2 + K3 + l0.length + 1 + K + 1, ?_⟩
    rw [dioramalaw09_GraphChecks.f, dioramalaw09_awake.f, Option.bind_some, if_pos rfl, show K2 + K3 + l0.length + 1 + K + 1 = (K2 + K3 + l0.length + 2) + K by omega, h1, Option.bind_some]
    rw [show K2 + K3 + l0.length + 2 + K = (K2 + K3 + K + l0.length + 1) + 1 by omega, dioramalaw09_GraphChecks.j0, if_neg (by simp), copy9 hS, Option.bind_some]
    simp only
    have h5 := h3 (K3 + K + l0.length + 1)
    have h6 := h4 (K2 + K + l0.length + 1)
    rw [show K3 + K + l0.length + 1 + K2 = K2 + K3 + K + l0.length + 1 by omega] at h5
    rw [show K2 + K + l0.length + 1 + K3 = K2 + K3 + K + l0.length + 1 by omega] at h6
    rw [h5, Option.bind_some, h6, Option.bind_some, if_pos rfl, if_pos rfl, gedges hS, Option.bind_some, redges hS, Option.bind_some]
    simp
end Go.Proofs.Ytlfjjapndlkamaa.GG
