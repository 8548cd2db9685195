/- The plain law of CanonTells. -/
import Derived.Test.YtlfjjapndlkamaaPeGrX
import Derived.Test.YtlfjjapndlkamaaPeGrI
import Derived.Test.YtlfjjapndlkamaaPeGrV
import Derived.Test.YtlfjjapndlkamaaPeOwn8
import Derived.Test.YtlfjjapndlkamaaPeGEx15
namespace Go.Proofs.Ytlfjjapndlkamaa.GE
open Go.RowKit Go.Proofs.YtlfjjapndlkamaaW.PrintWords Go.Proofs.YtlfjjapndlkamaaW.PrintLast Go.Proofs.YtlfjjapndlkamaaW.PrintMore
set_option linter.unusedVariables false
set_option linter.unusedSimpArgs false
theorem small_nodes {l0 : List (S40)} (hS : Small l0) {a1 : Int} (h : GT.Cn (GT.toG (kidsI l0)) a1.toNat (cl l0 a1)) (i : Nat) (hi : i < (cNodes l0 a1).length) : ((rd_T40 (cNodes l0 a1) (i : Int)).f1).length ≤ 100 ∧ ((rd_T40 (cNodes l0 a1) (i : Int)).f2).length ≤ 100 ∧ ((rd_T40 (cNodes l0 a1) (i : Int)).f3).length ≤ 300 := by
  rw [cNodes_len h] at hi
  have hgl : (cl l0 a1).getD i 0 < l0.length := by have := h.get_lt (i := i) (by rw [toG_len]; omega); rwa [toG_len] at this
  rw [cNodes_get h hi]
  have := hS.one _ hgl
  simpa [renN] using this
theorem is_iff {l0 : List (S40)} (hM : Mod l0) {a1 : Int} (hc : (checkP l0 a1).1 = 0) : cl l0 a1 = List.range l0.length ↔ ((l0.length : Int) - 1 = a1 ∧ cNodes l0 a1 = l0) := by
  obtain ⟨h0, h1, hgood, _, _⟩ := checkP_zero hM.sum hc
  obtain ⟨h2, _⟩ := cn_of hM.len hM.sum hc
  have hGl := toG_len l0
  constructor
  · intro h
    refine ⟨?_, cNodes_id hgood h⟩
    have h3 := h2.last
    rw [hGl, h, List.getD_eq_getElem?_getD, List.getElem?_range (by omega)] at h3
    simp only [Option.getD_some] at h3
    omega
  · rintro ⟨h3, h4⟩
    have h5 := cl_canon hM hc
    rw [h4, h3] at h5
    exact h5
theorem tells_true (l0 : List (S40)) (a1 : Int) : ∃ k, dioramalaw10_CanonTells.f k l0 a1 = some true := by
  obtain ⟨K, b, h1, h2⟩ := great9 l0 a1
  have hawake : ∀ k, dioramalaw10_awake.f k = some true := fun k => rfl
  cases b with
  | true =>
    refine ⟨1 + K, ?_⟩
    rw [dioramalaw10_CanonTells.f, hawake, Option.bind_some, if_pos rfl, h1, Option.bind_some, Nat.add_comm 1 K, dioramalaw10_CanonTells.j0, if_pos rfl, hawake]
    rfl
  | false =>
    have hS := h2 rfl
    have hM := mod_of hS
    have hn := hS.len
    obtain ⟨K2, h3⟩ := gis (a1 := a1) hM.len hM.sum
    obtain ⟨K3, h4⟩ := rcheck l0 a1 hM.len hM.sum
    have h5 := fun k => copy9 hS a1 k
    by_cases hc : (checkP l0 a1).1 = 0
    · obtain ⟨K4, h6⟩ := rcanon hS hc
      obtain ⟨h7, _⟩ := cn_of hM.len hM.sum hc
      obtain ⟨r, h8, h9⟩ := same9g ((l0.length : Int) - 1) a1 (cNodes l0 a1) l0 (by rw [cNodes_len h7]; omega) (small_nodes hS h7)
      refine ⟨(K + K2 + K3 + K4 + l0.length + 1 + 1500) + 1, ?_⟩
      have e1 := h1 (K2 + K3 + K4 + l0.length + 1 + 1500 + 1)
      have e2 := h5 (K + K2 + K3 + K4 + 1500)
      have e3 := h3 (K + K3 + K4 + l0.length + 1 + 1500)
      have e4 := h4 (K + K2 + K4 + l0.length + 1 + 1500)
      have e6 := h6 (K + K2 + K3 + l0.length + 1 + 1500)
      have e8 := h8 (K + K2 + K3 + K4 + l0.length + 1)
      rw [show K2 + K3 + K4 + l0.length + 1 + 1500 + 1 + K = K + K2 + K3 + K4 + l0.length + 1 + 1500 + 1 by omega] at e1
      rw [show K + K2 + K3 + K4 + 1500 + l0.length + 1 = K + K2 + K3 + K4 + l0.length + 1 + 1500 by omega] at e2
      rw [show K + K3 + K4 + l0.length + 1 + 1500 + K2 = K + K2 + K3 + K4 + l0.length + 1 + 1500 by omega] at e3
      rw [show K + K2 + K4 + l0.length + 1 + 1500 + K3 = K + K2 + K3 + K4 + l0.length + 1 + 1500 by omega] at e4
      rw [show K + K2 + K3 + l0.length + 1 + 1500 + K4 = K + K2 + K3 + K4 + l0.length + 1 + 1500 by omega] at e6
      generalize K + K2 + K3 + K4 + l0.length + 1 + 1500 = q at *
      rw [dioramalaw10_CanonTells.f, hawake, Option.bind_some, if_pos rfl, e1, Option.bind_some, dioramalaw10_CanonTells.j0, if_neg (by simp), e2, Option.bind_some]
      simp only
      rw [e3, Option.bind_some, dioramaref10_Is.f, dioramaref09_Right.f, e4]
      simp only [Option.bind_some]
      rw [hc, if_pos (by rfl), e6]
      simp only [Option.bind_some]
      rw [e8, Option.bind_some, Option.bind_some]
      congr 1
      rw [beq_iff_eq, Bool.eq_iff_iff, decide_eq_true_eq, h9, ← is_iff hM hc]
      exact ⟨fun h => h.2, fun h => ⟨trivial, h⟩⟩
    · refine ⟨(K + K2 + K3 + l0.length + 1) + 1, ?_⟩
      have e1 := h1 (K2 + K3 + l0.length + 1 + 1)
      have e2 := h5 (K + K2 + K3)
      have e3 := h3 (K + K3 + l0.length + 1)
      have e4 := h4 (K + K2 + l0.length + 1)
      rw [show K2 + K3 + l0.length + 1 + 1 + K = K + K2 + K3 + l0.length + 1 + 1 by omega] at e1
      rw [show K + K3 + l0.length + 1 + K2 = K + K2 + K3 + l0.length + 1 by omega] at e3
      rw [show K + K2 + l0.length + 1 + K3 = K + K2 + K3 + l0.length + 1 by omega] at e4
      generalize K + K2 + K3 + l0.length + 1 = q at *
      rw [dioramalaw10_CanonTells.f, hawake, Option.bind_some, if_pos rfl, e1, Option.bind_some, dioramalaw10_CanonTells.j0, if_neg (by simp), e2, Option.bind_some]
      simp only
      rw [e3, Option.bind_some, dioramaref10_Is.f, dioramaref09_Right.f, e4]
      simp only [Option.bind_some]
      have hb : ((checkP l0 a1).1 == 0) = false := by simpa using hc
      rw [hb, if_neg (by simp), Option.bind_some, decide_eq_false (fun h => hc h.1)]
      rfl
end Go.Proofs.Ytlfjjapndlkamaa.GE
