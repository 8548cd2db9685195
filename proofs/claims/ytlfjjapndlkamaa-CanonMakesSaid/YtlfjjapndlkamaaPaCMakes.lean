/- The plain law of CanonMakes. -/
import Derived.Test.YtlfjjapndlkamaaPaGrX
import Derived.Test.YtlfjjapndlkamaaPaGrV
import Derived.Test.YtlfjjapndlkamaaPaOwn8
import Derived.Test.YtlfjjapndlkamaaPaGAx16
namespace Go.Proofs.Ytlfjjapndlkamaa.GA
open Go.RowKit Go.Proofs.YtlfjjapndlkamaaW.PrintWords Go.Proofs.YtlfjjapndlkamaaW.PrintLast Go.Proofs.YtlfjjapndlkamaaW.PrintMore
set_option linter.unusedVariables false
set_option linter.unusedSimpArgs false
theorem small_nodes {l0 : List (S40)} (hS : Small l0) {a1 : Int} (h : GT.Cn (GT.toG (kidsI l0)) a1.toNat (cl l0 a1)) (i : Nat) (hi : i < (cNodes l0 a1).length) : ((rd_T40 (cNodes l0 a1) (i : Int)).f1).length ≤ 100 ∧ ((rd_T40 (cNodes l0 a1) (i : Int)).f2).length ≤ 100 ∧ ((rd_T40 (cNodes l0 a1) (i : Int)).f3).length ≤ 300 := by
  rw [cNodes_len h] at hi
  have hgl : (cl l0 a1).getD i 0 < l0.length := by have := h.get_lt (i := i) (by rw [toG_len]; omega); rwa [toG_len] at this
  rw [cNodes_get h hi]
  have := hS.one _ hgl
  simpa [renN] using this
theorem ints_l0 (k : Nat) (l : List Int) (hl : l.length ≤ 1000000) : ∀ d i : Nat, i + d = l.length → dioramaref09_Ints.l0 (k + d + 1) l l (i : Int) = some true := by
  intro d
  induction d with
  | zero =>
    intro i hi
    rw [dioramaref09_Ints.l0, if_neg (by omega)]
  | succ d ih =>
    intro i hi
    rw [show k + (d + 1) + 1 = (k + d + 1) + 1 by omega, dioramaref09_Ints.l0, if_pos (by omega), if_pos (by omega), if_pos (by omega), if_pos rfl, w64 (by omega) (by omega)]
    exact ih (i + 1) (by omega)
theorem ints_refl (k : Nat) (l : List Int) (hl : l.length ≤ 1000000) : dioramaref09_Ints.f (k + l.length + 1) l l = some true := by
  unfold dioramaref09_Ints.f
  rw [if_pos rfl]
  exact ints_l0 k l hl l.length 0 (by omega)
theorem makes_true (l0 : List (S40)) (a1 : Int) : ∃ k, dioramalaw10_CanonMakes.f k l0 a1 = some true := by
  obtain ⟨K, b, h1, h2⟩ := great9 l0 a1
  have hawake : ∀ k, dioramalaw10_awake.f k = some true := fun k => rfl
  cases b with
  | true =>
    refine ⟨1 + K, ?_⟩
    rw [dioramalaw10_CanonMakes.f, hawake, Option.bind_some, if_pos rfl, h1, Option.bind_some, Nat.add_comm 1 K, dioramalaw10_CanonMakes.j0, if_pos rfl, hawake]
    rfl
  | false =>
    have hS := h2 rfl
    have hM := mod_of hS
    have hn := hS.len
    obtain ⟨K2, h3⟩ := gcanon (a1 := a1) hM
    obtain ⟨K3, h4⟩ := rcheck l0 a1 hM.len hM.sum
    obtain ⟨K5, h5⟩ := gnumbers (a1 := a1) hM.len hM.sum
    have h6 := fun k => copy9 hS a1 k
    by_cases hc : (checkP l0 a1).1 = 0
    · obtain ⟨K4, h7⟩ := rcanon hS hc
      obtain ⟨K6, h8⟩ := rnumbers hM.len hM.sum hc
      obtain ⟨h9, _⟩ := cn_of hM.len hM.sum hc
      obtain ⟨r, h10, h11⟩ := same9g ((l0.length : Int) - 1) ((l0.length : Int) - 1) (cNodes l0 a1) (cNodes l0 a1) (by rw [cNodes_len h9]; omega) (small_nodes hS h9)
      have hr : r = true := h11.2 ⟨rfl, rfl⟩
      subst hr
      have h12 := fun k => ints_refl k (tlOf l0 a1) (by rw [tl_len]; omega)
      rw [tl_len] at h12
      refine ⟨(K + K2 + K3 + K4 + K5 + K6 + l0.length + 1 + 1500) + 1, ?_⟩
      have e1 := h1 (K2 + K3 + K4 + K5 + K6 + l0.length + 1 + 1500 + 1)
      have e3 := h3 (K + K3 + K4 + K5 + K6 + l0.length + 1 + 1500)
      have e4 := h4 (K + K2 + K4 + K5 + K6 + l0.length + 1 + 1500)
      have e5 := h5 (K + K2 + K3 + K4 + K6 + l0.length + 1 + 1500)
      have e6 := h6 (K + K2 + K3 + K4 + K5 + K6 + 1500)
      have e7 := h7 (K + K2 + K3 + K5 + K6 + l0.length + 1 + 1500)
      have e8 := h8 (K + K2 + K3 + K4 + K5 + l0.length + 1 + 1500)
      have e10 := h10 (K + K2 + K3 + K4 + K5 + K6 + l0.length + 1)
      have e12 := h12 (K + K2 + K3 + K4 + K5 + K6 + 1500)
      rw [show K2 + K3 + K4 + K5 + K6 + l0.length + 1 + 1500 + 1 + K = K + K2 + K3 + K4 + K5 + K6 + l0.length + 1 + 1500 + 1 by omega] at e1
      rw [show K + K3 + K4 + K5 + K6 + l0.length + 1 + 1500 + K2 = K + K2 + K3 + K4 + K5 + K6 + l0.length + 1 + 1500 by omega, if_pos hc] at e3
      rw [show K + K2 + K4 + K5 + K6 + l0.length + 1 + 1500 + K3 = K + K2 + K3 + K4 + K5 + K6 + l0.length + 1 + 1500 by omega] at e4
      rw [show K + K2 + K3 + K4 + K6 + l0.length + 1 + 1500 + K5 = K + K2 + K3 + K4 + K5 + K6 + l0.length + 1 + 1500 by omega, if_pos hc] at e5
      rw [show K + K2 + K3 + K4 + K5 + K6 + 1500 + l0.length + 1 = K + K2 + K3 + K4 + K5 + K6 + l0.length + 1 + 1500 by omega] at e6 e12
      rw [show K + K2 + K3 + K5 + K6 + l0.length + 1 + 1500 + K4 = K + K2 + K3 + K4 + K5 + K6 + l0.length + 1 + 1500 by omega] at e7
      rw [show K + K2 + K3 + K4 + K5 + l0.length + 1 + 1500 + K6 = K + K2 + K3 + K4 + K5 + K6 + l0.length + 1 + 1500 by omega] at e8
      generalize K + K2 + K3 + K4 + K5 + K6 + l0.length + 1 + 1500 = q at *
      rw [dioramalaw10_CanonMakes.f, hawake, Option.bind_some, if_pos rfl, e1, Option.bind_some, dioramalaw10_CanonMakes.j0, if_neg (by simp), e6, Option.bind_some]
      simp only
      rw [e3, Option.bind_some, Option.bind_some, e5, Option.bind_some, e4, Option.bind_some, if_pos hc]
      simp only
      rw [if_pos trivial, e7, Option.bind_some]
      simp only
      rw [e10, Option.bind_some, if_pos rfl, e8, Option.bind_some, e12, Option.bind_some]
    · obtain ⟨r, h10, h11⟩ := same9g 0 0 ([] : List (S40)) [] (by simp) (fun i h => by simp at h)
      have hr : r = true := h11.2 ⟨rfl, rfl⟩
      subst hr
      refine ⟨(K + K2 + K3 + K5 + l0.length + 1 + 1500) + 1, ?_⟩
      have e1 := h1 (K2 + K3 + K5 + l0.length + 1 + 1500 + 1)
      have e3 := h3 (K + K3 + K5 + l0.length + 1 + 1500)
      have e4 := h4 (K + K2 + K5 + l0.length + 1 + 1500)
      have e5 := h5 (K + K2 + K3 + l0.length + 1 + 1500)
      have e6 := h6 (K + K2 + K3 + K5 + 1500)
      have e10 := h10 (K + K2 + K3 + K5 + l0.length + 1)
      rw [show K2 + K3 + K5 + l0.length + 1 + 1500 + 1 + K = K + K2 + K3 + K5 + l0.length + 1 + 1500 + 1 by omega] at e1
      rw [show K + K3 + K5 + l0.length + 1 + 1500 + K2 = K + K2 + K3 + K5 + l0.length + 1 + 1500 by omega, if_neg hc] at e3
      rw [show K + K2 + K5 + l0.length + 1 + 1500 + K3 = K + K2 + K3 + K5 + l0.length + 1 + 1500 by omega] at e4
      rw [show K + K2 + K3 + l0.length + 1 + 1500 + K5 = K + K2 + K3 + K5 + l0.length + 1 + 1500 by omega, if_neg hc] at e5
      rw [show K + K2 + K3 + K5 + 1500 + l0.length + 1 = K + K2 + K3 + K5 + l0.length + 1 + 1500 by omega] at e6
      generalize K + K2 + K3 + K5 + l0.length + 1 + 1500 = q at *
      rw [dioramalaw10_CanonMakes.f, hawake, Option.bind_some, if_pos rfl, e1, Option.bind_some, dioramalaw10_CanonMakes.j0, if_neg (by simp), e6, Option.bind_some]
      simp only
      rw [e3, Option.bind_some, Option.bind_some, e5, Option.bind_some, e4, Option.bind_some, if_neg hc]
      simp only
      rw [if_pos trivial, e10, Option.bind_some, if_pos rfl]
      rfl
end Go.Proofs.Ytlfjjapndlkamaa.GA
