/- GraphLoose: true of any scene and node. -/
import Derived.Test.YtlfjjapndlkamaaLoose
namespace Go.Proofs.Ytlfjjapndlkamaa.GL
open Go.RowKit Go.Proofs.YtlfjjapndlkamaaW.PrintWords Go.Proofs.YtlfjjapndlkamaaW.PrintLast Go.Proofs.YtlfjjapndlkamaaW.PrintMore
set_option linter.unusedVariables false
set_option linter.unusedSimpArgs false
theorem loose_all (A0 : Option Addr) (c0 : Nat) (l0 : List (S40)) (a1 at_ : Int) (w : World) (hr0 : Kd.C k40 w A0 l0.length l0) (hc0 : l0.length ≤ c0) :
    Calls Try.prog 12 #[.agg #[.slice A0 l0.length c0, .int .i64 a1], .int .i64 at_] w fun e w' => e = .returned (.bool true) ∧ Below w.heap.size w w' := by
  obtain ⟨K, b, h1, h2⟩ := great9 l0 a1
  cases b with
  | true => exact loose_great A0 c0 l0 a1 at_ w (0 + K) hr0 hc0 (h1 0)
  | false =>
    have hS := h2 rfl
    have hn := small_len hS
    have hE := small_sum hS
    obtain ⟨K2, h3⟩ := rcheck l0 a1 hn hE
    have h4 := h1 K2
    have h5 := h3 K
    rw [show K + K2 = K2 + K by omega] at h5
    by_cases hc : (checkP l0 a1).1 = 0
    · have hr : dioramaref09_Right.f (K2 + K) l0 a1 = some true := by
        rw [dioramaref09_Right.f, h5, Option.bind_some]
        simp [hc]
      cases hb : GT.badKid l0.length at_ with
      | true =>
        refine loose_place A0 c0 l0 a1 at_ w (K2 + K) hr0 hc0 h4 hr ?_
        rw [place9, hb]
        rfl
      | false =>
        have h6 : 0 ≤ at_ ∧ at_ < (l0.length : Int) := by
          unfold GT.badKid at hb
          simp at hb
          omega
        refine loose_calls A0 c0 l0 a1 at_ w (K2 + K) hr0 hc0 hn hE h4 hr ?_ hc at_.toNat (by omega) (by omega)
        rw [place9, hb]
        rfl
    · refine loose_wrong A0 c0 l0 a1 at_ w (K2 + K) hr0 hc0 h4 ?_
      rw [dioramaref09_Right.f, h5, Option.bind_some]
      simp [hc]
end Go.Proofs.Ytlfjjapndlkamaa.GL
