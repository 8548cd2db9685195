/- The plain law of LimitMeasures. -/
import Derived.Test.YtcphcaiiofeflaaDoorLmLAwake
import Derived.Test.YtcphcaiiofeflaaDoorLmGLx18
namespace Go.Proofs.YtcphcaiiofeflaaDoor.GL
open Go.RowKit Go.Proofs.YtcphcaiiofeflaaDoorW.PrintWords Go.Proofs.YtcphcaiiofeflaaDoorW.PrintLast Go.Proofs.YtcphcaiiofeflaaDoorW.PrintMore
set_option linter.unusedVariables false
set_option linter.unusedSimpArgs false
theorem measures_true (l0 : List (S53)) (a1 b0 b1 b2 b3 b4 c0 c1 c2 c3 c4 : Int) : ∃ k, dioramalaw12_LimitMeasures.f k l0 a1 b0 b1 b2 b3 b4 c0 c1 c2 c3 c4 = some true := by
  obtain ⟨Kw, hw⟩ := awake12
  obtain ⟨K, b, h1, h2⟩ := great12 l0 a1
  cases b with
  | true =>
    refine ⟨Kw + K + 1, ?_⟩
    rw [dioramalaw12_LimitMeasures.f, hw _ (by omega), Option.bind_some, if_pos rfl, h1 _ (by omega), Option.bind_some, dioramalaw12_LimitMeasures.j0, if_pos rfl, hw _ (by omega)]
    rfl
  | false =>
    obtain ⟨hS, hF⟩ := h2 rfl
    obtain ⟨K1, h3⟩ := meas_ev hS hF a1
    obtain ⟨K2, h4⟩ := rmeas_ev hS hF a1
    simp only at h3 h4
    have e := copy9 hS a1 (Kw + K + K1 + K2 + 10)
    refine ⟨(Kw + K + K1 + K2 + 10 + l0.length + 1) + 1, ?_⟩
    rw [dioramalaw12_LimitMeasures.f, hw _ (by omega), Option.bind_some, if_pos rfl, h1 _ (by omega), Option.bind_some, dioramalaw12_LimitMeasures.j0, if_neg (by simp), e, Option.bind_some]
    simp only
    rw [h3 _ (by omega), Option.bind_some, h4 _ (by omega), Option.bind_some]
    simp only
    rw [if_pos (by simp), right_code, Option.bind_some, rright _ (by omega), Option.bind_some, if_pos (by simp), within_code, Option.bind_some, rwithin, Option.bind_some]
    simp
end Go.Proofs.YtcphcaiiofeflaaDoor.GL
