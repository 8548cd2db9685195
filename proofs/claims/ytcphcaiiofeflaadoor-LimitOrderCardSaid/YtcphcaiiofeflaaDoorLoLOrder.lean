/- The plain law of LimitOrder. -/
import Derived.Test.YtcphcaiiofeflaaDoorLoGLx8
import Derived.Test.YtcphcaiiofeflaaDoorLoGLx9
namespace Go.Proofs.YtcphcaiiofeflaaDoor.GL
open Go.RowKit Go.Proofs.YtcphcaiiofeflaaDoorW.PrintWords Go.Proofs.YtcphcaiiofeflaaDoorW.PrintLast Go.Proofs.YtcphcaiiofeflaaDoorW.PrintMore
set_option linter.unusedVariables false
set_option linter.unusedSimpArgs false
theorem awake12 : ∃ K, ∀ k, dioramalaw12_awake.f (k + K) = some true := by
  have h : dioramalaw12_awake.f 60 = some true := by decide +kernel
  refine ⟨60, fun k => ?_⟩
  induction k with
  | zero => exact h
  | succ k ih => rw [show k + 1 + 60 = k + 60 + 1 by omega]; exact dioramalaw12_awake.mono _ _ ih
theorem order_true (a0 a1 a2 a3 a4 b0 b1 b2 b3 b4 c0 c1 c2 c3 c4 : Int) : ∃ k, dioramalaw12_LimitOrder.f k a0 a1 a2 a3 a4 b0 b1 b2 b3 b4 c0 c1 c2 c3 c4 = some true := by
  obtain ⟨K, hK⟩ := awake12
  refine ⟨0 + K, ?_⟩
  have hw : ∀ x0 x1 x2 x3 x4 y0 y1 y2 y3 y4 : Int, limit_Within.f x0 x1 x2 x3 x4 y0 y1 y2 y3 y4 = some (LimW.wB x0 x1 x2 x3 x4 y0 y1 y2 y3 y4) := fun _ _ _ _ _ _ _ _ _ _ => rfl
  have ht : ∀ x0 x1 x2 x3 x4 y0 y1 y2 y3 y4 : Int, LimW.wB x0 x1 x2 x3 x4 y0 y1 y2 y3 y4 = true ↔ (x0 ≤ y0 ∧ x1 ≤ y1 ∧ x2 ≤ y2 ∧ x3 ≤ y3 ∧ x4 ≤ y4) := fun _ _ _ _ _ _ _ _ _ _ => by unfold LimW.wB; rw [decide_eq_true_eq]
  unfold dioramalaw12_LimitOrder.f
  rw [hK, Option.bind_some, if_pos rfl, hw, Option.bind_some, if_pos ((ht _ _ _ _ _ _ _ _ _ _).2 ⟨by omega, by omega, by omega, by omega, by omega⟩), hw, Option.bind_some, hw, Option.bind_some]
  have hr : limit_Right.f b0 b1 b2 b3 b4 = some (LimW.wB b0 b1 b2 b3 b4 16777216 16777216 16777216 16777216 16777216 && LimW.wB 0 0 0 0 0 b0 b1 b2 b3 b4) := by
    unfold limit_Right.f
    simp only [hw, Option.bind_some]
    cases LimW.wB b0 b1 b2 b3 b4 16777216 16777216 16777216 16777216 16777216 <;> simp
  have hq : ∀ (p q r : Bool), (p == q) = r ↔ ((p = q) ↔ r = true) := fun p q r => by cases p <;> cases q <;> cases r <;> simp
  by_cases h1 : LimW.wB a0 a1 a2 a3 a4 b0 b1 b2 b3 b4 = true
  · rw [if_pos h1]
    have g1 := (ht _ _ _ _ _ _ _ _ _ _).1 h1
    have fin : ∀ z : Bool, (if z = true then (some (decide (a1 ≤ 16777216)) : Option Bool) else some true) = some true ∨ ¬ (z = true → a1 ≤ 16777216) := fun z => by
      by_cases hz : z = true
      · by_cases h : a1 ≤ 16777216
        · left; rw [if_pos hz, decide_eq_true h]
        · right; exact fun k => h (k hz)
      · left; rw [if_neg hz]
    have hfin : (LimW.wB b0 b1 b2 b3 b4 16777216 16777216 16777216 16777216 16777216 && LimW.wB 0 0 0 0 0 b0 b1 b2 b3 b4) = true → a1 ≤ 16777216 := fun h => by
      rw [Bool.and_eq_true] at h
      have := (ht _ _ _ _ _ _ _ _ _ _).1 h.1
      omega
    have heq : (LimW.wB b0 b1 b2 b3 b4 a0 a1 a2 a3 a4 == (a0 == b0 && (a1 == b1 && (a2 == b2 && (a3 == b3 && (a4 == b4)))))) = true := by
      rw [beq_iff_eq, Bool.eq_iff_iff, ht]
      simp only [Bool.and_eq_true, beq_iff_eq]
      omega
    by_cases h2 : LimW.wB b0 b1 b2 b3 b4 c0 c1 c2 c3 c4 = true
    · have g2 := (ht _ _ _ _ _ _ _ _ _ _).1 h2
      rw [if_pos h2, hw, Option.bind_some, if_pos ((ht _ _ _ _ _ _ _ _ _ _).2 ⟨by omega, by omega, by omega, by omega, by omega⟩), hw, Option.bind_some, if_pos heq, hr, Option.bind_some]
      exact (fin _).resolve_right (fun h => h hfin)
    · rw [if_neg h2, hw, Option.bind_some, if_pos heq, hr, Option.bind_some]
      exact (fin _).resolve_right (fun h => h hfin)
  · rw [if_neg h1]
    have : (false == (a0 == b0 && (a1 == b1 && (a2 == b2 && (a3 == b3 && (a4 == b4)))))) = true := by
      rw [beq_iff_eq, eq_comm, Bool.eq_false_iff]
      intro h
      simp only [Bool.and_eq_true, beq_iff_eq] at h
      exact h1 ((ht _ _ _ _ _ _ _ _ _ _).2 ⟨by omega, by omega, by omega, by omega, by omega⟩)
    rw [if_pos this]
end Go.Proofs.YtcphcaiiofeflaaDoor.GL
