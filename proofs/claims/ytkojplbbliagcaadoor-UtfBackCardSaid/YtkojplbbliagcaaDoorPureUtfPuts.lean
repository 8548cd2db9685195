/- The plain law of UtfPuts: any numbers are the text that the document says, or one of them is no character. -/
import Derived.Test.YtkojplbbliagcaaDoorPureUtfReads
namespace Go.Proofs.YtkojplbbliagcaaDoor.Pure
open Go.RowKit Go.Proofs.YtkojplbbliagcaaDoor.GUtf Go.Proofs.YtkojplbbliagcaaDoorW.PrintWords Go.Proofs.YtkojplbbliagcaaDoorW.PrintLast Go.Proofs.YtkojplbbliagcaaDoor.U
set_option linter.unusedVariables false
set_option linter.unusedSimpArgs false
set_option maxRecDepth 100000
theorem in32 {a : Int} (h : (Lit.int .i32 a).wf = true) : -2147483648 ≤ a ∧ a ≤ 2147483647 := by
  have h2 : (decide (-2147483648 ≤ a) && decide (a ≤ 2147483647)) = true := h
  simpa using h2
theorem put_tell {l : List Int} (h : l.length ≤ 1000000) : utf_Put.f l = some (⟨(putL l []).1.toArray⟩, (putL l []).2) := by
  unfold utf_Put.f; rw [if_pos h]
theorem UtfPuts : dioramalaw05_UtfPuts.Pure := by
  intro l _ _ hw
  by_cases hb : (l.length : Int) > 500
  · refine ⟨21, ?_⟩
    unfold dioramalaw05_UtfPuts.f
    rw [awake_tell 1, Option.bind_some, if_pos rfl, decide_eq_true hb, dioramalaw05_UtfPuts.j0, if_pos rfl, awake_true]; rfl
  refine ⟨(20 + l.length + 2) + 1, ?_⟩
  unfold dioramalaw05_UtfPuts.f
  rw [show (20 + l.length + 2) + 1 = (3 + l.length) + 20 by omega, awake_tell, Option.bind_some, if_pos rfl, decide_eq_false hb, show (3 + l.length) + 20 = (20 + l.length + 2) + 1 by omega, dioramalaw05_UtfPuts.j0, if_neg (by simp), Option.bind_some, if_pos (by simp only [List.length_nil]; omega), List.nil_append, put_tell (by omega), Option.bind_some, put_f l (by omega) (fun x hx => in32 (hw x hx)) 20, Option.bind_some, if_pos rfl]
  simp
end Go.Proofs.YtkojplbbliagcaaDoor.Pure
