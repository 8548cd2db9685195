/- The walk of SchemaNested: 'true', whatever the number. -/
import Derived.Test.YtkojplbbliagcaaGSchemax2
import Derived.Test.YtkojplbbliagcaaPureSchemaClasses
import Derived.Lib.Hide
namespace Go.Proofs.Ytkojplbbliagcaa.Nested
open Go.RowKit Go.Proofs.Ytkojplbbliagcaa.GSchema Go.Proofs.YtkojplbbliagcaaW.PrintWords Go.Proofs.YtkojplbbliagcaaW.PrintLast Go.Proofs.YtkojplbbliagcaaW.PrintMore
set_option linter.unusedVariables false
set_option linter.unusedSimpArgs false
def Goal (a : Int) (w : World) : Prop := Calls Try.prog 5 #[.int .i64 a] w fun e w' => e = .returned (.bool true) ∧ Below w.heap.size w w'
set_option maxHeartbeats 8000000 in
set_option maxRecDepth 100000 in
theorem case_TTTT (a : Int) (w : World) (hc : -140737488355328 ≤ a) (h2 : schema_In.f 2 a = some true) (h3 : schema_In.f 3 a = some true) (h4 : schema_In.f 4 a = some true) (h5 : schema_In.f 5 a = some true) : Goal a w := by
  unfold Goal
  have H1 := Lib.hid (show schema_In.f 1 a = some true from rfl)
  have H2 := Lib.hid h2
  have H3 := Lib.hid h3
  have H4 := Lib.hid h4
  have H5 := Lib.hid h5
  clear h2 h3 h4 h5
  have z : decide (-140737488355328 ≤ a) = true := decide_eq_true hc
  go_enter Try.func5, Try.ntmps5
  go_wp2_with (fail)
  refine (dioramalaw07_awake.calls 20 true _ Pure.awake).mono ?_
  rintro e w1 ⟨rfl, hb⟩
  go_wp2_with (first | (go_at_call 12; with_reducible refine (schema_In.calls 1 a true _ H1.out).mono ?_; rintro e w' ⟨rfl, ⟨nd, rfl⟩⟩) | (go_at_call 12; with_reducible refine (schema_In.calls 2 a true _ H2.out).mono ?_; rintro e w' ⟨rfl, ⟨nd, rfl⟩⟩) | (go_at_call 12; with_reducible refine (schema_In.calls 3 a true _ H3.out).mono ?_; rintro e w' ⟨rfl, ⟨nd, rfl⟩⟩) | (go_at_call 12; with_reducible refine (schema_In.calls 4 a true _ H4.out).mono ?_; rintro e w' ⟨rfl, ⟨nd, rfl⟩⟩) | (go_at_call 12; with_reducible refine (schema_In.calls 5 a true _ H5.out).mono ?_; rintro e w' ⟨rfl, ⟨nd, rfl⟩⟩))
  go_ret
  exact ⟨rfl, by repeat (first | exact hb | apply pw_below_drewN | apply below_drew1)⟩
set_option maxHeartbeats 8000000 in
set_option maxRecDepth 100000 in
theorem case_TTTF (a : Int) (w : World) (hc : -140737488355328 ≤ a) (h2 : schema_In.f 2 a = some true) (h3 : schema_In.f 3 a = some true) (h4 : schema_In.f 4 a = some true) (h5 : schema_In.f 5 a = some false) : Goal a w := by
  unfold Goal
  have H1 := Lib.hid (show schema_In.f 1 a = some true from rfl)
  have H2 := Lib.hid h2
  have H3 := Lib.hid h3
  have H4 := Lib.hid h4
  have H5 := Lib.hid h5
  clear h2 h3 h4 h5
  have z : decide (-140737488355328 ≤ a) = true := decide_eq_true hc
  go_enter Try.func5, Try.ntmps5
  go_wp2_with (fail)
  refine (dioramalaw07_awake.calls 20 true _ Pure.awake).mono ?_
  rintro e w1 ⟨rfl, hb⟩
  go_wp2_with (first | (go_at_call 12; with_reducible refine (schema_In.calls 1 a true _ H1.out).mono ?_; rintro e w' ⟨rfl, ⟨nd, rfl⟩⟩) | (go_at_call 12; with_reducible refine (schema_In.calls 2 a true _ H2.out).mono ?_; rintro e w' ⟨rfl, ⟨nd, rfl⟩⟩) | (go_at_call 12; with_reducible refine (schema_In.calls 3 a true _ H3.out).mono ?_; rintro e w' ⟨rfl, ⟨nd, rfl⟩⟩) | (go_at_call 12; with_reducible refine (schema_In.calls 4 a true _ H4.out).mono ?_; rintro e w' ⟨rfl, ⟨nd, rfl⟩⟩) | (go_at_call 12; with_reducible refine (schema_In.calls 5 a false _ H5.out).mono ?_; rintro e w' ⟨rfl, ⟨nd, rfl⟩⟩))
  go_ret
  exact ⟨rfl, by repeat (first | exact hb | apply pw_below_drewN | apply below_drew1)⟩
set_option maxHeartbeats 8000000 in
set_option maxRecDepth 100000 in
theorem case_TTFF (a : Int) (w : World) (hc : -140737488355328 ≤ a) (h2 : schema_In.f 2 a = some true) (h3 : schema_In.f 3 a = some true) (h4 : schema_In.f 4 a = some false) (h5 : schema_In.f 5 a = some false) : Goal a w := by
  unfold Goal
  have H1 := Lib.hid (show schema_In.f 1 a = some true from rfl)
  have H2 := Lib.hid h2
  have H3 := Lib.hid h3
  have H4 := Lib.hid h4
  have H5 := Lib.hid h5
  clear h2 h3 h4 h5
  have z : decide (-140737488355328 ≤ a) = true := decide_eq_true hc
  go_enter Try.func5, Try.ntmps5
  go_wp2_with (fail)
  refine (dioramalaw07_awake.calls 20 true _ Pure.awake).mono ?_
  rintro e w1 ⟨rfl, hb⟩
  go_wp2_with (first | (go_at_call 12; with_reducible refine (schema_In.calls 1 a true _ H1.out).mono ?_; rintro e w' ⟨rfl, ⟨nd, rfl⟩⟩) | (go_at_call 12; with_reducible refine (schema_In.calls 2 a true _ H2.out).mono ?_; rintro e w' ⟨rfl, ⟨nd, rfl⟩⟩) | (go_at_call 12; with_reducible refine (schema_In.calls 3 a true _ H3.out).mono ?_; rintro e w' ⟨rfl, ⟨nd, rfl⟩⟩) | (go_at_call 12; with_reducible refine (schema_In.calls 4 a false _ H4.out).mono ?_; rintro e w' ⟨rfl, ⟨nd, rfl⟩⟩) | (go_at_call 12; with_reducible refine (schema_In.calls 5 a false _ H5.out).mono ?_; rintro e w' ⟨rfl, ⟨nd, rfl⟩⟩))
  go_ret
  exact ⟨rfl, by repeat (first | exact hb | apply pw_below_drewN | apply below_drew1)⟩
set_option maxHeartbeats 8000000 in
set_option maxRecDepth 100000 in
theorem case_TFFF (a : Int) (w : World) (hc : -140737488355328 ≤ a) (h2 : schema_In.f 2 a = some true) (h3 : schema_In.f 3 a = some false) (h4 : schema_In.f 4 a = some false) (h5 : schema_In.f 5 a = some false) : Goal a w := by
  unfold Goal
  have H1 := Lib.hid (show schema_In.f 1 a = some true from rfl)
  have H2 := Lib.hid h2
  have H3 := Lib.hid h3
  have H4 := Lib.hid h4
  have H5 := Lib.hid h5
  clear h2 h3 h4 h5
  have z : decide (-140737488355328 ≤ a) = true := decide_eq_true hc
  go_enter Try.func5, Try.ntmps5
  go_wp2_with (fail)
  refine (dioramalaw07_awake.calls 20 true _ Pure.awake).mono ?_
  rintro e w1 ⟨rfl, hb⟩
  go_wp2_with (first | (go_at_call 12; with_reducible refine (schema_In.calls 1 a true _ H1.out).mono ?_; rintro e w' ⟨rfl, ⟨nd, rfl⟩⟩) | (go_at_call 12; with_reducible refine (schema_In.calls 2 a true _ H2.out).mono ?_; rintro e w' ⟨rfl, ⟨nd, rfl⟩⟩) | (go_at_call 12; with_reducible refine (schema_In.calls 3 a false _ H3.out).mono ?_; rintro e w' ⟨rfl, ⟨nd, rfl⟩⟩) | (go_at_call 12; with_reducible refine (schema_In.calls 4 a false _ H4.out).mono ?_; rintro e w' ⟨rfl, ⟨nd, rfl⟩⟩) | (go_at_call 12; with_reducible refine (schema_In.calls 5 a false _ H5.out).mono ?_; rintro e w' ⟨rfl, ⟨nd, rfl⟩⟩))
  go_ret
  exact ⟨rfl, by repeat (first | exact hb | apply pw_below_drewN | apply below_drew1)⟩
set_option maxHeartbeats 8000000 in
set_option maxRecDepth 100000 in
theorem case_FFFF (a : Int) (w : World) (h2 : schema_In.f 2 a = some false) (h3 : schema_In.f 3 a = some false) (h4 : schema_In.f 4 a = some false) (h5 : schema_In.f 5 a = some false) : Goal a w := by
  unfold Goal
  have H1 := Lib.hid (show schema_In.f 1 a = some true from rfl)
  have H2 := Lib.hid h2
  have H3 := Lib.hid h3
  have H4 := Lib.hid h4
  have H5 := Lib.hid h5
  clear h2 h3 h4 h5
  go_enter Try.func5, Try.ntmps5
  go_wp2_with (fail)
  refine (dioramalaw07_awake.calls 20 true _ Pure.awake).mono ?_
  rintro e w1 ⟨rfl, hb⟩
  go_wp2_with (first | (go_at_call 12; with_reducible refine (schema_In.calls 1 a true _ H1.out).mono ?_; rintro e w' ⟨rfl, ⟨nd, rfl⟩⟩) | (go_at_call 12; with_reducible refine (schema_In.calls 2 a false _ H2.out).mono ?_; rintro e w' ⟨rfl, ⟨nd, rfl⟩⟩) | (go_at_call 12; with_reducible refine (schema_In.calls 3 a false _ H3.out).mono ?_; rintro e w' ⟨rfl, ⟨nd, rfl⟩⟩) | (go_at_call 12; with_reducible refine (schema_In.calls 4 a false _ H4.out).mono ?_; rintro e w' ⟨rfl, ⟨nd, rfl⟩⟩) | (go_at_call 12; with_reducible refine (schema_In.calls 5 a false _ H5.out).mono ?_; rintro e w' ⟨rfl, ⟨nd, rfl⟩⟩))
  go_ret
  exact ⟨rfl, by repeat (first | exact hb | apply pw_below_drewN | apply below_drew1)⟩
theorem in2 (a : Int) : schema_In.f 2 a = some (decide (-140737488355328 ≤ a ∧ a ≤ 140737488355328)) := by
  unfold schema_In.f
  rw [if_neg (by decide), if_pos rfl]
  by_cases h : a ≥ -140737488355328
  · rw [if_pos h]; congr 1; rw [decide_eq_decide]; omega
  · rw [if_neg h]; congr 1; exact (decide_eq_false (by omega)).symm
theorem in3 (a : Int) : schema_In.f 3 a = some (decide (0 ≤ a ∧ a ≤ 140737488355328)) := by
  unfold schema_In.f
  rw [if_neg (by decide), if_neg (by decide), if_pos rfl]
  by_cases h : a ≥ 0
  · rw [if_pos h]; congr 1; rw [decide_eq_decide]; omega
  · rw [if_neg h]; congr 1; exact (decide_eq_false (by omega)).symm
theorem in4 (a : Int) : schema_In.f 4 a = some (decide (0 ≤ a ∧ a ≤ 255)) := by
  unfold schema_In.f
  rw [if_neg (by decide), if_neg (by decide), if_neg (by decide), if_pos rfl]
  by_cases h : a ≥ 0
  · rw [if_pos h]; congr 1; rw [decide_eq_decide]; omega
  · rw [if_neg h]; congr 1; exact (decide_eq_false (by omega)).symm
theorem in5 (a : Int) : schema_In.f 5 a = some (decide (a = 0 ∨ a = 1)) := by
  unfold schema_In.f
  rw [if_neg (by decide), if_neg (by decide), if_neg (by decide), if_neg (by decide), if_pos rfl]
  by_cases h : a = 0
  · rw [if_pos h]; congr 1; exact (decide_eq_true (.inl h)).symm
  · rw [if_neg h]; congr 1; by_cases h1 : a = 1
    · rw [beq_iff_eq.mpr h1]; exact (decide_eq_true (.inr h1)).symm
    · rw [beq_eq_false_iff_ne.mpr h1]; exact (decide_eq_false (by omega)).symm
theorem walk (a : Int) (h : (Lit.int .i64 a).wf = true) (w : World) : Goal a w := by
  by_cases c5 : a = 0 ∨ a = 1
  · exact case_TTTT a w (by omega) ((in2 a).trans (by rw [decide_eq_true (by omega)])) ((in3 a).trans (by rw [decide_eq_true (by omega)])) ((in4 a).trans (by rw [decide_eq_true (by omega)])) ((in5 a).trans (by rw [decide_eq_true (by omega)]))
  by_cases c4 : 0 ≤ a ∧ a ≤ 255
  · exact case_TTTF a w (by omega) ((in2 a).trans (by rw [decide_eq_true (by omega)])) ((in3 a).trans (by rw [decide_eq_true (by omega)])) ((in4 a).trans (by rw [decide_eq_true (by omega)])) ((in5 a).trans (by rw [decide_eq_false (by omega)]))
  by_cases c3 : 0 ≤ a ∧ a ≤ 140737488355328
  · exact case_TTFF a w (by omega) ((in2 a).trans (by rw [decide_eq_true (by omega)])) ((in3 a).trans (by rw [decide_eq_true (by omega)])) ((in4 a).trans (by rw [decide_eq_false (by omega)])) ((in5 a).trans (by rw [decide_eq_false (by omega)]))
  by_cases c2 : -140737488355328 ≤ a ∧ a ≤ 140737488355328
  · exact case_TFFF a w (by omega) ((in2 a).trans (by rw [decide_eq_true (by omega)])) ((in3 a).trans (by rw [decide_eq_false (by omega)])) ((in4 a).trans (by rw [decide_eq_false (by omega)])) ((in5 a).trans (by rw [decide_eq_false (by omega)]))
  exact case_FFFF a w ((in2 a).trans (by rw [decide_eq_false (by omega)])) ((in3 a).trans (by rw [decide_eq_false (by omega)])) ((in4 a).trans (by rw [decide_eq_false (by omega)])) ((in5 a).trans (by rw [decide_eq_false (by omega)]))
end Go.Proofs.Ytkojplbbliagcaa.Nested
