/- The plain law of UtfBack: characters that are put are read as they were; a text that is UTF-8 is put as it was. -/
import Derived.Test.YtkojplbbliagcaaDoorPureUtfPuts
namespace Go.Proofs.YtkojplbbliagcaaDoor.Pure
open Go.RowKit Go.Proofs.YtkojplbbliagcaaDoor.GUtf Go.Proofs.YtkojplbbliagcaaDoorW.PrintWords Go.Proofs.YtkojplbbliagcaaDoorW.PrintLast Go.Proofs.YtkojplbbliagcaaDoor.U
set_option linter.unusedVariables false
set_option linter.unusedSimpArgs false
set_option maxRecDepth 100000
theorem back_j1 (k : Nat) (s : ByteArray) (hs : s.size ≤ 1000) : dioramalaw05_UtfBack.j1 (k + 1) s false = some true := by
  rw [dioramalaw05_UtfBack.j1, if_neg (by simp), first_f (by omega), runes_f (by omega)]
  obtain ⟨l, q, hr, hq, hbad, hf, _, hru⟩ := text_ways s
  have hm := hr.mono
  by_cases hlt : q < s.size
  · rw [if_pos hlt] at hf hru
    rw [hf, Option.bind_some, if_pos (by omega)]
  · obtain rfl : q = s.size := by omega
    rw [if_neg hlt] at hf hru
    rw [hf, hru]
    obtain ⟨hv, hp⟩ := put_of_run hr
    rw [Option.bind_some, if_neg (by omega), Option.bind_some, put_tell (by omega), putL_valid l [] hv, Option.bind_some, if_pos rfl, List.nil_append, hp]
    simp [ByteArray.toList_eq]
theorem UtfBack : dioramalaw05_UtfBack.Pure := by
  intro l s _ _ hw _
  by_cases hb : (l.length : Int) > 500
  · refine ⟨21, ?_⟩
    unfold dioramalaw05_UtfBack.f
    rw [awake_tell 1, Option.bind_some, if_pos rfl, if_pos hb, dioramalaw05_UtfBack.j0, if_pos rfl, awake_true]; rfl
  by_cases hc : (s.size : Int) > 1000
  · refine ⟨21, ?_⟩
    unfold dioramalaw05_UtfBack.f
    rw [awake_tell 1, Option.bind_some, if_pos rfl, if_neg hb, decide_eq_true hc, dioramalaw05_UtfBack.j0, if_pos rfl, awake_true]; rfl
  refine ⟨(20 + l.length + 1) + 1, ?_⟩
  unfold dioramalaw05_UtfBack.f
  rw [show (20 + l.length + 1) + 1 = (2 + l.length) + 20 by omega, awake_tell, Option.bind_some, if_pos rfl, if_neg hb, decide_eq_false hc, show (2 + l.length) + 20 = (20 + l.length + 1) + 1 by omega, dioramalaw05_UtfBack.j0, if_neg (by simp), Option.bind_some, if_pos (by simp only [List.length_nil]; omega), List.nil_append, put_tell (by omega), Option.bind_some]
  by_cases ht : (putL l []).2 = true
  · rw [if_pos ht]
    have hv := putL_true l [] ht
    have hr := run_of_put l [] hv
    rw [List.nil_append] at hr
    have hz : (⟨(l.flatMap Go.Lib.encodeRune).toArray⟩ : ByteArray).size = (l.flatMap Go.Lib.encodeRune).length := by
      show (l.flatMap Go.Lib.encodeRune).toArray.size = _; simp
    have hr2 : Run ⟨(l.flatMap Go.Lib.encodeRune).toArray⟩ 0 l (⟨(l.flatMap Go.Lib.encodeRune).toArray⟩ : ByteArray).size := by rw [hz]; exact hr
    have hlen : (l.flatMap Go.Lib.encodeRune).length ≤ 4 * l.length := by
      rw [List.length_flatMap]
      have : ∀ l : List Int, (l.map fun x => (Go.Lib.encodeRune x).length).sum ≤ 4 * l.length := by
        intro l
        induction l with
        | nil => exact Nat.le_refl _
        | cons x l ih => have := enc_len x; simp only [List.map_cons, List.sum_cons, List.length_cons]; omega
      exact this l
    rw [putL_valid l [] hv, List.nil_append, runes_f (by rw [hz]; omega), (of_run hr2).2.2, Option.bind_some, same_refl l (by omega) 20, Option.bind_some]
    exact back_j1 _ s (by omega)
  · rw [if_neg ht]
    exact back_j1 _ s (by omega)
end Go.Proofs.YtkojplbbliagcaaDoor.Pure
