/- The plain law of UtfReads: a text is UTF-8, with the characters that the document says, or it is told from where on it isn't. -/
import Derived.Test.YtkojplbbliagcaaDoorPureUtfCuts
import Derived.Test.YtkojplbbliagcaaDoorUtfQ
namespace Go.Proofs.YtkojplbbliagcaaDoor.Pure
open Go.RowKit Go.Proofs.YtkojplbbliagcaaDoor.GUtf Go.Proofs.YtkojplbbliagcaaDoorW.PrintWords Go.Proofs.YtkojplbbliagcaaDoorW.PrintLast Go.Proofs.YtkojplbbliagcaaDoor.U
set_option linter.unusedVariables false
set_option linter.unusedSimpArgs false
set_option maxRecDepth 100000
theorem UtfReads : dioramalaw05_UtfReads.Pure := by
  intro s hs
  by_cases hb : (s.size : Int) > 1000
  · refine ⟨21, ?_⟩
    unfold dioramalaw05_UtfReads.f
    rw [awake_tell 1, Option.bind_some, if_pos rfl, decide_eq_true hb, dioramalaw05_UtfReads.j0, if_pos rfl, awake_true]; rfl
  obtain ⟨l, q, hr, hq, hbad, hf, hc, hru⟩ := text_ways s
  have hm := hr.mono
  refine ⟨(22 + l.length + 42) + 1, ?_⟩
  unfold dioramalaw05_UtfReads.f
  rw [show (22 + l.length + 42) + 1 = (45 + l.length) + 20 by omega, awake_tell, Option.bind_some, if_pos rfl, decide_eq_false hb, show (45 + l.length) + 20 = (22 + l.length + 42) + 1 by omega, dioramalaw05_UtfReads.j0, if_neg (by simp), read_f hr (by omega) hq hbad 22, Option.bind_some, first_f (by omega), count_f (by omega), runes_f (by omega)]
  by_cases hlt : q < s.size
  · rw [if_pos hlt] at hf hc hru
    rw [if_pos (by simp only; omega), hf, hc, hru]
    simp
  · rw [if_neg hlt] at hf hc hru
    rw [if_neg (by simp only; omega), hf, hc, hru]
    have e := same_refl l (by omega) 63
    rw [show 63 + l.length + 1 = 22 + l.length + 42 by omega] at e
    simp [e]
end Go.Proofs.YtkojplbbliagcaaDoor.Pure
