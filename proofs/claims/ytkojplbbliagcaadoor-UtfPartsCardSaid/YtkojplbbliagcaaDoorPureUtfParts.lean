/- The plain law of UtfParts: two texts that are UTF-8 are so one behind the other. -/
import Derived.Test.YtkojplbbliagcaaDoorPureUtfCuts
namespace Go.Proofs.YtkojplbbliagcaaDoor.Pure
open Go.RowKit Go.Proofs.YtkojplbbliagcaaDoor.GUtf Go.Proofs.YtkojplbbliagcaaDoorW.PrintWords Go.Proofs.YtkojplbbliagcaaDoorW.PrintLast Go.Proofs.YtkojplbbliagcaaDoor.U
set_option linter.unusedVariables false
set_option linter.unusedSimpArgs false
set_option maxRecDepth 100000
theorem UtfParts : dioramalaw05_UtfParts.Pure := by
  intro a b ha hb
  refine ⟨21, ?_⟩
  unfold dioramalaw05_UtfParts.f
  rw [awake_tell 1, Option.bind_some, if_pos rfl]
  by_cases ga : (a.size : Int) > 500
  · rw [if_pos ga, dioramalaw05_UtfParts.j0, if_pos rfl, awake_true]; rfl
  rw [if_neg ga]
  by_cases gb : (b.size : Int) > 500
  · rw [decide_eq_true gb, dioramalaw05_UtfParts.j0, if_pos rfl, awake_true]; rfl
  rw [decide_eq_false gb, dioramalaw05_UtfParts.j0, if_neg (by simp), count_f (by omega), Option.bind_some, first_f (by omega)]
  obtain ⟨l, q, hr, hq, hbad, hf, hc, _⟩ := text_ways a
  by_cases hlt : q < a.size
  · rw [if_pos hlt] at hf hc
    rw [hc, hf]
    simp
    omega
  · obtain rfl : q = a.size := by omega
    rw [if_neg hlt] at hf hc
    rw [hc, if_neg (by omega), count_f (by omega), Option.bind_some]
    obtain ⟨l', q', hr', hq', hbad', hf', hc', _⟩ := text_ways b
    have hsz := app_size a b
    have hboth := (hr.left b).append (hr'.right a)
    rw [first_f (s := a ++ b) (by omega), first_f (s := b) (by omega), count_f (s := a ++ b) (by omega)]
    by_cases hlt' : q' < b.size
    · rw [if_pos hlt'] at hf' hc'
      have hbad2 : a.size + q' < (a ++ b).size → ¬ U.Good (Utf8.decode (a ++ b) (a.size + q')) := by
        intro _
        rw [decode_right]
        exact hbad' hlt'
      have e1 := hboth.first (by omega) hbad2 ((a ++ b).size + 1) (by omega)
      rw [if_pos (by omega)] at e1
      have e2 : countOf (a ++ b) = -1 := by
        unfold countOf
        rw [e1, if_pos (by omega)]
      rw [hc', if_pos (by omega), if_pos (by omega), e1, hf', Option.bind_some, Option.bind_some, if_pos (by unfold wrap64; omega), e2]
      rfl
    · obtain rfl : q' = b.size := by omega
      rw [if_neg hlt'] at hf' hc'
      rw [← hsz] at hboth
      obtain ⟨_, e2, _⟩ := of_run hboth
      have h1 := hr.mono
      have h2 := hr'.mono
      rw [hc', if_neg (by omega), if_pos (by omega), e2, Option.bind_some, List.length_append]
      have e3 : wrap64 ((l.length : Int) + (l'.length : Int)) = ((l.length + l'.length : Nat) : Int) := by unfold wrap64; omega
      rw [e3]
      simp
end Go.Proofs.YtkojplbbliagcaaDoor.Pure
