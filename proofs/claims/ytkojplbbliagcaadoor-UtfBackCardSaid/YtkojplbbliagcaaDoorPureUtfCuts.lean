/- The plain law of UtfCuts: the beginning of a text up to where it isn't UTF-8 any more is UTF-8. -/
import Derived.Test.YtkojplbbliagcaaDoorGUtfx4
import Derived.Test.YtkojplbbliagcaaDoorUtfR
namespace Go.Proofs.YtkojplbbliagcaaDoor.Pure
open Go.RowKit Go.Proofs.YtkojplbbliagcaaDoor.GUtf Go.Proofs.YtkojplbbliagcaaDoorW.PrintWords Go.Proofs.YtkojplbbliagcaaDoorW.PrintLast Go.Proofs.YtkojplbbliagcaaDoor.U
set_option linter.unusedVariables false
set_option linter.unusedSimpArgs false
set_option maxRecDepth 100000
theorem awake_true : dioramalaw05_awake.f 20 = some true := by decide +kernel
theorem awake_tell (k : Nat) : dioramalaw05_awake.f (k + 20) = some true := by
  induction k with
  | zero => rw [Nat.zero_add]; exact awake_true
  | succ k ih =>
    rw [show k + 1 + 20 = (k + 20) + 1 by omega]
    exact dioramalaw05_awake.mono _ _ ih
theorem first_f {s : ByteArray} (h : s.size ≤ 70368744177664) : utf_First.f s = some (U.first s (s.size + 1) 0) := by
  unfold utf_First.f; rw [if_pos h]
theorem count_f {s : ByteArray} (h : s.size ≤ 70368744177664) : utf_Count.f s = some (countOf s) := by
  unfold utf_Count.f; rw [if_pos h]
theorem runes_f {s : ByteArray} (h : s.size ≤ 70368744177664) : utf_Runes.f s = some (runesOf s) := by
  unfold utf_Runes.f; rw [if_pos h]
theorem UtfCuts : dioramalaw05_UtfCuts.Pure := by
  intro s hs
  refine ⟨21, ?_⟩
  unfold dioramalaw05_UtfCuts.f
  rw [awake_tell 1, Option.bind_some, if_pos rfl]
  by_cases hb : (s.size : Int) > 1000
  · rw [decide_eq_true hb, dioramalaw05_UtfCuts.j0, if_pos rfl, awake_true]; rfl
  rw [decide_eq_false hb, dioramalaw05_UtfCuts.j0, if_neg (by simp), first_f (by omega), Option.bind_some, count_f (by omega)]
  obtain ⟨l, q, hr, hq, hbad, hf, hc, _⟩ := text_ways s
  by_cases hlt : q < s.size
  · rw [if_pos hlt] at hf
    have hsz := head_size s q hq
    obtain ⟨e1, e2, _⟩ := of_run (show Run (s.extract 0 q) 0 l (s.extract 0 q).size by rw [hsz]; exact hr.head q (Nat.le_refl _) hq)
    have e1' : utf_First.f (s.extract 0 q) = some (-1) := by rw [first_f (by omega), e1]
    have e2' : utf_Count.f (s.extract 0 q) = some (l.length : Int) := by rw [count_f (by omega), e2]
    rw [hf, if_neg (by omega), if_pos (by omega), if_pos (by omega), if_pos (by omega), Int.toNat_natCast, e1', e2']
    simp
  · obtain rfl : q = s.size := by omega
    rw [if_neg hlt] at hf hc
    have := hr.mono
    rw [hf, hc]
    simp
    omega
end Go.Proofs.YtkojplbbliagcaaDoor.Pure
