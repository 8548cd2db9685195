/- What is wrong, by the reference. -/
import Derived.Test.YtlfjjapndlkamaaCtGrC
import Derived.Test.YtlfjjapndlkamaaCtGHx12
namespace Go.Proofs.Ytlfjjapndlkamaa.GH
open Go.RowKit Go.Proofs.YtlfjjapndlkamaaW.PrintWords Go.Proofs.YtlfjjapndlkamaaW.PrintLast Go.Proofs.YtlfjjapndlkamaaW.PrintMore
set_option linter.unusedVariables false
set_option linter.unusedSimpArgs false
theorem rcheck_l1 {l0 : List (S40)} (hgood : GT.firstBad (kidsI l0) = none) (hn : l0.length ≤ 1000000) (hE : ((kidsI l0).map List.length).sum ≤ 1000000) {r : Nat} (hr : r < l0.length) (row : List Bool) (hrow : row.length = l0.length) (hled : ∀ j, row.getD j false = true ↔ GT.Led (GT.toG (kidsI l0)) r j) :
    ∀ (d j : Nat), j + d = l0.length → ∀ k, dioramaref09_Check.l1 (k + d + 1) row (j : Int) l0 (r : Int) = some (match GT.scan (GT.looseAt (GT.toG (kidsI l0)) r) d j with | some i => (15, (i : Int)) | none => (0, 0)) := by
  intro d
  induction d with
  | zero =>
    intro j hj k
    rw [dioramaref09_Check.l1, if_neg (by omega), GT.scan]
  | succ d ih =>
    intro j hj k
    have hx : rdOf false row (j : Int) = row.getD j false := by unfold rdOf; rw [Int.toNat_natCast]
    have hl := looseAt_led hgood hE hr j
    rw [show k + (d + 1) + 1 = (k + d + 1) + 1 by omega, dioramaref09_Check.l1, if_pos (by omega), GT.scan, hx, w64 (by omega) (by omega)]
    by_cases e : (j : Int) = (r : Int)
    · rw [if_pos e, if_neg (by rw [hl]; exact fun h => h (.inl (by omega)))]
      exact ih (j + 1) (by omega) k
    · rw [if_neg e, if_pos (by omega), if_pos (by omega)]
      by_cases hc : row.getD j false = true
      · rw [if_pos hc, if_neg (by rw [hl]; exact fun h => h (.inr ((hled j).1 hc)))]
        exact ih (j + 1) (by omega) k
      · rw [if_neg hc, if_pos (by rw [hl]; exact fun h => h.elim (fun h => e (by omega)) (fun h => hc ((hled j).2 h)))]
theorem rcheck_l0 {l0 : List (S40)} (hgood : GT.firstBad (kidsI l0) = none) (hn : l0.length ≤ 1000000) (hE : ((kidsI l0).map List.length).sum ≤ 1000000) {r : Nat} (hr : r < l0.length) :
    ∀ (d i : Nat), i + d = l0.length → ∀ k, dioramaref09_Check.l0 (k + 4000000 + d + 1) (i : Int) l0 (r : Int) = some (match GT.scan (GT.cycAt (GT.toG (kidsI l0))) d i with | some i => (14, (i : Int)) | none => match GT.firstLoose (GT.toG (kidsI l0)) r with | some i => (15, (i : Int)) | none => (0, 0)) := by
  have hGl : (GT.toG (kidsI l0)).length = l0.length := by rw [GT.length_toG, kids_len]
  intro d
  induction d with
  | zero =>
    intro i hi k
    obtain ⟨row, h1, h2, h3⟩ := led9 hgood hn hE (r : Int) hr
    rw [dioramaref09_Check.l0, if_neg (by omega), GT.scan]
    have h4 := h3 (k + 1999999)
    rw [show k + 1999999 + 2000000 + 1 = k + 4000000 + 0 by omega] at h4
    rw [h4, Option.bind_some]
    have h5 := rcheck_l1 hgood hn hE hr row h1 h2 l0.length 0 (by omega) (k + 4000000 - l0.length - 1)
    rw [show k + 4000000 - l0.length - 1 + l0.length + 1 = k + 4000000 + 0 by omega] at h5
    refine h5.trans ?_
    unfold GT.firstLoose
    rw [hGl]
  | succ d ih =>
    intro i hi k
    obtain ⟨row, h1, h2, h3⟩ := led9 hgood hn hE (r : Int) (i := i) (by omega)
    have hx : rdOf false row (i : Int) = row.getD i false := by unfold rdOf; rw [Int.toNat_natCast]
    have h4 := h3 (k + 1999999 + (d + 1))
    rw [show k + 1999999 + (d + 1) + 2000000 + 1 = k + 4000000 + (d + 1) by omega] at h4
    have hc := cycAt_led hgood hE (i := i) (by omega)
    rw [dioramaref09_Check.l0, if_pos (by omega), h4, Option.bind_some, if_pos (by omega), if_pos (by omega), hx, GT.scan, w64 (by omega) (by omega)]
    by_cases hd : row.getD i false = true
    · rw [if_pos hd, if_pos (hc.2 ((h2 i).1 hd))]
    · rw [if_neg hd, if_neg (fun h => hd ((h2 i).2 (hc.1 h)))]
      exact ih (i + 1) (by omega) k
theorem rcheck (l0 : List (S40)) (a1 : Int) (hn : l0.length ≤ 1000000) (hE : ((kidsI l0).map List.length).sum ≤ 1000000) : ∃ K, ∀ k, dioramaref09_Check.f (k + K) l0 a1 = some (checkP l0 a1) := by
  have hGl : (GT.toG (kidsI l0)).length = l0.length := by rw [GT.length_toG, kids_len]
  by_cases hr : a1 < 0 ∨ (l0.length : Int) ≤ a1
  · refine ⟨0, fun k => ?_⟩
    have : GT.badKid l0.length a1 = true := by unfold GT.badKid; rcases hr with h | h <;> simp [h]
    rw [dioramaref09_Check.f, place9, Option.bind_some, this, if_neg (by simp), checkP, if_pos hr]
  · obtain ⟨K, h1⟩ := refs9 (l0 := l0) hn (fun i hi => kid_len l0 hE i) a1
    have : GT.badKid l0.length a1 = false := by unfold GT.badKid; simp; omega
    cases hb : GT.firstBad (kidsI l0) with
    | some i =>
      refine ⟨K, fun k => ?_⟩
      rw [dioramaref09_Check.f, place9, Option.bind_some, this, if_pos (by simp), h1, Option.bind_some, checkP, if_neg hr, hb]
      unfold refsZ
      rw [hb, if_pos (by simp)]
    | none =>
      refine ⟨K + 4000000 + l0.length + 1, fun k => ?_⟩
      have h2 := h1 (k + 4000000 + l0.length + 1)
      rw [show k + 4000000 + l0.length + 1 + K = k + (K + 4000000 + l0.length + 1) by omega] at h2
      rw [dioramaref09_Check.f, place9, Option.bind_some, this, if_pos (by simp), h2, Option.bind_some, checkP, if_neg hr, hb]
      unfold refsZ
      rw [hb, if_neg (by simp)]
      have h3 := rcheck_l0 hb hn hE (r := a1.toNat) (by omega) l0.length 0 (by omega) (k + K)
      rw [show ((a1.toNat : Nat) : Int) = a1 by omega] at h3
      rw [show k + (K + 4000000 + l0.length + 1) = k + K + 4000000 + l0.length + 1 by omega]
      refine h3.trans ?_
      unfold GT.firstCyc
      rw [hGl]
      all_goals cases GT.scan (GT.cycAt (GT.toG (kidsI l0))) l0.length 0 with
      | some i => rfl
      | none => cases GT.firstLoose (GT.toG (kidsI l0)) a1.toNat <;> rfl
end Go.Proofs.Ytlfjjapndlkamaa.GH
