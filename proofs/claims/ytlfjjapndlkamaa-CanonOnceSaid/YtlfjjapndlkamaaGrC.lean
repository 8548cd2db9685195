/- Who is led to; what is wrong, by the reference and by the program alike. -/
import Derived.Test.YtlfjjapndlkamaaGrR
namespace Go.Proofs.Ytlfjjapndlkamaa.GF
open Go.RowKit Go.Proofs.YtlfjjapndlkamaaW.PrintWords Go.Proofs.YtlfjjapndlkamaaW.PrintLast Go.Proofs.YtlfjjapndlkamaaW.PrintMore
set_option linter.unusedVariables false
set_option linter.unusedSimpArgs false
/-- Somebody on a way that goes round, told by the two. -/
theorem cycAt_led {l0 : List (S40)} (hgood : GT.firstBad (kidsI l0) = none) (hE : ((kidsI l0).map List.length).sum ≤ 1000000) {i : Nat} (hi : i < l0.length) : GT.cycAt (GT.toG (kidsI l0)) i = true ↔ GT.Led (GT.toG (kidsI l0)) i i := by
  have hGl : (GT.toG (kidsI l0)).length = l0.length := by rw [GT.length_toG, kids_len]
  have hW := GT.wf_of_firstBad hgood
  have hEd : GT.edges (GT.toG (kidsI l0)) = ((kidsI l0).map List.length).sum := GT.edges_toG _
  have hk := GT.rest_kid (G := GT.toG (kidsI l0)) (i := i) (by omega)
  unfold GT.cycAt
  rw [decide_eq_true_eq, GT.mem_reachS hW (fun x hx => hW i x hx) (by omega)]
  rfl
theorem looseAt_led {l0 : List (S40)} (hgood : GT.firstBad (kidsI l0) = none) (hE : ((kidsI l0).map List.length).sum ≤ 1000000) {r : Nat} (hr : r < l0.length) (i : Nat) : GT.looseAt (GT.toG (kidsI l0)) r i = true ↔ ¬ (i = r ∨ GT.Led (GT.toG (kidsI l0)) r i) := by
  have hGl : (GT.toG (kidsI l0)).length = l0.length := by rw [GT.length_toG, kids_len]
  have hW := GT.wf_of_firstBad hgood
  have hEd : GT.edges (GT.toG (kidsI l0)) = ((kidsI l0).map List.length).sum := GT.edges_toG _
  unfold GT.looseAt
  rw [Bool.not_eq_true', decide_eq_false_iff_not, GT.mem_reachS hW (fun x hx => by rw [List.mem_singleton] at hx; omega) (by simp; omega)]
  refine not_congr ⟨?_, ?_⟩
  · rintro ⟨f, hf, p⟩
    rw [List.mem_singleton] at hf
    subst hf
    exact (GT.led_or_path p).imp Eq.symm id
  · rintro (rfl | ⟨f, hf, p⟩)
    · exact ⟨i, List.mem_singleton.2 rfl, .refl _⟩
    · exact ⟨r, List.mem_singleton.2 rfl, .step hf p⟩
/-- What is wrong with a scene, and at which node. -/
def checkP (l0 : List (S40)) (a1 : Int) : Int × Int :=
  if a1 < 0 ∨ (l0.length : Int) ≤ a1 then (13, -1)
  else match GT.firstBad (kidsI l0) with
    | some i => (13, (i : Int))
    | none => match GT.firstCyc (GT.toG (kidsI l0)) with
      | some i => (14, (i : Int))
      | none => match GT.firstLoose (GT.toG (kidsI l0)) a1.toNat with
        | some i => (15, (i : Int))
        | none => (0, 0)
theorem gcheck (l0 : List (S40)) (a1 : Int) (hn : l0.length ≤ 1000000) (hE : ((kidsI l0).map List.length).sum ≤ 1000000) : ∃ K, ∀ k, graph_Check.f (k + K) l0 a1 = some (checkP l0 a1) := by
  have hGl : (GT.toG (kidsI l0)).length = l0.length := by rw [GT.length_toG, kids_len]
  by_cases hr : a1 < 0 ∨ (l0.length : Int) ≤ a1
  · refine ⟨0, fun k => ?_⟩
    rw [graph_Check.f, if_pos ⟨hn, hE⟩, if_pos hr, checkP, if_pos hr]
  · cases hb : GT.firstBad (kidsI l0) with
    | some i =>
      refine ⟨0, fun k => ?_⟩
      rw [graph_Check.f, if_pos ⟨hn, hE⟩, if_neg hr, checkP, if_neg hr, hb]
    | none =>
      have hW := GT.wf_of_firstBad hb
      obtain ⟨K, out, h1, h2⟩ := order_tells l0 a1 hb hn hE
      refine ⟨K, fun k => ?_⟩
      rw [graph_Check.f, if_pos ⟨hn, hE⟩, if_neg hr, checkP, if_neg hr, hb]
      simp only [h2, Option.bind_some, intsOf_len]
      congr 1
      unfold GT.checkG
      by_cases hs : (out.length : Int) < (l0.length : Int)
      · rw [decide_eq_true hs, if_pos rfl]
        cases GT.firstCyc (GT.toG (kidsI l0)) with
        | some i => rfl
        | none => cases GT.firstLoose (GT.toG (kidsI l0)) a1.toNat <;> rfl
      · rw [decide_eq_false hs, if_neg (by simp)]
        have hA := h1.acyc (by omega)
        have hcyc : GT.firstCyc (GT.toG (kidsI l0)) = none := by
          cases hf : GT.firstCyc (GT.toG (kidsI l0)) with
          | none => rfl
          | some i =>
            obtain ⟨_, h3, h4, _⟩ := GT.scan_some hf
            exact absurd ((cycAt_led hb hE (i := i) (by omega)).1 h4) (hA.acyc i)
        rw [hcyc]
        cases GT.firstLoose (GT.toG (kidsI l0)) a1.toNat <;> rfl
/-- What it means that nothing is wrong. -/
theorem checkP_zero {l0 : List (S40)} {a1 : Int} (hE : ((kidsI l0).map List.length).sum ≤ 1000000) (h : (checkP l0 a1).1 = 0) : 0 ≤ a1 ∧ a1 < (l0.length : Int) ∧ GT.firstBad (kidsI l0) = none ∧ GT.Acyc (GT.toG (kidsI l0)) ∧ ∀ i, i < l0.length → i = a1.toNat ∨ GT.Led (GT.toG (kidsI l0)) a1.toNat i := by
  have hGl : (GT.toG (kidsI l0)).length = l0.length := by rw [GT.length_toG, kids_len]
  unfold checkP at h
  by_cases hr : a1 < 0 ∨ (l0.length : Int) ≤ a1
  · rw [if_pos hr] at h; simp at h
  · rw [if_neg hr] at h
    cases hb : GT.firstBad (kidsI l0) with
    | some i => rw [hb] at h; simp at h
    | none =>
      rw [hb] at h
      simp only at h
      cases hc : GT.firstCyc (GT.toG (kidsI l0)) with
      | some i => rw [hc] at h; simp at h
      | none =>
        rw [hc] at h
        simp only at h
        cases hl : GT.firstLoose (GT.toG (kidsI l0)) a1.toNat with
        | some i => rw [hl] at h; simp at h
        | none =>
          refine ⟨by omega, by omega, rfl, fun i hi => ?_, fun i hi => ?_⟩
          · by_cases hil : i < l0.length
            · have := GT.scan_none hc i (by omega) (by omega)
              rw [(cycAt_led hb hE hil).2 hi] at this
              cases this
            · obtain ⟨k, hk, _⟩ := hi
              have := GT.lt_of_kid hk
              omega
          · have := GT.scan_none hl i (by omega) (by omega)
            apply Classical.byContradiction
            intro hn
            rw [(looseAt_led hb hE (r := a1.toNat) (by omega) i).2 hn] at this
            cases this
/-- And the other way round. -/
theorem checkP_of {l0 : List (S40)} {a1 : Int} (hE : ((kidsI l0).map List.length).sum ≤ 1000000) (h0 : 0 ≤ a1) (h1 : a1 < (l0.length : Int)) (hgood : GT.firstBad (kidsI l0) = none) (hA : GT.Acyc (GT.toG (kidsI l0))) (hall : ∀ i, i < l0.length → i = a1.toNat ∨ GT.Led (GT.toG (kidsI l0)) a1.toNat i) : checkP l0 a1 = (0, 0) := by
  have hGl : (GT.toG (kidsI l0)).length = l0.length := by rw [GT.length_toG, kids_len]
  have hc : GT.firstCyc (GT.toG (kidsI l0)) = none := GT.scan_all (fun i _ hi => by
    cases h : GT.cycAt (GT.toG (kidsI l0)) i with
    | false => rfl
    | true => exact absurd ((cycAt_led hgood hE (by omega)).1 h) (hA i))
  have hl : GT.firstLoose (GT.toG (kidsI l0)) a1.toNat = none := GT.scan_all (fun i _ hi => by
    cases h : GT.looseAt (GT.toG (kidsI l0)) a1.toNat i with
    | false => rfl
    | true => exact absurd (hall i (by omega)) ((looseAt_led hgood hE (r := a1.toNat) (by omega) i).1 h))
  unfold checkP
  rw [if_neg (by omega), hgood]
  simp only
  rw [hc]
  simp only
  rw [hl]
end Go.Proofs.Ytlfjjapndlkamaa.GF
