/- Who is led to; what is wrong, by the reference and by the program alike. -/
import Derived.Test.YtlfjjapndlkamaaCtGrR
import Derived.Test.YtlfjjapndlkamaaCtGHx11
namespace Go.Proofs.Ytlfjjapndlkamaa.GH
open Go.RowKit Go.Proofs.YtlfjjapndlkamaaW.PrintWords Go.Proofs.YtlfjjapndlkamaaW.PrintLast Go.Proofs.YtlfjjapndlkamaaW.PrintMore
set_option linter.unusedVariables false
set_option linter.unusedSimpArgs false
theorem led_l0 {l0 : List (S40)} (hgood : GT.firstBad (kidsI l0) = none) (a1 : Int) (src : Nat → Prop) : ∀ (m : Nat) (st : List Nat) (row : List Bool), m ≤ 1000000000 → row.length = l0.length →
    GT.Inv (GT.toG (kidsI l0)) src (· ∈ st) (fun x => row.getD x false = true) → (∀ x ∈ st, x < l0.length) → st.length + GT.rest (GT.toG (kidsI l0)) (fun x => row.getD x false) ≤ m →
    ∃ row' : List Bool, row'.length = l0.length ∧ (∀ j, row'.getD j false = true ↔ ∃ f, src f ∧ GT.Path (GT.toG (kidsI l0)) f j) ∧ ∀ k, dioramaref09_Led.l0 (k + m + 1) row (intsOf st) l0 a1 = some row' := by
  have hGl : (GT.toG (kidsI l0)).length = l0.length := by rw [GT.length_toG, kids_len]
  have hW := GT.wf_of_firstBad hgood
  have hnil : ∀ (m : Nat) (row : List Bool), row.length = l0.length → GT.Inv (GT.toG (kidsI l0)) src (· ∈ ([] : List Nat)) (fun x => row.getD x false = true) →
      ∃ row' : List Bool, row'.length = l0.length ∧ (∀ j, row'.getD j false = true ↔ ∃ f, src f ∧ GT.Path (GT.toG (kidsI l0)) f j) ∧ ∀ k, dioramaref09_Led.l0 (k + m + 1) row (intsOf []) l0 a1 = some row' := by
    intro m row hr hI
    refine ⟨row, hr, fun j => hI.done (fun x h => by cases h) j, fun k => ?_⟩
    rw [dioramaref09_Led.l0, if_neg (by rw [intsOf_len]; simp)]
  intro m
  induction m with
  | zero =>
    intro st row _ hr hI hst hm
    obtain rfl : st = [] := List.eq_nil_of_length_eq_zero (by omega)
    exact hnil 0 row hr hI
  | succ m ih =>
    intro st row hm1 hr hI hst hm
    cases st with
    | nil => exact hnil (m + 1) row hr hI
    | cons x st =>
      have hx : x < l0.length := hst x (List.mem_cons_self ..)
      have hrd : rd (intsOf (x :: st)) 0 = (x : Int) := by have := intsOf_get (x :: st) 0 (by simp); exact this
      have hdr : (intsOf (x :: st)).drop (1 : Int).toNat = intsOf st := rfl
      have hrow : rdOf false row (x : Int) = row.getD x false := by unfold rdOf; rw [Int.toNat_natCast]
      rw [List.length_cons] at hm
      have hhead : ∀ k, dioramaref09_Led.l0 (k + (m + 1) + 1) row (intsOf (x :: st)) l0 a1 = if row.getD x false = true then dioramaref09_Led.l0 (k + m + 1) row (intsOf st) l0 a1 else dioramaref09_Led.l0 (k + m + 1) (row.set x true) (intsOf (st ++ GT.kids (GT.toG (kidsI l0)) x)) l0 a1 := by
        intro k
        have hk := GT.rest_kid (G := GT.toG (kidsI l0)) (i := x) (by omega)
        rw [show k + (m + 1) + 1 = (k + m + 1) + 1 by omega, dioramaref09_Led.l0, if_pos (by rw [intsOf_len, List.length_cons]; omega), if_pos (by rw [intsOf_len, List.length_cons]; omega), if_pos (by rw [intsOf_len, List.length_cons]; omega), hdr, Option.bind_some, hrd, if_pos (by omega), if_pos (by omega), hrow, Int.toNat_natCast]
        by_cases hc : row.getD x false = true
        · rw [if_pos hc, if_pos hc]
        · rw [if_neg hc, if_neg hc, Option.bind_some, List.length_nil, Nat.zero_add, if_pos (by rw [intsOf_len]; omega), Option.bind_some, List.nil_append, if_pos (by omega), kid_ints hgood x, intsOf_len, intsOf_len]
          have h9 : GT.rest (GT.toG (kidsI l0)) (fun y => row.getD y false) = GT.rest (GT.toG (kidsI l0)) (fun y => (row.set x true).getD y false) + (GT.kids (GT.toG (kidsI l0)) x).length :=
            GT.rest_take (by omega) (by simpa using hc) (getD_set_self _ _ _ _ (by omega)) (fun y hy => getD_set_other _ _ _ _ _ hy)
          rw [if_pos (by omega), intsOf_append]
      by_cases hc : row.getD x false = true
      · obtain ⟨row', p1, p2, p3⟩ := ih st row (by omega) hr (hI.drop x hc (fun y hy => List.mem_cons.1 hy) (fun y hy => List.mem_cons_of_mem _ hy)) (fun y hy => hst y (List.mem_cons_of_mem _ hy)) (by omega)
        refine ⟨row', p1, p2, fun k => ?_⟩
        rw [hhead, if_pos hc]
        exact p3 k
      · have h9 : GT.rest (GT.toG (kidsI l0)) (fun y => row.getD y false) = GT.rest (GT.toG (kidsI l0)) (fun y => (row.set x true).getD y false) + (GT.kids (GT.toG (kidsI l0)) x).length :=
          GT.rest_take (by omega) (by simpa using hc) (getD_set_self _ _ _ _ (by omega)) (fun y hy => getD_set_other _ _ _ _ _ hy)
        obtain ⟨row', p1, p2, p3⟩ := ih (st ++ GT.kids (GT.toG (kidsI l0)) x) (row.set x true) (by omega) (by rw [List.length_set]; exact hr)
          (hI.take x (List.mem_cons_self ..) (fun y hy => (List.mem_cons.1 hy).imp id (fun h => List.mem_append.2 (.inl h))) (fun y hy => (List.mem_append.1 hy).imp (fun h => List.mem_cons_of_mem _ h) id) (fun y hy => List.mem_append.2 (.inr hy))
            (fun y => by
              by_cases e : y = x
              · subst e; rw [getD_set_self _ _ _ _ (by omega)]; simp
              · rw [getD_set_other _ _ _ _ _ e]; simp [e]))
          (fun y hy => (List.mem_append.1 hy).elim (fun h => hst y (List.mem_cons_of_mem _ h)) (fun h => by have := hW x y h; omega)) (by rw [List.length_append]; omega)
        refine ⟨row', p1, p2, fun k => ?_⟩
        rw [hhead, if_neg hc]
        exact p3 k
theorem led9 {l0 : List (S40)} (hgood : GT.firstBad (kidsI l0) = none) (hn : l0.length ≤ 1000000) (hE : ((kidsI l0).map List.length).sum ≤ 1000000) (a1 : Int) {i : Nat} (hi : i < l0.length) :
    ∃ row : List Bool, row.length = l0.length ∧ (∀ j, row.getD j false = true ↔ GT.Led (GT.toG (kidsI l0)) i j) ∧ ∀ k, dioramaref09_Led.f (k + 2000000 + 1) l0 a1 (i : Int) = some row := by
  have hGl : (GT.toG (kidsI l0)).length = l0.length := by rw [GT.length_toG, kids_len]
  have hW := GT.wf_of_firstBad hgood
  have hEd : GT.edges (GT.toG (kidsI l0)) = ((kidsI l0).map List.length).sum := GT.edges_toG _
  have hk := GT.rest_kid (G := GT.toG (kidsI l0)) (i := i) (by omega)
  have hrep : ∀ x, (List.replicate l0.length false).getD x false = false := by
    intro x
    rw [List.getD_eq_getElem?_getD, List.getElem?_replicate]
    split <;> rfl
  obtain ⟨row, p1, p2, p3⟩ := led_l0 hgood a1 (fun f => f ∈ GT.kids (GT.toG (kidsI l0)) i) 2000000 (GT.kids (GT.toG (kidsI l0)) i) (List.replicate l0.length false) (by omega) List.length_replicate
    ⟨fun f hf => .inr hf, (fun m hm => by rw [hrep] at hm; cases hm), fun x hx => hx.elim (fun h => by rw [hrep] at h; cases h) (fun h => ⟨x, h, .refl x⟩)⟩
    (fun x hx => by have := hW i x hx; omega) (by have := GT.rest_le (GT.toG (kidsI l0)) (fun x => (List.replicate l0.length false).getD x false); omega)
  refine ⟨row, p1, p2, fun k => ?_⟩
  rw [dioramaref09_Led.f, if_pos (by omega), Int.toNat_natCast, if_pos (by omega), Option.bind_some, if_pos (by omega), if_pos (by omega), kid_ints hgood i, List.length_nil, Nat.zero_add, intsOf_len, if_pos (by omega), List.nil_append]
  exact p3 k
/-- Somebody on a way that goes round, told by the two. -/
theorem cycAt_led {l0 : List (S40)} (hgood : GT.firstBad (kidsI l0) = none) (hE : ((kidsI l0).map List.length).sum ≤ 1000000) {i : Nat} (hi : i < l0.length) : GT.cycAt (GT.toG (kidsI l0)) i = true ↔ GT.Led (GT.toG (kidsI l0)) i i := by
  have hGl : (GT.toG (kidsI l0)).length = l0.length := by rw [GT.length_toG, kids_len]
  have hW := GT.wf_of_firstBad hgood
  have hEd : GT.edges (GT.toG (kidsI l0)) = ((kidsI l0).map List.length).sum := GT.edges_toG _
  have hk := GT.rest_kid (G := GT.toG (kidsI l0)) (i := i) (by omega)
  unfold GT.cycAt
  rw [decide_eq_true_eq, GT.mem_reachS hW (fun x hx => hW i x hx) (by omega)]
  rfl
theorem looseAt_led {l0 : List (S40)} (hgood : GT.firstBad (kidsI l0) = none) (hE : ((kidsI l0).map List.length).sum ≤ 1000000) {r : Nat} (hr : r < l0.length) (i : Nat) : GT.looseAt (GT.toG (kidsI l0)) r i = true ↔ ¬ (i = r ∨ GT.Led (GT.toG (kidsI l0)) r i) := by
  have hGl : (GT.toG (kidsI l0)).length = l0.length := by rw [GT.length_toG, kids_len]
  have hW := GT.wf_of_firstBad hgood
  have hEd : GT.edges (GT.toG (kidsI l0)) = ((kidsI l0).map List.length).sum := GT.edges_toG _
  unfold GT.looseAt
  rw [Bool.not_eq_true', decide_eq_false_iff_not, GT.mem_reachS hW (fun x hx => by rw [List.mem_singleton] at hx; omega) (by simp; omega)]
  refine not_congr ⟨?_, ?_⟩
  · rintro ⟨f, hf, p⟩
    rw [List.mem_singleton] at hf
    subst hf
    exact (GT.led_or_path p).imp Eq.symm id
  · rintro (rfl | ⟨f, hf, p⟩)
    · exact ⟨i, List.mem_singleton.2 rfl, .refl _⟩
    · exact ⟨r, List.mem_singleton.2 rfl, .step hf p⟩
/-- What is wrong with a scene, and at which node. -/
def checkP (l0 : List (S40)) (a1 : Int) : Int × Int :=
  if a1 < 0 ∨ (l0.length : Int) ≤ a1 then (13, -1)
  else match GT.firstBad (kidsI l0) with
    | some i => (13, (i : Int))
    | none => match GT.firstCyc (GT.toG (kidsI l0)) with
      | some i => (14, (i : Int))
      | none => match GT.firstLoose (GT.toG (kidsI l0)) a1.toNat with
        | some i => (15, (i : Int))
        | none => (0, 0)
theorem gcheck (l0 : List (S40)) (a1 : Int) (hn : l0.length ≤ 1000000) (hE : ((kidsI l0).map List.length).sum ≤ 1000000) : ∃ K, ∀ k, graph_Check.f (k + K) l0 a1 = some (checkP l0 a1) := by
  have hGl : (GT.toG (kidsI l0)).length = l0.length := by rw [GT.length_toG, kids_len]
  by_cases hr : a1 < 0 ∨ (l0.length : Int) ≤ a1
  · refine ⟨0, fun k => ?_⟩
    rw [graph_Check.f, if_pos ⟨hn, hE⟩, if_pos hr, checkP, if_pos hr]
  · cases hb : GT.firstBad (kidsI l0) with
    | some i =>
      refine ⟨0, fun k => ?_⟩
      rw [graph_Check.f, if_pos ⟨hn, hE⟩, if_neg hr, checkP, if_neg hr, hb]
    | none =>
      have hW := GT.wf_of_firstBad hb
      obtain ⟨K, out, h1, h2⟩ := order_tells l0 a1 hb hn hE
      refine ⟨K, fun k => ?_⟩
      rw [graph_Check.f, if_pos ⟨hn, hE⟩, if_neg hr, checkP, if_neg hr, hb]
      simp only [h2, Option.bind_some, intsOf_len]
      congr 1
      unfold GT.checkG
      by_cases hs : (out.length : Int) < (l0.length : Int)
      · rw [decide_eq_true hs, if_pos rfl]
        cases GT.firstCyc (GT.toG (kidsI l0)) with
        | some i => rfl
        | none => cases GT.firstLoose (GT.toG (kidsI l0)) a1.toNat <;> rfl
      · rw [decide_eq_false hs, if_neg (by simp)]
        have hA := h1.acyc (by omega)
        have hcyc : GT.firstCyc (GT.toG (kidsI l0)) = none := by
          cases hf : GT.firstCyc (GT.toG (kidsI l0)) with
          | none => rfl
          | some i =>
            obtain ⟨_, h3, h4, _⟩ := GT.scan_some hf
            exact absurd ((cycAt_led hb hE (i := i) (by omega)).1 h4) (hA.acyc i)
        rw [hcyc]
        cases GT.firstLoose (GT.toG (kidsI l0)) a1.toNat <;> rfl
/-- What it means that nothing is wrong. -/
theorem checkP_zero {l0 : List (S40)} {a1 : Int} (hE : ((kidsI l0).map List.length).sum ≤ 1000000) (h : (checkP l0 a1).1 = 0) : 0 ≤ a1 ∧ a1 < (l0.length : Int) ∧ GT.firstBad (kidsI l0) = none ∧ GT.Acyc (GT.toG (kidsI l0)) ∧ ∀ i, i < l0.length → i = a1.toNat ∨ GT.Led (GT.toG (kidsI l0)) a1.toNat i := by
  have hGl : (GT.toG (kidsI l0)).length = l0.length := by rw [GT.length_toG, kids_len]
  unfold checkP at h
  by_cases hr : a1 < 0 ∨ (l0.length : Int) ≤ a1
  · rw [if_pos hr] at h; simp at h
  · rw [if_neg hr] at h
    cases hb : GT.firstBad (kidsI l0) with
    | some i => rw [hb] at h; simp at h
    | none =>
      rw [hb] at h
      simp only at h
      cases hc : GT.firstCyc (GT.toG (kidsI l0)) with
      | some i => rw [hc] at h; simp at h
      | none =>
        rw [hc] at h
        simp only at h
        cases hl : GT.firstLoose (GT.toG (kidsI l0)) a1.toNat with
        | some i => rw [hl] at h; simp at h
        | none =>
          refine ⟨by omega, by omega, rfl, fun i hi => ?_, fun i hi => ?_⟩
          · by_cases hil : i < l0.length
            · have := GT.scan_none hc i (by omega) (by omega)
              rw [(cycAt_led hb hE hil).2 hi] at this
              cases this
            · obtain ⟨k, hk, _⟩ := hi
              have := GT.lt_of_kid hk
              omega
          · have := GT.scan_none hl i (by omega) (by omega)
            apply Classical.byContradiction
            intro hn
            rw [(looseAt_led hb hE (r := a1.toNat) (by omega) i).2 hn] at this
            cases this
end Go.Proofs.Ytlfjjapndlkamaa.GH
