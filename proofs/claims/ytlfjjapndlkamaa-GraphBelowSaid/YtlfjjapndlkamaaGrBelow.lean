/- GraphBelow tells true of whatever scene and node. -/
import Derived.Test.YtlfjjapndlkamaaGrC
import Derived.Test.YtlfjjapndlkamaaGBx9
namespace Go.Proofs.Ytlfjjapndlkamaa.GB
open Go.RowKit Go.Proofs.YtlfjjapndlkamaaW.PrintWords Go.Proofs.YtlfjjapndlkamaaW.PrintLast Go.Proofs.YtlfjjapndlkamaaW.PrintMore
set_option linter.unusedVariables false
set_option linter.unusedSimpArgs false
theorem ints_same (l : List Int) (hl : l.length ≤ 1000000) : ∀ d i : Nat, i + d = l.length → ∀ k, dioramaref09_Ints.l0 (k + d + 1) l l (i : Int) = some true := by
  intro d
  induction d with
  | zero => intro i hi k; rw [dioramaref09_Ints.l0, if_neg (by omega)]
  | succ d ih =>
    intro i hi k
    rw [show k + (d + 1) + 1 = (k + d + 1) + 1 by omega, dioramaref09_Ints.l0, if_pos (by omega), if_pos (by omega), if_pos (by omega), if_pos rfl, w64 (by omega) (by omega)]
    exact ih (i + 1) (by omega) k
theorem ints9 (l : List Int) (hl : l.length ≤ 1000000) (k : Nat) : dioramaref09_Ints.f (k + l.length + 1) l l = some true := by
  rw [dioramaref09_Ints.f, if_pos rfl]
  exact ints_same l hl l.length 0 (by omega) k
theorem below_l0 (at_ : Nat) (x5 : List Int) (row : List Bool) (n : Nat) (hrow : row.length = n) (hn : n ≤ 1000000) : ∀ (d i : Nat) (acc : List Nat), i + d = n → acc.length ≤ i → ∀ k,
    dioramalaw09_GraphBelow.l0 (k + d + 1) (at_ : Int) x5 (intsOf acc) row (n : Int) (i : Int) = dioramaref09_Ints.f k x5 (intsOf (acc ++ (List.range' i d).filter fun j => row.getD j false || decide (j = at_))) := by
  intro d
  induction d with
  | zero =>
    intro i acc hi ha k
    rw [dioramalaw09_GraphBelow.l0, if_neg (by omega), List.range'_zero, List.filter_nil, List.append_nil]
    cases dioramaref09_Ints.f k x5 (intsOf acc) <;> rfl
  | succ d ih =>
    intro i acc hi ha k
    have hx : rdOf false row (i : Int) = row.getD i false := by unfold rdOf; rw [Int.toNat_natCast]
    rw [show k + (d + 1) + 1 = (k + d + 1) + 1 by omega, dioramalaw09_GraphBelow.l0, if_pos (by omega), if_pos (by omega), if_pos (by omega), hx, w64 (by omega) (by omega), List.range'_succ, List.filter_cons, intsOf_len, if_pos (show acc.length < 17592186044416 by omega)]
    have happ : intsOf acc ++ [(i : Int)] = intsOf (acc ++ [i]) := by rw [intsOf_append]; rfl
    rw [happ]
    have h1 := ih (i + 1) (acc ++ [i]) (by omega) (by rw [List.length_append, List.length_singleton]; omega) k
    have h2 := ih (i + 1) acc (by omega) (by omega) k
    rw [List.append_assoc] at h1
    by_cases hc : row.getD i false = true
    · rw [if_pos hc, if_pos (by rw [hc]; rfl)]
      exact h1
    · rw [if_neg hc]
      by_cases e : i = at_
      · rw [if_pos (by omega), if_pos (by simp [e])]
        exact h1
      · rw [if_neg (by omega), if_neg (by simp only [Bool.or_eq_true, decide_eq_true_eq]; exact fun h => h.elim hc e)]
        exact h2
theorem bad_in (n : Nat) (v : Int) : GT.badKid n v = false ↔ 0 ≤ v ∧ v < n := by unfold GT.badKid; simp
theorem below9 (l0 : List (S40)) (a1 at_ : Int) (hn : l0.length ≤ 1000000) (hE : ((kidsI l0).map List.length).sum ≤ 1000000) :
    graph_Below.f l0 a1 at_ = some (if GT.badKid l0.length at_ = true ∨ GT.badKid l0.length a1 = true ∨ 0 ≤ refsZ (kidsI l0) then [] else ((List.range l0.length).filter fun i => decide (i ∈ GT.reachS (GT.toG (kidsI l0)) [at_.toNat])).map Int.ofNat) := by
  rw [graph_Below.f, if_pos ⟨hn, hE⟩]
  by_cases h1 : at_ < 0 ∨ (l0.length : Int) ≤ at_ ∨ a1 < 0 ∨ (l0.length : Int) ≤ a1
  · rw [if_pos h1, if_pos]
    unfold GT.badKid
    rcases h1 with h | h | h | h <;> simp [h]
  · rw [if_neg h1]
    have h2 : GT.badKid l0.length at_ = false := (bad_in _ _).2 ⟨by omega, by omega⟩
    have h3 : GT.badKid l0.length a1 = false := (bad_in _ _).2 ⟨by omega, by omega⟩
    rw [h2, h3]
    unfold refsZ
    cases GT.firstBad (kidsI l0) with
    | some i => simp
    | none => simp
theorem graphBelow_true (l0 : List (S40)) (a1 at_ : Int) : ∃ k, dioramalaw09_GraphBelow.f k l0 a1 at_ = some true := by
  obtain ⟨K, b, h1, h2⟩ := great9 l0 a1
  cases b with
  | true =>
    refine ⟨K + 1, ?_⟩
    have := h1 1
    rw [Nat.add_comm] at this
    rw [dioramalaw09_GraphBelow.f, dioramalaw09_awake.f, Option.bind_some, if_pos rfl, this, Option.bind_some, dioramalaw09_GraphBelow.j0, if_pos rfl, dioramalaw09_awake.f]
    rfl
  | false =>
    have hS := h2 rfl
    have hn := small_len hS
    have hE := small_sum hS
    obtain ⟨K2, h3⟩ := refs9 (l0 := l0) hn (fun i hi => kid_len l0 hE i) a1
    have hb := below9 l0 a1 at_ hn hE
    -- the law, step by step, at a good store of rounds
    have hj0 : ∀ m, dioramalaw09_GraphBelow.j0 (m + K2 + l0.length + 1 + 1) at_ false l0 a1 =
        (if GT.badKid l0.length at_ = true ∨ GT.badKid l0.length a1 = true then dioramalaw09_GraphBelow.j1 (m + K2 + l0.length + 1) at_ (if GT.badKid l0.length at_ = true ∨ GT.badKid l0.length a1 = true ∨ 0 ≤ refsZ (kidsI l0) then [] else ((List.range l0.length).filter fun i => decide (i ∈ GT.reachS (GT.toG (kidsI l0)) [at_.toNat])).map Int.ofNat) true l0 a1
          else dioramalaw09_GraphBelow.j1 (m + K2 + l0.length + 1) at_ (if GT.badKid l0.length at_ = true ∨ GT.badKid l0.length a1 = true ∨ 0 ≤ refsZ (kidsI l0) then [] else ((List.range l0.length).filter fun i => decide (i ∈ GT.reachS (GT.toG (kidsI l0)) [at_.toNat])).map Int.ofNat) (decide (refsZ (kidsI l0) ≥ 0)) l0 a1) := by
      intro m
      have h4 := h3 (m + l0.length + 1)
      rw [show m + l0.length + 1 + K2 = m + K2 + l0.length + 1 by omega] at h4
      rw [dioramalaw09_GraphBelow.j0, if_neg (by simp), copy9 hS, Option.bind_some]
      simp only
      rw [hb, Option.bind_some, place9, Option.bind_some, place9, Option.bind_some, h4, Option.bind_some]
      cases GT.badKid l0.length at_ <;> cases GT.badKid l0.length a1 <;> simp
    have hf : ∀ m, dioramalaw09_GraphBelow.f (m + K + K2 + l0.length + 1 + 1) l0 a1 at_ = dioramalaw09_GraphBelow.j0 (m + K + K2 + l0.length + 1 + 1) at_ false l0 a1 := by
      intro m
      have := h1 (m + K2 + l0.length + 1 + 1)
      rw [show m + K2 + l0.length + 1 + 1 + K = m + K + K2 + l0.length + 1 + 1 by omega] at this
      rw [dioramalaw09_GraphBelow.f, dioramalaw09_awake.f, Option.bind_some, if_pos rfl, this, Option.bind_some]
    by_cases hbad : GT.badKid l0.length at_ = true ∨ GT.badKid l0.length a1 = true
    · refine ⟨0 + K + K2 + l0.length + 1 + 1, ?_⟩
      rw [hf, hj0, if_pos hbad, dioramalaw09_GraphBelow.j1, if_pos rfl, if_pos (hbad.elim (fun h => .inl h) (fun h => .inr (.inl h)))]
      rfl
    · by_cases hz : 0 ≤ refsZ (kidsI l0)
      · refine ⟨0 + K + K2 + l0.length + 1 + 1, ?_⟩
        rw [hf, hj0, if_neg hbad, dioramalaw09_GraphBelow.j1, decide_eq_true hz, if_pos rfl, if_pos (.inr (.inr hz))]
        rfl
      · have hgood : GT.firstBad (kidsI l0) = none := by
          unfold refsZ at hz
          cases h : GT.firstBad (kidsI l0) with
          | none => rfl
          | some i => rw [h] at hz; simp at hz
        have hat := (bad_in l0.length at_).1 (by simpa using fun h => hbad (.inl h))
        obtain ⟨r, rfl⟩ : ∃ r : Nat, at_ = (r : Int) := ⟨at_.toNat, by omega⟩
        obtain ⟨row, q1, q2, q3⟩ := led9 hgood hn hE a1 (i := r) (by omega)
        refine ⟨4000000 + K + K2 + l0.length + 1 + 1, ?_⟩
        have hq := q3 (2000000 + K + K2 + l0.length - 1)
        rw [show 2000000 + K + K2 + l0.length - 1 + 2000000 + 1 = 4000000 + K + K2 + l0.length by omega] at hq
        rw [hf, hj0, if_neg hbad, dioramalaw09_GraphBelow.j1, decide_eq_false hz, if_neg (by simp), hq, Option.bind_some, q1, if_neg (fun h => h.elim (fun h => hbad (.inl h)) (fun h => h.elim (fun h => hbad (.inr h)) hz))]
        have hl := below_l0 r (((List.range l0.length).filter fun i => decide (i ∈ GT.reachS (GT.toG (kidsI l0)) [((r : Nat) : Int).toNat])).map Int.ofNat) row l0.length q1 hn l0.length 0 [] (by omega) (by simp) (4000000 + K + K2 - 1)
        rw [show 4000000 + K + K2 - 1 + l0.length + 1 = 4000000 + K + K2 + l0.length by omega] at hl
        refine hl.trans ?_
        have hsame : (List.range' 0 l0.length).filter (fun j => row.getD j false || decide (j = r)) = (List.range l0.length).filter fun i => decide (i ∈ GT.reachS (GT.toG (kidsI l0)) [((r : Nat) : Int).toNat]) := by
          rw [← List.range_eq_range', Int.toNat_natCast]
          refine List.filter_congr fun j _ => ?_
          have h6 := looseAt_led hgood hE (r := r) (by omega) j
          unfold GT.looseAt at h6
          rw [Bool.not_eq_true', decide_eq_false_iff_not] at h6
          have h7 : (j ∈ GT.reachS (GT.toG (kidsI l0)) [r]) ↔ (j = r ∨ GT.Led (GT.toG (kidsI l0)) r j) := ⟨fun h => Classical.byContradiction fun hn => (h6.2 hn) h, fun h => Classical.byContradiction fun hn => (h6.1 hn) h⟩
          rw [Bool.eq_iff_iff, Bool.or_eq_true, decide_eq_true_eq, decide_eq_true_eq, q2, h7]
          exact Or.comm
        rw [List.nil_append, hsame]
        have hlen : ((List.range l0.length).filter fun i => decide (i ∈ GT.reachS (GT.toG (kidsI l0)) [((r : Nat) : Int).toNat])).length ≤ l0.length := by
          have := List.length_filter_le (fun i => decide (i ∈ GT.reachS (GT.toG (kidsI l0)) [((r : Nat) : Int).toNat])) (List.range l0.length)
          rwa [List.length_range] at this
        have hi := ints9 (intsOf ((List.range l0.length).filter fun i => decide (i ∈ GT.reachS (GT.toG (kidsI l0)) [((r : Nat) : Int).toNat]))) (by rw [intsOf_len]; omega)
        generalize (List.range l0.length).filter (fun i => decide (i ∈ GT.reachS (GT.toG (kidsI l0)) [((r : Nat) : Int).toNat])) = L at hi hlen ⊢
        have h8 := hi (4000000 + K + K2 - 1 - L.length - 1)
        rw [intsOf_len] at h8
        have hS2 := hS.len
        rw [show 4000000 + K + K2 - 1 - L.length - 1 + L.length + 1 = 4000000 + K + K2 - 1 by omega] at h8
        exact h8
end Go.Proofs.Ytlfjjapndlkamaa.GB
