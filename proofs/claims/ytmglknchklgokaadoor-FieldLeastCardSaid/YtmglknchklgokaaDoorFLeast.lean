/- The plain law of FieldLeast: without one of the sets something differs. -/
import Derived.Test.YtmglknchklgokaaDoorFSet
namespace Go.Proofs.YtmglknchklgokaaDoor.GY
open Go.RowKit Go.Proofs.YtmglknchklgokaaDoorW.PrintWords Go.Proofs.YtmglknchklgokaaDoorW.PrintLast Go.Proofs.YtmglknchklgokaaDoorW.PrintMore
set_option linter.unusedVariables false
set_option linter.unusedSimpArgs false
theorem erase_dI (rest : Sets) (T : List ByteArray) : ∀ (l m pre : List Int) (q : Nat), l.length = m.length → q < List.length (dI pre.length l m) → ∃ m', m' ≠ m ∧ setsF (List.eraseIdx (dI pre.length l m) q ++ rest) (pre ++ l) T = setsF rest (pre ++ m') T
  | [], [], pre, q, _, hq => by simp [dI] at hq
  | a :: l, b :: m, pre, q, h, hq => by
    have h' : l.length = m.length := by simpa using h
    have ih := fun q => erase_dI rest T l m (pre ++ [b]) q h'
    rw [List.length_append, List.length_singleton] at ih
    rw [dI] at hq ⊢
    by_cases hc : a = b
    · subst hc
      rw [if_pos rfl, List.nil_append] at hq ⊢
      obtain ⟨m', h1, h2⟩ := ih q hq
      refine ⟨a :: m', fun e => h1 (by injection e), ?_⟩
      rw [List.append_assoc, List.append_assoc, List.singleton_append, List.singleton_append] at h2
      exact h2
    · rw [if_neg hc, List.singleton_append] at hq ⊢
      cases q with
      | zero =>
        refine ⟨a :: m, fun e => hc (by injection e), ?_⟩
        have := set_dI rest T l m (pre ++ [a]) h'
        rw [List.length_append, List.length_singleton, List.append_assoc, List.append_assoc, List.singleton_append, List.singleton_append] at this
        rw [List.eraseIdx_cons_zero]
        exact this
      | succ q =>
        obtain ⟨m', h1, h2⟩ := ih q (by simpa using hq)
        refine ⟨b :: m', fun e => h1 (by injection e), ?_⟩
        rw [List.append_assoc, List.append_assoc, List.singleton_append, List.singleton_append] at h2
        rw [List.eraseIdx_cons_succ, List.cons_append, setsF, if_neg (by simp), if_pos ⟨rfl, by simp only; omega, by simp only [List.length_append, List.length_cons]; omega⟩]
        simp only [Int.toNat_natCast]
        rw [List.set_append_right _ _ (Nat.le_refl _), Nat.sub_self, List.set_cons_zero]
        exact h2
theorem erase_dT (rest : Sets) (I : List Int) : ∀ (l m pre : List ByteArray) (q : Nat), l.length = m.length → q < List.length (dT pre.length l m) → ∃ m', m' ≠ m ∧ setsF (List.eraseIdx (dT pre.length l m) q ++ rest) I (pre ++ l) = setsF rest I (pre ++ m')
  | [], [], pre, q, _, hq => by simp [dT] at hq
  | a :: l, b :: m, pre, q, h, hq => by
    have h' : l.length = m.length := by simpa using h
    have ih := fun q => erase_dT rest I l m (pre ++ [b]) q h'
    rw [List.length_append, List.length_singleton] at ih
    rw [dT] at hq ⊢
    by_cases hc : a = b
    · subst hc
      rw [if_pos rfl, List.nil_append] at hq ⊢
      obtain ⟨m', h1, h2⟩ := ih q hq
      refine ⟨a :: m', fun e => h1 (by injection e), ?_⟩
      rw [List.append_assoc, List.append_assoc, List.singleton_append, List.singleton_append] at h2
      exact h2
    · rw [if_neg hc, List.singleton_append] at hq ⊢
      cases q with
      | zero =>
        refine ⟨a :: m, fun e => hc (by injection e), ?_⟩
        have := set_dT rest I l m (pre ++ [a]) h'
        rw [List.length_append, List.length_singleton, List.append_assoc, List.append_assoc, List.singleton_append, List.singleton_append] at this
        rw [List.eraseIdx_cons_zero]
        exact this
      | succ q =>
        obtain ⟨m', h1, h2⟩ := ih q (by simpa using hq)
        refine ⟨b :: m', fun e => h1 (by injection e), ?_⟩
        rw [List.append_assoc, List.append_assoc, List.singleton_append, List.singleton_append] at h2
        rw [List.eraseIdx_cons_succ, List.cons_append, setsF, if_pos rfl, if_pos ⟨rfl, by simp only; omega, by simp only [List.length_append, List.length_cons]; omega⟩]
        simp only [Int.toNat_natCast]
        rw [List.set_append_right _ _ (Nat.le_refl _), Nat.sub_self, List.set_cons_zero]
        exact h2
/-- All sets but one: something differs. -/
theorem erase_diffs {l1 : List Int} {l2 : List ByteArray} {m1 : List Int} {m2 : List ByteArray} (h1 : l1.length = m1.length) (h2 : l2.length = m2.length) (q : Nat) (hq : q < List.length (diffs l1 l2 m1 m2)) :
    ∃ I T, setsF (List.eraseIdx (diffs l1 l2 m1 m2) q) l1 l2 = some (I, T) ∧ ¬ (I = m1 ∧ T = m2) := by
  unfold diffs at hq ⊢
  rw [List.length_append] at hq
  by_cases hc : q < List.length (dI 0 l1 m1)
  · rw [List.eraseIdx_append_of_lt_length hc]
    obtain ⟨m', h3, h4⟩ := erase_dI (dT 0 l2 m2) l2 l1 m1 [] q h1 hc
    have e2 := set_dT [] m' l2 m2 [] h2
    rw [List.append_nil] at e2
    exact ⟨m', m2, h4.trans e2, fun h => h3 h.1⟩
  · rw [List.eraseIdx_append_of_length_le (by omega)]
    obtain ⟨m', h3, h4⟩ := erase_dT [] m1 l2 m2 [] (q - List.length (dI 0 l1 m1)) h2 (by show _ < List.length (dT 0 l2 m2); omega)
    rw [List.append_nil] at h4
    have e1 := set_dI (List.eraseIdx (dT 0 l2 m2) (q - List.length (dI 0 l1 m1))) l2 l1 m1 [] h1
    exact ⟨m1, m', e1.trans h4, fun h => h3 h.2⟩
theorem diffs_len (l1 : List Int) (l2 : List ByteArray) (m1 : List Int) (m2 : List ByteArray) : List.length (diffs l1 l2 m1 m2) ≤ l1.length + l2.length := by
  have e1 := dI_len 0 l1 m1
  have e2 := dT_len 0 l2 m2
  unfold diffs
  rw [List.length_append]
  omega
end Go.Proofs.YtmglknchklgokaaDoor.GY
