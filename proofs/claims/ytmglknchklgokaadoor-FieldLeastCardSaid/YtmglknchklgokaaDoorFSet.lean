/- What Set of layer 8 tells, in closed form; the sets that Diff tells make the one node's fields the other one's. -/
import Derived.Test.YtmglknchklgokaaDoorFS
import Derived.Test.YtmglknchklgokaaDoorGYx4
namespace Go.Proofs.YtmglknchklgokaaDoor.GY
open Go.RowKit Go.Proofs.YtmglknchklgokaaDoorW.PrintWords Go.Proofs.YtmglknchklgokaaDoorW.PrintLast Go.Proofs.YtmglknchklgokaaDoorW.PrintMore
set_option linter.unusedVariables false
set_option linter.unusedSimpArgs false
def setsF : Sets → List Int → List ByteArray → Option (List Int × List ByteArray)
  | [], I, T => some (I, T)
  | x :: l, I, T =>
    if x.f0 = true then (if x.f2 = 0 ∧ 0 ≤ x.f1 ∧ x.f1 < (T.length : Int) then setsF l I (T.set x.f1.toNat x.f3) else none)
    else (if x.f3 = ⟨#[]⟩ ∧ 0 ≤ x.f1 ∧ x.f1 < (I.length : Int) then setsF l (I.set x.f1.toNat x.f2) T else none)
def setR (a0 : Int) (l3 : List Int) : Option (List Int × List ByteArray) → Int × List Int × List ByteArray × List Int × Int
  | some (I, T) => (a0, I, T, l3, 0)
  | none => (0, [], [], [], 21)
theorem drop_set {l : Sets} {i : Nat} (h : i < l.length) : l.drop i = rd_T75 l (i : Int) :: l.drop (i + 1) := by
  rw [List.drop_eq_getElem_cons h]
  unfold rd_T75
  rw [Int.toNat_natCast, List.getD_eq_getElem?_getD, List.getElem?_eq_getElem h]; rfl
theorem nil_bytes {s : ByteArray} : s.toList = ([] : List UInt8) ↔ s = ⟨#[]⟩ := by
  constructor
  · intro h
    exact bytes_eq.1 (h.trans (by rw [ByteArray.toList_eq]))
  · rintro rfl; rw [ByteArray.toList_eq]
theorem set_l0 (k : Nat) (l : Sets) (hl : l.length ≤ 1000) (a0 : Int) (l3 : List Int) : ∀ (d i : Nat) (I : List Int) (T : List ByteArray), i + d = l.length →
    field_Set.l0 (k + 2 * d + 1) l (l.length : Int) (i : Int) a0 I T l3 = some (setR a0 l3 (setsF (l.drop i) I T)) := by
  intro d
  induction d with
  | zero =>
    intro i I T hi
    rw [field_Set.l0, if_neg (by omega), List.drop_of_length_le (by omega)]
    rfl
  | succ d ih =>
    intro i I T hi
    have ihx := fun I T => ih (i + 1) I T (by omega)
    rw [show k + 2 * (d + 1) + 1 = (k + 2 * d + 1) + 1 + 1 by omega, field_Set.l0, if_pos (by omega), if_pos (by omega), if_pos (by omega), drop_set (by omega), setsF]
    generalize rd_T75 l (i : Int) = x
    have hw : wrap64 ((i : Int) + 1) = ((i + 1 : Nat) : Int) := w64 (by omega) (by omega)
    by_cases hb : x.f0 = true
    · rw [if_pos hb, if_pos hb]
      have hj : field_Set.j1 (k + 2 * d + 1 + 1) l (l.length : Int) (i : Int) false a0 I T l3 x.f0 x.f1 x.f2 x.f3 = some (0, [], [], [], 21) := by
        rw [field_Set.j1, if_neg (by simp), if_pos hb]
      by_cases h : x.f2 = 0 ∧ 0 ≤ x.f1 ∧ x.f1 < (T.length : Int)
      · rw [if_pos h.1, if_pos h.2.1, decide_eq_true h.2.2, field_Set.j1, if_pos rfl, if_pos h.2.1, if_pos h.2.2, if_pos h, hw]
        exact ihx I _
      · rw [if_neg h]
        by_cases h2 : x.f2 = 0
        · rw [if_pos h2]
          by_cases h1 : x.f1 ≥ 0
          · rw [if_pos h1, decide_eq_false (fun h3 => h ⟨h2, h1, h3⟩)]; exact hj
          · rw [if_neg h1]; exact hj
        · rw [if_neg h2]; exact hj
    · rw [if_neg hb, if_neg hb, field_Set.j1, if_neg (by simp), if_neg hb]
      by_cases h : x.f3 = ⟨#[]⟩ ∧ 0 ≤ x.f1 ∧ x.f1 < (I.length : Int)
      · rw [if_pos (nil_bytes.2 h.1), if_pos h.2.1, if_pos h.2.2, if_pos h.2.1, if_pos h, hw]
        exact ihx _ T
      · rw [if_neg h]
        by_cases h3 : x.f3 = ⟨#[]⟩
        · rw [if_pos (nil_bytes.2 h3)]
          by_cases h1 : x.f1 ≥ 0
          · rw [if_pos h1, if_neg (fun h4 => h ⟨h3, h1, h4⟩)]; rfl
          · rw [if_neg h1]; rfl
        · rw [if_neg (fun e => h3 (nil_bytes.1 e))]; rfl
theorem fset (k : Nat) (l : Sets) (hl : l.length ≤ 300) (hk : 700 ≤ k) (a0 : Int) {l1 : List Int} {l2 : List ByteArray} {l3 : List Int} (F : Fit l1 l2 l3) : field_Set.f k a0 l1 l2 l3 l = some (setR a0 l3 (setsF l l1 l2)) := by
  unfold field_Set.f
  rw [fcopy a0 F, Option.bind_some]
  have := set_l0 (k - 2 * l.length - 1) l (by omega) a0 l3 l.length 0 l1 l2 (by omega)
  rw [show k = k - 2 * l.length - 1 + 2 * l.length + 1 by omega]
  exact this
theorem set_dI (rest : Sets) (T : List ByteArray) : ∀ (l m pre : List Int), l.length = m.length → setsF (dI pre.length l m ++ rest) (pre ++ l) T = setsF rest (pre ++ m) T
  | [], [], pre, _ => by rw [dI]; rfl; all_goals simp
  | a :: l, b :: m, pre, h => by
    have ih := set_dI rest T l m (pre ++ [b]) (by simpa using h)
    rw [List.length_append, List.length_singleton, List.append_assoc, List.append_assoc, List.singleton_append, List.singleton_append] at ih
    rw [dI]
    by_cases hc : a = b
    · subst hc; rw [if_pos rfl, List.nil_append]; exact ih
    · rw [if_neg hc, List.append_assoc, List.singleton_append, setsF, if_neg (by simp), if_pos ⟨rfl, by simp only; omega, by simp only [List.length_append, List.length_cons]; omega⟩]
      simp only [Int.toNat_natCast]
      rw [List.set_append_right _ _ (Nat.le_refl _), Nat.sub_self, List.set_cons_zero]
      exact ih
theorem set_dT (rest : Sets) (I : List Int) : ∀ (l m pre : List ByteArray), l.length = m.length → setsF (dT pre.length l m ++ rest) I (pre ++ l) = setsF rest I (pre ++ m)
  | [], [], pre, _ => by rw [dT]; rfl; all_goals simp
  | a :: l, b :: m, pre, h => by
    have ih := set_dT rest I l m (pre ++ [b]) (by simpa using h)
    rw [List.length_append, List.length_singleton, List.append_assoc, List.append_assoc, List.singleton_append, List.singleton_append] at ih
    rw [dT]
    by_cases hc : a = b
    · subst hc; rw [if_pos rfl, List.nil_append]; exact ih
    · rw [if_neg hc, List.append_assoc, List.singleton_append, setsF, if_pos rfl, if_pos ⟨rfl, by simp only; omega, by simp only [List.length_append, List.length_cons]; omega⟩]
      simp only [Int.toNat_natCast]
      rw [List.set_append_right _ _ (Nat.le_refl _), Nat.sub_self, List.set_cons_zero]
      exact ih
theorem set_diffs {l1 : List Int} {l2 : List ByteArray} {m1 : List Int} {m2 : List ByteArray} (h1 : l1.length = m1.length) (h2 : l2.length = m2.length) : setsF (diffs l1 l2 m1 m2) l1 l2 = some (m1, m2) := by
  have e1 := set_dI (dT 0 l2 m2) l2 l1 m1 [] h1
  have e2 := set_dT [] m1 l2 m2 [] h2
  rw [List.append_nil] at e2
  unfold diffs
  exact e1.trans e2
theorem dI_len : ∀ (i : Nat) (l m : List Int), List.length (dI i l m) ≤ l.length
  | i, a :: l, b :: m => by
    have := dI_len (i + 1) l m
    rw [dI, List.length_append, List.length_cons]
    split <;> simp <;> omega
  | i, [], _ => by simp [dI]
  | i, _ :: _, [] => by simp [dI]
theorem dT_len : ∀ (i : Nat) (l m : List ByteArray), List.length (dT i l m) ≤ l.length
  | i, a :: l, b :: m => by
    have := dT_len (i + 1) l m
    rw [dT, List.length_append, List.length_cons]
    split <;> simp <;> omega
  | i, [], _ => by simp [dT]
  | i, _ :: _, [] => by simp [dT]
end Go.Proofs.YtmglknchklgokaaDoor.GY
