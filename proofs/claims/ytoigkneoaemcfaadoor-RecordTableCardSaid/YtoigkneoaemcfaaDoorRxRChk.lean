/- Has a node what a Spec says: by the program and by the reference alike (as Chk, for nodes with more kids). -/
import Derived.Test.YtoigkneoaemcfaaDoorRxFU
import Derived.Test.YtoigkneoaemcfaaDoorRxGRx2
import Derived.Test.YtoigkneoaemcfaaDoorRxGRx10
import Derived.Test.YtoigkneoaemcfaaDoorRxGRx6
namespace Go.Proofs.YtoigkneoaemcfaaDoor.Rec
open Go.RowKit Go.Proofs.YtoigkneoaemcfaaDoor.GR Go.Proofs.YtoigkneoaemcfaaDoorW.PrintWords Go.Proofs.YtoigkneoaemcfaaDoorW.PrintLast Go.Proofs.YtoigkneoaemcfaaDoorW.PrintMore
set_option linter.unusedVariables false
set_option linter.unusedSimpArgs false
theorem w64 {n : Int} (h : -9223372036854775808 ≤ n) (h2 : n ≤ 9223372036854775807) : wrap64 n = n := by unfold wrap64; omega
theorem rd_nat (xs : List Int) (i : Nat) : rd xs (i : Int) = xs.getD i 0 := by unfold rd; rw [Int.toNat_natCast]
/-- A node of some size. -/
structure Fit (l1 : List Int) (l2 : List ByteArray) (l3 : List Int) : Prop where
  n1 : l1.length ≤ 1000
  n2 : l2.length ≤ 1000
  n3 : l3.length ≤ 1000000
  s2 : ∀ s ∈ l2, s.size ≤ 5000
theorem txt_at {l : List ByteArray} {i : Nat} (h : i < l.length) : l.drop i = rdOf ByteArray.empty l (i : Int) :: l.drop (i + 1) := by
  rw [List.drop_eq_getElem_cons h]
  unfold rdOf
  rw [Int.toNat_natCast, List.getD_eq_getElem?_getD, List.getElem?_eq_getElem h]; rfl
theorem num_at {l : List Int} {i : Nat} (h : i < l.length) : l.drop i = rd l (i : Int) :: l.drop (i + 1) := by
  rw [List.drop_eq_getElem_cons h, rd_nat, List.getD_eq_getElem?_getD, List.getElem?_eq_getElem h]; rfl
/-- Is a number of a class? -/
def inB (c n : Int) : Bool := if c = 1 then true else if c = 2 then decide (-140737488355328 ≤ n ∧ n ≤ 140737488355328) else if c = 3 then decide (0 ≤ n ∧ n ≤ 140737488355328) else if c = 4 then decide (0 ≤ n ∧ n ≤ 255) else if c = 5 then decide (n = 0 ∨ n = 1) else false
theorem in_code (c n : Int) : schema_In.f c n = some (inB c n) := by
  unfold schema_In.f inB
  repeat' split
  all_goals first | rfl | (exfalso; omega) | (congr 1; rw [Bool.eq_iff_iff]; simp; omega) | (congr 1; rw [Bool.eq_iff_iff]; simp; done) | (congr 1; rw [eq_comm]; simp; omega)
theorem in_ref (c n : Int) : dioramaref07_In.f c n = some (inB c n) := by
  unfold dioramaref07_In.f inB
  repeat' split
  all_goals first | rfl | (exfalso; omega) | (congr 1; rw [Bool.eq_iff_iff]; simp; omega) | (congr 1; rw [Bool.eq_iff_iff]; simp; done) | (congr 1; rw [eq_comm]; simp; omega) | (congr 1; rw [eq_comm, decide_eq_false_iff_not]; rintro (rfl | rfl) <;> simp_all [wrap64])
def allIn : List Int → List Int → Bool
  | c :: cs, n :: ns => inB c n && allIn cs ns
  | _, _ => true
theorem numbers_l0 (k : Nat) (ns cs : List Int) (he : ns.length = cs.length) (hn : ns.length ≤ 1000) : ∀ d i : Nat, i + d = ns.length → field_numbers.l0 (k + d + 1) cs ns (ns.length : Int) (i : Int) = some (allIn (cs.drop i) (ns.drop i)) := by
  intro d
  induction d with
  | zero =>
    intro i hi
    rw [field_numbers.l0, if_neg (by omega), List.drop_of_length_le (by omega)]; rfl
  | succ d ih =>
    intro i hi
    rw [show k + (d + 1) + 1 = (k + d + 1) + 1 by omega, field_numbers.l0, if_pos (by omega), if_pos (by omega), if_pos (by omega), if_pos (by omega), in_code, Option.bind_some, num_at (l := cs) (by omega), num_at (l := ns) (by omega), allIn, w64 (by omega) (by omega)]
    cases inB (rd cs i) (rd ns i) with
    | false => rfl
    | true => rw [if_pos rfl, Bool.true_and]; exact ih (i + 1) (by omega)
def kidsV (n least most : Int) : Int := if n < least then 12 else if 0 ≤ most ∧ most < n then 12 else 0
theorem check_l1 (k : Nat) (hk : 6000 ≤ k) (a0 : Int) (l1 : List Int) (l2 : List ByteArray) (l3 : List Int) (m0 : List Int) (n1 n2 n3 : Int) (h2 : l2.length ≤ 1000) (hs : ∀ s ∈ l2, s.size ≤ 5000) : ∀ d i : Nat, i + d = l2.length →
    dioramaref08_Check.l1 (k + d + 1) (i : Int) a0 l1 l2 l3 m0 n1 n2 n3 = some (if (l2.drop i).any badT = true then 11 else kidsV l3.length n2 n3) := by
  intro d
  induction d with
  | zero =>
    intro i hi
    rw [dioramaref08_Check.l1, if_neg (by omega), List.drop_of_length_le (by omega)]
    unfold kidsV
    by_cases h1 : (l3.length : Int) < n2
    · rw [if_pos h1]; simp [h1]
    · rw [if_neg h1]
      by_cases h4 : n3 ≥ 0
      · rw [if_pos h4]
        by_cases h5 : (l3.length : Int) > n3
        · rw [if_pos h5]; simp; omega
        · rw [if_neg h5]; simp; omega
      · rw [if_neg h4]; simp; omega
  | succ d ih =>
    intro i hi
    have hm : rdOf ByteArray.empty l2 (i : Int) ∈ l2 := by
      have : rdOf ByteArray.empty l2 (i : Int) ∈ l2.drop i := by rw [txt_at (by omega)]; exact List.mem_cons_self ..
      exact List.mem_of_mem_drop this
    have hsz := hs _ hm
    rw [show k + (d + 1) + 1 = (k + d + 1) + 1 by omega, dioramaref08_Check.l1, if_pos (by omega), if_pos (by omega), U.right_f _ (by omega) _ (by omega), Option.bind_some, txt_at (by omega), List.any_cons]
    cases hb : badT (rdOf ByteArray.empty l2 (i : Int)) with
    | true =>
      have hb2 : decide (0 ≤ U.first (rdOf ByteArray.empty l2 (i : Int)) ((rdOf ByteArray.empty l2 (i : Int)).size + 1) 0) = true := hb
      rw [hb2]; rfl
    | false =>
      have hb2 : decide (0 ≤ U.first (rdOf ByteArray.empty l2 (i : Int)) ((rdOf ByteArray.empty l2 (i : Int)).size + 1) 0) = false := hb
      rw [hb2, Bool.not_false, if_pos rfl, w64 (by omega) (by omega), Bool.false_or]
      exact ih (i + 1) (by omega)
theorem check_l0 (k : Nat) (hk : 7100 ≤ k) (a0 : Int) (l1 : List Int) (l2 : List ByteArray) (l3 : List Int) (m0 : List Int) (n1 n2 n3 : Int) (he : l1.length = m0.length) (h1 : l1.length ≤ 1000) (h2 : l2.length ≤ 1000) (hs : ∀ s ∈ l2, s.size ≤ 5000) : ∀ d i : Nat, i + d = l1.length →
    dioramaref08_Check.l0 (k + d + 1) (i : Int) a0 l1 l2 l3 m0 n1 n2 n3 = some (if allIn (m0.drop i) (l1.drop i) = false then 10 else if (l2.length : Int) ≠ n1 then 11 else if l2.any badT = true then 11 else kidsV l3.length n2 n3) := by
  intro d
  induction d with
  | zero =>
    intro i hi
    rw [dioramaref08_Check.l0, if_neg (by omega), List.drop_of_length_le (l := m0) (by omega)]
    rw [if_neg (show ¬ allIn [] (l1.drop i) = false by simp [allIn])]
    by_cases h4 : (l2.length : Int) = n1
    · rw [if_pos h4, if_neg (by simpa using h4)]
      have := check_l1 (k - l2.length - 1) (by omega) a0 l1 l2 l3 m0 n1 n2 n3 h2 hs l2.length 0 (by omega)
      rw [show k = k - l2.length - 1 + l2.length + 1 by omega]
      simpa using this
    · rw [if_neg h4, if_pos h4]
  | succ d ih =>
    intro i hi
    rw [show k + (d + 1) + 1 = (k + d + 1) + 1 by omega, dioramaref08_Check.l0, if_pos (by omega), if_pos (by omega), if_pos (by omega), in_ref, Option.bind_some, num_at (l := m0) (by omega), num_at (l := l1) (by omega), allIn, w64 (by omega) (by omega)]
    cases inB (rd m0 i) (rd l1 i) with
    | false => rfl
    | true => rw [if_pos rfl, Bool.true_and]; exact ih (i + 1) (by omega)
/-- What is wrong with a node; 0: nothing. -/
def chk (l1 : List Int) (l2 : List ByteArray) (l3 : List Int) (m0 : List Int) (n1 n2 n3 : Int) : Int :=
  if l1.length ≠ m0.length then 10 else if allIn m0 l1 = false then 10 else if (l2.length : Int) ≠ n1 then 11 else if l2.any badT = true then 11 else kidsV l3.length n2 n3
theorem fchk (k : Nat) (hk : 9000 ≤ k) (a0 : Int) {l1 : List Int} {l2 : List ByteArray} {l3 : List Int} (m0 : List Int) (n1 n2 n3 : Int) (F : Fit l1 l2 l3) : field_Check.f k a0 l1 l2 l3 m0 n1 n2 n3 = some (chk l1 l2 l3 m0 n1 n2 n3) := by
  have f1 := F.n1
  have f2 := F.n2
  have hq : l2.length ≤ 8796093022208 ∧ (l2.all fun s => decide (s.size ≤ 70368744177664)) = true := ⟨by omega, List.all_eq_true.2 fun s hs => decide_eq_true (by have := F.s2 s hs; omega)⟩
  unfold chk
  by_cases he : l1.length = m0.length
  · have e1 : field_numbers.f k l1 m0 = some (allIn m0 l1) := by
      unfold field_numbers.f
      rw [if_pos (by omega)]
      have := numbers_l0 (k - l1.length - 1) l1 m0 he f1 l1.length 0 (by omega)
      rw [show k = k - l1.length - 1 + l1.length + 1 by omega]
      simpa using this
    rw [if_neg (by simpa using he)]
    unfold field_Check.f
    rw [e1, Option.bind_some, if_pos hq]
    congr 1
    unfold checkV kidsV
    cases allIn m0 l1 with
    | false => rfl
    | true =>
      simp only [Bool.true_eq_false, if_false]
      by_cases h1 : (l2.length : Int) = n1 <;> cases h2 : l2.any badT <;> simp only [h1, ne_eq, not_true, not_false_eq_true, false_or, true_or, or_true, if_true, if_false, Bool.false_eq_true]
      repeat' split
      all_goals first | rfl | (exfalso; omega)
  · have e1 : field_numbers.f k l1 m0 = some false := by
      unfold field_numbers.f
      rw [if_neg (by omega)]
    rw [if_pos he]
    unfold field_Check.f
    rw [e1, Option.bind_some, if_pos hq]
    rfl
theorem rchk (k : Nat) (hk : 9000 ≤ k) (a0 : Int) {l1 : List Int} {l2 : List ByteArray} {l3 : List Int} (m0 : List Int) (n1 n2 n3 : Int) (F : Fit l1 l2 l3) : dioramaref08_Check.f k a0 l1 l2 l3 m0 n1 n2 n3 = some (chk l1 l2 l3 m0 n1 n2 n3) := by
  have f1 := F.n1
  have f2 := F.n2
  unfold chk
  by_cases he : l1.length = m0.length
  · rw [if_neg (by simpa using he)]
    unfold dioramaref08_Check.f
    rw [if_pos (by omega)]
    have := check_l0 (k - l1.length - 1) (by omega) a0 l1 l2 l3 m0 n1 n2 n3 he f1 f2 F.s2 l1.length 0 (by omega)
    rw [show k = k - l1.length - 1 + l1.length + 1 by omega]
    simpa using this
  · rw [if_pos he]
    unfold dioramaref08_Check.f
    rw [if_neg (by omega)]
def newS (a0 : Int) : List Int × Int × Int × Int × Bool := if a0 = 1 then ([], 1, 0, (-1), true) else if a0 = 2 then ([2, 2, 2], 0, 1, 1, true) else if a0 = 3 then ([3, 3, 3], 1, 0, 0, true) else if a0 = 4 then ([3], 1, 0, 0, true) else if a0 = 5 then ([3], 2, 0, 0, true) else if a0 = 6 then ([1], 0, 0, (-1), true) else if a0 = 7 then ([4, 4, 4, 5], 0, 0, 0, true) else if a0 = 8 then ([2, 2, 2], 0, 1, 1, true) else ([], 0, 0, 0, false)
theorem new_code (a0 : Int) : schema_New.f a0 = some (newS a0) := by
  unfold schema_New.f newS
  repeat' split
  all_goals rfl
theorem spec_ref (k : Nat) (hk : 1 ≤ k) (a1 : Int) : dioramaref07_Spec.f k 2 a1 = some (newS a1) := by
  obtain ⟨k, rfl⟩ : ∃ j, k = j + 1 := ⟨k - 1, by omega⟩
  by_cases h1 : a1 = 1
  · subst h1; rfl
  by_cases h2 : a1 = 2
  · subst h2; rfl
  by_cases h3 : a1 = 3
  · subst h3; rfl
  by_cases h4 : a1 = 4
  · subst h4; rfl
  by_cases h5 : a1 = 5
  · subst h5; rfl
  by_cases h6 : a1 = 6
  · subst h6; rfl
  by_cases h7 : a1 = 7
  · subst h7; rfl
  by_cases h8 : a1 = 8
  · subst h8; rfl
  simp [dioramaref07_Spec.f, dioramaref07_Spec.j1, newS, h1, h2, h3, h4, h5, h6, h7, h8]
end Go.Proofs.YtoigkneoaemcfaaDoor.Rec
