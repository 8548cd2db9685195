/- Limits, plain: what limit.Measure, limit.Typed, limit.Valid and the reference tell, in closed form. -/
import Derived.Test.YtcphcaiiofeflaaDoorLcGrDp
import Derived.Test.YtcphcaiiofeflaaDoorLcGrT
import Derived.Test.YtcphcaiiofeflaaDoorLcChk
import Derived.Test.YtcphcaiiofeflaaDoorLcGLx8
import Derived.Test.YtcphcaiiofeflaaDoorLcGLx7
import Derived.Test.YtcphcaiiofeflaaDoorLcGLx3
import Derived.Test.YtcphcaiiofeflaaDoorLcGLx27
import Derived.Test.YtcphcaiiofeflaaDoorLcGLx16
import Derived.Test.YtcphcaiiofeflaaDoorLcGLx14
namespace Go.Proofs.YtcphcaiiofeflaaDoor.GL
open Go.RowKit Go.Proofs.YtcphcaiiofeflaaDoorW.PrintWords Go.Proofs.YtcphcaiiofeflaaDoorW.PrintLast Go.Proofs.YtcphcaiiofeflaaDoorW.PrintMore
set_option linter.unusedVariables false
set_option linter.unusedSimpArgs false
/-- From some fuel on it tells v. -/
def Ev {α : Type} (f : Nat → Option α) (v : α) : Prop := ∃ K, ∀ k, K ≤ k → f k = some v
theorem ev_of {α : Type} {f : Nat → Option α} {v : α} (h : ∃ K, ∀ k, f (k + K) = some v) : Ev f v := by
  obtain ⟨K, h⟩ := h
  exact ⟨K, fun k hk => by have := h (k - K); rwa [Nat.sub_add_cancel hk] at this⟩
/-- The Spec of a kind. -/
def newS (a0 : Int) : List Int × Int × Int × Int × Bool := if a0 = 1 then ([], 1, 0, (-1), true) else if a0 = 2 then ([2, 2, 2], 0, 1, 1, true) else if a0 = 3 then ([3, 3, 3], 1, 0, 0, true) else if a0 = 4 then ([3], 1, 0, 0, true) else if a0 = 5 then ([3], 2, 0, 0, true) else if a0 = 6 then ([1], 0, 0, (-1), true) else if a0 = 7 then ([4, 4, 4, 5], 0, 0, 0, true) else if a0 = 8 then ([2, 2, 2], 0, 1, 1, true) else ([], 0, 0, 0, false)
theorem new_code (a0 : Int) : schema_New.f a0 = some (newS a0) := by
  unfold schema_New.f newS
  repeat' split
  all_goals rfl
theorem spec_ref (k : Nat) (hk : 1 ≤ k) (a1 : Int) : dioramaref07_Spec.f k 2 a1 = some (newS a1) := by
  obtain ⟨k, rfl⟩ : ∃ j, k = j + 1 := ⟨k - 1, by omega⟩
  by_cases h1 : a1 = 1
  · subst h1; rfl
  by_cases h2 : a1 = 2
  · subst h2; rfl
  by_cases h3 : a1 = 3
  · subst h3; rfl
  by_cases h4 : a1 = 4
  · subst h4; rfl
  by_cases h5 : a1 = 5
  · subst h5; rfl
  by_cases h6 : a1 = 6
  · subst h6; rfl
  by_cases h7 : a1 = 7
  · subst h7; rfl
  by_cases h8 : a1 = 8
  · subst h8; rfl
  simp [dioramaref07_Spec.f, dioramaref07_Spec.j1, newS, h1, h2, h3, h4, h5, h6, h7, h8]
/-- What is wrong with a node of the scene. -/
def nodeV (y : S53) : Int := if (newS y.f0).2.2.2.2 = true then chk y.f1 y.f2 y.f3 (newS y.f0).1 (newS y.f0).2.1 (newS y.f0).2.2.1 (newS y.f0).2.2.2.1 else 9
def typedFrom : List (S53) → Nat → Int × Int
  | [], _ => (0, 0)
  | y :: ys, i => if nodeV y = 0 then typedFrom ys (i + 1) else (nodeV y, (i : Int))
theorem node_at {l0 : List (S53)} {i : Nat} (h : i < l0.length) : l0.drop i = rd_T53 l0 (i : Int) :: l0.drop (i + 1) := by rw [List.drop_eq_getElem_cons h, rdT_get h]
theorem nodeV_cases (y : S53) : nodeV y = 0 ∨ nodeV y = 9 ∨ nodeV y = 10 ∨ nodeV y = 11 ∨ nodeV y = 12 := by
  unfold nodeV
  split
  · rcases chk_cases y.f1 y.f2 y.f3 (newS y.f0).1 (newS y.f0).2.1 (newS y.f0).2.2.1 (newS y.f0).2.2.2.1 with h | h | h | h <;> simp [h]
  · simp
theorem typedFrom_cases : ∀ (l : List (S53)) (i : Nat), (typedFrom l i).1 = 0 ∨ (typedFrom l i).1 = 9 ∨ (typedFrom l i).1 = 10 ∨ (typedFrom l i).1 = 11 ∨ (typedFrom l i).1 = 12
  | [], _ => .inl rfl
  | y :: ys, i => by
    unfold typedFrom
    split
    · exact typedFrom_cases ys (i + 1)
    · exact nodeV_cases y
theorem typedFrom_zero : ∀ (l : List (S53)) (i : Nat), (typedFrom l i).1 = 0 ↔ ∀ y ∈ l, nodeV y = 0
  | [], _ => by simp [typedFrom]
  | y :: ys, i => by
    unfold typedFrom
    split
    · rename_i h
      rw [typedFrom_zero ys (i + 1)]
      simp [h]
    · rename_i h
      simp [h]
section
variable {l0 : List (S53)}
theorem typed_l0 (hF : Fits l0) (hn : l0.length ≤ 60) (k : Nat) (hk : 1000 ≤ k) : ∀ d i : Nat, i + d = l0.length → limit_Typed.l0 (k + d + 1) l0 (l0.length : Int) (i : Int) = some (typedFrom (l0.drop i) i) := by
  intro d
  induction d with
  | zero =>
    intro i hi
    rw [limit_Typed.l0, if_neg (by omega), List.drop_of_length_le (by omega)]; rfl
  | succ d ih =>
    intro i hi
    rw [show k + (d + 1) + 1 = (k + d + 1) + 1 by omega, limit_Typed.l0, if_pos (by omega), if_pos (by omega), if_pos (by omega), new_code, Option.bind_some, node_at (by omega), typedFrom, nodeV]
    by_cases hb : (newS (rd_T53 l0 (i : Int)).f0).2.2.2.2 = true
    · rw [if_pos hb, if_pos hb, fchk _ (by omega) _ _ _ _ _ (fits_get hF (by omega)), Option.bind_some, w64 (by omega) (by omega)]
      split
      · exact ih (i + 1) (by omega)
      · rfl
    · rw [if_neg hb, if_neg hb, if_neg (by omega)]
theorem typed_ev (hF : Fits l0) (hn : l0.length ≤ 60) (a1 : Int) : Ev (fun k => limit_Typed.f k l0 a1) (typedFrom l0 0) := by
  refine ⟨1000 + l0.length + 1, fun k hk => ?_⟩
  have := typed_l0 hF hn (k - l0.length - 1) (by omega) l0.length 0 (by omega)
  rw [show k - l0.length - 1 + l0.length + 1 = k by omega] at this
  exact this
end
/-! Limits that are right. -/
def rB (b0 b1 b2 b3 b4 : Int) : Bool := LimW.wB b0 b1 b2 b3 b4 16777216 16777216 16777216 16777216 16777216 && LimW.wB 0 0 0 0 0 b0 b1 b2 b3 b4
theorem wB_iff (x0 x1 x2 x3 x4 y0 y1 y2 y3 y4 : Int) : LimW.wB x0 x1 x2 x3 x4 y0 y1 y2 y3 y4 = true ↔ (x0 ≤ y0 ∧ x1 ≤ y1 ∧ x2 ≤ y2 ∧ x3 ≤ y3 ∧ x4 ≤ y4) := by unfold LimW.wB; rw [decide_eq_true_eq]
theorem rB_iff (b0 b1 b2 b3 b4 : Int) : rB b0 b1 b2 b3 b4 = true ↔ (b0 ≤ 16777216 ∧ b1 ≤ 16777216 ∧ b2 ≤ 16777216 ∧ b3 ≤ 16777216 ∧ b4 ≤ 16777216) ∧ 0 ≤ b0 ∧ 0 ≤ b1 ∧ 0 ≤ b2 ∧ 0 ≤ b3 ∧ 0 ≤ b4 := by
  unfold rB
  rw [Bool.and_eq_true, wB_iff, wB_iff]
theorem within_code (x0 x1 x2 x3 x4 y0 y1 y2 y3 y4 : Int) : limit_Within.f x0 x1 x2 x3 x4 y0 y1 y2 y3 y4 = some (LimW.wB x0 x1 x2 x3 x4 y0 y1 y2 y3 y4) := rfl
theorem right_code (b0 b1 b2 b3 b4 : Int) : limit_Right.f b0 b1 b2 b3 b4 = some (rB b0 b1 b2 b3 b4) := by
  unfold limit_Right.f rB
  simp only [within_code, Option.bind_some]
  cases LimW.wB b0 b1 b2 b3 b4 16777216 16777216 16777216 16777216 16777216 <;> simp
theorem rwithin (x0 x1 x2 x3 x4 y0 y1 y2 y3 y4 : Int) : dioramaref12_Within.f x0 x1 x2 x3 x4 y0 y1 y2 y3 y4 = some (LimW.wB x0 x1 x2 x3 x4 y0 y1 y2 y3 y4) := by
  unfold dioramaref12_Within.f LimW.wB
  repeat' split
  all_goals (congr 1; rw [Bool.eq_iff_iff]; simp; try omega)
theorem rright_l0 (x3 : List Int) (h5 : x3.length = 5) (k : Nat) : ∀ d i : Nat, i + d = 5 → dioramaref12_Right.l0 (k + d + 1) x3 (i : Int) = some ((x3.drop i).all fun v => decide (0 ≤ v ∧ v ≤ 16777216)) := by
  intro d
  induction d with
  | zero =>
    intro i hi
    rw [dioramaref12_Right.l0, if_neg (by omega), List.drop_of_length_le (by omega)]; rfl
  | succ d ih =>
    intro i hi
    rw [show k + (d + 1) + 1 = (k + d + 1) + 1 by omega, dioramaref12_Right.l0, if_pos (by omega), if_pos (by omega), if_pos (by omega), num_at (by omega), List.all_cons, w64 (by omega) (by omega)]
    by_cases h1 : rd x3 (i : Int) < 0
    · rw [if_pos h1, decide_eq_false (by omega)]; rfl
    · by_cases h2 : rd x3 (i : Int) > 16777216
      · rw [if_neg h1, if_pos h2, decide_eq_false (by omega)]; rfl
      · rw [if_neg h1, if_neg h2, decide_eq_true (by omega), Bool.true_and]
        exact ih (i + 1) (by omega)
theorem rright (k : Nat) (hk : 6 ≤ k) (b0 b1 b2 b3 b4 : Int) : dioramaref12_Right.f k b0 b1 b2 b3 b4 = some (rB b0 b1 b2 b3 b4) := by
  have := rright_l0 [b0, b1, b2, b3, b4] rfl (k - 6) 5 0 rfl
  rw [show k - 6 + 5 + 1 = k by omega] at this
  refine this.trans ?_
  congr 1
  rw [Bool.eq_iff_iff, rB_iff]
  simp
  omega
/-! The texts. -/
theorem texts_bound : ∀ (l : List (S53)), Fits l → (textsOf l).length ≤ 100 * l.length ∧ ((textsOf l).map ByteArray.size).sum ≤ 50000 * l.length
  | [], _ => ⟨Nat.le_refl _, Nat.le_refl _⟩
  | y :: ys, h => by
    obtain ⟨h1, h2⟩ := texts_bound ys (fun z hz => h z (List.mem_cons_of_mem _ hz))
    have hy := h y List.mem_cons_self
    have e : textsOf (y :: ys) = y.f2 ++ textsOf ys := rfl
    have hs : ∀ (l : List ByteArray), (∀ s ∈ l, s.size ≤ 500) → (l.map ByteArray.size).sum ≤ 500 * l.length := by
      intro l
      induction l with
      | nil => intro _; exact Nat.le_refl _
      | cons a l ih =>
        intro h
        have := ih (fun s hs => h s (List.mem_cons_of_mem _ hs))
        have := h a List.mem_cons_self
        simp only [List.map_cons, List.sum_cons, List.length_cons]
        omega
    have h3 := hs y.f2 hy.s2
    have h4 := hy.n2
    rw [e, List.length_append, List.map_append, List.sum_append, List.length_cons]
    omega
theorem tb_small {l0 : List (S53)} (hF : Fits l0) (hn : l0.length ≤ 60) : TBb l0 = true := by
  obtain ⟨h1, h2⟩ := texts_bound l0 hF
  unfold TBb
  simp only [Bool.and_eq_true, decide_eq_true_eq]
  omega
/-- The measure. -/
def measD (l0 : List (S53)) (a1 : Int) : Int := if (checkP l0 a1).1 = 0 then (H l0 a1.toNat : Int) else 0
theorem meas_ev {l0 : List (S53)} (hS : Small l0) (hF : Fits l0) (a1 : Int) : Ev (fun k => limit_Measure.f k l0 a1) (0, (l0.length : Int), (restK l0 0 : Int), measD l0 a1, (textN l0 : Int)) := by
  obtain ⟨K, h⟩ := ev_of (f := fun k => graph_Depth.f k l0 a1) (gdepth l0 a1 (small_len hS) (small_sum hS))
  simp only at h
  refine ⟨K + l0.length + 1, fun k hk => ?_⟩
  have e1 := gedges hS a1 (k - l0.length - 1)
  rw [show k - l0.length - 1 + l0.length + 1 = k by omega] at e1
  show limit_Measure.f k l0 a1 = _
  rw [limit_Measure.f, e1, Option.bind_some, h k (by omega), Option.bind_some, if_pos (tb_small hF hS.len)]
  rfl
def rStep (m : List ByteArray) (t : ByteArray) : List ByteArray := if t ∈ m then m else m ++ [t]
theorem toList_inj {a b : ByteArray} : a.toList = b.toList ↔ a = b := by
  constructor
  · intro h
    rw [ByteArray.toList_eq, ByteArray.toList_eq] at h
    cases a; cases b
    simp only [Array.toList_inj] at h
    rw [h]
  · rintro rfl; rfl
/-- What Valid tells. -/
def validP (l0 : List (S53)) (a1 b0 b1 b2 b3 b4 : Int) : Int × Int :=
  if rB b0 b1 b2 b3 b4 = true then if (typedFrom l0 0).1 = 0 then if (checkP l0 a1).1 = 0 then if LimW.wB 0 (l0.length : Int) (restK l0 0 : Int) (measD l0 a1) (textN l0 : Int) b0 b1 b2 b3 b4 = true then (0, 0) else (19, -1) else ((checkP l0 a1).1, (checkP l0 a1).2) else ((typedFrom l0 0).1, (typedFrom l0 0).2) else (1, -1)
theorem valid_ev {l0 : List (S53)} (hS : Small l0) (hF : Fits l0) (a1 : Int) : ∃ K, ∀ k, K ≤ k → ∀ b0 b1 b2 b3 b4, limit_Valid.f k l0 a1 b0 b1 b2 b3 b4 = some (validP l0 a1 b0 b1 b2 b3 b4) := by
  obtain ⟨K1, h1⟩ := typed_ev hF hS.len a1
  obtain ⟨K2, h2⟩ := ev_of (f := fun k => graph_Check.f k l0 a1) (gcheck l0 a1 (small_len hS) (small_sum hS))
  simp only at h2
  obtain ⟨K3, h3⟩ := meas_ev hS hF a1
  refine ⟨K1 + K2 + K3, fun k hk b0 b1 b2 b3 b4 => ?_⟩
  have e1 := h1 k (by omega)
  have e2 := h2 k (by omega)
  have e3 := h3 k (by omega)
  simp only at e1 e2 e3
  unfold validP
  rw [limit_Valid.f, right_code, Option.bind_some, e1, Option.bind_some, e2, Option.bind_some, e3, Option.bind_some]
  simp only
  rw [within_code, Option.bind_some]
  repeat' split
  all_goals rfl
end Go.Proofs.YtcphcaiiofeflaaDoor.GL
