/- The canonical scene, plain: what canon.Numbers and canon.Canon tell. -/
import Derived.Test.YtlfjjapndlkamaaCtGrC
import Derived.Test.YtlfjjapndlkamaaCtGHx4
namespace Go.Proofs.Ytlfjjapndlkamaa.GH
open Go.RowKit Go.Proofs.YtlfjjapndlkamaaW.PrintWords Go.Proofs.YtlfjjapndlkamaaW.PrintLast Go.Proofs.YtlfjjapndlkamaaW.PrintMore
set_option linter.unusedVariables false
set_option linter.unusedSimpArgs false
section
variable {l0 : List (S40)} {a1 : Int}
theorem toG_len (l0 : List (S40)) : (GT.toG (kidsI l0)).length = l0.length := by rw [GT.length_toG, kids_len]
/-- The nodes in the canonical order. -/
def cl (l0 : List (S40)) (a1 : Int) : List Nat := GT.meetL (GT.toG (kidsI l0)) l0.length a1.toNat []
/-- Of each node its place. -/
def tlOf (l0 : List (S40)) (a1 : Int) : List Int := (List.range l0.length).map fun x => (GT.find (cl l0 a1) x : Int)
def cNodes (l0 : List (S40)) (a1 : Int) : List (S40) := (cl l0 a1).map fun x : Nat => renN (tlOf l0 a1) (rd_T40 l0 (x : Int))
theorem path_of (hall : ∀ i, i < l0.length → i = a1.toNat ∨ GT.Led (GT.toG (kidsI l0)) a1.toNat i) : ∀ i, i < (GT.toG (kidsI l0)).length → GT.Path (GT.toG (kidsI l0)) a1.toNat i := fun i hi => by
  rcases hall i (by rw [toG_len] at hi; exact hi) with h | ⟨k, hk, p⟩
  · rw [h]; exact .refl _
  · exact .step hk p
theorem cn_of (hn : l0.length ≤ 1000000) (hE : ((kidsI l0).map List.length).sum ≤ 1000000) (hc : (checkP l0 a1).1 = 0) : GT.Cn (GT.toG (kidsI l0)) a1.toNat (cl l0 a1) ∧ ordOf l0 a1 = some (cl l0 a1) := by
  obtain ⟨h0, h1, hgood, hacy, hall⟩ := checkP_zero hE hc
  obtain ⟨K, out, ho, _⟩ := order_tells l0 a1 hgood hn hE
  have hW := GT.wf_of_firstBad hgood
  have hfull := ho.of_acyc hW hacy
  have hlen := GT.length_of_all ho.nodup ho.lt hfull
  have hR := ho.acyc (by omega)
  have hl := toG_len l0
  have hr : a1.toNat < (GT.toG (kidsI l0)).length := by omega
  have hf : GT.find out a1.toNat < l0.length := by have := GT.find_lt (hfull _ hr); omega
  refine ⟨GT.Cn.of_meet hR hf hW hr (path_of hall), ?_⟩
  unfold ordOf cl
  exact GT.ordL_tells hR hW hr hf (by rw [GT.edges_toG]; omega)
theorem tl_len (l0 : List (S40)) (a1 : Int) : (tlOf l0 a1).length = l0.length := by unfold tlOf; rw [List.length_map, List.length_range]
theorem tl_get {x : Nat} (hx : x < l0.length) : (tlOf l0 a1).getD x 0 = (GT.find (cl l0 a1) x : Int) := by
  unfold tlOf
  rw [List.getD_eq_getElem?_getD, List.getElem?_map, List.getElem?_range hx]
  rfl
theorem nums_of (h : GT.Cn (GT.toG (kidsI l0)) a1.toNat (cl l0 a1)) : numsAt l0.length (cl l0 a1) (cl l0 a1).length = tlOf l0 a1 := by
  have hl := toG_len l0
  have key : ∀ i, i ≤ l0.length → ∀ j, j < i → (numsAt l0.length (cl l0 a1) i).getD ((cl l0 a1).getD j 0) 0 = (j : Int) := by
    intro i
    induction i with
    | zero => intro _ j hj; omega
    | succ i ih =>
      intro hi j hj
      have hlt := h.get_lt (i := i) (by omega)
      rw [numsAt, List.getD_eq_getElem?_getD, List.getElem?_set]
      by_cases e : j = i
      · subst e
        rw [if_pos rfl, if_pos (by rw [numsAt_len]; omega)]
        rfl
      · have hne : ¬ (cl l0 a1).getD i 0 = (cl l0 a1).getD j 0 := fun he => by
          have h1 := h.find_get (i := i) (by omega)
          rw [he, h.find_get (i := j) (by omega)] at h1
          exact e h1
        rw [if_neg hne, ← List.getD_eq_getElem?_getD]
        exact ih (by omega) j (by omega)
  rw [h.len, hl]
  apply List.ext_getElem?
  intro x
  by_cases hx : x < l0.length
  · have h1 := key l0.length (Nat.le_refl _) (GT.find (cl l0 a1) x) (by have := h.find_lt (x := x) (by omega); omega)
    rw [h.get_find (by omega), List.getD_eq_getElem?_getD, List.getElem?_eq_getElem (by rw [numsAt_len]; exact hx)] at h1
    have h2 := tl_get (a1 := a1) hx
    rw [List.getD_eq_getElem?_getD, List.getElem?_eq_getElem (by rw [tl_len]; exact hx)] at h2
    rw [List.getElem?_eq_getElem (by rw [numsAt_len]; exact hx), List.getElem?_eq_getElem (by rw [tl_len]; exact hx)]
    exact congrArg some (Eq.trans h1 h2.symm)
  · rw [List.getElem?_eq_none (by rw [numsAt_len]; omega), List.getElem?_eq_none (by rw [tl_len]; omega)]
theorem gnumbers (hn : l0.length ≤ 1000000) (hE : ((kidsI l0).map List.length).sum ≤ 1000000) : ∃ K, ∀ k, canon_Numbers.f (k + K) l0 a1 = some (if (checkP l0 a1).1 = 0 then tlOf l0 a1 else []) := by
  obtain ⟨K, h1⟩ := gcheck l0 a1 hn hE
  refine ⟨K, fun k => ?_⟩
  rw [canon_Numbers.f, h1, Option.bind_some]
  by_cases hc : (checkP l0 a1).1 = 0
  · obtain ⟨h2, h3⟩ := cn_of hn hE hc
    have hl := toG_len l0
    rw [if_pos hc, if_pos hc, h3, Option.bind_some, if_pos ⟨by rw [h2.len]; omega, by
      rw [List.all_eq_true]
      intro x hx
      have := h2.lt x hx
      simp
      omega⟩, nums_of h2]
  · rw [if_neg hc, if_neg hc]
theorem tl_bound (h : GT.Cn (GT.toG (kidsI l0)) a1.toNat (cl l0 a1)) : ∀ x ∈ tlOf l0 a1, 0 ≤ x ∧ x < (l0.length : Int) := by
  intro x hx
  unfold tlOf at hx
  obtain ⟨y, hy, rfl⟩ := List.mem_map.1 hx
  rw [List.mem_range] at hy
  have := h.find_lt (x := y) (by rw [toG_len]; exact hy)
  rw [toG_len] at this
  omega
theorem cNodes_len (h : GT.Cn (GT.toG (kidsI l0)) a1.toNat (cl l0 a1)) : (cNodes l0 a1).length = l0.length := by unfold cNodes; rw [List.length_map, h.len, toG_len]
theorem cNodes_get (h : GT.Cn (GT.toG (kidsI l0)) a1.toNat (cl l0 a1)) {i : Nat} (hi : i < l0.length) : rd_T40 (cNodes l0 a1) (i : Int) = renN (tlOf l0 a1) (rd_T40 l0 ((cl l0 a1).getD i 0 : Int)) := by
  have hl : (cl l0 a1).length = l0.length := by rw [h.len, toG_len]
  rw [rdT_get (by rw [cNodes_len h]; exact hi)]
  unfold cNodes
  rw [List.getElem_map, List.getD_eq_getElem?_getD, List.getElem?_eq_getElem (by omega)]
  rfl
theorem canonAt_of (h : GT.Cn (GT.toG (kidsI l0)) a1.toNat (cl l0 a1)) : canonAt l0 (tlOf l0 a1) l0.length = cNodes l0 a1 := by
  have hl := toG_len l0
  have htn : ∀ {i : Nat}, i < l0.length → ((tlOf l0 a1).getD i 0).toNat = GT.find (cl l0 a1) i := fun hi => by rw [tl_get hi]; rfl
  have key : ∀ i, i ≤ l0.length → ∀ j, j < i → (canonAt l0 (tlOf l0 a1) i)[GT.find (cl l0 a1) j]? = some (renN (tlOf l0 a1) (rd_T40 l0 (j : Int))) := by
    intro i
    induction i with
    | zero => intro _ j hj; omega
    | succ i ih =>
      intro hi j hj
      have hlt := h.find_lt (x := i) (by omega)
      rw [canonAt, htn (by omega), List.getElem?_set]
      by_cases e : j = i
      · subst e
        rw [if_pos rfl, if_pos (by rw [canonAt_len]; omega)]
      · have hne : ¬ GT.find (cl l0 a1) i = GT.find (cl l0 a1) j := fun he => by
          have h1 := h.get_find (x := i) (by omega)
          rw [he, h.get_find (x := j) (by omega)] at h1
          exact e h1
        rw [if_neg hne]
        exact ih (by omega) j (by omega)
  apply List.ext_getElem?
  intro i
  by_cases hi : i < l0.length
  · have h1 := key l0.length (Nat.le_refl _) ((cl l0 a1).getD i 0) (by have := h.get_lt (i := i) (by omega); omega)
    rw [h.find_get (by omega)] at h1
    rw [h1]
    have h2 := cNodes_get h hi
    rw [rdT_get (by rw [cNodes_len h]; exact hi)] at h2
    rw [List.getElem?_eq_getElem (by rw [cNodes_len h]; exact hi), h2]
  · rw [List.getElem?_eq_none (by rw [canonAt_len]; omega), List.getElem?_eq_none (by rw [cNodes_len h]; omega)]
/-- The bounds of a scene that is played. -/
structure Mod (l0 : List (S40)) : Prop where
  len : l0.length ≤ 1000000
  sum : ((kidsI l0).map List.length).sum ≤ 1000000
  one : ∀ y ∈ l0, y.f1.length < 8796093022208 ∧ y.f2.length < 8796093022208
theorem mod_of (hS : Small l0) : Mod l0 := ⟨small_len hS, small_sum hS, fun y hy => by
  obtain ⟨i, hi, rfl⟩ := List.getElem_of_mem hy
  have := hS.one i hi
  rw [rdT_get hi] at this
  omega⟩
theorem gcanon (hM : Mod l0) : ∃ K, ∀ k, canon_Canon.f (k + K) l0 a1 = some (if (checkP l0 a1).1 = 0 then (cNodes l0 a1, (l0.length : Int) - 1, 0) else ([], 0, (checkP l0 a1).1)) := by
  obtain ⟨K, h1⟩ := gcheck l0 a1 hM.len hM.sum
  obtain ⟨K2, h2⟩ := gnumbers (a1 := a1) hM.len hM.sum
  refine ⟨K + K2, fun k => ?_⟩
  have h1' := h1 (k + K2)
  have h2' := h2 (k + K)
  rw [show k + K2 + K = k + (K + K2) by omega] at h1'
  rw [show k + K + K2 = k + (K + K2) by omega] at h2'
  rw [canon_Canon.f, h1', Option.bind_some, h2', Option.bind_some]
  by_cases hc : (checkP l0 a1).1 = 0
  · obtain ⟨h3, _⟩ := cn_of hM.len hM.sum hc
    rw [if_pos hc, if_pos hc, if_pos hc, if_pos ⟨tl_len l0 a1, by
      rw [List.all_eq_true]
      intro x hx
      simpa using tl_bound h3 x hx, by
      rw [List.all_eq_true]
      intro y hy
      simpa using hM.one y hy⟩, canonAt_of h3]
  · rw [if_neg hc, if_neg hc]
/-! ### the canonical scene is right, and its own canonical one -/
theorem kids_get (hgood : GT.firstBad (kidsI l0) = none) (i : Nat) : (rd_T40 l0 (i : Int)).f3 = intsOf (GT.kids (GT.toG (kidsI l0)) i) := by
  have := kids_ints hgood (i : Int)
  rw [Int.toNat_natCast] at this
  exact this.symm
theorem ren_kids (hgood : GT.firstBad (kidsI l0) = none) (i : Nat) : (renN (tlOf l0 a1) (rd_T40 l0 (i : Int))).f3 = intsOf ((GT.kids (GT.toG (kidsI l0)) i).map (GT.find (cl l0 a1))) := by
  show (rd_T40 l0 (i : Int)).f3.map _ = _
  rw [kids_get hgood]
  unfold intsOf
  rw [List.map_map, List.map_map]
  refine List.map_congr_left (fun x hx => ?_)
  have hx := GT.wf_of_firstBad hgood i x hx
  rw [toG_len] at hx
  exact tl_get hx
theorem kidsI_canon (hgood : GT.firstBad (kidsI l0) = none) : kidsI (cNodes l0 a1) = (GT.canonG (GT.toG (kidsI l0)) (cl l0 a1)).map intsOf := by
  unfold kidsI cNodes GT.canonG
  rw [List.map_map, List.map_map]
  refine List.map_congr_left (fun x hx => ?_)
  exact ren_kids hgood x
theorem toG_canon (hgood : GT.firstBad (kidsI l0) = none) : GT.toG (kidsI (cNodes l0 a1)) = GT.canonG (GT.toG (kidsI l0)) (cl l0 a1) := by
  rw [kidsI_canon hgood]
  unfold GT.toG
  rw [List.map_map]
  conv => rhs; rw [← List.map_id (GT.canonG _ _)]
  refine List.map_congr_left (fun x _ => ?_)
  show (intsOf x).map Int.toNat = x
  unfold intsOf
  rw [List.map_map]
  conv => rhs; rw [← List.map_id x]
  exact List.map_congr_left (fun y _ => by simp)
theorem perm_sum {l l' : List Nat} (h : l.Perm l') : l.sum = l'.sum := by
  induction h with
  | nil => rfl
  | cons x _ ih => rw [List.sum_cons, List.sum_cons, ih]
  | swap x y l => simp only [List.sum_cons]; omega
  | trans _ _ h1 h2 => exact h1.trans h2
theorem sum_canon (hgood : GT.firstBad (kidsI l0) = none) (h : GT.Cn (GT.toG (kidsI l0)) a1.toNat (cl l0 a1)) : ((kidsI (cNodes l0 a1)).map List.length).sum = ((kidsI l0).map List.length).sum := by
  rw [kidsI_canon hgood]
  unfold GT.canonG
  rw [List.map_map, List.map_map]
  have e : (List.length ∘ intsOf) ∘ (fun x => (GT.kids (GT.toG (kidsI l0)) x).map (GT.find (cl l0 a1))) = fun x => (GT.kids (GT.toG (kidsI l0)) x).length := by
    funext x
    simp [intsOf_len]
  rw [e, perm_sum (h.perm.map _), ← GT.edges_toG, ← GT.rest_none]
  unfold GT.rest
  rw [GT.restL_none]
theorem mod_canon (hM : Mod l0) (hc : (checkP l0 a1).1 = 0) : Mod (cNodes l0 a1) := by
  obtain ⟨h0, h1, hgood, hacy, hall⟩ := checkP_zero hM.sum hc
  obtain ⟨h2, _⟩ := cn_of hM.len hM.sum hc
  refine ⟨by rw [cNodes_len h2]; exact hM.len, by rw [sum_canon hgood h2]; exact hM.sum, fun y hy => ?_⟩
  unfold cNodes at hy
  obtain ⟨x, hx, rfl⟩ := List.mem_map.1 hy
  have hxl := h2.lt x hx
  rw [toG_len] at hxl
  have := hM.one (rd_T40 l0 (x : Int)) (by rw [rdT_get hxl]; exact List.getElem_mem _)
  exact this
end
end Go.Proofs.Ytlfjjapndlkamaa.GH
