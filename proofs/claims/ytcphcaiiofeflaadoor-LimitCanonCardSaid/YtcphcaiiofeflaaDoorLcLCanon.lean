/- The plain law of LimitCanon. -/
import Derived.Test.YtcphcaiiofeflaaDoorLcLAwake
import Derived.Test.YtcphcaiiofeflaaDoorLcGrK
import Derived.Test.YtcphcaiiofeflaaDoorLcGLx22
namespace Go.Proofs.YtcphcaiiofeflaaDoor.GL
open Go.RowKit Go.Proofs.YtcphcaiiofeflaaDoorW.PrintWords Go.Proofs.YtcphcaiiofeflaaDoorW.PrintLast Go.Proofs.YtcphcaiiofeflaaDoorW.PrintMore
set_option linter.unusedVariables false
set_option linter.unusedSimpArgs false
/-! The texts of a scene, whatever their order. -/
theorem fold_tells : ∀ (ts m : List ByteArray) (s : Nat), m.Nodup → s = (m.map ByteArray.size).sum → ∃ m' : List ByteArray, (ts.foldl tStep (m, s)).2 = (m'.map ByteArray.size).sum ∧ m'.Nodup ∧ ∀ t, t ∈ m' ↔ t ∈ m ∨ t ∈ ts
  | [], m, s, hn, hs => ⟨m, hs, hn, fun t => by simp⟩
  | t :: ts, m, s, hn, hs => by
    simp only [List.foldl_cons]
    by_cases h : t ∈ m
    · rw [tStep_old h]
      obtain ⟨m', h1, h2, h3⟩ := fold_tells ts m s hn hs
      refine ⟨m', h1, h2, fun u => ?_⟩
      rw [h3 u, List.mem_cons]
      constructor
      · rintro (a | a)
        · exact .inl a
        · exact .inr (.inr a)
      · rintro (a | rfl | a)
        · exact .inl a
        · exact .inl h
        · exact .inr a
    · rw [tStep_new h]
      obtain ⟨m', h1, h2, h3⟩ := fold_tells ts (t :: m) (s + t.size) (List.nodup_cons.2 ⟨h, hn⟩) (by rw [List.map_cons, List.sum_cons, hs]; omega)
      refine ⟨m', h1, h2, fun u => ?_⟩
      rw [h3 u, List.mem_cons, List.mem_cons]
      constructor
      · rintro ((a | a) | a)
        · exact .inr (.inl a)
        · exact .inl a
        · exact .inr (.inr a)
      · rintro (a | a | a)
        · exact .inl (.inr a)
        · exact .inl (.inl a)
        · exact .inr a
theorem textN_same {l m : List (S53)} (h : ∀ t, t ∈ textsOf l ↔ t ∈ textsOf m) : textN l = textN m := by
  obtain ⟨p, h1, h2, h3⟩ := fold_tells (textsOf l) [] 0 List.nodup_nil rfl
  obtain ⟨q, g1, g2, g3⟩ := fold_tells (textsOf m) [] 0 List.nodup_nil rfl
  unfold textN
  rw [h1, g1]
  exact perm_sum (((List.perm_ext_iff_of_nodup h2 g2).2 (fun t => by rw [h3, g3]; simp [h t])).map _)
theorem mem_texts {l : List (S53)} {t : ByteArray} : t ∈ textsOf l ↔ ∃ y ∈ l, t ∈ y.f2 := by
  unfold textsOf
  rw [List.mem_flatMap]
section
variable {l0 : List (S53)} {a1 : Int}
theorem mem_node {y : S53} : y ∈ l0 ↔ ∃ x : Nat, x < l0.length ∧ y = rd_T53 l0 (x : Int) := by
  constructor
  · intro h
    obtain ⟨i, hi, rfl⟩ := List.getElem_of_mem h
    exact ⟨i, hi, (rdT_get hi).symm⟩
  · rintro ⟨x, hx, rfl⟩
    rw [rdT_get hx]
    exact List.getElem_mem _
theorem mem_canon (h : GT.Cn (GT.toG (kidsI l0)) a1.toNat (cl l0 a1)) {y : S53} : y ∈ cNodes l0 a1 ↔ ∃ z ∈ l0, y = renN (tlOf l0 a1) z := by
  have hl := toG_len l0
  unfold cNodes
  rw [List.mem_map]
  constructor
  · rintro ⟨x, hx, rfl⟩
    have := h.lt x hx
    exact ⟨_, mem_node.2 ⟨x, by omega, rfl⟩, rfl⟩
  · rintro ⟨z, hz, rfl⟩
    obtain ⟨x, hx, rfl⟩ := mem_node.1 hz
    exact ⟨x, h.all x (by omega), rfl⟩
theorem renN_len (tl : List Int) (y : S53) : (renN tl y).f3.length = y.f3.length := by unfold renN; simp
theorem fits_canon (h : GT.Cn (GT.toG (kidsI l0)) a1.toNat (cl l0 a1)) (hF : Fits l0) : Fits (cNodes l0 a1) := by
  intro y hy
  obtain ⟨z, hz, rfl⟩ := (mem_canon h).1 hy
  obtain ⟨h1, h2, h3, h4⟩ := hF z hz
  exact ⟨h1, h2, by rw [renN_len]; exact h3, h4⟩
theorem small_canon (h : GT.Cn (GT.toG (kidsI l0)) a1.toNat (cl l0 a1)) (hgood : GT.firstBad (kidsI l0) = none) (hS : Small l0) : Small (cNodes l0 a1) := by
  refine ⟨by rw [cNodes_len h]; exact hS.len, fun i hi => ?_, ?_⟩
  · have hl := toG_len l0
    rw [cNodes_len h] at hi
    rw [cNodes_get h hi, renN_len]
    exact hS.one _ (by have := h.get_lt (i := i) (by omega); omega)
  · have := hS.sum
    unfold restK at this ⊢
    rw [List.drop_zero] at this ⊢
    rw [sum_canon hgood h]
    exact this
theorem text_canon (h : GT.Cn (GT.toG (kidsI l0)) a1.toNat (cl l0 a1)) : textN (cNodes l0 a1) = textN l0 := by
  refine textN_same (fun t => ?_)
  rw [mem_texts, mem_texts]
  constructor
  · rintro ⟨y, hy, ht⟩
    obtain ⟨z, hz, rfl⟩ := (mem_canon h).1 hy
    exact ⟨z, hz, ht⟩
  · rintro ⟨z, hz, ht⟩
    exact ⟨_, (mem_canon h).2 ⟨z, hz, rfl⟩, ht⟩
theorem nodeV_ren (tl : List Int) (y : S53) : nodeV (renN tl y) = nodeV y := by
  unfold nodeV
  rw [show (renN tl y).f0 = y.f0 from rfl, show (renN tl y).f1 = y.f1 from rfl, show (renN tl y).f2 = y.f2 from rfl, chk_kids _ _ _ _ _ _ _ _ (renN_len tl y)]
theorem typed_canon (h : GT.Cn (GT.toG (kidsI l0)) a1.toNat (cl l0 a1)) : (typedFrom (cNodes l0 a1) 0).1 = 0 ↔ (typedFrom l0 0).1 = 0 := by
  rw [typedFrom_zero, typedFrom_zero]
  constructor
  · intro g z hz
    rw [← nodeV_ren (tlOf l0 a1)]
    exact g _ ((mem_canon h).2 ⟨z, hz, rfl⟩)
  · intro g y hy
    obtain ⟨z, hz, rfl⟩ := (mem_canon h).1 hy
    rw [nodeV_ren]
    exact g z hz
theorem H_canon (h : GT.Cn (GT.toG (kidsI l0)) a1.toNat (cl l0 a1)) (hgood : GT.firstBad (kidsI l0) = none) (g0 : 0 ≤ a1) (g1 : a1 < (l0.length : Int)) : H (cNodes l0 a1) ((l0.length : Int) - 1).toNat = H l0 a1.toNat := by
  have hgl := toG_len l0
  have hr := h.ren.ht (GT.wf_of_firstBad hgood) l0.length a1.toNat (by omega)
  rw [h.find_root (by omega)] at hr
  unfold H
  rw [toG_canon hgood, cNodes_len h, show ((l0.length : Int) - 1).toNat = (GT.toG (kidsI l0)).length - 1 by omega, hr]
theorem restK_canon (h : GT.Cn (GT.toG (kidsI l0)) a1.toNat (cl l0 a1)) (hgood : GT.firstBad (kidsI l0) = none) : restK (cNodes l0 a1) 0 = restK l0 0 := by
  unfold restK
  rw [List.drop_zero, List.drop_zero, sum_canon hgood h]
end
theorem limcanon_true (l0 : List (S53)) (a1 b0 b1 b2 b3 b4 : Int) : ∃ k, dioramalaw12_LimitCanon.f k l0 a1 b0 b1 b2 b3 b4 = some true := by
  obtain ⟨Kw, hw⟩ := awake12
  obtain ⟨K, b, h1, h2⟩ := great12 l0 a1
  cases b with
  | true =>
    refine ⟨Kw + K + 1, ?_⟩
    rw [dioramalaw12_LimitCanon.f, hw _ (by omega), Option.bind_some, if_pos rfl, h1 _ (by omega), Option.bind_some, if_pos rfl, dioramalaw12_LimitCanon.j0, if_pos rfl, hw _ (by omega)]
    rfl
  | false =>
    obtain ⟨hS, hF⟩ := h2 rfl
    have hM := mod_of hS
    obtain ⟨K2, h3⟩ := ev_of (f := fun k => dioramaref09_Check.f k l0 a1) (rcheck l0 a1 hM.len hM.sum)
    simp only at h3
    by_cases hc : (checkP l0 a1).1 = 0
    · obtain ⟨h5, _⟩ := cn_of hM.len hM.sum hc
      obtain ⟨g0, g1, hgood, hacy, hall⟩ := checkP_zero hM.sum hc
      have hSC := small_canon h5 hgood hS
      have hFC := fits_canon h5 hF
      have hcc := check_canon hM hc
      have hcl := cNodes_len h5
      obtain ⟨K3, h6⟩ := ev_of (f := fun k => canon_Canon.f k l0 a1) (gcanon (a1 := a1) hM)
      simp only at h6
      obtain ⟨K4, h7⟩ := valid_ev hS hF a1
      obtain ⟨K5, h8⟩ := valid_ev hSC hFC ((l0.length : Int) - 1)
      obtain ⟨K6, h9⟩ := meas_ev hS hF a1
      obtain ⟨K7, h10⟩ := meas_ev hSC hFC ((l0.length : Int) - 1)
      simp only at h9 h10
      have hmd : measD (cNodes l0 a1) ((l0.length : Int) - 1) = measD l0 a1 := by
        unfold measD
        rw [hcc, if_pos rfl, if_pos hc, H_canon h5 hgood g0 g1]
      have hrk := restK_canon h5 hgood
      have htx := text_canon h5
      rw [hcl, hrk, hmd, htx] at h10
      refine ⟨(Kw + K + K2 + K3 + K4 + K5 + K6 + K7) + 1, ?_⟩
      rw [dioramalaw12_LimitCanon.f, hw _ (by omega), Option.bind_some, if_pos rfl, h1 _ (by omega), Option.bind_some, if_neg (by simp), dioramaref09_Right.f, h3 _ (by omega), Option.bind_some, Option.bind_some, hc, dioramalaw12_LimitCanon.j0, if_neg (by simp), h6 _ (by omega), if_pos hc, Option.bind_some, h7 _ (by omega), Option.bind_some]
      simp only
      rw [h8 _ (by omega), Option.bind_some, if_pos trivial, h10 _ (by omega), Option.bind_some, h9 _ (by omega), Option.bind_some]
      simp only
      rw [if_pos (by simp)]
      have hv : (validP l0 a1 b0 b1 b2 b3 b4).1 = (validP (cNodes l0 a1) ((l0.length : Int) - 1) b0 b1 b2 b3 b4).1 ∨ ((validP l0 a1 b0 b1 b2 b3 b4).1 ≠ 0 ∧ (validP l0 a1 b0 b1 b2 b3 b4).1 ≠ 19 ∧ (validP (cNodes l0 a1) ((l0.length : Int) - 1) b0 b1 b2 b3 b4).1 ≠ 0 ∧ (validP (cNodes l0 a1) ((l0.length : Int) - 1) b0 b1 b2 b3 b4).1 ≠ 19) := by
        unfold validP
        rw [hcl, hrk, hmd, htx]
        by_cases hr : rB b0 b1 b2 b3 b4 = true
        · rw [if_pos hr, if_pos hr]
          by_cases ht : (typedFrom l0 0).1 = 0
          · have ht2 := (typed_canon h5).2 ht
            have hcc2 : (checkP (cNodes l0 a1) ((l0.length : Int) - 1)).1 = 0 := by rw [hcc]
            left
            rw [if_pos ht, if_pos ht2, if_pos hc, if_pos hcc2]
          · have ht2 : ¬ (typedFrom (cNodes l0 a1) 0).1 = 0 := fun k => ht ((typed_canon h5).1 k)
            rw [if_neg ht, if_neg ht2]
            right
            simp only
            have c1 := typedFrom_cases l0 0
            have c2 := typedFrom_cases (cNodes l0 a1) 0
            omega
        · rw [if_neg hr, if_neg hr]
          exact .inl rfl
      generalize (validP l0 a1 b0 b1 b2 b3 b4).1 = p at hv ⊢
      generalize (validP (cNodes l0 a1) ((l0.length : Int) - 1) b0 b1 b2 b3 b4).1 = q at hv ⊢
      rcases hv with rfl | ⟨n1, n2, n3, n4⟩
      · simp
      · have e1 : (p == 0) = false := by simpa using n1
        have e2 : (p == 19) = false := by simpa using n2
        have e3 : (q == 0) = false := by simpa using n3
        have e4 : (q == 19) = false := by simpa using n4
        rw [e1, e2, e3, e4]
        rfl
    · refine ⟨(Kw + K + K2) + 1, ?_⟩
      have hb : ((checkP l0 a1).1 == 0) = false := by simpa using hc
      rw [dioramalaw12_LimitCanon.f, hw _ (by omega), Option.bind_some, if_pos rfl, h1 _ (by omega), Option.bind_some, if_neg (by simp), dioramaref09_Right.f, h3 _ (by omega), Option.bind_some, Option.bind_some, hb, dioramalaw12_LimitCanon.j0, if_pos (by rfl), hw _ (by omega)]
      rfl
end Go.Proofs.YtcphcaiiofeflaaDoor.GL
