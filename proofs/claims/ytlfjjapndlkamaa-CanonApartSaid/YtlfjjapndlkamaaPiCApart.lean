/- The plain law of CanonApart. -/
import Derived.Test.YtlfjjapndlkamaaPiGrK
import Derived.Test.YtlfjjapndlkamaaPiGrV
import Derived.Test.YtlfjjapndlkamaaPiGIx13
namespace Go.Proofs.Ytlfjjapndlkamaa.GI
open Go.RowKit Go.Proofs.YtlfjjapndlkamaaW.PrintWords Go.Proofs.YtlfjjapndlkamaaW.PrintLast Go.Proofs.YtlfjjapndlkamaaW.PrintMore
set_option linter.unusedVariables false
set_option linter.unusedSimpArgs false
theorem mem_kid {l : List (S40)} (hgood : GT.firstBad (kidsI l) = none) {i k : Nat} : k ∈ GT.kids (GT.toG (kidsI l)) i ↔ (k : Int) ∈ (rd_T40 l (i : Int)).f3 := by
  rw [kid_ints hgood]
  unfold intsOf
  rw [List.mem_map]
  constructor
  · intro h; exact ⟨k, h, rfl⟩
  · rintro ⟨x, hx, e⟩
    have : x = k := Int.ofNat.inj e
    rwa [← this]
theorem good_kid {l : List (S40)} (hgood : GT.firstBad (kidsI l) = none) {i : Nat} {z : Int} (h : z ∈ (rd_T40 l (i : Int)).f3) : 0 ≤ z ∧ z < (l.length : Int) := by
  rw [kid_ints hgood] at h
  unfold intsOf at h
  obtain ⟨x, hx, rfl⟩ := List.mem_map.1 h
  have := GT.wf_of_firstBad hgood i x hx
  rw [toG_len] at this
  refine ⟨?_, ?_⟩
  · show (0 : Int) ≤ (x : Int)
    omega
  · show (x : Int) < _
    omega
theorem checkP_acyc {l0 : List (S40)} {a1 : Int} (hE : ((kidsI l0).map List.length).sum ≤ 1000000) (h0 : 0 ≤ a1) (h1 : a1 < (l0.length : Int)) (hgood : GT.firstBad (kidsI l0) = none) (hA : GT.Acyc (GT.toG (kidsI l0))) : (checkP l0 a1).1 = 0 ∨ (checkP l0 a1).1 = 15 := by
  have hGl : (GT.toG (kidsI l0)).length = l0.length := by rw [GT.length_toG, kids_len]
  have hc : GT.firstCyc (GT.toG (kidsI l0)) = none := GT.scan_all (fun i _ hi => by
    cases h : GT.cycAt (GT.toG (kidsI l0)) i with
    | false => rfl
    | true => exact absurd ((cycAt_led hgood hE (by omega)).1 h) (hA i))
  unfold checkP
  rw [if_neg (by omega), hgood]
  simp only
  rw [hc]
  simp only
  cases GT.firstLoose (GT.toG (kidsI l0)) a1.toNat with
  | none => exact .inl rfl
  | some i => exact .inr rfl
/-- The scene with a kid made a node of its own. -/
def apartT (l0 : List (S40)) (p q : Nat) (K : Int) : List (S40) :=
  (l0 ++ [rd_T40 l0 K]).set p ⟨(rd_T40 l0 (p : Int)).f0, (rd_T40 l0 (p : Int)).f1, (rd_T40 l0 (p : Int)).f2, ((rd_T40 l0 (p : Int)).f3).set q (l0.length : Int)⟩
section
variable {l0 : List (S40)} {p q : Nat} {K : Int}
theorem apart_len : (apartT l0 p q K).length = l0.length + 1 := by unfold apartT; rw [List.length_set, List.length_append, List.length_singleton]
theorem apart_get {i : Nat} (hi : i ≤ l0.length) (hp : p < l0.length) : rd_T40 (apartT l0 p q K) (i : Int) = if i = p then ⟨(rd_T40 l0 (p : Int)).f0, (rd_T40 l0 (p : Int)).f1, (rd_T40 l0 (p : Int)).f2, ((rd_T40 l0 (p : Int)).f3).set q (l0.length : Int)⟩ else if i = l0.length then rd_T40 l0 K else rd_T40 l0 (i : Int) := by
  have hl : i < (apartT l0 p q K).length := by rw [apart_len]; omega
  rw [rdT_get hl]
  simp only [apartT, List.getElem_set]
  by_cases e : i = p
  · subst e; rw [if_pos rfl, if_pos rfl]
  · rw [if_neg (fun h => e h.symm), if_neg e]
    by_cases e2 : i = l0.length
    · subst e2; rw [if_pos rfl, List.getElem_append_right (Nat.le_refl _)]; simp
    · rw [if_neg e2, List.getElem_append_left (by omega), rdT_get (by omega)]
theorem apart_kids {i : Nat} (hi : i ≤ l0.length) (hp : p < l0.length) {z : Int} (hz : z ∈ (rd_T40 (apartT l0 p q K) (i : Int)).f3) : (i = p ∧ z = (l0.length : Int)) ∨ (i < l0.length ∧ z ∈ (rd_T40 l0 (i : Int)).f3) ∨ (i = l0.length ∧ z ∈ (rd_T40 l0 K).f3) := by
  rw [apart_get hi hp] at hz
  by_cases e : i = p
  · subst e
    rw [if_pos rfl] at hz
    rcases List.mem_or_eq_of_mem_set hz with h | h
    · exact .inr (.inl ⟨hp, h⟩)
    · exact .inl ⟨rfl, h⟩
  · rw [if_neg e] at hz
    by_cases e2 : i = l0.length
    · rw [if_pos e2] at hz; exact .inr (.inr ⟨e2, hz⟩)
    · rw [if_neg e2] at hz; exact .inr (.inl ⟨by omega, hz⟩)
theorem apart_good (hgood : GT.firstBad (kidsI l0) = none) (hp : p < l0.length) (hK0 : 0 ≤ K) : GT.firstBad (kidsI (apartT l0 p q K)) = none := by
  refine firstBad_of (fun l hl k hk => ?_)
  rw [kids_len, apart_len]
  unfold kidsI at hl
  obtain ⟨y, hy, rfl⟩ := List.mem_map.1 hl
  obtain ⟨i, hi, rfl⟩ := List.getElem_of_mem hy
  rw [← rdT_get hi] at hk
  rw [apart_len] at hi
  rcases apart_kids (by omega) hp hk with ⟨_, h⟩ | ⟨_, h⟩ | ⟨_, h⟩
  · omega
  · have := good_kid hgood h; omega
  · obtain ⟨x, rfl⟩ := Int.eq_ofNat_of_zero_le hK0
    have := good_kid hgood h; omega
theorem apart_acyc (hgood : GT.firstBad (kidsI l0) = none) (hp : p < l0.length) {x : Nat} (hxK : K = (x : Int)) (hx : x < l0.length) (hk : K ∈ (rd_T40 l0 (p : Int)).f3) {R : Nat → Nat} (hR : GT.Ranked (GT.toG (kidsI l0)) R) : GT.Acyc (GT.toG (kidsI (apartT l0 p q K))) := by
  have hg2 := apart_good (q := q) hgood hp (K := K) (by omega)
  have hrk : GT.Ranked (GT.toG (kidsI (apartT l0 p q K))) (fun i => if i = l0.length then R x else R i) := by
    intro i k hk2
    have hi := GT.lt_of_kid hk2
    rw [toG_len, apart_len] at hi
    have hm := (mem_kid hg2).1 hk2
    have step : ∀ {i : Nat} {k : Nat}, (k : Int) ∈ (rd_T40 l0 (i : Int)).f3 → R k < R i ∧ k < l0.length := fun h => ⟨hR _ _ ((mem_kid hgood).2 h), by have := good_kid hgood h; omega⟩
    simp only
    rcases apart_kids (by omega) hp hm with ⟨h1, h2⟩ | ⟨h1, h2⟩ | ⟨h1, h2⟩
    · have hkn : k = l0.length := by omega
      subst h1
      rw [if_pos hkn, if_neg (by omega)]
      rw [hxK] at hk
      exact (step hk).1
    · obtain ⟨h3, h4⟩ := step h2
      rw [if_neg (by omega), if_neg (by omega)]
      exact h3
    · rw [hxK] at h2
      obtain ⟨h3, h4⟩ := step h2
      rw [if_neg (by omega), if_pos h1]
      exact h3
  exact hrk.acyc
theorem apart_lens (hp : p < l0.length) : (kidsI (apartT l0 p q K)).map List.length = (kidsI l0).map List.length ++ [((rd_T40 l0 K).f3).length] := by
  unfold kidsI apartT
  rw [List.map_set, List.map_set, List.map_append, List.map_append]
  simp only [List.map_cons, List.map_nil, List.length_set]
  apply List.ext_getElem?
  intro j
  rw [List.getElem?_set]
  by_cases e : p = j
  · subst e
    rw [if_pos rfl, if_pos (by simp; omega), List.getElem?_append_left (by simp; exact hp), List.getElem?_map, List.getElem?_map, List.getElem?_eq_getElem hp, ← rdT_get hp]
    rfl
  · rw [if_neg e]
theorem apart_mod (hS : Small l0) (hp : p < l0.length) {x : Nat} (hxK : K = (x : Int)) (hx : x < l0.length) : Mod (apartT l0 p q K) := by
  have h1 := hS.len
  have h2 := small_sum hS
  have h3 := hS.sum
  unfold restK at h3
  rw [List.drop_zero] at h3
  refine ⟨by rw [apart_len]; omega, ?_, fun y hy => ?_⟩
  · rw [apart_lens hp, List.sum_append]
    have := (hS.one x hx).2.2
    rw [hxK]
    simp
    omega
  · obtain ⟨i, hi, rfl⟩ := List.getElem_of_mem hy
    rw [← rdT_get hi]
    rw [apart_len] at hi
    rw [apart_get (by omega) hp]
    have g1 := hS.one p hp
    have g2 := hS.one x hx
    rw [← hxK] at g2
    split
    · simp only; omega
    · split
      · omega
      · have := hS.one i (by omega); omega
end
theorem apart_true (l0 : List (S40)) (a1 p' q' : Int) : ∃ k, dioramalaw10_CanonApart.f k l0 a1 p' q' = some true := by
  obtain ⟨K, b, h1, h2⟩ := great9 l0 a1
  have hawake : ∀ k, dioramalaw10_awake.f k = some true := fun k => rfl
  have hstop : ∀ k, dioramalaw10_CanonApart.j0 (k + 1) p' q' true l0 a1 = some true := fun k => by rw [dioramalaw10_CanonApart.j0, if_pos rfl, hawake]; rfl
  cases b with
  | true =>
    refine ⟨1 + K, ?_⟩
    rw [dioramalaw10_CanonApart.f, hawake, Option.bind_some, if_pos rfl, h1, Option.bind_some, if_pos rfl, Nat.add_comm 1 K]
    exact hstop _
  | false =>
    have hS := h2 rfl
    have hM := mod_of hS
    have hn := hS.len
    obtain ⟨K3, h4⟩ := rcheck l0 a1 hM.len hM.sum
    have hright : ∀ k, dioramaref09_Right.f (k + K3) l0 a1 = some ((checkP l0 a1).1 == 0) := fun k => by rw [dioramaref09_Right.f, h4, Option.bind_some]
    by_cases hc : (checkP l0 a1).1 = 0
    · have hb : ((checkP l0 a1).1 == 0) = true := by simpa using hc
      rw [hb] at hright
      obtain ⟨h0, h3, hgood, hacy, hall⟩ := checkP_zero hM.sum hc
      by_cases hp : GT.badKid l0.length p' = true
      · refine ⟨(K + K3) + 1, ?_⟩
        have e1 := h1 (K3 + 1)
        have e2 := hright (K + 1)
        rw [show K3 + 1 + K = K + K3 + 1 by omega] at e1
        rw [show K + 1 + K3 = K + K3 + 1 by omega] at e2
        rw [dioramalaw10_CanonApart.f, hawake, Option.bind_some, if_pos rfl, e1, Option.bind_some, if_neg (by simp), e2, Option.bind_some, if_pos rfl, place9, Option.bind_some, hp, if_neg (by simp)]
        exact hstop _
      · rw [Bool.not_eq_true] at hp
        have hp2 := hp
        unfold GT.badKid at hp2
        simp at hp2
        obtain ⟨p, rfl⟩ := Int.eq_ofNat_of_zero_le (show 0 ≤ p' by omega)
        have hpl : p < l0.length := by omega
        have e1 := h1 (K3 + 1)
        have e2 := hright (K + 1)
        rw [show K3 + 1 + K = K + K3 + 1 by omega] at e1
        rw [show K + 1 + K3 = K + K3 + 1 by omega] at e2
        by_cases hq0 : q' < 0
        · refine ⟨(K + K3) + 1, ?_⟩
          rw [dioramalaw10_CanonApart.f, hawake, Option.bind_some, if_pos rfl, e1, Option.bind_some, if_neg (by simp), e2, Option.bind_some, if_pos rfl, place9, Option.bind_some, hp, if_pos (by rfl), if_pos hq0]
          exact hstop _
        · by_cases hq1 : q' ≥ (((rd_T40 l0 (p : Int)).f3).length : Int)
          · refine ⟨(K + K3) + 1, ?_⟩
            rw [dioramalaw10_CanonApart.f, hawake, Option.bind_some, if_pos rfl, e1, Option.bind_some, if_neg (by simp), e2, Option.bind_some, if_pos rfl, place9, Option.bind_some, hp, if_pos (by rfl), if_neg hq0, if_pos (by omega), if_pos (by omega), decide_eq_true hq1]
            exact hstop _
          · obtain ⟨q, rfl⟩ := Int.eq_ofNat_of_zero_le (show 0 ≤ q' by omega)
            obtain ⟨Z, hZ⟩ : ∃ Z, Z = rd ((rd_T40 l0 (p : Int)).f3) (q : Int) := ⟨_, rfl⟩
            have hql : q < ((rd_T40 l0 (p : Int)).f3).length := by omega
            have hZm : Z ∈ (rd_T40 l0 (p : Int)).f3 := by
              rw [hZ, rd_nat, List.getD_eq_getElem?_getD, List.getElem?_eq_getElem hql]
              exact List.getElem_mem _
            have hZb := good_kid hgood hZm
            obtain ⟨x, hx⟩ := Int.eq_ofNat_of_zero_le hZb.1
            have hxl : x < l0.length := by omega
            obtain ⟨h7, _⟩ := cn_of hM.len hM.sum hc
            have hR := h7.post.ranked h7.nodup h7.all
            have hMT := apart_mod (q := q) hS hpl hx hxl
            have hgT := apart_good (q := q) hgood hpl (K := Z) (by omega)
            have hAT := apart_acyc (q := q) hgood hpl hx hxl hZm hR
            have hcode := checkP_acyc hMT.sum (a1 := a1) h0 (by rw [apart_len]; omega) hgT hAT
            obtain ⟨K5, h8⟩ := gcanon (a1 := a1) hM
            obtain ⟨K6, h9⟩ := gcanon (a1 := a1) hMT
            obtain ⟨g1, g2, g3⟩ := hS.one x hxl
            have e3 := copy9 hS a1 (K + K3 + K5 + K6)
            have e4 := h8 (K + K3 + K6 + l0.length + 1)
            have e5 := h9 (K + K3 + K5 + l0.length + 1)
            have e1' := h1 (K3 + K5 + K6 + l0.length + 1 + 1)
            have e2' := hright (K + K5 + K6 + l0.length + 1 + 1)
            rw [show K3 + K5 + K6 + l0.length + 1 + 1 + K = K + K3 + K5 + K6 + l0.length + 1 + 1 by omega] at e1'
            rw [show K + K5 + K6 + l0.length + 1 + 1 + K3 = K + K3 + K5 + K6 + l0.length + 1 + 1 by omega] at e2'
            rw [show K + K3 + K6 + l0.length + 1 + K5 = K + K3 + K5 + K6 + l0.length + 1 by omega, if_pos hc] at e4
            rw [show K + K3 + K5 + l0.length + 1 + K6 = K + K3 + K5 + K6 + l0.length + 1 by omega] at e5
            refine ⟨(K + K3 + K5 + K6 + l0.length + 1) + 1, ?_⟩
            have hpos : 0 < K + K3 + K5 + K6 + l0.length + 1 := by omega
            generalize K + K3 + K5 + K6 + l0.length + 1 = m at *
            have hnode : (⟨(rd_T40 l0 Z).f0, (rd_T40 l0 Z).f1, (rd_T40 l0 Z).f2, (rd_T40 l0 Z).f3⟩ : S40) = rd_T40 l0 Z := rfl
            have hrdp : rd_T40 (l0 ++ [rd_T40 l0 Z]) (p : Int) = rd_T40 l0 (p : Int) := by
              rw [rdT_get (show p < (l0 ++ [rd_T40 l0 Z]).length by simp; omega), List.getElem_append_left hpl, rdT_get hpl]
            rw [dioramalaw10_CanonApart.f, hawake, Option.bind_some, if_pos rfl, e1', Option.bind_some, if_neg (by simp), e2', Option.bind_some, if_pos rfl, place9, Option.bind_some, hp, if_pos (by rfl), if_neg hq0, if_pos (by omega), if_pos (by omega), decide_eq_false hq1, dioramalaw10_CanonApart.j0, if_neg (by simp), e3, Option.bind_some, if_pos (by omega), if_pos (by omega), if_pos (by omega), if_pos (by omega), ← hZ, if_pos hZb.1, if_pos hZb.2, copy8 _ _ _ _ (by rw [hx]; exact g1) (by rw [hx]; exact g2) (by rw [hx]; exact g3), Option.bind_some]
            simp only
            rw [if_pos (by omega), Option.bind_some, hnode, if_pos (by simp; omega), hrdp, if_pos (by omega), e4, Option.bind_some]
            have hT : (l0 ++ [rd_T40 l0 Z]).set (p : Int).toNat ⟨(rd_T40 l0 (p : Int)).f0, (rd_T40 l0 (p : Int)).f1, (rd_T40 l0 (p : Int)).f2, ((rd_T40 l0 (p : Int)).f3).set (q : Int).toNat (wrap64 (((l0 ++ [rd_T40 l0 Z]).length : Int) - 1))⟩ = apartT l0 p q Z := by
              unfold apartT
              rw [Int.toNat_natCast, Int.toNat_natCast, w64 (by first | (simp; done) | (simp; omega)) (by first | (simp; done) | (simp; omega))]
              simp
            rw [hT, e5, Option.bind_some]
            rcases hcode with hz | hz
            · obtain ⟨h10, _⟩ := cn_of hMT.len hMT.sum hz
              rw [if_pos hz]
              simp only
              rw [if_pos trivial, cNodes_len h7, cNodes_len h10, apart_len, if_pos (by rw [w64 (by omega) (by omega)]; omega)]
              obtain ⟨m', rfl⟩ : ∃ m', m = m' + 1 := ⟨m - 1, by omega⟩
              rw [dioramaref09_Same.f, if_neg (by omega), dioramaref09_Same.j0, if_pos rfl]
              rfl
            · have hz0 : ¬ (checkP (apartT l0 p q Z) a1).1 = 0 := by omega
              rw [if_neg hz0]
              simp only
              rw [if_neg hz0, hz]
              rfl
    · refine ⟨(K + K3) + 1, ?_⟩
      have hb : ((checkP l0 a1).1 == 0) = false := by simpa using hc
      rw [hb] at hright
      have e1 := h1 (K3 + 1)
      have e2 := hright (K + 1)
      rw [show K3 + 1 + K = K + K3 + 1 by omega] at e1
      rw [show K + 1 + K3 = K + K3 + 1 by omega] at e2
      rw [dioramalaw10_CanonApart.f, hawake, Option.bind_some, if_pos rfl, e1, Option.bind_some, if_neg (by simp), e2, Option.bind_some, if_neg (by simp)]
      exact hstop _
end Go.Proofs.Ytlfjjapndlkamaa.GI
