/- The reference of layer 10, plain: the canonical order, the places, the canonical scene. -/
import Derived.Test.YtlfjjapndlkamaaPaGrK
import Derived.Test.YtlfjjapndlkamaaPaGAx13
import Derived.Test.YtlfjjapndlkamaaPaGAx13
import Derived.Test.YtlfjjapndlkamaaPaGAx13
import Derived.Test.YtlfjjapndlkamaaPaGAx14
import Derived.Test.YtlfjjapndlkamaaPaGAx15
namespace Go.Proofs.Ytlfjjapndlkamaa.GA
open Go.RowKit Go.Proofs.YtlfjjapndlkamaaW.PrintWords Go.Proofs.YtlfjjapndlkamaaW.PrintLast Go.Proofs.YtlfjjapndlkamaaW.PrintMore
set_option linter.unusedVariables false
set_option linter.unusedSimpArgs false
theorem rd_ints (m : List Nat) {i : Nat} (h : i < m.length) : rd (intsOf m) (i : Int) = ((m[i] : Nat) : Int) := by
  rw [intsOf_get m i h, List.getD_eq_getElem?_getD, List.getElem?_eq_getElem h]; rfl
section
variable {l0 : List (S40)} {a1 : Int}
theorem meet_scan (x : Nat) (m : List Nat) (hm : m.length ≤ 1000000) : ∀ (d i : Nat), i + d = m.length → ∀ k, dioramaref10_meet.l0 (k + d + 1) (x : Int) (intsOf m) (i : Int) l0 a1 = if x ∈ m.drop i then some (intsOf m) else dioramaref10_meet.l1 k (x : Int) (intsOf m) 0 l0 a1 := by
  intro d
  induction d with
  | zero =>
    intro i hi k
    rw [dioramaref10_meet.l0, if_neg (by rw [intsOf_len]; omega), List.drop_of_length_le (by omega), if_neg (by simp)]
  | succ d ih =>
    intro i hi k
    rw [show k + (d + 1) + 1 = (k + d + 1) + 1 by omega, dioramaref10_meet.l0, if_pos (by rw [intsOf_len]; omega), if_pos (by omega), rd_ints m (by omega), List.drop_eq_getElem_cons (show i < m.length by omega)]
    by_cases hc : m[i] = x
    · rw [if_pos (by rw [hc]), if_pos (by rw [hc]; exact List.mem_cons_self ..)]
    · rw [if_neg (by omega), w64 (by omega) (by omega)]
      refine (ih (i + 1) (by omega) k).trans ?_
      have : (x ∈ m[i] :: m.drop (i + 1)) ↔ x ∈ m.drop (i + 1) := by rw [List.mem_cons]; exact ⟨fun h => h.resolve_left (fun e => hc e.symm), .inr⟩
      by_cases h2 : x ∈ m.drop (i + 1)
      · rw [if_pos h2, if_pos (this.2 h2)]
      · rw [if_neg h2, if_neg (fun h => h2 (this.1 h))]
theorem meet_run (hgood : GT.firstBad (kidsI l0) = none) (hn : l0.length ≤ 1000000) (hE : ((kidsI l0).map List.length).sum ≤ 1000000) {R : Nat → Nat} (hR : GT.Ranked (GT.toG (kidsI l0)) R) :
    ∀ (f x : Nat) (m : List Nat), R x < f → x < l0.length → m.Nodup → (∀ y ∈ m, y < l0.length) → ∃ K, ∀ k, dioramaref10_meet.f (k + K) l0 a1 (x : Int) (intsOf m) = some (intsOf (GT.meetL (GT.toG (kidsI l0)) f x m)) := by
  have hW := GT.wf_of_firstBad hgood
  have hGl := toG_len l0
  intro f
  induction f with
  | zero => intro x m h; omega
  | succ f ih =>
    intro x m hf hx hnd hlt
    have hml := GT.length_le_of_nodup hnd hlt
    have hkl : (GT.kids (GT.toG (kidsI l0)) x).length ≤ 1000000 := by
      have := kid_len l0 hE (x : Int)
      rwa [kid_ints hgood, intsOf_len] at this
    by_cases hxm : x ∈ m
    · refine ⟨m.length + 2, fun k => ?_⟩
      have h1 := meet_scan (l0 := l0) (a1 := a1) x m (by omega) m.length 0 (by omega) k
      rw [List.drop_zero, if_pos hxm] at h1
      rw [show k + (m.length + 2) = (k + m.length + 1) + 1 by omega, dioramaref10_meet.f, GT.meetL, if_pos hxm]
      exact h1
    · -- the kids, one by one
      have key : ∀ (d j : Nat) (m' : List Nat), j + d = (GT.kids (GT.toG (kidsI l0)) x).length → m'.Nodup → (∀ y ∈ m', y < l0.length) →
          ∃ K, ∀ k, dioramaref10_meet.l1 (k + K) (x : Int) (intsOf m') (j : Int) l0 a1 = some (intsOf (((GT.kids (GT.toG (kidsI l0)) x).drop j).foldl (fun m k => GT.meetL (GT.toG (kidsI l0)) f k m) m' ++ [x])) := by
        intro d
        induction d with
        | zero =>
          intro j m' hj hnd' hlt'
          have hml' := GT.length_le_of_nodup hnd' hlt'
          refine ⟨1, fun k => ?_⟩
          rw [dioramaref10_meet.l1, if_pos (by omega), if_pos (by omega), kid_ints hgood, if_neg (by rw [intsOf_len]; omega), Option.bind_some, if_pos (by rw [intsOf_len]; simp; omega), List.nil_append, Option.bind_some, if_pos (by rw [intsOf_len]; omega), List.drop_of_length_le (by omega), List.foldl_nil, intsOf_append]
          rfl
        | succ d ih2 =>
          intro j m' hj hnd' hlt'
          have hjl : j < (GT.kids (GT.toG (kidsI l0)) x).length := by omega
          have hmem : (GT.kids (GT.toG (kidsI l0)) x)[j] ∈ GT.kids (GT.toG (kidsI l0)) x := List.getElem_mem _
          have hkn := hW x _ hmem
          have hrk := hR x _ hmem
          rw [hGl] at hkn
          obtain ⟨K1, h1⟩ := ih ((GT.kids (GT.toG (kidsI l0)) x)[j]) m' (by omega) hkn hnd' hlt'
          have hme := (GT.meetL_met hR f ((GT.kids (GT.toG (kidsI l0)) x)[j]) m' (by omega)).1
          have hlt2 := GT.meetL_lt hW f ((GT.kids (GT.toG (kidsI l0)) x)[j]) m' (by omega) (fun y hy => by rw [hGl]; exact hlt' y hy)
          rw [hGl] at hlt2
          obtain ⟨K2, h2⟩ := ih2 (j + 1) _ (by omega) (hme.nodup hnd') hlt2
          refine ⟨K1 + K2 + 1, fun k => ?_⟩
          have h3 := h1 (k + K2)
          have h4 := h2 (k + K1)
          rw [show k + K2 + K1 = k + (K1 + K2) by omega] at h3
          rw [show k + K1 + K2 = k + (K1 + K2) by omega] at h4
          rw [show k + (K1 + K2 + 1) = (k + (K1 + K2)) + 1 by omega, dioramaref10_meet.l1, if_pos (by omega), if_pos (by omega), kid_ints hgood, if_pos (by rw [intsOf_len]; omega), if_pos (by omega), rd_ints _ hjl, h3, Option.bind_some, w64 (by omega) (by omega), List.drop_eq_getElem_cons hjl, List.foldl_cons]
          exact h4
      obtain ⟨K, h1⟩ := key (GT.kids (GT.toG (kidsI l0)) x).length 0 m (by omega) hnd hlt
      refine ⟨K + m.length + 2, fun k => ?_⟩
      have h2 := meet_scan (l0 := l0) (a1 := a1) x m (by omega) m.length 0 (by omega) (k + K)
      rw [List.drop_zero, if_neg hxm] at h2
      have h3 := h1 k
      rw [List.drop_zero] at h3
      rw [show k + (K + m.length + 2) = (k + K + m.length + 1) + 1 by omega, dioramaref10_meet.f, GT.meetL, if_neg hxm]
      exact h2.trans h3
/-- dioramaref10.Order, of a scene that is right. -/
theorem rorder (hn : l0.length ≤ 1000000) (hE : ((kidsI l0).map List.length).sum ≤ 1000000) (hc : (checkP l0 a1).1 = 0) : ∃ K, ∀ k, dioramaref10_Order.f (k + K) l0 a1 = some (intsOf (cl l0 a1)) := by
  obtain ⟨h0, h1, hgood, hacy, hall⟩ := checkP_zero hE hc
  obtain ⟨h2, _⟩ := cn_of hn hE hc
  have hR := h2.post.ranked h2.nodup h2.all
  have hGl := toG_len l0
  have hr : a1.toNat < (GT.toG (kidsI l0)).length := by omega
  have hf := h2.find_lt hr
  obtain ⟨K, h3⟩ := meet_run (a1 := a1) hgood hn hE hR l0.length a1.toNat [] (by rw [← hGl]; exact hf) (by omega) List.nodup_nil (fun y h => (List.not_mem_nil h).elim)
  refine ⟨K, fun k => ?_⟩
  have h4 := h3 k
  rw [show ((a1.toNat : Nat) : Int) = a1 by omega] at h4
  have h5 : dioramaref10_meet.f (k + K) l0 a1 a1 ([] : List Int) = some (intsOf (cl l0 a1)) := h4
  rw [dioramaref10_Order.f, h5, Option.bind_some]
theorem find_run (m : List Nat) (hm : m.length ≤ 1000000) (x : Nat) : ∀ (d i : Nat), i + d = m.length → (∀ j (h : j < m.length), j < i → m[j] ≠ x) → ∀ k, dioramaref10_Find.l0 (k + d + 1) (intsOf m) (x : Int) (i : Int) = some (if x ∈ m then (GT.find m x : Int) else -1) := by
  intro d
  induction d with
  | zero =>
    intro i hi hno k
    have : ¬ x ∈ m := fun h => by
      obtain ⟨j, hj, e⟩ := List.getElem_of_mem h
      exact hno j hj (by omega) e
    rw [dioramaref10_Find.l0, if_neg (by rw [intsOf_len]; omega), if_neg this]
  | succ d ih =>
    intro i hi hno k
    rw [show k + (d + 1) + 1 = (k + d + 1) + 1 by omega, dioramaref10_Find.l0, if_pos (by rw [intsOf_len]; omega), if_pos (by omega), rd_ints m (by omega)]
    by_cases hc : m[i] = x
    · have hmem : x ∈ m := by rw [← hc]; exact List.getElem_mem _
      rw [if_pos (by rw [hc]), if_pos hmem]
      have hfi : GT.find m x = i := by
        have hno2 : ¬ x ∈ m.take i := fun h => by
          obtain ⟨j, hj, e⟩ := List.getElem_of_mem h
          rw [List.getElem_take] at e
          rw [List.length_take] at hj
          exact hno j (by omega) (by omega) e
        have e2 : m = m.take i ++ (x :: m.drop (i + 1)) := by
          conv => lhs; rw [← List.take_append_drop i m, List.drop_eq_getElem_cons (show i < m.length by omega), hc]
        unfold GT.find
        conv => lhs; rw [e2]
        rw [List.idxOf_append, if_neg hno2, List.idxOf_cons_self, List.length_take]
        omega
      congr 1
      omega
    · rw [if_neg (by omega), w64 (by omega) (by omega)]
      exact ih (i + 1) (by omega) (fun j hj hji => by
        by_cases e : j = i
        · subst e; exact hc
        · exact hno j hj (by omega)) k
theorem rfind (m : List Nat) (hm : m.length ≤ 1000000) (x : Nat) (k : Nat) : dioramaref10_Find.f (k + m.length + 1) (intsOf m) (x : Int) = some (if x ∈ m then (GT.find m x : Int) else -1) := by
  unfold dioramaref10_Find.f
  exact find_run m hm x m.length 0 (by omega) (fun j hj h => by omega) k
theorem rnumbers_run (h : GT.Cn (GT.toG (kidsI l0)) a1.toNat (cl l0 a1)) (hn : l0.length ≤ 1000000) : ∀ (d i : Nat), i + d = l0.length → ∀ k, dioramaref10_Numbers.l0 (k + l0.length + 1 + d + 1) (intsOf (cl l0 a1)) ((tlOf l0 a1).take i) (i : Int) l0 a1 = some (tlOf l0 a1) := by
  have hl : (cl l0 a1).length = l0.length := by rw [h.len, toG_len]
  have ht := tl_len l0 a1
  intro d
  induction d with
  | zero =>
    intro i hi k
    rw [dioramaref10_Numbers.l0, if_neg (by omega), List.take_of_length_le (by omega)]
  | succ d ih =>
    intro i hi k
    have h1 := rfind (cl l0 a1) (by omega) i (k + d + 1)
    rw [if_pos (h.all i (by rw [toG_len]; omega)), hl] at h1
    have h2 : (tlOf l0 a1).take i ++ [(GT.find (cl l0 a1) i : Int)] = (tlOf l0 a1).take (i + 1) := by
      rw [List.take_succ_eq_append_getElem (by omega)]
      have h3 := tl_get (a1 := a1) (x := i) (show i < l0.length by omega)
      rw [List.getD_eq_getElem?_getD, List.getElem?_eq_getElem (by omega), Option.getD_some] at h3
      rw [h3]
    rw [show k + l0.length + 1 + (d + 1) + 1 = (k + l0.length + 1 + d + 1) + 1 by omega, dioramaref10_Numbers.l0, if_pos (by omega), show k + l0.length + 1 + d + 1 = k + d + 1 + l0.length + 1 by omega, h1, Option.bind_some, if_pos (by rw [List.length_take]; omega), h2, w64 (by omega) (by omega), show k + d + 1 + l0.length + 1 = k + l0.length + 1 + d + 1 by omega]
    exact ih (i + 1) (by omega) k
/-- dioramaref10.Numbers, of a scene that is right. -/
theorem rnumbers (hn : l0.length ≤ 1000000) (hE : ((kidsI l0).map List.length).sum ≤ 1000000) (hc : (checkP l0 a1).1 = 0) : ∃ K, ∀ k, dioramaref10_Numbers.f (k + K) l0 a1 = some (tlOf l0 a1) := by
  obtain ⟨K, h1⟩ := rorder hn hE hc
  obtain ⟨h2, _⟩ := cn_of hn hE hc
  refine ⟨K + l0.length + 1 + l0.length + 1, fun k => ?_⟩
  have h3 := h1 (k + l0.length + 1 + l0.length + 1)
  rw [show k + l0.length + 1 + l0.length + 1 + K = k + (K + l0.length + 1 + l0.length + 1) by omega] at h3
  have h4 := rnumbers_run h2 hn l0.length 0 (by omega) (k + K)
  rw [List.take_zero, show k + K + l0.length + 1 + l0.length + 1 = k + (K + l0.length + 1 + l0.length + 1) by omega] at h4
  rw [dioramaref10_Numbers.f, h3, Option.bind_some]
  exact h4
theorem rcanon_kids (h : GT.Cn (GT.toG (kidsI l0)) a1.toNat (cl l0 a1)) (hgood : GT.firstBad (kidsI l0) = none) (hn : l0.length ≤ 1000000) {x : Nat} (hx : x < l0.length) (hkl : ((rd_T40 l0 (x : Int)).f3).length ≤ 1000000) (i5 : Int) (acc : List (S40)) (hacc : acc.length ≤ 1000000) (b1 n0 : Int) (n1 : List Int) (n2 : List ByteArray) :
    ∀ (d j : Nat) (n3 : List Int), j + d = ((rd_T40 l0 (x : Int)).f3).length → n3 = (renN (tlOf l0 a1) (rd_T40 l0 (x : Int))).f3.take j ++ ((rd_T40 l0 (x : Int)).f3).drop j →
    ∀ k, dioramaref10_Canon.l1 (k + l0.length + 1 + d + 1) (intsOf (cl l0 a1)) i5 (j : Int) l0 a1 acc b1 n0 n1 n2 n3 = dioramaref10_Canon.l0 (k + l0.length + 1) (intsOf (cl l0 a1)) (wrap64 (i5 + 1)) l0 a1 (acc ++ [⟨n0, n1, n2, (renN (tlOf l0 a1) (rd_T40 l0 (x : Int))).f3⟩]) b1 := by
  have hl : (cl l0 a1).length = l0.length := by rw [h.len, toG_len]
  have hrl : (renN (tlOf l0 a1) (rd_T40 l0 (x : Int))).f3.length = ((rd_T40 l0 (x : Int)).f3).length := by simp [renN]
  have hrk := ren_kids (a1 := a1) hgood x
  intro d
  induction d with
  | zero =>
    intro j n3 hj e k
    have e2 : n3 = (renN (tlOf l0 a1) (rd_T40 l0 (x : Int))).f3 := by rw [e, List.take_of_length_le (by omega), List.drop_of_length_le (by omega), List.append_nil]
    rw [dioramaref10_Canon.l1, if_neg (by rw [e2]; omega), if_pos (by omega), e2]
  | succ d ih =>
    intro j n3 hj e k
    have hjl : j < (GT.kids (GT.toG (kidsI l0)) x).length := by rw [kid_ints hgood, intsOf_len] at hj; omega
    have hn3 : n3.length = ((rd_T40 l0 (x : Int)).f3).length := by rw [e, List.length_append, List.length_take, List.length_drop, hrl]; omega
    have hrd : rd n3 (j : Int) = (((GT.kids (GT.toG (kidsI l0)) x)[j] : Nat) : Int) := by
      rw [rd_nat, e, List.getD_eq_getElem?_getD, List.getElem?_append_right (by rw [List.length_take, hrl]; omega), List.length_take, hrl, Nat.min_eq_left (by omega), Nat.sub_self, List.getElem?_drop, Nat.add_zero, kid_ints hgood]
      unfold intsOf
      rw [List.getElem?_map, List.getElem?_eq_getElem hjl]
      rfl
    have hkn := GT.wf_of_firstBad hgood x _ (List.getElem_mem hjl)
    have h1 := rfind (cl l0 a1) (by omega) ((GT.kids (GT.toG (kidsI l0)) x)[j]) (k + d + 1)
    rw [if_pos (h.all _ hkn), hl] at h1
    rw [show k + l0.length + 1 + (d + 1) + 1 = (k + d + 1 + l0.length + 1) + 1 by omega, dioramaref10_Canon.l1, if_pos (by omega), if_pos (by omega), hrd, h1, Option.bind_some, w64 (by omega) (by omega), show k + d + 1 + l0.length + 1 = k + l0.length + 1 + d + 1 by omega]
    refine ih (j + 1) _ (by omega) ?_ k
    rw [Int.toNat_natCast, e]
    apply List.ext_getElem?
    intro q
    have hren : ((renN (tlOf l0 a1) (rd_T40 l0 (x : Int))).f3)[j]? = some (GT.find (cl l0 a1) ((GT.kids (GT.toG (kidsI l0)) x)[j]) : Int) := by
      rw [hrk]
      unfold intsOf
      rw [List.getElem?_map, List.getElem?_map, List.getElem?_eq_getElem hjl]
      rfl
    have hlen1 : ((renN (tlOf l0 a1) (rd_T40 l0 (x : Int))).f3.take j).length = j := by rw [List.length_take, hrl]; omega
    have hlen2 : ((renN (tlOf l0 a1) (rd_T40 l0 (x : Int))).f3.take (j + 1)).length = j + 1 := by rw [List.length_take, hrl]; omega
    rw [List.getElem?_set]
    by_cases hq : j = q
    · subst hq
      rw [if_pos rfl, if_pos (by rw [List.length_append, hlen1, List.length_drop]; omega), List.getElem?_append_left (by omega), List.getElem?_take_of_lt (by omega), hren]
    · rw [if_neg hq]
      by_cases hq2 : q < j
      · rw [List.getElem?_append_left (by omega), List.getElem?_append_left (by omega), List.getElem?_take_of_lt hq2, List.getElem?_take_of_lt (by omega)]
      · rw [List.getElem?_append_right (by omega), List.getElem?_append_right (by omega), hlen1, hlen2, List.getElem?_drop, List.getElem?_drop]
        congr 1
        omega
theorem rcanon_run (hS : Small l0) (h : GT.Cn (GT.toG (kidsI l0)) a1.toNat (cl l0 a1)) (hgood : GT.firstBad (kidsI l0) = none) (b1 : Int) : ∀ (d i : Nat), i + d = l0.length → ∀ k, dioramaref10_Canon.l0 (k + 400 * d + l0.length + 2) (intsOf (cl l0 a1)) (i : Int) l0 a1 ((cNodes l0 a1).take i) b1 = some (cNodes l0 a1, b1) := by
  have hl : (cl l0 a1).length = l0.length := by rw [h.len, toG_len]
  have hcl := cNodes_len h
  have h60 := hS.len
  intro d
  induction d with
  | zero =>
    intro i hi k
    rw [show k + 400 * 0 + l0.length + 2 = (k + l0.length + 1) + 1 by omega, dioramaref10_Canon.l0, if_neg (by rw [intsOf_len]; omega), List.take_of_length_le (by omega)]
  | succ d ih =>
    intro i hi k
    have hgl : (cl l0 a1).getD i 0 < l0.length := by have := h.get_lt (i := i) (by rw [toG_len]; omega); rwa [toG_len] at this
    obtain ⟨x, hx⟩ : ∃ x, x = (cl l0 a1).getD i 0 := ⟨_, rfl⟩
    rw [← hx] at hgl
    obtain ⟨g1, g2, g3⟩ := hS.one x hgl
    have hcg := cNodes_get h (i := i) (by omega)
    rw [← hx] at hcg
    have h5 := rcanon_kids h hgood (by omega) hgl (by omega) (i : Int) ((cNodes l0 a1).take i) (by rw [List.length_take]; omega) b1 (rd_T40 l0 (x : Int)).f0 (rd_T40 l0 (x : Int)).f1 (rd_T40 l0 (x : Int)).f2 ((rd_T40 l0 (x : Int)).f3).length 0 (rd_T40 l0 (x : Int)).f3 (by omega) (by simp) (k + 400 * d + (399 - ((rd_T40 l0 (x : Int)).f3).length))
    have htk : (cNodes l0 a1).take i ++ [⟨(rd_T40 l0 (x : Int)).f0, (rd_T40 l0 (x : Int)).f1, (rd_T40 l0 (x : Int)).f2, (renN (tlOf l0 a1) (rd_T40 l0 (x : Int))).f3⟩] = (cNodes l0 a1).take (i + 1) := by
      rw [List.take_succ_eq_append_getElem (by omega), ← rdT_get (show i < (cNodes l0 a1).length by omega), hcg]
      rfl
    rw [htk, w64 (by omega) (by omega)] at h5
    rw [show k + 400 * (d + 1) + l0.length + 2 = (k + 400 * d + (399 - ((rd_T40 l0 (x : Int)).f3).length) + l0.length + 1 + ((rd_T40 l0 (x : Int)).f3).length + 1) + 1 by omega, dioramaref10_Canon.l0, if_pos (by rw [intsOf_len]; omega), if_pos (by omega), intsOf_get _ _ (by omega), ← hx, if_pos (by omega), if_pos (by omega), copy8 _ _ _ _ g1 g2 g3, Option.bind_some]
    refine h5.trans ?_
    have h6 := ih (i + 1) (by omega) (k + (398 - ((rd_T40 l0 (x : Int)).f3).length))
    rw [show k + (398 - ((rd_T40 l0 (x : Int)).f3).length) + 400 * d + l0.length + 2 = k + 400 * d + (399 - ((rd_T40 l0 (x : Int)).f3).length) + l0.length + 1 by omega] at h6
    exact h6
/-- dioramaref10.Canon, of a scene that is right. -/
theorem rcanon (hS : Small l0) (hc : (checkP l0 a1).1 = 0) : ∃ K, ∀ k, dioramaref10_Canon.f (k + K) l0 a1 = some (cNodes l0 a1, (l0.length : Int) - 1) := by
  have hn := small_len hS
  have hE := small_sum hS
  obtain ⟨K, h1⟩ := rorder hn hE hc
  obtain ⟨h2, _⟩ := cn_of hn hE hc
  obtain ⟨h0, h3, hgood, _, _⟩ := checkP_zero hE hc
  have hl : (cl l0 a1).length = l0.length := by rw [h2.len, toG_len]
  refine ⟨K + 400 * l0.length + l0.length + 2, fun k => ?_⟩
  have h4 := h1 (k + 400 * l0.length + l0.length + 2)
  rw [show k + 400 * l0.length + l0.length + 2 + K = k + (K + 400 * l0.length + l0.length + 2) by omega] at h4
  have h5 := rcanon_run hS h2 hgood ((l0.length : Int) - 1) l0.length 0 (by omega) (k + K)
  rw [List.take_zero, show k + K + 400 * l0.length + l0.length + 2 = k + (K + 400 * l0.length + l0.length + 2) by omega] at h5
  rw [dioramaref10_Canon.f, h4, Option.bind_some, intsOf_len, hl, w64 (by omega) (by omega)]
  exact h5
end
end Go.Proofs.Ytlfjjapndlkamaa.GA
