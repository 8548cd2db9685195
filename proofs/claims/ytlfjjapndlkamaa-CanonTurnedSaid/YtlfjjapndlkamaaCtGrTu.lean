/- A turned scene, plain (as in the claim of GraphTurned, without its law). -/
import Derived.Test.YtlfjjapndlkamaaCtGrV
import Derived.Test.YtlfjjapndlkamaaCtGrD
import Derived.Test.YtlfjjapndlkamaaCtGHx13
namespace Go.Proofs.Ytlfjjapndlkamaa.GH
open Go.RowKit Go.Proofs.YtlfjjapndlkamaaW.PrintWords Go.Proofs.YtlfjjapndlkamaaW.PrintLast Go.Proofs.YtlfjjapndlkamaaW.PrintMore
set_option linter.unusedVariables false
set_option linter.unusedSimpArgs false
def gk (n : Nat) (k : Int) : Int := wrap64 ((n : Int) - 1 - k)
def gN (n : Nat) (y : S40) : S40 := ⟨y.f0, y.f1, y.f2, y.f3.map (gk n)⟩
def turnL (l0 : List (S40)) : List (S40) := l0.reverse.map (gN l0.length)
theorem turn_l1 {n : Nat} (hn : n ≤ 1000000) {i : Nat} (hi : i < n) (l0 : List (S40)) (a1 : Int) (out : List (S40)) (hout : out.length ≤ 1000000) (r f0 : Int) (f1 : List Int) (f2 : List ByteArray) (ks0 : List Int) (hks : ks0.length ≤ 1000000) :
    ∀ (e t : Nat) (ks : List Int), t + e = ks0.length → ks = (ks0.take t).map (gk n) ++ ks0.drop t → ∀ k, dioramaref09_Turn.l1 (k + e + 1) (n : Int) (i : Int) (t : Int) l0 a1 out r f0 f1 f2 ks = dioramaref09_Turn.l0 k (n : Int) ((i : Int) - 1) l0 a1 (out ++ [⟨f0, f1, f2, ks0.map (gk n)⟩]) r := by
  intro e
  induction e with
  | zero =>
    intro t ks ht hk k
    rw [List.take_of_length_le (by omega), List.drop_of_length_le (by omega), List.append_nil] at hk
    subst hk
    rw [dioramaref09_Turn.l1, if_neg (by rw [List.length_map]; omega), if_pos (by omega), w64 (by omega) (by omega)]
  | succ e ih =>
    intro t ks ht hk k
    have htl : t < ks0.length := by omega
    have hl : ks.length = ks0.length := by rw [hk]; simp; omega
    have hg : ks.getD t 0 = ks0[t] := by
      rw [hk, List.getD_eq_getElem?_getD, List.getElem?_append_right (by simp; omega)]
      simp [Nat.min_eq_left (Nat.le_of_lt htl), htl]
    rw [show k + (e + 1) + 1 = (k + e + 1) + 1 by omega, dioramaref09_Turn.l1, if_pos (by omega), if_pos (by omega), w64 (n := (t : Int) + 1) (by omega) (by omega), rd_nat, hg, Int.toNat_natCast, w64 (n := (n : Int) - 1) (by omega) (by omega)]
    refine ih (t + 1) _ (by omega) ?_ k
    rw [hk, List.set_append_right _ _ (by simp; omega), List.take_succ_eq_append_getElem htl, List.map_append, List.append_assoc, List.drop_eq_getElem_cons htl]
    have h0 : t - (List.map (gk n) (List.take t ks0)).length = 0 := by simp; omega
    rw [h0, List.set_cons_zero, List.map_cons, List.map_nil, List.singleton_append]
    rfl
theorem turn_l0 {l0 : List (S40)} (hS : Small l0) (a1 r : Int) : ∀ (i : Nat) (out : List (S40)), i ≤ l0.length → out.length + i = l0.length → ∃ K, ∀ k, dioramaref09_Turn.l0 (k + K) (l0.length : Int) ((i : Int) - 1) l0 a1 out r = some (out ++ (l0.take i).reverse.map (gN l0.length), r) := by
  have hl := hS.len
  intro i
  induction i with
  | zero =>
    intro out hi ho
    refine ⟨1, fun k => ?_⟩
    rw [dioramaref09_Turn.l0, if_neg (by omega)]
    simp
  | succ i ih =>
    intro out hi ho
    obtain ⟨h1, h2, h3⟩ := hS.one i (by omega)
    obtain ⟨K, h4⟩ := ih (out ++ [gN l0.length (rd_T40 l0 (i : Int))]) (by omega) (by rw [List.length_append]; simp; omega)
    refine ⟨K + ((rd_T40 l0 (i : Int)).f3).length + 1 + 1, fun k => ?_⟩
    have h5 := turn_l1 (n := l0.length) (by omega) (i := i) (by omega) l0 a1 out (by omega) r (rd_T40 l0 (i : Int)).f0 (rd_T40 l0 (i : Int)).f1 (rd_T40 l0 (i : Int)).f2 (rd_T40 l0 (i : Int)).f3 (by omega) ((rd_T40 l0 (i : Int)).f3).length 0 _ (by omega) rfl (k + K)
    rw [List.take_zero, List.map_nil, List.nil_append, List.drop_zero] at h5
    rw [show k + (K + ((rd_T40 l0 (i : Int)).f3).length + 1 + 1) = (k + K + ((rd_T40 l0 (i : Int)).f3).length + 1) + 1 by omega, show (((i + 1 : Nat) : Int) - 1) = (i : Int) by omega, dioramaref09_Turn.l0, if_pos (by omega), if_pos (by omega), if_pos (by omega), copy8 _ _ _ _ h1 h2 h3, Option.bind_some]
    refine h5.trans ?_
    refine (h4 k).trans ?_
    rw [List.take_succ_eq_append_getElem (show i < l0.length by omega), List.reverse_append, List.map_append, ← rdT_get (show i < l0.length by omega), List.append_assoc]
    rfl
theorem turn9 {l0 : List (S40)} (hS : Small l0) (a1 : Int) : ∃ K, ∀ k, dioramaref09_Turn.f (k + K) l0 a1 = some (turnL l0, gk l0.length a1) := by
  have hl := hS.len
  obtain ⟨K, h⟩ := turn_l0 hS a1 (gk l0.length a1) l0.length [] (Nat.le_refl _) (by simp)
  refine ⟨K, fun k => ?_⟩
  rw [dioramaref09_Turn.f, w64 (n := (l0.length : Int) - 1) (by omega) (by omega)]
  refine (h k).trans ?_
  rw [List.take_length, List.nil_append]
  rfl
theorem turn_len (l0 : List (S40)) : (turnL l0).length = l0.length := by unfold turnL; simp
theorem turn_kids (l0 : List (S40)) : kidsI (turnL l0) = (kidsI l0).reverse.map (·.map (gk l0.length)) := by
  unfold kidsI turnL
  rw [List.map_map, ← List.map_reverse, List.map_map]
  rfl
theorem gk_bad {n : Nat} (hn : n ≤ 60) {k : Int} (h1 : -9223372036854775808 ≤ k) (h2 : k ≤ 9223372036854775807) : (0 ≤ gk n k ∧ gk n k < n) ↔ (0 ≤ k ∧ k < n) := by unfold gk wrap64; omega
theorem gk_good {n : Nat} (hn : n ≤ 60) {k : Int} (h1 : 0 ≤ k) (h2 : k < n) : gk n k = n - 1 - k := by unfold gk wrap64; omega
theorem good_iff (K : List (List Int)) : GT.firstBad K = none ↔ ∀ l ∈ K, ∀ k ∈ l, 0 ≤ k ∧ k < (K.length : Int) := by
  unfold GT.firstBad
  rw [List.findIdx?_eq_none_iff]
  refine forall_congr' fun l => forall_congr' fun _ => ?_
  rw [List.any_eq_false]
  refine forall_congr' fun k => forall_congr' fun _ => ?_
  rw [Bool.not_eq_true, bad_in2]
where bad_in2 {n : Nat} {v : Int} : GT.badKid n v = false ↔ 0 ≤ v ∧ v < n := by unfold GT.badKid; simp
theorem turn_sum (l0 : List (S40)) : ((kidsI (turnL l0)).map List.length).sum = ((kidsI l0).map List.length).sum := by
  rw [turn_kids, List.map_map, List.map_reverse, List.sum_reverse]
  congr 1
  exact List.map_congr_left (fun l _ => by simp)
/-- Turned, a graph is renumbered. -/
theorem turn_ren {l0 : List (S40)} (hn : l0.length ≤ 60) (hgood : GT.firstBad (kidsI l0) = none) : GT.Ren (GT.toG (kidsI l0)) (GT.toG (kidsI (turnL l0))) (fun i => l0.length - 1 - i) := by
  have hGl : (GT.toG (kidsI l0)).length = l0.length := by rw [GT.length_toG, kids_len]
  refine ⟨by rw [GT.length_toG, kids_len, turn_len, hGl], fun i hi => by omega, fun i j hi hj h => by omega, fun i hi => ?_⟩
  have hi2 : i < (kidsI l0).length := by rw [kids_len]; omega
  rw [GT.kids_toG, GT.kids_toG, turn_kids, List.map_map]
  have hrow : ((kidsI l0).reverse.map (·.map (gk l0.length))).getD (l0.length - 1 - i) [] = ((kidsI l0).getD i []).map (gk l0.length) := by
    rw [List.getD_eq_getElem?_getD, List.getElem?_map, List.getElem?_reverse (by rw [kids_len]; omega), kids_len, show l0.length - 1 - (l0.length - 1 - i) = i by omega, List.getElem?_eq_getElem hi2, List.getD_eq_getElem?_getD, List.getElem?_eq_getElem hi2]
    rfl
  rw [hrow, List.map_map]
  refine List.map_congr_left fun k hk => ?_
  have h := GT.good_of_firstBad hgood hk
  rw [kids_len] at h
  show (gk l0.length k).toNat = l0.length - 1 - k.toNat
  rw [gk_good hn h.1 h.2]
  omega
theorem ren_back {G G' : List (List Nat)} {n : Nat} (h : GT.Ren G G' (fun i => n - 1 - i)) (hn : G.length = n) (hW : GT.Wf G) : GT.Ren G' G (fun i => n - 1 - i) := by
  have hl := h.len
  refine ⟨h.len.symm, fun i hi => by omega, fun i j hi hj e => by omega, fun i hi => ?_⟩
  have h2 := h.kids (n - 1 - i) (by omega)
  rw [show n - 1 - (n - 1 - i) = i by omega] at h2
  rw [h2, List.map_map]
  conv => lhs; rw [← List.map_id (GT.kids G (n - 1 - i))]
  refine List.map_congr_left fun k hk => ?_
  have := hW _ _ hk
  show k = n - 1 - (n - 1 - k)
  omega
theorem ren_led {G G' : List (List Nat)} {s : Nat → Nat} (h : GT.Ren G G' s) (hW : GT.Wf G) {x y : Nat} (hx : x < G.length) (p : GT.Led G x y) : GT.Led G' (s x) (s y) := by
  obtain ⟨k, hk, q⟩ := p
  exact ⟨s k, by rw [h.kids x hx]; exact List.mem_map.2 ⟨k, hk, rfl⟩, h.path hW (hW x k hk) q⟩
theorem cyc_none {l0 : List (S40)} (hgood : GT.firstBad (kidsI l0) = none) (hE : ((kidsI l0).map List.length).sum ≤ 1000000) : GT.firstCyc (GT.toG (kidsI l0)) = none ↔ ∀ i, i < l0.length → ¬ GT.Led (GT.toG (kidsI l0)) i i := by
  have hGl : (GT.toG (kidsI l0)).length = l0.length := by rw [GT.length_toG, kids_len]
  constructor
  · intro h i hi hl
    have := GT.scan_none h i (by omega) (by omega)
    rw [(cycAt_led hgood hE hi).2 hl] at this
    cases this
  · intro h
    cases hc : GT.firstCyc (GT.toG (kidsI l0)) with
    | none => rfl
    | some i =>
      obtain ⟨_, h2, h3, _⟩ := GT.scan_some hc
      exact absurd ((cycAt_led hgood hE (by omega)).1 h3) (h i (by omega))
theorem loose_none {l0 : List (S40)} (hgood : GT.firstBad (kidsI l0) = none) (hE : ((kidsI l0).map List.length).sum ≤ 1000000) {r : Nat} (hr : r < l0.length) : GT.firstLoose (GT.toG (kidsI l0)) r = none ↔ ∀ i, i < l0.length → i = r ∨ GT.Led (GT.toG (kidsI l0)) r i := by
  have hGl : (GT.toG (kidsI l0)).length = l0.length := by rw [GT.length_toG, kids_len]
  constructor
  · intro h i hi
    have := GT.scan_none h i (by omega) (by omega)
    apply Classical.byContradiction
    intro hn
    rw [(looseAt_led hgood hE hr i).2 hn] at this
    cases this
  · intro h
    cases hc : GT.firstLoose (GT.toG (kidsI l0)) r with
    | none => rfl
    | some i =>
      obtain ⟨_, h2, h3, _⟩ := GT.scan_some hc
      exact absurd (h i (by omega)) ((looseAt_led hgood hE hr i).1 h3)
theorem turn_wf {l0 : List (S40)} (hn : l0.length ≤ 60) (hk : ∀ x ∈ l0, ∀ z ∈ x.f3, -9223372036854775808 ≤ z ∧ z ≤ 9223372036854775807) : GT.firstBad (kidsI (turnL l0)) = none ↔ GT.firstBad (kidsI l0) = none := by
  rw [good_iff, good_iff, turn_kids, List.length_map, List.length_reverse, kids_len]
  have hb : ∀ l ∈ kidsI l0, ∀ k ∈ l, (0 ≤ gk l0.length k ∧ gk l0.length k < l0.length) ↔ (0 ≤ k ∧ k < (l0.length : Int)) := by
    intro l hl k hkl
    obtain ⟨x, hx, rfl⟩ := List.mem_map.1 hl
    exact gk_bad hn (hk x hx k hkl).1 (hk x hx k hkl).2
  constructor
  · intro h l hl k hkl
    exact (hb l hl k hkl).1 (h _ (List.mem_map.2 ⟨l, List.mem_reverse.2 hl, rfl⟩) _ (List.mem_map.2 ⟨k, hkl, rfl⟩))
  · intro h l hl k hkl
    obtain ⟨l', hl', rfl⟩ := List.mem_map.1 hl
    obtain ⟨k', hk', rfl⟩ := List.mem_map.1 hkl
    rw [List.mem_reverse] at hl'
    exact (hb l' hl' k' hk').2 (h l' hl' k' hk')
/-- A turned scene is as right, and as deep. -/
theorem turn_code {l0 : List (S40)} (hn : l0.length ≤ 60) (hE : ((kidsI l0).map List.length).sum ≤ 1000000) (hk : ∀ x ∈ l0, ∀ z ∈ x.f3, -9223372036854775808 ≤ z ∧ z ≤ 9223372036854775807) {a1 : Int} (ha : -9223372036854775808 ≤ a1 ∧ a1 ≤ 9223372036854775807) :
    (checkP (turnL l0) (gk l0.length a1)).1 = (checkP l0 a1).1 ∧ ((checkP l0 a1).1 = 0 → H (turnL l0) (gk l0.length a1).toNat = H l0 a1.toNat) := by
  have hGl : (GT.toG (kidsI l0)).length = l0.length := by rw [GT.length_toG, kids_len]
  have hbad := gk_bad hn ha.1 ha.2
  have hwf := turn_wf hn hk
  unfold checkP
  rw [turn_len]
  by_cases hr : a1 < 0 ∨ (l0.length : Int) ≤ a1
  · have hr2 : gk l0.length a1 < 0 ∨ (l0.length : Int) ≤ gk l0.length a1 := by
      rcases Int.lt_or_le (gk l0.length a1) 0 with h | h
      · exact .inl h
      · rcases Int.lt_or_le (gk l0.length a1) l0.length with h2 | h2
        · have := hbad.1 ⟨h, h2⟩; omega
        · exact .inr h2
    rw [if_pos hr, if_pos hr2]
    exact ⟨rfl, fun h => by simp at h⟩
  · have hg := gk_good hn (k := a1) (by omega) (by omega)
    rw [if_neg hr, if_neg (by omega)]
    cases hb : GT.firstBad (kidsI l0) with
    | some i =>
      cases hb2 : GT.firstBad (kidsI (turnL l0)) with
      | none => rw [hwf.1 hb2] at hb; cases hb
      | some j => exact ⟨rfl, fun h => by simp at h⟩
    | none =>
      have hb2 := hwf.2 hb
      have hW := GT.wf_of_firstBad hb
      have hW2 := GT.wf_of_firstBad hb2
      have hR := turn_ren hn hb
      have hR2 := ren_back hR hGl hW
      have hGl2 := hR.len
      have hE2 : ((kidsI (turnL l0)).map List.length).sum ≤ 1000000 := by rw [turn_sum]; exact hE
      have hc1 := cyc_none hb hE
      have hc2 := cyc_none hb2 hE2
      have hl1 := loose_none hb hE (r := a1.toNat) (by omega)
      have hl2 := loose_none hb2 hE2 (r := (gk l0.length a1).toNat) (by rw [turn_len]; omega)
      rw [turn_len] at hc2 hl2
      have hrt : (gk l0.length a1).toNat = l0.length - 1 - a1.toNat := by rw [hg]; omega
      have hcc : GT.firstCyc (GT.toG (kidsI (turnL l0))) = none ↔ GT.firstCyc (GT.toG (kidsI l0)) = none := by
        rw [hc1, hc2]
        constructor
        · intro h i hi hl
          exact h (l0.length - 1 - i) (by omega) (ren_led hR hW (by omega) hl)
        · intro h i hi hl
          exact h (l0.length - 1 - i) (by omega) (ren_led hR2 hW2 (by omega) hl)
      have hll : GT.firstLoose (GT.toG (kidsI (turnL l0))) (gk l0.length a1).toNat = none ↔ GT.firstLoose (GT.toG (kidsI l0)) a1.toNat = none := by
        rw [hl1, hl2, hrt]
        constructor
        · intro h i hi
          rcases h (l0.length - 1 - i) (by omega) with e | e
          · exact .inl (by omega)
          · have := ren_led hR2 hW2 (by omega) e
            rw [show l0.length - 1 - (l0.length - 1 - a1.toNat) = a1.toNat by omega, show l0.length - 1 - (l0.length - 1 - i) = i by omega] at this
            exact .inr this
        · intro h i hi
          rcases h (l0.length - 1 - i) (by omega) with e | e
          · exact .inl (by omega)
          · have := ren_led hR hW (by omega) e
            rw [show l0.length - 1 - (l0.length - 1 - i) = i by omega] at this
            exact .inr this
      rw [hb2]
      simp only
      cases h1 : GT.firstCyc (GT.toG (kidsI l0)) with
      | some i =>
        cases h2 : GT.firstCyc (GT.toG (kidsI (turnL l0))) with
        | none => rw [hcc.1 h2] at h1; cases h1
        | some j => exact ⟨rfl, fun h => by simp at h⟩
      | none =>
        rw [hcc.2 h1]
        simp only
        cases h3 : GT.firstLoose (GT.toG (kidsI l0)) a1.toNat with
        | some i =>
          cases h4 : GT.firstLoose (GT.toG (kidsI (turnL l0))) (gk l0.length a1).toNat with
          | none => rw [hll.1 h4] at h3; cases h3
          | some j => exact ⟨rfl, fun h => by simp at h⟩
        | none =>
          rw [hll.2 h3]
          refine ⟨rfl, fun _ => ?_⟩
          unfold H
          rw [hrt, turn_len]
          exact hR.ht hW l0.length a1.toNat (by omega)
theorem turn_restK (l0 : List (S40)) : restK (turnL l0) 0 = restK l0 0 := by
  unfold restK
  rw [List.drop_zero, List.drop_zero, turn_sum]
end Go.Proofs.Ytlfjjapndlkamaa.GH
