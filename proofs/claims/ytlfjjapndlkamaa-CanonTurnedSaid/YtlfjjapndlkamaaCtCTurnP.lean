/- CanonTurned, plain: two nodes exchanged. -/
import Derived.Test.YtlfjjapndlkamaaCtGrK
import Derived.Test.YtlfjjapndlkamaaCtGrI
import Derived.Test.YtlfjjapndlkamaaCtGrTu
import Derived.Test.YtlfjjapndlkamaaCtCanR
namespace Go.Proofs.Ytlfjjapndlkamaa.GH
open Go.RowKit Go.Proofs.YtlfjjapndlkamaaW.PrintWords Go.Proofs.YtlfjjapndlkamaaW.PrintLast Go.Proofs.YtlfjjapndlkamaaW.PrintMore
set_option linter.unusedVariables false
set_option linter.unusedSimpArgs false
def sw (a b x : Nat) : Nat := if x = a then b else if x = b then a else x
def swI (a b k : Int) : Int := if k = a then b else if k = b then a else k
def swN (a b : Int) (n : S40) : S40 := ⟨n.f0, n.f1, n.f2, n.f3.map (swI a b)⟩
/-- The nodes, two exchanged. -/
def swL (l : List (S40)) (a b : Nat) : List (S40) := (l.set a (rd_T40 l (b : Int))).set b (rd_T40 l (a : Int))
def swS (l : List (S40)) (a b : Nat) : List (S40) := (swL l a b).map (swN a b)
theorem sw_lt {a b n : Nat} (ha : a < n) (hb : b < n) {x : Nat} (hx : x < n) : sw a b x < n := by unfold sw; split <;> (try split) <;> omega
theorem sw_sw (a b x : Nat) : sw a b (sw a b x) = x := by unfold sw; (repeat' split) <;> omega
theorem swI_nat (a b x : Nat) : swI (a : Int) (b : Int) (x : Int) = ((sw a b x : Nat) : Int) := by unfold swI sw; (repeat' split) <;> omega
theorem swL_len (l : List (S40)) (a b : Nat) : (swL l a b).length = l.length := by unfold swL; rw [List.length_set, List.length_set]
theorem swS_len (l : List (S40)) (a b : Nat) : (swS l a b).length = l.length := by unfold swS; rw [List.length_map, swL_len]
theorem swL_get {l : List (S40)} {a b i : Nat} (ha : a < l.length) (hb : b < l.length) (hi : i < l.length) : rd_T40 (swL l a b) (i : Int) = rd_T40 l ((sw a b i : Nat) : Int) := by
  rw [rdT_get (by rw [swL_len]; exact hi), rdT_get (sw_lt ha hb hi)]
  unfold swL
  simp only [List.getElem_set]
  by_cases h1 : b = i
  · subst h1
    rw [if_pos rfl, rdT_get ha]
    congr 1
    unfold sw
    by_cases h2 : b = a
    · subst h2; simp
    · rw [if_neg h2, if_pos rfl]
  · rw [if_neg h1]
    by_cases h2 : a = i
    · subst h2
      rw [if_pos rfl, rdT_get hb]
      congr 1
      unfold sw
      rw [if_pos rfl]
    · rw [if_neg h2]
      congr 1
      unfold sw
      rw [if_neg (fun h => h2 h.symm), if_neg (fun h => h1 h.symm)]
theorem swS_get {l : List (S40)} {a b i : Nat} (ha : a < l.length) (hb : b < l.length) (hi : i < l.length) : rd_T40 (swS l a b) ((sw a b i : Nat) : Int) = swN a b (rd_T40 l (i : Int)) := by
  have h := swL_get ha hb (sw_lt ha hb hi)
  rw [sw_sw] at h
  rw [← h, rdT_get (by rw [swS_len]; exact sw_lt ha hb hi), rdT_get (by rw [swL_len]; exact sw_lt ha hb hi)]
  unfold swS
  rw [List.getElem_map]
theorem swS_node {l : List (S40)} {a b : Nat} (ha : a < l.length) (hb : b < l.length) {y : S40} (hy : y ∈ swS l a b) : ∃ i, i < l.length ∧ y = swN a b (rd_T40 l (i : Int)) := by
  obtain ⟨j, hj, rfl⟩ := List.getElem_of_mem hy
  rw [swS_len] at hj
  refine ⟨sw a b j, sw_lt ha hb hj, ?_⟩
  have h := swS_get (l := l) ha hb (sw_lt ha hb hj)
  rw [sw_sw] at h
  rw [← h, rdT_get (by rw [swS_len]; exact hj)]
theorem sum_le : ∀ (L : List Nat) (m : Nat), (∀ x ∈ L, x ≤ m) → L.sum ≤ m * L.length
  | [], m, _ => by simp
  | x :: L, m, h => by
    have h1 := sum_le L m (fun y hy => h y (List.mem_cons_of_mem _ hy))
    have h2 := h x List.mem_cons_self
    rw [List.sum_cons, List.length_cons, Nat.mul_succ]
    omega
section
variable {l0 : List (S40)} {a1 : Int} {a b : Nat}
theorem swS_mod (hS : Small l0) (ha : a < l0.length) (hb : b < l0.length) : Mod (swS l0 a b) := by
  have h60 := hS.len
  refine ⟨by rw [swS_len]; omega, ?_, fun y hy => ?_⟩
  · have := sum_le ((kidsI (swS l0 a b)).map List.length) 300 (fun x hx => by
      obtain ⟨ks, hks, rfl⟩ := List.mem_map.1 hx
      unfold kidsI at hks
      obtain ⟨y, hy, rfl⟩ := List.mem_map.1 hks
      obtain ⟨i, hi, rfl⟩ := swS_node ha hb hy
      show ((rd_T40 l0 (i : Int)).f3.map (swI a b)).length ≤ 300
      rw [List.length_map]
      exact (hS.one i hi).2.2)
    rw [List.length_map, kids_len, swS_len] at this
    omega
  · obtain ⟨i, hi, rfl⟩ := swS_node ha hb hy
    have h1 := hS.one i hi
    show (rd_T40 l0 (i : Int)).f1.length < _ ∧ (rd_T40 l0 (i : Int)).f2.length < _
    omega
theorem swS_good (hgood : GT.firstBad (kidsI l0) = none) (ha : a < l0.length) (hb : b < l0.length) : GT.firstBad (kidsI (swS l0 a b)) = none := by
  rw [good_iff]
  intro ks hks k hk
  unfold kidsI at hks
  obtain ⟨y, hy, rfl⟩ := List.mem_map.1 hks
  obtain ⟨i, hi, rfl⟩ := swS_node ha hb hy
  obtain ⟨z, hz, rfl⟩ := List.mem_map.1 (show k ∈ (rd_T40 l0 (i : Int)).f3.map (swI a b) from hk)
  have h1 := (good_iff _).1 hgood (rd_T40 l0 (i : Int)).f3 (List.mem_map_of_mem (by rw [rdT_get hi]; exact List.getElem_mem _)) z hz
  rw [kids_len] at h1 ⊢
  rw [swS_len]
  unfold swI
  repeat' split <;> omega
theorem intsOf_inj : ∀ {x y : List Nat}, intsOf x = intsOf y → x = y
  | [], [], _ => rfl
  | [], b :: y, h => by simp [intsOf] at h
  | a :: x, [], h => by simp [intsOf] at h
  | a :: x, b :: y, h => by
    have h' : (a : Int) :: intsOf x = (b : Int) :: intsOf y := h
    injection h' with h1 h2
    rw [intsOf_inj h2, show a = b by omega]
theorem swS_ren (hgood : GT.firstBad (kidsI l0) = none) (ha : a < l0.length) (hb : b < l0.length) : GT.Ren (GT.toG (kidsI l0)) (GT.toG (kidsI (swS l0 a b))) (sw a b) := by
  refine ⟨by rw [toG_len, toG_len, swS_len], fun i hi => ?_, fun i j _ _ e => ?_, fun i hi => ?_⟩
  · rw [toG_len] at hi ⊢; exact sw_lt ha hb hi
  · have := congrArg (sw a b) e
    rwa [sw_sw, sw_sw] at this
  · rw [toG_len] at hi
    apply intsOf_inj
    have h1 := kid_ints (swS_good hgood ha hb) (sw a b i)
    have h2 := kid_ints hgood i
    rw [swS_get ha hb hi] at h1
    rw [← h1]
    show (rd_T40 l0 (i : Int)).f3.map (swI a b) = _
    rw [h2]
    unfold intsOf
    rw [List.map_map, List.map_map]
    exact List.map_congr_left fun x _ => swI_nat a b x
theorem ren_inv {G G' : List (List Nat)} {s : Nat → Nat} (h : GT.Ren G G' s) (hinv : ∀ i, s (s i) = i) : GT.Ren G' G s := by
  have hl := h.len
  refine ⟨h.len.symm, fun i hi => by rw [hl] at hi ⊢; exact h.lt i hi, fun i j hi hj e => ?_, fun i hi => ?_⟩
  · have := congrArg s e; rwa [hinv, hinv] at this
  · have h2 := h.kids (s i) (h.lt i (by omega))
    rw [hinv] at h2
    rw [h2, List.map_map]
    conv => lhs; rw [← List.map_id (GT.kids G (s i))]
    exact List.map_congr_left fun k _ => (hinv k).symm
/-- What is right stays so, two nodes exchanged. -/
theorem swS_check (hS : Small l0) (hc : (checkP l0 a1).1 = 0) (ha : a < l0.length) (hb : b < l0.length) : (checkP (swS l0 a b) (swI a b a1)).1 = 0 := by
  have hM := mod_of hS
  have hM1 := swS_mod hS ha hb
  obtain ⟨h0, h1, hgood, hac, hall⟩ := checkP_zero hM.sum hc
  have hgood1 := swS_good hgood ha hb
  have hren := swS_ren hgood ha hb
  have hW := GT.wf_of_firstBad hgood
  have hW1 := GT.wf_of_firstBad hgood1
  obtain ⟨r, rfl⟩ := Int.eq_ofNat_of_zero_le h0
  have hr : r < l0.length := by omega
  have hsr := sw_lt ha hb hr
  rw [swI_nat]
  have hback := ren_inv hren (sw_sw a b)
  have hcyc : GT.firstCyc (GT.toG (kidsI (swS l0 a b))) = none := (cyc_none hgood1 hM1.sum).2 fun i hi hl => by
    rw [swS_len] at hi
    have := ren_led hback hW1 (by rw [toG_len, swS_len]; exact hi) hl
    exact hac _ this
  have hloose : GT.firstLoose (GT.toG (kidsI (swS l0 a b))) (sw a b r) = none := (loose_none hgood1 hM1.sum (by rw [swS_len]; exact hsr)).2 fun i hi => by
    rw [swS_len] at hi
    rcases hall (sw a b i) (sw_lt ha hb hi) with h | h
    · left
      rw [Int.toNat_natCast] at h
      have := congrArg (sw a b) h
      rwa [sw_sw] at this
    · right
      rw [Int.toNat_natCast] at h
      have := ren_led hren hW (by rw [toG_len]; exact hr) h
      rwa [sw_sw] at this
  unfold checkP
  rw [if_neg (by rw [swS_len]; omega), hgood1]
  simp only
  rw [hcyc]
  simp only
  rw [Int.toNat_natCast, hloose]
/-- And has the same canonical scene. -/
theorem swS_canon (hS : Small l0) (hc : (checkP l0 a1).1 = 0) (ha : a < l0.length) (hb : b < l0.length) : cNodes (swS l0 a b) (swI a b a1) = cNodes l0 a1 := by
  have hM := mod_of hS
  obtain ⟨h0, h1, hgood, _, _⟩ := checkP_zero hM.sum hc
  refine canon_ren hM (swS_mod hS ha hb) hc (swS_check hS hc ha hb) (swS_ren hgood ha hb) ?_ (fun x hx => ?_)
  · obtain ⟨r, rfl⟩ := Int.eq_ofNat_of_zero_le h0
    rw [swI_nat, Int.toNat_natCast, Int.toNat_natCast]
  · rw [swS_get ha hb hx]
    exact ⟨rfl, rfl, rfl⟩
end
end Go.Proofs.Ytlfjjapndlkamaa.GH
