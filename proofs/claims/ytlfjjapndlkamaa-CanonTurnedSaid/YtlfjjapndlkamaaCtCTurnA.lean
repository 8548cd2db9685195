/- CanonTurned, called: true of any scene and any two places. -/
import Derived.Test.YtlfjjapndlkamaaCtCTurnM
namespace Go.Proofs.Ytlfjjapndlkamaa.GH
open Go.RowKit Go.Lib Go.Proofs.YtlfjjapndlkamaaW.PrintWords Go.Proofs.YtlfjjapndlkamaaW.PrintLast Go.Proofs.YtlfjjapndlkamaaW.PrintMore
set_option linter.unusedVariables false
set_option linter.unusedSimpArgs false
theorem ev_c {α : Type} {f : Nat → Option α} {v : α} (h : ∃ K, ∀ k, f (k + K) = some v) : ∃ K, ∀ k, K ≤ k → f k = some v := by
  obtain ⟨K, h⟩ := h
  exact ⟨K, fun k hk => by have := h (k - K); rwa [show k - K + K = k by omega] at this⟩
theorem cturn_get {l : List (S40)} {i : Nat} (hi : i < l.length) : rd_T40 (turnL l) ((l.length - 1 - i : Nat) : Int) = gN l.length (rd_T40 l (i : Int)) := by
  rw [rdT_get (by rw [turn_len]; omega), rdT_get hi]
  unfold turnL
  rw [List.getElem_map, List.getElem_reverse]
  congr 1
  congr 1
  omega
theorem csmall_turn {C : List (S40)} (hS : Small C) : Small (turnL C) := by
  refine ⟨by rw [turn_len]; exact hS.len, fun i hi => ?_, by rw [turn_restK]; exact hS.sum⟩
  rw [turn_len] at hi
  have h := cturn_get (l := C) (i := C.length - 1 - i) (by omega)
  rw [show C.length - 1 - (C.length - 1 - i) = i by omega] at h
  rw [h]
  have := hS.one (C.length - 1 - i) (by omega)
  simpa [gN] using this
theorem cturn_all (A0 : Option Addr) (c0 : Nat) (l0 : List (S40)) (rt p q : Int) (w : World) (hr0 : Kd.C k40 w A0 l0.length l0) (hc0 : l0.length ≤ c0) :
    Calls Try.prog 6 #[.agg #[.slice A0 l0.length c0, .int .i64 rt], .int .i64 p, .int .i64 q] w fun e w' => e = .returned (.bool true) ∧ Below w.heap.size w w' := by
  obtain ⟨K, gr, h1, h2⟩ := great9 l0 rt
  have haw : ∀ k, dioramalaw10_awake.f k = some true := fun k => rfl
  have hpa := place9 l0 rt p
  have hpb := place9 l0 rt q
  cases gr with
  | true =>
    exact cturn_stop A0 c0 l0 rt p q w (0 + K) hr0 hc0 true true _ _ (h1 0) (fun h => by cases h) hpa hpb (haw _) (.inl rfl)
  | false =>
    have hS := h2 rfl
    have hM := mod_of hS
    obtain ⟨K1, e1⟩ := ev_c (f := fun k => dioramaref09_Great.f k l0 rt) ⟨K, h1⟩
    obtain ⟨K2, e2⟩ := ev_c (f := fun k => dioramaref09_Check.f k l0 rt) (rcheck l0 rt hM.len hM.sum)
    have e3 : ∀ k, K2 ≤ k → dioramaref09_Right.f k l0 rt = some (decide ((checkP l0 rt).1 = 0)) := fun k hk => by
      rw [dioramaref09_Right.f, e2 k hk, Option.bind_some]
      by_cases h : (checkP l0 rt).1 = 0 <;> simp [h]
    by_cases hs : (decide ((checkP l0 rt).1 = 0) = false ∨ (!GT.badKid l0.length p) = false ∨ (!GT.badKid l0.length q) = false)
    · exact cturn_stop A0 c0 l0 rt p q w (K1 + K2) hr0 hc0 false _ _ _ (e1 _ (by omega)) (fun _ => e3 _ (by omega)) hpa hpb (haw _) (.inr hs)
    have hc : (checkP l0 rt).1 = 0 := by
      by_cases h : (checkP l0 rt).1 = 0
      · exact h
      · exact absurd (.inl (decide_eq_false h)) hs
    have hp : 0 ≤ p ∧ p < (l0.length : Int) := by
      by_cases h : (!GT.badKid l0.length p) = false
      · exact absurd (.inr (.inl h)) hs
      · unfold GT.badKid at h; simp at h; omega
    have hq : 0 ≤ q ∧ q < (l0.length : Int) := by
      by_cases h : (!GT.badKid l0.length q) = false
      · exact absurd (.inr (.inr h)) hs
      · unfold GT.badKid at h; simp at h; omega
    have hpt : (!GT.badKid l0.length p) = true := by unfold GT.badKid; simp; omega
    have hqt : (!GT.badKid l0.length q) = true := by unfold GT.badKid; simp; omega
    rw [hpt] at hpa
    rw [hqt] at hpb
    clear hs hpt hqt
    obtain ⟨a, rfl⟩ := Int.eq_ofNat_of_zero_le hp.1
    obtain ⟨b, rfl⟩ := Int.eq_ofNat_of_zero_le hq.1
    have ha : a < l0.length := by omega
    have hb : b < l0.length := by omega
    obtain ⟨h5, _⟩ := cn_of hM.len hM.sum hc
    obtain ⟨g0, g1, hgood, hacy, hall⟩ := checkP_zero hM.sum hc
    have hMC := mod_canon hM hc
    have hcl := cNodes_len h5
    have hn60 := hS.len
    have hkid : ∀ x ∈ l0, ∀ z ∈ x.f3, 0 ≤ z ∧ z < (l0.length : Int) := fun x hx z hz => by
      have := (good_iff _).1 hgood x.f3 (List.mem_map_of_mem hx) z hz
      rwa [kids_len] at this
    -- the exchanged one
    have hM1 := swS_mod hS ha hb
    have hc1 := swS_check hS hc ha hb
    have hn1 := swS_canon hS hc ha hb
    -- the turned one
    have hM2 := mod_of (csmall_turn hS)
    have hc2 : (checkP (turnL l0) (gk l0.length rt)).1 = 0 := by
      have := (turn_code (a1 := rt) hn60 hM.sum (fun x hx z hz => by have := hkid x hx z hz; omega) (by omega)).1
      rw [this]; exact hc
    have hn2 : cNodes (turnL l0) (gk l0.length rt) = cNodes l0 rt := canon_ren hM hM2 hc hc2 (turn_ren hn60 hgood) (by rw [gk_good hn60 g0 g1]; omega) (fun x hx => by
      rw [cturn_get hx]; exact ⟨rfl, rfl, rfl⟩)
    obtain ⟨K3, e4⟩ := ev_c (f := fun k => canon_Canon.f k l0 rt) (gcanon (a1 := rt) hM)
    obtain ⟨K4, e5⟩ := ev_c (f := fun k => canon_Canon.f k (swS l0 a b) (swI a b rt)) (gcanon (a1 := swI a b rt) hM1)
    obtain ⟨K5, e6⟩ := ev_c (f := fun k => canon_Canon.f k (turnL l0) (gk l0.length rt)) (gcanon (a1 := gk l0.length rt) hM2)
    obtain ⟨K6, e7⟩ := ev_c (f := fun k => dioramaref09_Turn.f k l0 rt) (turn9 hS rt)
    obtain ⟨K7, e8⟩ := ev_c (f := fun k => dioramaref09_Same.f k (cNodes l0 rt) ((l0.length : Int) - 1) (cNodes l0 rt) ((l0.length : Int) - 1)) (same9_refl ((l0.length : Int) - 1) hMC)
    obtain ⟨K8, e9⟩ := ev_c (f := fun k => dioramaref09_Copy.f k l0 rt) (v := (l0, rt)) ⟨l0.length + 1, fun k => copy9 hS rt k⟩
    rw [hc, if_pos rfl] at e4
    rw [hc1, if_pos rfl, hn1, swS_len] at e5
    rw [hc2, if_pos rfl, hn2, turn_len] at e6
    refine cturn_walk A0 c0 l0 rt a b w (K1 + K2 + K3 + K4 + K5 + K6 + K7 + K8) hr0 hc0 (e1 _ (by omega)) (by rw [e3 _ (by omega), decide_eq_true hc]) hpa hpb (haw _) ha hb (by omega) (fun y hy => ?_) (e9 _ (by omega)) (cNodes l0 rt) (cNodes l0 rt) (cNodes l0 rt) (turnL l0) ((l0.length : Int) - 1) ((l0.length : Int) - 1) ((l0.length : Int) - 1) (gk l0.length rt) (e4 _ (by omega)) (e5 _ (by omega)) (e7 _ (by omega)) (e6 _ (by omega)) (e8 _ (by omega)) (e8 _ (by omega))
    obtain ⟨i, hi, rfl⟩ := List.getElem_of_mem hy
    have := (hS.one i hi).2.2
    rw [rdT_get hi] at this
    omega
end Go.Proofs.Ytlfjjapndlkamaa.GH
