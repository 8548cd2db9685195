/- The plain law of LimitGrows. -/
import Derived.Test.YtcphcaiiofeflaaDoorLgLAwake
import Derived.Test.YtcphcaiiofeflaaDoorLgGLx19
namespace Go.Proofs.YtcphcaiiofeflaaDoor.GL
open Go.RowKit Go.Proofs.YtcphcaiiofeflaaDoorW.PrintWords Go.Proofs.YtcphcaiiofeflaaDoorW.PrintLast Go.Proofs.YtcphcaiiofeflaaDoorW.PrintMore
set_option linter.unusedVariables false
set_option linter.unusedSimpArgs false
theorem restK_le {l0 : List (S53)} (hS : Small l0) : restK l0 0 ≤ 1000000 := by
  have := small_sum hS
  unfold restK
  rw [List.drop_zero]
  exact this
theorem meas_range {l0 : List (S53)} (hS : Small l0) (hF : Fits l0) (a1 : Int) : 0 ≤ measD l0 a1 ∧ measD l0 a1 ≤ 60 := by
  have h := H_le l0 a1.toNat
  have := hS.len
  unfold measD
  split <;> omega
theorem grows_true (l0 : List (S53)) (a1 b0 b1 b2 b3 b4 c0 c1 c2 c3 c4 : Int) : ∃ k, dioramalaw12_LimitGrows.f k l0 a1 b0 b1 b2 b3 b4 c0 c1 c2 c3 c4 = some true := by
  obtain ⟨Kw, hw⟩ := awake12
  obtain ⟨K, b, h1, h2⟩ := great12 l0 a1
  cases b with
  | true =>
    refine ⟨Kw + K + 1, ?_⟩
    rw [dioramalaw12_LimitGrows.f, hw _ (by omega), Option.bind_some, if_pos rfl, h1 _ (by omega), Option.bind_some, dioramalaw12_LimitGrows.j0, if_pos rfl, hw _ (by omega)]
    rfl
  | false =>
    obtain ⟨hS, hF⟩ := h2 rfl
    obtain ⟨K1, h3⟩ := valid_ev hS hF a1
    obtain ⟨K2, h4⟩ := meas_ev hS hF a1
    simp only at h4
    obtain ⟨hd0, hd1⟩ := meas_range hS hF a1
    have hE := restK_le hS
    have hT := textN_le hF
    have hn := hS.len
    refine ⟨((((Kw + K + K1 + K2 + 20) + 1) + 1) + 1) + 1, ?_⟩
    rw [dioramalaw12_LimitGrows.f, hw _ (by omega), Option.bind_some, if_pos rfl, h1 _ (by omega), Option.bind_some, dioramalaw12_LimitGrows.j0, if_neg (by simp), h3 _ (by omega), Option.bind_some]
    by_cases h0 : (validP l0 a1 b0 b1 b2 b3 b4).1 = 0
    · have hq := h0
      unfold validP at hq
      split at hq
      · rename_i hR
        split at hq
        · rename_i hY
          split at hq
          · rename_i hC
            split at hq
            · rename_i hW
              obtain ⟨r1, r2⟩ := (rB_iff _ _ _ _ _).1 hR
              have w1 := (wB_iff _ _ _ _ _ _ _ _ _ _).1 hW
              have hval : ∀ d0 d1 d2 d3 d4, rB d0 d1 d2 d3 d4 = true → LimW.wB 0 (l0.length : Int) (restK l0 0 : Int) (measD l0 a1) (textN l0 : Int) d0 d1 d2 d3 d4 = true → (validP l0 a1 d0 d1 d2 d3 d4).1 = 0 := by
                intro d0 d1 d2 d3 d4 g1 g2
                unfold validP
                rw [if_pos g1, if_pos hY, if_pos hC, if_pos g2]
              have hnot : ∀ d0 d1 d2 d3 d4, rB d0 d1 d2 d3 d4 = true → ¬ LimW.wB 0 (l0.length : Int) (restK l0 0 : Int) (measD l0 a1) (textN l0 : Int) d0 d1 d2 d3 d4 = true → (validP l0 a1 d0 d1 d2 d3 d4).1 = 19 := by
                intro d0 d1 d2 d3 d4 g1 g2
                unfold validP
                rw [if_pos g1, if_pos hY, if_pos hC, if_neg g2]
              have hself : (validP l0 a1 0 (l0.length : Int) (restK l0 0 : Int) (measD l0 a1) (textN l0 : Int)).1 = 0 :=
                hval _ _ _ _ _ ((rB_iff _ _ _ _ _).2 (by omega)) ((wB_iff _ _ _ _ _ _ _ _ _ _).2 (by omega))
              rw [if_pos h0, h4 _ (by omega), Option.bind_some]
              simp only
              rw [h3 _ (by omega), Option.bind_some, if_pos hself, within_code, Option.bind_some, hW, dioramalaw12_LimitGrows.j1, if_neg (by simp), within_code, Option.bind_some]
              have hj3 : dioramalaw12_LimitGrows.j3 (Kw + K + K1 + K2 + 20 + 1) l0 a1 0 (l0.length : Int) (restK l0 0 : Int) (measD l0 a1) (textN l0 : Int) = some true := by
                have hone : ∀ (k : Nat) (i : Int) (L : List (S26)) (e : S26) (hk : K1 ≤ k), L.length = 4 → 0 ≤ i → i < 4 → rd_T26 L i = e → 0 ≤ e.f1 → e.f1 ≤ 1 → 0 ≤ e.f2 → e.f2 ≤ 1 → 0 ≤ e.f3 → e.f3 ≤ 1 → 0 ≤ e.f4 → e.f4 ≤ 1 → 0 < e.f1 + e.f2 + e.f3 + e.f4 →
                    dioramalaw12_LimitGrows.l0 (k + 1) L 4 i l0 a1 0 (l0.length : Int) (restK l0 0 : Int) (measD l0 a1) (textN l0 : Int) = dioramalaw12_LimitGrows.l0 k L 4 (i + 1) l0 a1 0 (l0.length : Int) (restK l0 0 : Int) (measD l0 a1) (textN l0 : Int) := by
                  intro k i L e hk hL hi0 hi4 he g1 g1' g2 g2' g3 g3' g4 g4' hsum
                  rw [dioramalaw12_LimitGrows.l0, if_pos hi4, if_pos hi0, if_pos (by omega), he, w64 (n := (l0.length : Int) - e.f1) (by omega) (by omega), w64 (n := (restK l0 0 : Int) - e.f2) (by omega) (by omega), w64 (n := measD l0 a1 - e.f3) (by omega) (by omega), w64 (n := (textN l0 : Int) - e.f4) (by omega) (by omega), w64 (n := i + 1) (by omega) (by omega), right_code, Option.bind_some]
                  by_cases hr : rB 0 ((l0.length : Int) - e.f1) ((restK l0 0 : Int) - e.f2) (measD l0 a1 - e.f3) ((textN l0 : Int) - e.f4) = true
                  · rw [if_pos hr, h3 _ hk, Option.bind_some, if_pos (hnot _ _ _ _ _ hr (fun h => by have := (wB_iff _ _ _ _ _ _ _ _ _ _).1 h; omega))]
                  · rw [if_neg hr]
                rw [dioramalaw12_LimitGrows.j3, Option.bind_some]
                show dioramalaw12_LimitGrows.l0 (Kw + K + K1 + K2 + 15 + 1 + 1 + 1 + 1 + 1) _ 4 0 _ _ _ _ _ _ _ = _
                rw [hone _ 0 _ ⟨0, 1, 0, 0, 0⟩ (by omega) rfl (by omega) (by omega) rfl (by simp) (by simp) (by simp) (by simp) (by simp) (by simp) (by simp) (by simp) (by simp),
                  show (0 : Int) + 1 = 1 from rfl, hone _ 1 _ ⟨0, 0, 1, 0, 0⟩ (by omega) rfl (by omega) (by omega) rfl (by simp) (by simp) (by simp) (by simp) (by simp) (by simp) (by simp) (by simp) (by simp),
                  show (1 : Int) + 1 = 2 from rfl, hone _ 2 _ ⟨0, 0, 0, 1, 0⟩ (by omega) rfl (by omega) (by omega) rfl (by simp) (by simp) (by simp) (by simp) (by simp) (by simp) (by simp) (by simp) (by simp),
                  show (2 : Int) + 1 = 3 from rfl, hone _ 3 _ ⟨0, 0, 0, 0, 1⟩ (by omega) rfl (by omega) (by omega) rfl (by simp) (by simp) (by simp) (by simp) (by simp) (by simp) (by simp) (by simp) (by simp),
                  show (3 : Int) + 1 = 4 from rfl, dioramalaw12_LimitGrows.l0, if_neg (by omega)]
              by_cases hc : LimW.wB b0 b1 b2 b3 b4 c0 c1 c2 c3 c4 = true
              · have w2 := (wB_iff _ _ _ _ _ _ _ _ _ _).1 hc
                rw [if_pos hc, right_code, Option.bind_some, dioramalaw12_LimitGrows.j2]
                by_cases hr : rB c0 c1 c2 c3 c4 = true
                · rw [if_pos hr, h3 _ (by omega), Option.bind_some, if_pos (hval _ _ _ _ _ hr ((wB_iff _ _ _ _ _ _ _ _ _ _).2 (by omega))), hj3]
                · rw [if_neg hr, hj3]
              · rw [if_neg hc, dioramalaw12_LimitGrows.j2, if_neg (by simp), hj3]
            · exact absurd hq (by simp)
          · rename_i hC
            exact absurd hq hC
        · rename_i hY
          exact absurd hq hY
      · exact absurd hq (by simp)
    · rw [if_neg h0]
end Go.Proofs.YtcphcaiiofeflaaDoor.GL
