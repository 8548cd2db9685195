/- The plain law of FieldDiffs. -/
import Derived.Test.YtmglknchklgokaaDoorFSet
import Derived.Test.YtmglknchklgokaaDoorGXx11
namespace Go.Proofs.YtmglknchklgokaaDoor.GX
open Go.RowKit Go.Proofs.YtmglknchklgokaaDoorW.PrintWords Go.Proofs.YtmglknchklgokaaDoorW.PrintLast Go.Proofs.YtmglknchklgokaaDoorW.PrintMore
set_option linter.unusedVariables false
set_option linter.unusedSimpArgs false
theorem ss_l0 (k : Nat) (l : Sets) (hl : List.length l ≤ 1000) : ∀ d i : Nat, i + d = List.length l → dioramaref08_SameSets.l0 (k + d + 1) l l (i : Int) = some true := by
  intro d
  induction d with
  | zero =>
    intro i hi
    rw [dioramaref08_SameSets.l0, if_neg (by omega)]
  | succ d ih =>
    intro i hi
    rw [show k + (d + 1) + 1 = (k + d + 1) + 1 by omega, dioramaref08_SameSets.l0, if_pos (by omega), if_pos (by omega), if_pos (by omega), if_neg (by simp), w64 (by omega) (by omega)]
    exact ih (i + 1) (by omega)
theorem ss_refl (k : Nat) (hk : 1001 ≤ k) (l : Sets) (hl : List.length l ≤ 1000) : dioramaref08_SameSets.f k l l = some true := by
  unfold dioramaref08_SameSets.f
  rw [if_pos rfl, show k = k - List.length l - 1 + List.length l + 1 by omega]
  exact ss_l0 _ l hl (List.length l) 0 (by omega)
theorem diffs_true (a0 : Int) (l1 : List Int) (l2 : List ByteArray) (l3 : List Int) (b0 : Int) (m1 : List Int) (m2 : List ByteArray) (m3 : List Int) : ∃ k, dioramalaw08_FieldDiffs.f k a0 l1 l2 l3 b0 m1 m2 m3 = some true := by
  obtain ⟨ga, hga, hfa⟩ := great8 a0 l1 l2 l3
  obtain ⟨gb, hgb, hfb⟩ := great8 b0 m1 m2 m3
  refine ⟨3000, ?_⟩
  have hstop : dioramalaw08_FieldDiffs.j0 3000 true a0 l1 l2 l3 b0 m1 m2 m3 = some true := by
    rw [show (3000 : Nat) = 2999 + 1 from rfl, dioramalaw08_FieldDiffs.j0, if_pos rfl, show (2999 : Nat) = 2939 + 60 from rfl, awake_at]; rfl
  unfold dioramalaw08_FieldDiffs.f
  rw [show (3000 : Nat) = 2940 + 60 from rfl, awake_at, Option.bind_some, if_pos rfl, show (2940 + 60 : Nat) = 2897 + 103 from rfl, hga, Option.bind_some]
  cases ga with
  | true => rw [if_pos rfl]; exact hstop
  | false =>
    rw [if_neg (by simp), hgb, Option.bind_some]
    cases gb with
    | true => exact hstop
    | false =>
      have Fa := hfa rfl
      have Fb := hfb rfl
      rw [show (2897 + 103 : Nat) = 2999 + 1 from rfl, dioramalaw08_FieldDiffs.j0, if_neg (by simp), copy8 a0 Fa, Option.bind_some, copy8 b0 Fb, Option.bind_some]
      simp only
      rw [code_diff 2999 (by omega) a0 l1 l2 l3 b0 m1 m2 m3 Fa.n1 Fa.n2, Option.bind_some, ref_diff 2999 (by omega) a0 l1 l2 l3 b0 m1 m2 m3 Fa.n1 Fa.n2, Option.bind_some, if_neg (by simp)]
      have f1 := Fa.n1
      have f2 := Fa.n2
      by_cases hc : canB a0 l1 l2 b0 m1 m2 = true
      · rw [if_pos hc]
        obtain ⟨h0, h1, h2⟩ := of_decide_eq_true hc
        have hlen : List.length (diffs l1 l2 m1 m2) ≤ 200 := by
          have e1 := dI_len 0 l1 m1
          have e2 := dT_len 0 l2 m2
          unfold diffs
          rw [List.length_append]
          omega
        simp only
        rw [ss_refl 2999 (by omega) _ (by omega), Option.bind_some, if_pos rfl, if_pos trivial, fset 2999 _ (by omega) (by omega) a0 Fa, Option.bind_some, Option.bind_some, set_diffs h1 h2]
        simp only [setR]
        rw [if_pos trivial, same8 2999 (by omega) a0 m1 m2 l3 b0 m1 m2 l3 (by omega) (by omega) Fa.n3]
        simp [h0]
      · rw [if_neg hc]
        simp only
        rw [ss_refl 2999 (by omega) _ (by simp), Option.bind_some, if_pos rfl, if_neg (by simp)]
end Go.Proofs.YtmglknchklgokaaDoor.GX
