/- The plain law of FieldSets. -/
import Derived.Test.YtmglknchklgokaaDoorFSet
import Derived.Test.YtmglknchklgokaaDoorGWx12
namespace Go.Proofs.YtmglknchklgokaaDoor.GW
open Go.RowKit Go.Proofs.YtmglknchklgokaaDoorW.PrintWords Go.Proofs.YtmglknchklgokaaDoorW.PrintLast Go.Proofs.YtmglknchklgokaaDoorW.PrintMore
set_option linter.unusedVariables false
set_option linter.unusedSimpArgs false
theorem rset_l0 (k : Nat) (l : Sets) (hl : List.length l ≤ 1000) (a0 : Int) (l3 : List Int) : ∀ (d i : Nat) (I : List Int) (T : List ByteArray), i + d = List.length l →
    dioramaref08_Set.l0 (k + d + 1) l (i : Int) a0 I T l3 = some (setR a0 l3 (setsF (l.drop i) I T)) := by
  intro d
  induction d with
  | zero =>
    intro i I T hi
    rw [dioramaref08_Set.l0, if_neg (by omega), List.drop_of_length_le (by omega)]
    rfl
  | succ d ih =>
    intro i I T hi
    have ihx := fun I T => ih (i + 1) I T (by omega)
    rw [show k + (d + 1) + 1 = (k + d + 1) + 1 by omega, dioramaref08_Set.l0, if_pos (by omega), if_pos (by omega), drop_set (by omega), setsF]
    generalize rd_T75 l (i : Int) = x
    have hw : wrap64 ((i : Int) + 1) = ((i + 1 : Nat) : Int) := w64 (by omega) (by omega)
    by_cases hb : x.f0 = true
    · rw [if_pos hb, if_pos hb]
      by_cases h : x.f2 = 0 ∧ 0 ≤ x.f1 ∧ x.f1 < (T.length : Int)
      · rw [if_pos h.1, if_neg (by omega), if_neg (by omega), if_pos h.2.1, if_pos h.2.2, if_pos h, hw]
        exact ihx I _
      · rw [if_neg h]
        by_cases h2 : x.f2 = 0
        · rw [if_pos h2]
          by_cases h1 : x.f1 < 0
          · rw [if_pos h1]; rfl
          · rw [if_neg h1, if_pos (by omega)]; rfl
        · rw [if_neg h2]; rfl
    · rw [if_neg hb, if_neg hb]
      by_cases h : x.f3 = ⟨#[]⟩ ∧ 0 ≤ x.f1 ∧ x.f1 < (I.length : Int)
      · rw [if_pos (nil_bytes.2 h.1), if_neg (by omega), if_neg (by omega), if_pos h.2.1, if_pos h.2.2, if_pos h, hw]
        exact ihx _ T
      · rw [if_neg h]
        by_cases h3 : x.f3 = ⟨#[]⟩
        · rw [if_pos (nil_bytes.2 h3)]
          by_cases h1 : x.f1 < 0
          · rw [if_pos h1]; rfl
          · rw [if_neg h1, if_pos (by have h5 : ¬ (x.f1 < (I.length : Int)) := (fun h4 => h ⟨h3, by omega, h4⟩); omega)]; rfl
        · rw [if_neg (fun e => h3 (nil_bytes.1 e))]; rfl
theorem rset (k : Nat) (l : Sets) (hl : List.length l ≤ 300) (hk : 400 ≤ k) (a0 : Int) {l1 : List Int} {l2 : List ByteArray} {l3 : List Int} (F : Fit l1 l2 l3) : dioramaref08_Set.f k a0 l1 l2 l3 l = some (setR a0 l3 (setsF l l1 l2)) := by
  unfold dioramaref08_Set.f
  rw [copy8 a0 F, Option.bind_some]
  have := rset_l0 (k - List.length l - 1) l (by omega) a0 l3 (List.length l) 0 l1 l2 (by omega)
  rw [show k = k - List.length l - 1 + List.length l + 1 by omega]
  exact this
theorem setsF_len : ∀ (l : Sets) (I : List Int) (T : List ByteArray) {I2 : List Int} {T2 : List ByteArray}, setsF l I T = some (I2, T2) → I2.length = I.length ∧ T2.length = T.length
  | [], I, T, I2, T2, h => by
    rw [setsF] at h
    cases h
    exact ⟨rfl, rfl⟩
  | x :: l, I, T, I2, T2, h => by
    rw [setsF] at h
    split at h
    · split at h
      · have := setsF_len l _ _ h
        rwa [List.length_set] at this
      · cases h
    · split at h
      · have := setsF_len l _ _ h
        rwa [List.length_set] at this
      · cases h
theorem sets_true (a0 : Int) (l1 : List Int) (l2 : List ByteArray) (l3 : List Int) (l : Sets) : ∃ k, dioramalaw08_FieldSets.f k a0 l1 l2 l3 l = some true := by
  obtain ⟨b, hg, hf⟩ := great8 a0 l1 l2 l3
  refine ⟨2000, ?_⟩
  have hstop : dioramalaw08_FieldSets.j0 2000 l true a0 l1 l2 l3 = some true := by
    rw [show (2000 : Nat) = 1999 + 1 from rfl, dioramalaw08_FieldSets.j0, if_pos rfl, show (1999 : Nat) = 1939 + 60 from rfl, awake_at]; rfl
  unfold dioramalaw08_FieldSets.f
  rw [show (2000 : Nat) = 1940 + 60 from rfl, awake_at, Option.bind_some, if_pos rfl, show (1940 + 60 : Nat) = 1897 + 103 from rfl, hg, Option.bind_some]
  cases b with
  | true => rw [if_pos rfl]; exact hstop
  | false =>
    rw [if_neg (by simp)]
    by_cases hl : (List.length l : Int) > 100
    · rw [decide_eq_true hl]; exact hstop
    have F := hf rfl
    have f1 := F.n1
    have f2 := F.n2
    have f3 := F.n3
    rw [decide_eq_false hl, show (1897 + 103 : Nat) = 1999 + 1 from rfl, dioramalaw08_FieldSets.j0, if_neg (by simp), copy8 a0 F, Option.bind_some, Option.bind_some, if_pos (by simp only [List.length_nil]; omega), List.nil_append]
    simp only
    rw [fset 1999 l (by omega) (by omega) a0 F, Option.bind_some, rset 1999 l (by omega) (by omega) a0 F, Option.bind_some, if_pos rfl]
    have hs : dioramaref08_Same.f 1999 (setR a0 l3 (setsF l l1 l2)).1 (setR a0 l3 (setsF l l1 l2)).2.1 (setR a0 l3 (setsF l l1 l2)).2.2.1 (setR a0 l3 (setsF l l1 l2)).2.2.2.1 (setR a0 l3 (setsF l l1 l2)).1 (setR a0 l3 (setsF l l1 l2)).2.1 (setR a0 l3 (setsF l l1 l2)).2.2.1 (setR a0 l3 (setsF l l1 l2)).2.2.2.1 = some true := by
      cases hc : setsF l l1 l2 with
      | none =>
        rw [same8 1999 (by omega) _ _ _ _ _ _ _ _ (by simp [setR]) (by simp [setR]) (by simp [setR])]
        simp
      | some p =>
        obtain ⟨I, T⟩ := p
        have hlen := setsF_len l l1 l2 hc
        rw [same8 1999 (by omega) _ _ _ _ _ _ _ _ (by simp only [setR]; omega) (by simp only [setR]; omega) (by simp only [setR]; omega)]
        simp
    rw [hs, Option.bind_some, if_pos rfl, same8 1999 (by omega) a0 l1 l2 l3 a0 l1 l2 l3 f1 f2 f3]
    simp
end Go.Proofs.YtmglknchklgokaaDoor.GW
