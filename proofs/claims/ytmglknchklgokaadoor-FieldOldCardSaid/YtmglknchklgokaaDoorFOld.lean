/- The plain law of FieldOld. -/
import Derived.Test.YtmglknchklgokaaDoorFS
import Derived.Test.YtmglknchklgokaaDoorGRx11
namespace Go.Proofs.YtmglknchklgokaaDoor.GR
open Go.RowKit Go.Proofs.YtmglknchklgokaaDoorW.PrintWords Go.Proofs.YtmglknchklgokaaDoorW.PrintLast Go.Proofs.YtmglknchklgokaaDoorW.PrintMore
set_option linter.unusedVariables false
set_option linter.unusedSimpArgs false
theorem old_l2 (k : Nat) (hk : 401 ≤ k) (a0 : Int) {l1 : List Int} {l2 : List ByteArray} {l3 : List Int} (F : Fit l1 l2 l3) (x : Int) (y1 : List Int) (y2 : List ByteArray) : ∀ (d i : Nat) (y3 : List Int), i + d = y3.length → y3.length ≤ 300 →
    dioramalaw08_FieldOld.l2 (k + d + 1) (y3.length : Int) (i : Int) a0 l1 l2 l3 a0 l1 l2 l3 a0 l1 l2 l3 x y1 y2 y3 = some true := by
  intro d
  induction d with
  | zero =>
    intro i y3 hi h3
    have e := same8 k (by omega) a0 l1 l2 l3 a0 l1 l2 l3 F.n1 F.n2 F.n3
    rw [dioramalaw08_FieldOld.l2, if_neg (by omega), e]
    simp
  | succ d ih =>
    intro i y3 hi h3
    rw [show k + (d + 1) + 1 = (k + d + 1) + 1 by omega, dioramalaw08_FieldOld.l2, if_pos (by omega), if_pos (by omega), if_pos (by omega), w64 (by omega) (by omega)]
    have := ih (i + 1) (y3.set (i : Int).toNat (-1)) (by simp; omega) (by simp; omega)
    rw [List.length_set] at this
    exact this
theorem old_l1 (k : Nat) (hk : 702 ≤ k) (a0 : Int) {l1 : List Int} {l2 : List ByteArray} {l3 : List Int} (F : Fit l1 l2 l3) (x : Int) (y1 : List Int) (y3 : List Int) (h3 : y3.length ≤ 300) : ∀ (d i : Nat) (y2 : List ByteArray), i + d = y2.length → y2.length ≤ 100 →
    dioramalaw08_FieldOld.l1 (k + d + 1) (y2.length : Int) (i : Int) a0 l1 l2 l3 a0 l1 l2 l3 a0 l1 l2 l3 x y1 y2 y3 = some true := by
  intro d
  induction d with
  | zero =>
    intro i y2 hi h2
    rw [dioramalaw08_FieldOld.l1, if_neg (by omega), show k = k - y3.length - 1 + y3.length + 1 by omega]
    exact old_l2 (k - y3.length - 1) (by omega) a0 F x y1 y2 y3.length 0 y3 (by omega) h3
  | succ d ih =>
    intro i y2 hi h2
    rw [show k + (d + 1) + 1 = (k + d + 1) + 1 by omega, dioramalaw08_FieldOld.l1, if_pos (by omega), if_pos (by omega), if_pos (by omega), w64 (by omega) (by omega)]
    have := ih (i + 1) (y2.set (i : Int).toNat ⟨#[120]⟩) (by simp; omega) (by simp; omega)
    rw [List.length_set] at this
    exact this
theorem old_l0 (k : Nat) (hk : 803 ≤ k) (a0 x1 : Int) {l1 : List Int} {l2 : List ByteArray} {l3 : List Int} (F : Fit l1 l2 l3) (x : Int) (y2 : List ByteArray) (y3 : List Int) (h2 : y2.length ≤ 100) (h3 : y3.length ≤ 300) : ∀ (d i : Nat) (y1 : List Int), i + d = y1.length → y1.length ≤ 100 →
    dioramalaw08_FieldOld.l0 (k + d + 1) x1 (y1.length : Int) (i : Int) a0 l1 l2 l3 a0 l1 l2 l3 a0 l1 l2 l3 x y1 y2 y3 = some true := by
  intro d
  induction d with
  | zero =>
    intro i y1 hi h1
    rw [dioramalaw08_FieldOld.l0, if_neg (by omega), show k = k - y2.length - 1 + y2.length + 1 by omega]
    exact old_l1 (k - y2.length - 1) (by omega) a0 F x y1 y3 h3 y2.length 0 y2 (by omega) h2
  | succ d ih =>
    intro i y1 hi h1
    rw [show k + (d + 1) + 1 = (k + d + 1) + 1 by omega, dioramalaw08_FieldOld.l0, if_pos (by omega), if_pos (by omega), if_pos (by omega), w64 (by omega) (by omega)]
    have := ih (i + 1) (y1.set (i : Int).toNat x1) (by simp; omega) (by simp; omega)
    rw [List.length_set] at this
    exact this
theorem old_true (a0 : Int) (l1 : List Int) (l2 : List ByteArray) (l3 : List Int) (x : Int) : ∃ k, dioramalaw08_FieldOld.f k a0 l1 l2 l3 x = some true := by
  obtain ⟨b, hg, hf⟩ := great8 a0 l1 l2 l3
  refine ⟨2000, ?_⟩
  unfold dioramalaw08_FieldOld.f
  rw [show (2000 : Nat) = 1940 + 60 from rfl, awake_at, Option.bind_some, if_pos rfl, show (1940 + 60 : Nat) = 1897 + 103 from rfl, hg, Option.bind_some]
  rw [show (1897 + 103 : Nat) = 1999 + 1 from rfl]
  cases b with
  | true =>
    rw [dioramalaw08_FieldOld.j0, if_pos rfl, show (1999 : Nat) = 1939 + 60 from rfl, awake_at]; rfl
  | false =>
    have F := hf rfl
    rw [dioramalaw08_FieldOld.j0, if_neg (by simp), copy8 a0 F, Option.bind_some, fcopy a0 F, Option.bind_some, Option.bind_some, fcopy a0 F, Option.bind_some]
    have f1 := F.n1
    rw [show (1999 : Nat) = 1998 - l1.length + l1.length + 1 by omega]
    exact old_l0 _ (by omega) a0 x F a0 l2 l3 F.n2 F.n3 l1.length 0 l1 (by omega) f1
end Go.Proofs.YtmglknchklgokaaDoor.GR
