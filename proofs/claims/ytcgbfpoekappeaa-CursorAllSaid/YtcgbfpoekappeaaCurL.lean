/- The cursor's statements: what the laws' common beginning answers. -/
import Derived.Test.YtcgbfpoekappeaaCurC
import Derived.Test.YtcgbfpoekappeaaCurR
namespace Go.Proofs.Ytcgbfpoekappeaa.Cur
open Go.RowKit Go.Proofs.YtcgbfpoekappeaaW.PrintWords Go.Proofs.YtcgbfpoekappeaaW.PrintLast Go.Proofs.YtcgbfpoekappeaaW.PrintMore Go.Proofs.Ytcgbfpoekappeaa.VM Go.Proofs.Ytcgbfpoekappeaa.B
set_option linter.unusedVariables false
set_option linter.unusedSimpArgs false
theorem aw1 : (new ⟨#[5, 97, 98]⟩).text 9 = (⟨#[]⟩, ⟨⟨#[5, 97, 98]⟩, 0, 2⟩) := by kernel_rfl
theorem aw2 : Cur.byte ⟨⟨#[5, 97, 98]⟩, 0, 2⟩ = (0, ⟨⟨#[5, 97, 98]⟩, 0, 2⟩) := by kernel_rfl
theorem aw3 : (new ⟨#[2, 97, 98, 3]⟩).text 2 = (⟨#[97, 98]⟩, ⟨⟨#[2, 97, 98, 3]⟩, 3, 0⟩) := by kernel_rfl
theorem aw4 : Cur.int ⟨⟨#[2, 97, 98, 3]⟩, 3, 0⟩ = (-2, ⟨⟨#[2, 97, 98, 3]⟩, 4, 0⟩) := by kernel_rfl
theorem aw5 : Cur.left ⟨⟨#[5, 97, 98]⟩, 0, 2⟩ = 3 := by kernel_rfl
theorem aw6 : Cur.left ⟨⟨#[2, 97, 98, 3]⟩, 4, 0⟩ = 0 := by kernel_rfl
theorem awk (b : ByteArray) (n : Nat) (e : Int) (h : n ≤ b.size) (h2 : b.size ≤ 10) : Cur.ok ⟨b, n, e⟩ := ⟨h, by simp only; omega⟩
theorem new_any (b : ByteArray) (w : World) :
    Calls Try.prog 25 #[.string b] w fun e w' => ∃ g, e = .returned (.pointer (some ⟨g, 0, none⟩)) ∧ w.heap.size ≤ g ∧ IsC w' g (new b) ∧ Below w.heap.size w w' :=
  (new_calls b w).mono fun _ _ ⟨h1, h2, h3⟩ => ⟨_, h1, Nat.le_refl _, h2, h3⟩
theorem one_new {g : Nat} {w : World} (h : w.heap.size ≤ g) : ∀ k, one g k → nil k ∨ w.heap.size ≤ k := fun k hk => .inr (by rw [show k = g from hk]; exact h)
theorem one_ne {g h : Nat} (e : g ≠ h) : ¬ one h g := fun k => e k
theorem awake_calls (w : World) : Calls Try.prog 24 #[] w fun e w' => e = .returned (.bool true) ∧ Below w.heap.size w w' := by
  go_enter Try.func24, Try.ntmps24
  go_wp2_with (fail)
  refine (new_any _ _).mono ?_
  rintro e w1 ⟨g, rfl, hg, h1, b1⟩
  have m1 : Mv nil w w1 := Mv.of_below b1
  clear b1
  go_wp2_with (fail)
  refine (text_calls _ _ 9 _ h1 (new_ok (by decide)) (by omega) (by omega)).mono ?_
  rw [aw1]
  rintro e w2 ⟨rfl, h2, b2⟩
  have m2 : Mv nil w w2 := m1.trans b2 (one_new hg)
  clear b2 m1 h1
  go_wp2_with (fail)
  refine (byte_calls _ _ _ h2 (awk _ _ _ (by decide) (by decide))).mono ?_
  rw [aw2]
  rintro e w3 ⟨rfl, h3, b3⟩
  have m3 : Mv nil w w3 := m2.trans b3 (one_new hg)
  clear b3 m2 h2
  go_wp2_with (fail)
  refine (new_any _ _).mono ?_
  rintro e w4 ⟨g2, rfl, hg2, k4, b4⟩
  have h4 := h3.below b4
  have m4 : Mv nil w w4 := m3.grow b4
  have hne : g ≠ g2 := by have := h3.lt; omega
  have hg3 : w.heap.size ≤ g2 := Nat.le_trans m3.size hg2
  clear b4 m3 h3 hg2
  go_wp2_with (fail)
  refine (text_calls _ _ 2 _ k4 (new_ok (by decide)) (by omega) (by omega)).mono ?_
  rw [aw3]
  rintro e w5 ⟨rfl, k5, b5⟩
  have h5 := h4.mv b5 (one_ne hne)
  have m5 : Mv nil w w5 := m4.trans b5 (one_new hg3)
  clear b5 m4 h4 k4
  go_wp2_with (fail)
  refine (int_calls _ _ _ k5 (awk _ _ _ (by decide) (by decide))).mono ?_
  rw [aw4]
  rintro e w6 ⟨rfl, k6, b6⟩
  have h6 := h5.mv b6 (one_ne hne)
  have m6 : Mv nil w w6 := m5.trans b6 (one_new hg3)
  clear b6 m5 h5 k5
  go_wp2_with (fail)
  refine (left_calls _ _ _ h6 (awk _ _ _ (by decide) (by decide))).mono ?_
  rw [aw5]
  rintro e w7 ⟨rfl, ⟨n7, rfl⟩⟩
  go_wp2_with (fail)
  refine (err_calls _ _ _ (h6.drewN _)).mono ?_
  rintro e w8 ⟨rfl, rfl⟩
  go_wp2_with (fail)
  refine (left_calls _ _ _ (k6.drewN _) (awk _ _ _ (by decide) (by decide))).mono ?_
  rw [aw6]
  rintro e w9 ⟨rfl, ⟨n9, rfl⟩⟩
  go_wp2_with (fail)
  refine (err_calls _ _ _ (k6.drewN _)).mono ?_
  rintro e w8 ⟨rfl, rfl⟩
  go_wp2_with (fail)
  go_ret
  exact ⟨rfl, (m6.drewN _).below (fun _ h => h.elim)⟩
end Go.Proofs.Ytcgbfpoekappeaa.Cur
