/- What is read never comes again: with each call as many bytes are left as ahead of it, or fewer, and never fewer than none: for every input. -/
import Derived.Test.YtcgbfpoekappeaaCurAct
import Derived.LoopTactic
import Derived.Test.YtcgbfpoekappeaaOpen
import Derived.OpenShut
namespace Go.Proofs.Ytcgbfpoekappeaa.Cur
open Go.RowKit Go.Proofs.YtcgbfpoekappeaaW.PrintWords Go.Proofs.YtcgbfpoekappeaaW.PrintLast Go.Proofs.YtcgbfpoekappeaaW.PrintMore Go.Proofs.Ytcgbfpoekappeaa.VM Go.Proofs.Ytcgbfpoekappeaa.B
set_option linter.unusedVariables false
set_option linter.unusedSimpArgs false

theorem left_long (b : ByteArray) (A : Option Addr) (l : List (Int × Int)) (cap : Nat) (w : World) (h : (1000 < b.size) ∨ (b.size ≤ 1000 ∧ 200 < l.length)) :
    Calls Try.prog 13 #[.string b, .slice A l.length cap] w fun e w' => e = .returned (.bool true) ∧ Below w.heap.size w w' := by
  rcases h with h | ⟨h1, h2⟩
  · have d2 : decide (1000 < b.size) = true := decide_eq_true h
    go_enter Try.func13, Try.ntmps13
    go_wp2_with (fail)
    refine (awake_calls _).mono ?_
    rintro e w1 ⟨rfl, b1⟩
    go_wp2_with (fail)
    refine (awake_calls _).mono ?_
    rintro e w2 ⟨rfl, b2⟩
    go_wp2_with (fail)
    go_ret
    exact ⟨rfl, below_step b1 b2⟩
  · have d2 : decide (1000 < b.size) = false := decide_eq_false (by omega)
    have d3 : decide (200 < l.length) = true := decide_eq_true h2
    go_enter Try.func13, Try.ntmps13
    go_wp2_with (fail)
    refine (awake_calls _).mono ?_
    rintro e w1 ⟨rfl, b1⟩
    go_wp2_with (fail)
    refine (awake_calls _).mono ?_
    rintro e w2 ⟨rfl, b2⟩
    go_wp2_with (fail)
    go_ret
    exact ⟨rfl, below_step b1 b2⟩
theorem left_walk (b : ByteArray) (A : Option Addr) (l : List (Int × Int)) (cap : Nat) (w : World) (hA : Acts w A l) (hI : InI64 l) (hb : b.size ≤ 1000) (hl : l.length ≤ 200) :
    Calls Try.prog 13 #[.string b, .slice A l.length cap] w fun e w' => e = .returned (.bool true) ∧ Below w.heap.size w w' := by
  have d2 : decide (1000 < b.size) = false := decide_eq_false (by omega)
  have d3 : decide (200 < l.length) = false := decide_eq_false (by omega)
  have HA := Lib.hid hA
  have HI := Lib.hid hI
  clear hA hI
  go_enter Try.func13, Try.ntmps13
  go_wp2_with (fail)
  refine (awake_calls _).mono ?_
  rintro e w1 ⟨rfl, b1⟩
  go_wp2_with (fail)
  refine (new_any _ _).mono ?_
  rintro e w2 ⟨g, rfl, hg, h2, b2⟩
  have m2 : Mv nil w w2 := Mv.of_below (below_step b1 b2)
  have hg := Nat.le_trans b1.size hg
  clear b1 b2
  go_wp2_with (fail)
  clear d2 d3
  go_loopw [6, 30] (fun v i wr => ∃ (k : Nat) (c : Cur), k ≤ l.length ∧ i = .int .i64 k ∧ v = .int .i64 c.left ∧ IsC wr g c ∧ c.ok ∧ Mv nil w wr) (fun _ i _ => l.length - (intOf i).toNat)
  case atStart => exact ⟨0, new b, Nat.zero_le _, rfl, by simp [Cur.left, Cur.new], h2, new_ok (by omega), m2⟩
  case round =>
    clear h2 m2
    obtain ⟨k, c, hk, rfl, rfl, h2, ok, m2⟩ := hrel
    by_cases hlt : k < l.length
    · obtain ⟨ab, off, x, y, rfl, hxy, c0, c1, ⟨x0, x1⟩, ⟨y0, y1⟩, hab⟩ := HA.out.at _ wr _ _ HI.out m2 k hlt
      have lx := left_le ok
      have ln := left_nonneg ok
      have H2 := Lib.hid h2
      have hgs := h2.lt
      clear h2 hxy
      by_cases e1 : x = 1
      · have z1 : (x == 1) = true := beq_iff_eq.mpr e1
        clear e1
        have h2 : IsC (wr.alloc (.cells #[.int .i64 x, .int .i64 y] 46)) g c := H2.out.below ((Below.refl _ _).alloc (Nat.le_refl _) _)
        have m3 : Mv nil w (wr.alloc (.cells #[.int .i64 x, .int .i64 y] 46)) := m2.alloc _
        go_wp2_with (fail)
        refine (byte_calls g c _ h2 ok).mono ?_
        rintro e w3 ⟨rfl, h3, b3⟩
        have m3 := m3.trans b3 (one_new hg)
        have ok3 := byte_ok ok
        have l3 : (Cur.byte c).2.left ≤ c.left := bytes_left ok 1
        have q0 := left_nonneg ok3
        have q1 := left_le ok3
        clear h2 b3
        generalize hc3 : (Cur.byte c).2 = c3 at *
        clear hc3
        go_wp2_with (fail)
        refine (left_calls g _ _ h3 ok3).mono ?_
        rintro e w4 ⟨rfl, ⟨n4, rfl⟩⟩
        go_wp2_with (fail)
        refine (left_calls g _ _ (h3.drewN _) ok3).mono ?_
        rintro e w5 ⟨rfl, ⟨n5, rfl⟩⟩
        go_wp2_with (fail)
        refine (left_calls g _ _ (h3.drewN _) ok3).mono ?_
        rintro e w6 ⟨rfl, ⟨n6, rfl⟩⟩
        go_wp2_with (fail)
        go_roundw
        case rel => exact ⟨k + 1, _, by omega, by go_num, rfl, h3.drewN _, ok3, m3.drewN _⟩
        case measure => simp [intOf]; omega
      have z1 : (x == 1) = false := beq_eq_false_iff_ne.mpr e1
      clear e1
      by_cases e2 : x = 2
      · have z2 : (x == 2) = true := beq_iff_eq.mpr e2
        clear e2
        have h2 : IsC (wr.alloc (.cells #[.int .i64 x, .int .i64 y] 46)) g c := H2.out.below ((Below.refl _ _).alloc (Nat.le_refl _) _)
        have m3 : Mv nil w (wr.alloc (.cells #[.int .i64 x, .int .i64 y] 46)) := m2.alloc _
        go_wp2_with (fail)
        refine (bytes_calls g c y _ h2 ok (by omega)).mono ?_
        rintro e w3 ⟨rfl, h3, b3⟩
        have m3 := m3.trans b3 (one_new hg)
        have ok3 := bytes_ok ok y
        have l3 : (Cur.bytes c y).2.left ≤ c.left := bytes_left ok y
        have q0 := left_nonneg ok3
        have q1 := left_le ok3
        clear h2 b3
        generalize hc3 : (Cur.bytes c y).2 = c3 at *
        clear hc3
        go_wp2_with (fail)
        refine (left_calls g _ _ h3 ok3).mono ?_
        rintro e w4 ⟨rfl, ⟨n4, rfl⟩⟩
        go_wp2_with (fail)
        refine (left_calls g _ _ (h3.drewN _) ok3).mono ?_
        rintro e w5 ⟨rfl, ⟨n5, rfl⟩⟩
        go_wp2_with (fail)
        refine (left_calls g _ _ (h3.drewN _) ok3).mono ?_
        rintro e w6 ⟨rfl, ⟨n6, rfl⟩⟩
        go_wp2_with (fail)
        go_roundw
        case rel => exact ⟨k + 1, _, by omega, by go_num, rfl, h3.drewN _, ok3, m3.drewN _⟩
        case measure => simp [intOf]; omega
      have z2 : (x == 2) = false := beq_eq_false_iff_ne.mpr e2
      clear e2
      by_cases e3 : x = 3
      · have z3 : (x == 3) = true := beq_iff_eq.mpr e3
        clear e3
        have h2 : IsC (wr.alloc (.cells #[.int .i64 x, .int .i64 y] 46)) g c := H2.out.below ((Below.refl _ _).alloc (Nat.le_refl _) _)
        have m3 : Mv nil w (wr.alloc (.cells #[.int .i64 x, .int .i64 y] 46)) := m2.alloc _
        go_wp2_with (fail)
        refine (uint_calls g c (IntKind.u64.wrap y) _ h2 ok (u64w _)).mono ?_
        rintro e w3 ⟨rfl, h3, b3⟩
        have m3 := m3.trans b3 (one_new hg)
        have ok3 := uint_ok ok (IntKind.u64.wrap y)
        have l3 : (Cur.uint c (IntKind.u64.wrap y)).2.left ≤ c.left := uint_left ok (IntKind.u64.wrap y)
        have q0 := left_nonneg ok3
        have q1 := left_le ok3
        clear h2 b3
        generalize hc3 : (Cur.uint c (IntKind.u64.wrap y)).2 = c3 at *
        clear hc3
        go_wp2_with (fail)
        refine (left_calls g _ _ h3 ok3).mono ?_
        rintro e w4 ⟨rfl, ⟨n4, rfl⟩⟩
        go_wp2_with (fail)
        refine (left_calls g _ _ (h3.drewN _) ok3).mono ?_
        rintro e w5 ⟨rfl, ⟨n5, rfl⟩⟩
        go_wp2_with (fail)
        refine (left_calls g _ _ (h3.drewN _) ok3).mono ?_
        rintro e w6 ⟨rfl, ⟨n6, rfl⟩⟩
        go_wp2_with (fail)
        go_roundw
        case rel => exact ⟨k + 1, _, by omega, by go_num, rfl, h3.drewN _, ok3, m3.drewN _⟩
        case measure => simp [intOf]; omega
      have z3 : (x == 3) = false := beq_eq_false_iff_ne.mpr e3
      clear e3
      by_cases e4 : x = 4
      · have z4 : (x == 4) = true := beq_iff_eq.mpr e4
        clear e4
        have h2 : IsC (wr.alloc (.cells #[.int .i64 x, .int .i64 y] 46)) g c := H2.out.below ((Below.refl _ _).alloc (Nat.le_refl _) _)
        have m3 : Mv nil w (wr.alloc (.cells #[.int .i64 x, .int .i64 y] 46)) := m2.alloc _
        go_wp2_with (fail)
        refine (int_calls g c _ h2 ok).mono ?_
        rintro e w3 ⟨rfl, h3, b3⟩
        have m3 := m3.trans b3 (one_new hg)
        have ok3 := int_ok ok
        have l3 : (Cur.int c).2.left ≤ c.left := int_left ok
        have q0 := left_nonneg ok3
        have q1 := left_le ok3
        clear h2 b3
        generalize hc3 : (Cur.int c).2 = c3 at *
        clear hc3
        go_wp2_with (fail)
        refine (left_calls g _ _ h3 ok3).mono ?_
        rintro e w4 ⟨rfl, ⟨n4, rfl⟩⟩
        go_wp2_with (fail)
        refine (left_calls g _ _ (h3.drewN _) ok3).mono ?_
        rintro e w5 ⟨rfl, ⟨n5, rfl⟩⟩
        go_wp2_with (fail)
        refine (left_calls g _ _ (h3.drewN _) ok3).mono ?_
        rintro e w6 ⟨rfl, ⟨n6, rfl⟩⟩
        go_wp2_with (fail)
        go_roundw
        case rel => exact ⟨k + 1, _, by omega, by go_num, rfl, h3.drewN _, ok3, m3.drewN _⟩
        case measure => simp [intOf]; omega
      have z4 : (x == 4) = false := beq_eq_false_iff_ne.mpr e4
      clear e4
      by_cases e5 : x = 5
      · have z5 : (x == 5) = true := beq_iff_eq.mpr e5
        clear e5
        have h2 : IsC (wr.alloc (.cells #[.int .i64 x, .int .i64 y] 46)) g c := H2.out.below ((Below.refl _ _).alloc (Nat.le_refl _) _)
        have m3 : Mv nil w (wr.alloc (.cells #[.int .i64 x, .int .i64 y] 46)) := m2.alloc _
        go_wp2_with (fail)
        refine (text_calls g c y _ h2 ok (by omega) (by omega)).mono ?_
        rintro e w3 ⟨rfl, h3, b3⟩
        have m3 := m3.trans b3 (one_new hg)
        have ok3 := text_ok ok y
        have l3 : (Cur.text c y).2.left ≤ c.left := text_left ok y
        have q0 := left_nonneg ok3
        have q1 := left_le ok3
        clear h2 b3
        generalize hc3 : (Cur.text c y).2 = c3 at *
        clear hc3
        go_wp2_with (fail)
        refine (left_calls g _ _ h3 ok3).mono ?_
        rintro e w4 ⟨rfl, ⟨n4, rfl⟩⟩
        go_wp2_with (fail)
        refine (left_calls g _ _ (h3.drewN _) ok3).mono ?_
        rintro e w5 ⟨rfl, ⟨n5, rfl⟩⟩
        go_wp2_with (fail)
        refine (left_calls g _ _ (h3.drewN _) ok3).mono ?_
        rintro e w6 ⟨rfl, ⟨n6, rfl⟩⟩
        go_wp2_with (fail)
        go_roundw
        case rel => exact ⟨k + 1, _, by omega, by go_num, rfl, h3.drewN _, ok3, m3.drewN _⟩
        case measure => simp [intOf]; omega
      have z5 : (x == 5) = false := beq_eq_false_iff_ne.mpr e5
      clear e5
      have h3 : IsC (wr.alloc (.cells #[.int .i64 x, .int .i64 y] 46)) g c := H2.out.below ((Below.refl _ _).alloc (Nat.le_refl _) _)
      have m3 : Mv nil w (wr.alloc (.cells #[.int .i64 x, .int .i64 y] 46)) := m2.alloc _
      have ok3 := ok
      have l3 := Int.le_refl c.left
      go_wp2_with (fail)
      refine (left_calls g _ _ h3 ok3).mono ?_
      rintro e w4 ⟨rfl, ⟨n4, rfl⟩⟩
      go_wp2_with (fail)
      refine (left_calls g _ _ (h3.drewN _) ok3).mono ?_
      rintro e w5 ⟨rfl, ⟨n5, rfl⟩⟩
      go_wp2_with (fail)
      refine (left_calls g _ _ (h3.drewN _) ok3).mono ?_
      rintro e w6 ⟨rfl, ⟨n6, rfl⟩⟩
      go_wp2_with (fail)
      go_roundw
      case rel => exact ⟨k + 1, _, by omega, by go_num, rfl, h3.drewN _, ok3, m3.drewN _⟩
      case measure => simp [intOf]; omega
    · go_wp2_with (fail)
      go_ret
      exact ⟨rfl, m2.below (fun _ h => h.elim)⟩
theorem leftlaw (b : ByteArray) (A : Option Addr) (l : List (Int × Int)) (cap : Nat) (w : World) (hA : Acts w A l) (hI : InI64 l) :
    Calls Try.prog 13 #[.string b, .slice A l.length cap] w fun e w' => e = .returned (.bool true) ∧ Below w.heap.size w w' := by
  by_cases hb : b.size ≤ 1000
  · by_cases hl : l.length ≤ 200
    · exact left_walk b A l cap w hA hI hb hl
    · exact left_long b A l cap w (.inr ⟨hb, by omega⟩)
  · exact left_long b A l cap w (.inl (by omega))
end Go.Proofs.Ytcgbfpoekappeaa.Cur
