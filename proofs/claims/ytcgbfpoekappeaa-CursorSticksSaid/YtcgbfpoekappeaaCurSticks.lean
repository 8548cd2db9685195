/- Once there is an error it stays, and nothing is read any more: for every input. -/
import Derived.Test.YtcgbfpoekappeaaCurAct
import Derived.LoopTactic
namespace Go.Proofs.Ytcgbfpoekappeaa.Cur
open Go.RowKit Go.Proofs.YtcgbfpoekappeaaW.PrintWords Go.Proofs.YtcgbfpoekappeaaW.PrintLast Go.Proofs.YtcgbfpoekappeaaW.PrintMore Go.Proofs.Ytcgbfpoekappeaa.VM Go.Proofs.Ytcgbfpoekappeaa.B
set_option linter.unusedVariables false
set_option linter.unusedSimpArgs false
theorem sticks_long (b : ByteArray) (er : Int) (A : Option Addr) (l : List (Int × Int)) (cap : Nat) (w : World) (h : (1000 < b.size) ∨ (b.size ≤ 1000 ∧ 200 < l.length) ∨ (b.size ≤ 1000 ∧ l.length ≤ 200 ∧ er = 0)) :
    Calls Try.prog 10 #[.string b, .int .i64 er, .slice A l.length cap] w fun e w' => e = .returned (.bool true) ∧ Below w.heap.size w w' := by
  rcases h with h | ⟨h1, h2⟩ | ⟨h1, h2, h3⟩
  · have d2 : decide (1000 < b.size) = true := decide_eq_true h
    go_enter Try.func10, Try.ntmps10
    go_wp2_with (fail)
    refine (awake_calls _).mono ?_
    rintro e w1 ⟨rfl, b1⟩
    go_wp2_with (fail)
    refine (awake_calls _).mono ?_
    rintro e w2 ⟨rfl, b2⟩
    go_wp2_with (fail)
    go_ret
    exact ⟨rfl, below_step b1 b2⟩
  · have d2 : decide (1000 < b.size) = false := decide_eq_false (by omega)
    have d3 : decide (200 < l.length) = true := decide_eq_true h2
    go_enter Try.func10, Try.ntmps10
    go_wp2_with (fail)
    refine (awake_calls _).mono ?_
    rintro e w1 ⟨rfl, b1⟩
    go_wp2_with (fail)
    refine (awake_calls _).mono ?_
    rintro e w2 ⟨rfl, b2⟩
    go_wp2_with (fail)
    go_ret
    exact ⟨rfl, below_step b1 b2⟩
  · have d2 : decide (1000 < b.size) = false := decide_eq_false (by omega)
    have d3 : decide (200 < l.length) = false := decide_eq_false (by omega)
    have d4 : (er == 0) = true := beq_iff_eq.mpr h3
    clear h3
    go_enter Try.func10, Try.ntmps10
    go_wp2_with (fail)
    refine (awake_calls _).mono ?_
    rintro e w1 ⟨rfl, b1⟩
    go_wp2_with (fail)
    refine (awake_calls _).mono ?_
    rintro e w2 ⟨rfl, b2⟩
    go_wp2_with (fail)
    go_ret
    exact ⟨rfl, below_step b1 b2⟩
theorem int_stay (c : Cur) (h : ¬ c.e = 0) : c.int = (0, c) := by unfold Cur.int; rw [if_pos h]
theorem text_stay (c : Cur) (n : Int) (h : ¬ c.e = 0) : c.text n = (⟨#[]⟩, c) := by unfold Cur.text; rw [if_pos h]
theorem byte_stay (c : Cur) (h : ¬ c.e = 0) : c.byte = (0, c) := by unfold Cur.byte; rw [bytes_stay c 1 h]; rfl
theorem fail_stay (c : Cur) (n : Int) (h : ¬ c.e = 0) : c.fail n = c := by unfold Cur.fail; rw [if_neg h]
theorem sticks_walk (b : ByteArray) (er : Int) (A : Option Addr) (l : List (Int × Int)) (cap : Nat) (w : World) (hA : Acts w A l) (hI : InI64 l) (hb : b.size ≤ 1000) (hl : l.length ≤ 200) (he : ¬ er = 0) :
    Calls Try.prog 10 #[.string b, .int .i64 er, .slice A l.length cap] w fun e w' => e = .returned (.bool true) ∧ Below w.heap.size w w' := by
  have d2 : decide (1000 < b.size) = false := decide_eq_false (by omega)
  have d3 : decide (200 < l.length) = false := decide_eq_false (by omega)
  have d4 : (er == 0) = false := beq_eq_false_iff_ne.mpr he
  have HA := Lib.hid hA
  have HI := Lib.hid hI
  have HE := Lib.hid he
  have ok : Cur.ok ⟨b, 0, er⟩ := ⟨Nat.zero_le _, by simp only; omega⟩
  have S1 := Lib.hid (byte_stay ⟨b, 0, er⟩ he)
  have S2 := Lib.hid (fun n => bytes_stay ⟨b, 0, er⟩ n he)
  have S3 := Lib.hid (fun n => uint_stay ⟨b, 0, er⟩ n he)
  have S4 := Lib.hid (int_stay ⟨b, 0, er⟩ he)
  have S5 := Lib.hid (fun n => text_stay ⟨b, 0, er⟩ n he)
  have S6 := Lib.hid (fun n => fail_stay ⟨b, 0, er⟩ n he)
  have S7 := Lib.hid (show (new b).fail er = ⟨b, 0, er⟩ from rfl)
  have S8 := Lib.hid (show Cur.left ⟨b, 0, er⟩ = b.size by simp [Cur.left])
  clear hA hI he
  go_enter Try.func10, Try.ntmps10
  go_wp2_with (fail)
  refine (awake_calls _).mono ?_
  rintro e w1 ⟨rfl, b1⟩
  go_wp2_with (fail)
  refine (new_any _ _).mono ?_
  rintro e w2 ⟨g, rfl, hg, h2, b2⟩
  have m2 : Mv nil w w2 := Mv.of_below (below_step b1 b2)
  have hg := Nat.le_trans b1.size hg
  clear b1 b2
  go_wp2_with (fail)
  refine (fail_calls g _ _ _ h2).mono ?_
  rw [S7.out]
  rintro e w3 ⟨rfl, h3, b3⟩
  have m3 := m2.trans b3 (one_new hg)
  clear m2 b3 h2
  go_wp2_with (fail)
  clear d2 d3 d4
  go_loopw [36] (fun i wr => ∃ (k : Nat), k ≤ l.length ∧ i = .int .i64 k ∧ IsC wr g ⟨b, 0, er⟩ ∧ Mv nil w wr) (fun i _ => l.length - (intOf i).toNat)
  case atStart => exact ⟨0, Nat.zero_le _, rfl, h3, m3⟩
  case round =>
    clear h3 m3
    obtain ⟨k, hk, rfl, h2, m2⟩ := hrel
    by_cases hlt : k < l.length
    · obtain ⟨ab, off, x, y, rfl, hxy, c0, c1, ⟨x0, x1⟩, ⟨y0, y1⟩, hab⟩ := HA.out.at _ wr _ _ HI.out m2 k hlt
      have h3 : IsC (wr.alloc (.cells #[.int .i64 x, .int .i64 y] 46)) g ⟨b, 0, er⟩ := h2.below ((Below.refl _ _).alloc (Nat.le_refl _) _)
      have m3 : Mv nil w (wr.alloc (.cells #[.int .i64 x, .int .i64 y] 46)) := m2.alloc _
      have q1 : (wr.alloc (.cells #[.int .i64 x, .int .i64 y] 46)).heap[wr.heap.size]? = some (.cells #[.int .i64 x, .int .i64 y] 46 (0, 0)) := heap_alloc_new wr _
      have hne : ¬ one g wr.heap.size := by have := h2.lt; intro e; rw [show wr.heap.size = g from e] at this; omega
      have Q1 := Lib.hid q1
      clear h2 hxy q1
      go_wp2_with (fail)
      refine (byte_calls g _ _ h3 ok).mono ?_
      rw [S1.out]
      rintro e w4 ⟨rfl, h4, b4⟩
      have q4 := b4.keep Q1.out hne
      have m4 := m3.trans b4 (one_new hg)
      have k4 : w4.cell? ⟨wr.heap.size, 1, none⟩ = some (.int .i64 y) := (blk_cell q4 1).trans rfl
      have Q4 := Lib.hid q4
      clear q4 b4 h3 m3 Q1
      go_wp2_with (fail)
      refine (bytes_calls g _ _ _ h4 ok (by omega)).mono ?_
      rw [S2.out]
      rintro e w5 ⟨rfl, h5, b5⟩
      have q5 := b5.keep Q4.out hne
      have m5 := m4.trans b5 (one_new hg)
      have k5 : w5.cell? ⟨wr.heap.size, 1, none⟩ = some (.int .i64 y) := (blk_cell q5 1).trans rfl
      have Q5 := Lib.hid q5
      clear q5 b5 h4 m4 Q4 k4
      go_wp2_with (fail)
      refine (uint_calls g _ _ _ h5 ok (u64w _)).mono ?_
      rw [S3.out]
      rintro e w6 ⟨rfl, h6, b6⟩
      have q6 := b6.keep Q5.out hne
      have m6 := m5.trans b6 (one_new hg)
      have Q6 := Lib.hid q6
      clear q6 b6 h5 m5 Q5 k5
      go_wp2_with (fail)
      refine (int_calls g _ _ h6 ok).mono ?_
      rw [S4.out]
      rintro e w7 ⟨rfl, h7, b7⟩
      have q7 := b7.keep Q6.out hne
      have m7 := m6.trans b7 (one_new hg)
      have k7 : w7.cell? ⟨wr.heap.size, 1, none⟩ = some (.int .i64 y) := (blk_cell q7 1).trans rfl
      have Q7 := Lib.hid q7
      clear q7 b7 h6 m6 Q6
      go_wp2_with (fail)
      refine (text_calls g _ _ _ h7 ok (by omega) (by omega)).mono ?_
      rw [S5.out]
      rintro e w8 ⟨rfl, h8, b8⟩
      have q8 := b8.keep Q7.out hne
      have m8 := m7.trans b8 (one_new hg)
      have k8 : w8.cell? ⟨wr.heap.size, 0, none⟩ = some (.int .i64 x) := (blk_cell q8 0).trans rfl
      clear q8 b8 h7 m7 Q7 k7
      go_wp2_with (fail)
      refine (fail_calls g _ _ _ h8).mono ?_
      rw [S6.out]
      rintro e w9 ⟨rfl, h9, b9⟩
      have m9 := m8.trans b9 (one_new hg)
      clear b9 h8 m8 k8
      go_wp2_with (fail)
      refine (err_calls g _ _ h9).mono ?_
      rintro e w10 ⟨rfl, rfl⟩
      go_wp2_with (fail)
      refine (left_calls g _ _ h9 ok).mono ?_
      rw [S8.out]
      rintro e w11 ⟨rfl, ⟨n11, rfl⟩⟩
      go_wp2_with (fail)
      go_roundw
      case rel => exact ⟨k + 1, by omega, by go_num, h9.drewN _, m9.drewN _⟩
      case measure => simp [intOf]; omega
    · go_wp2_with (fail)
      go_ret
      exact ⟨rfl, m2.below (fun _ h => h.elim)⟩
theorem sticks (b : ByteArray) (er : Int) (A : Option Addr) (l : List (Int × Int)) (cap : Nat) (w : World) (hA : Acts w A l) (hI : InI64 l) :
    Calls Try.prog 10 #[.string b, .int .i64 er, .slice A l.length cap] w fun e w' => e = .returned (.bool true) ∧ Below w.heap.size w w' := by
  by_cases hb : b.size ≤ 1000
  · by_cases hl : l.length ≤ 200
    · by_cases he : er = 0
      · exact sticks_long b er A l cap w (.inr (.inr ⟨hb, hl, he⟩))
      · exact sticks_walk b er A l cap w hA hI hb hl he
    · exact sticks_long b er A l cap w (.inr (.inl ⟨hb, by omega⟩))
  · exact sticks_long b er A l cap w (.inl (by omega))
end Go.Proofs.Ytcgbfpoekappeaa.Cur
