/- Byte by byte, or in any parts, all bytes are read as they are, and then none is left: for every input. -/
import Derived.Test.YtcgbfpoekappeaaCurL
import Derived.Test.YtcgbfpoekappeaaInts
import Derived.LoopTactic
import Derived.Laws.BytesArg
namespace Go.Proofs.Ytcgbfpoekappeaa.Cur
open Go.RowKit Go.Proofs.YtcgbfpoekappeaaW.PrintWords Go.Proofs.YtcgbfpoekappeaaW.PrintLast Go.Proofs.YtcgbfpoekappeaaW.PrintMore Go.Proofs.Ytcgbfpoekappeaa.VM Go.Proofs.Ytcgbfpoekappeaa.B
set_option linter.unusedVariables false
set_option linter.unusedSimpArgs false
theorem ext_zero (b : ByteArray) : b.extract 0 0 = ⟨#[]⟩ := by apply bl_inj; rw [extract_bl]; simp [bl]
theorem ext_all (b : ByteArray) : b.extract 0 b.size = b := by apply bl_inj; rw [extract_bl, List.drop_zero, List.take_of_length_le (by rw [bl_length]; omega)]
theorem ext_join (b : ByteArray) (a n : Nat) : b.extract 0 a ++ b.extract a (a + n) = b.extract 0 (a + n) := by
  apply bl_inj
  rw [append_bl, extract_bl, extract_bl, extract_bl, List.drop_zero, List.drop_zero]
  rw [show (bl b).take a = ((bl b).take (a + n)).take a by rw [List.take_take, Nat.min_eq_left (by omega)], List.take_append_drop]
theorem ext_size (b : ByteArray) (a : Nat) (h : a ≤ b.size) : (b.extract 0 a).size = a := by rw [ByteArray.size_extract]; omega
theorem all_bytes (b : ByteArray) (a n : Nat) (h : a + n ≤ b.size) : Cur.bytes ⟨b, a, 0⟩ n = (b.extract a (a + n), ⟨b, a + n, 0⟩) := by
  unfold Cur.bytes Cur.left
  rw [if_neg (by simp), if_neg (by omega), if_neg (by simp only; omega), Int.toNat_natCast]
theorem all_byte (b : ByteArray) (a : Nat) (h : a < b.size) : ∃ x : Int, Cur.byte ⟨b, a, 0⟩ = (x, ⟨b, a + 1, 0⟩) ∧ strOfNums [x] = b.extract a (a + 1) := by
  have hb := all_bytes b a 1 (by omega)
  have hs : (b.extract a (a + 1)).size = 1 := by rw [ByteArray.size_extract]; omega
  refine ⟨bt (b.extract a (a + 1)) 0, ?_, ?_⟩
  · unfold Cur.byte
    rw [show (1 : Int) = ((1 : Nat) : Int) from rfl, hb]
    simp only
    rw [if_neg (by omega)]
  · apply bl_inj
    generalize b.extract a (a + 1) = s at *
    have hl : (bl s).length = 1 := by rw [bl_length, hs]
    obtain ⟨y, hy⟩ := List.length_eq_one_iff.mp hl
    have h0 := bt_bl s 0 (by omega)
    have e0 : (bl s)[0]'(by omega) = y := by simp [hy]
    rw [e0] at h0
    have := bl_strOfNums [y] (fun x hx => bl_byte s x (by rw [hy]; exact hx))
    rw [show bt s 0 = (y : Int) from h0, hy]
    exact this
theorem one_conv (W : World) (x : Int) : (convert 57 9 (.slice (some ⟨W.heap.size, 0, none⟩) 1 1)).run Try.prog (W.alloc (.cells #[.int .u8 x] 5)) = .ok (.string (strOfNums [x])) (W.alloc (.cells #[.int .u8 x] 5)) :=
  run_convert_bytes_arg _ _ _ Try.underlying57 Try.underlying5 W.heap.size 0 1 1 [x] rfl (fun i hi => by
    obtain rfl : i = 0 := by omega
    exact (blk_cell (heap_alloc_new W (.cells #[.int .u8 x] 5)) 0).trans rfl) _ Try.underlying9
theorem all_long (b : ByteArray) (A : Option Addr) (l : List Int) (cap : Nat) (w : World) (h : (1000 < b.size) ∨ (b.size ≤ 1000 ∧ 200 < l.length)) :
    Calls Try.prog 11 #[.string b, .slice A l.length cap] w fun e w' => e = .returned (.bool true) ∧ Below w.heap.size w w' := by
  rcases h with h | ⟨h1, h2⟩
  · have d2 : decide (1000 < b.size) = true := decide_eq_true h
    go_enter Try.func11, Try.ntmps11
    go_wp2_with (fail)
    refine (awake_calls _).mono ?_
    rintro e w1 ⟨rfl, b1⟩
    go_wp2_with (fail)
    refine (awake_calls _).mono ?_
    rintro e w2 ⟨rfl, b2⟩
    go_wp2_with (fail)
    go_ret
    exact ⟨rfl, below_step b1 b2⟩
  · have d2 : decide (1000 < b.size) = false := decide_eq_false (by omega)
    have d3 : decide (200 < l.length) = true := decide_eq_true h2
    go_enter Try.func11, Try.ntmps11
    go_wp2_with (fail)
    refine (awake_calls _).mono ?_
    rintro e w1 ⟨rfl, b1⟩
    go_wp2_with (fail)
    refine (awake_calls _).mono ?_
    rintro e w2 ⟨rfl, b2⟩
    go_wp2_with (fail)
    go_ret
    exact ⟨rfl, below_step b1 b2⟩
theorem left_calls3 (g : Nat) (b : ByteArray) (a : Nat) (er : Int) (w : World) (h : IsC w g ⟨b, a, er⟩) (ok : Cur.ok ⟨b, a, er⟩) :
    Calls Try.prog 38 #[.pointer (some ⟨g, 0, none⟩)] w fun en w' => en = .returned (.int .i64 ((b.size : Int) - (a : Int))) ∧ Drawn0 w w' := left_calls g ⟨b, a, er⟩ w h ok
set_option maxHeartbeats 2000000 in
theorem all_walk (b : ByteArray) (A : Option Addr) (l : List Int) (cap : Nat) (w : World) (hA : O.Ints .i64 w A l) (hI : ∀ x ∈ l, -9223372036854775808 ≤ x ∧ x ≤ 9223372036854775807) (hb : b.size ≤ 1000) (hl : l.length ≤ 200) :
    Calls Try.prog 11 #[.string b, .slice A l.length cap] w fun e w' => e = .returned (.bool true) ∧ Below w.heap.size w w' := by
  have d2 : decide (1000 < b.size) = false := decide_eq_false (by omega)
  have d3 : decide (200 < l.length) = false := decide_eq_false (by omega)
  have HA := Lib.hid hA
  have HI := Lib.hid hI
  clear hA hI
  go_enter Try.func11, Try.ntmps11
  go_wp2_with (fail)
  refine (awake_calls _).mono ?_
  rintro e w1 ⟨rfl, b1⟩
  go_wp2_with (fail)
  refine (new_any _ _).mono ?_
  rintro e w2 ⟨g, rfl, hg, h2, b2⟩
  have m2 : Mv nil w w2 := Mv.of_below (below_step b1 b2)
  have hg := Nat.le_trans b1.size hg
  clear b1 b2
  go_wp2_with (fail)
  clear d2 d3
  go_loopw [6, 29] (fun v i wr => ∃ (k a : Nat), k ≤ l.length ∧ a ≤ b.size ∧ i = .int .i64 k ∧ v = .string (b.extract 0 a) ∧ IsC wr g ⟨b, a, 0⟩ ∧ Mv nil w wr) (fun _ i _ => l.length - (intOf i).toNat)
  case atStart => exact ⟨0, 0, Nat.zero_le _, Nat.zero_le _, rfl, by rw [ext_zero], h2, m2⟩
  case round =>
    clear h2 m2
    obtain ⟨k, a, hk, ha, rfl, rfl, h2, m2⟩ := hrel
    have ok : Cur.ok ⟨b, a, 0⟩ := ⟨ha, by simp only; omega⟩
    have OK := Lib.hid ok
    have H2 := Lib.hid h2
    clear h2 ok
    by_cases hlt : k < l.length
    · obtain ⟨ab, off, rfl, c0, hab⟩ := O.Ints.at HA.out m2 k hlt
      have hx := HI.out (l.getD k 0) (by rw [List.getD_eq_getElem?_getD, List.getElem?_eq_getElem hlt]; exact List.getElem_mem hlt)
      generalize l.getD k 0 = x at *
      by_cases h0 : 0 ≤ x
      · have z0 : decide (0 ≤ x) = true := decide_eq_true h0
        obtain ⟨x, rfl⟩ := Int.eq_ofNat_of_zero_le h0
        go_wp2_with (fail)
        refine (left_calls3 g _ _ _ _ H2.out OK.out).mono ?_
        rintro e w3 ⟨rfl, ⟨n3, rfl⟩⟩
        have H3 := Lib.hid (IsC.drewN H2.out n3)
        have m3 := m2.drewN n3
        clear m2 H2
        by_cases hle : a + x ≤ b.size
        · have z1 : decide ((x : Int) ≤ (b.size : Int) - (a : Int)) = true := decide_eq_true (by omega)
          have hs : (b.extract 0 a).size + (b.extract a (a + x)).size ≤ 9223372036854775807 := by rw [ByteArray.size_extract, ByteArray.size_extract]; omega
          have HB := Lib.hid (all_bytes b a x hle)
          have HJ := Lib.hid (ext_join b a x)
          go_wp2_with (fail)
          refine (bytes_calls g _ _ _ H3.out OK.out (by omega)).mono ?_
          rw [HB.out]
          rintro e w4 ⟨rfl, h4, b4⟩
          have m4 := m3.trans b4 (one_new hg)
          clear b4 m3 H3
          go_wp2_with (fail)
          go_roundw
          case rel => exact ⟨k + 1, a + x, by omega, by omega, by go_num, by first | rfl | exact congrArg Value.string HJ.out, h4, m4⟩
          case measure => simp [intOf]; omega
        · have z1 : decide ((x : Int) ≤ (b.size : Int) - (a : Int)) = false := decide_eq_false (by omega)
          go_wp2_with (fail)
          go_roundw
          case rel => exact ⟨k + 1, a, by omega, by omega, by go_num, rfl, H3.out, m3⟩
          case measure => simp [intOf]; omega
      · have z0 : decide (0 ≤ x) = false := decide_eq_false h0
        go_wp2_with (fail)
        go_roundw
        case rel => exact ⟨k + 1, a, by omega, by omega, by go_num, rfl, H2.out, m2⟩
        case measure => simp [intOf]; omega
    · go_wp2_with (fail)
      refine (left_calls3 g _ _ _ _ H2.out OK.out).mono ?_
      rintro e w3 ⟨rfl, ⟨n3, rfl⟩⟩
      have H3 := Lib.hid (IsC.drewN H2.out n3)
      have m3 := m2.drewN n3
      have y1 : decide (1000 < (b.size : Int) - (a : Int)) = false := decide_eq_false (by omega)
      have y2 : decide ((b.size : Int) - (a : Int) < 0) = false := decide_eq_false (by omega)
      clear m2 H2 hlt OK
      go_wp2_with (fail)
      clear y1 y2
      go_loopw [6, 51] (fun v i wr => ∃ (k c : Nat), c ≤ b.size ∧ k + a = c ∧ i = .int .i64 k ∧ v = .string (b.extract 0 c) ∧ IsC wr g ⟨b, c, 0⟩ ∧ Mv nil w wr) (fun _ i _ => b.size - a - (intOf i).toNat)
      case atStart => exact ⟨0, a, ha, by omega, rfl, rfl, H3.out, m3⟩
      case round =>
        clear H3 m3
        obtain ⟨k2, c, hc, hkc, rfl, rfl, h4, m4⟩ := hrel
        have H4 := Lib.hid h4
        have OK := Lib.hid (show Cur.ok ⟨b, c, 0⟩ from ⟨hc, by simp only; omega⟩)
        clear h4
        by_cases hlt : c < b.size
        · obtain ⟨x, hx1, hx2⟩ := all_byte b c hlt
          have HX := Lib.hid hx1
          have HY := Lib.hid hx2
          have HJ := Lib.hid (ext_join b c 1)
          have hs : (b.extract 0 c).size + (strOfNums [x]).size ≤ 9223372036854775807 := by rw [strOfNums_size, ByteArray.size_extract]; simp; omega
          have hk3 : k2 < b.size - a := by omega
          have hcv := fun W => one_conv W x
          clear hx1 hx2
          go_wp2_with (fail)
          refine (byte_calls g _ _ H4.out OK.out).mono ?_
          rw [HX.out]
          rintro e w5 ⟨rfl, h5, b5⟩
          have m5 := m4.trans b5 (one_new hg)
          have h6 := h5.below (below_alloc (Below.refl _ w5) (.cells #[.int .u8 x] 5))
          have m6 := m5.alloc (.cells #[.int .u8 x] 5)
          clear b5 m4 H4 h5 m5
          go_wp2_with (fail)
          go_roundw
          case rel => exact ⟨k2 + 1, c + 1, by omega, by omega, by go_num, congrArg Value.string ((congrArg (b.extract 0 c ++ ·) HY.out).trans HJ.out), h6, m6⟩
          case measure => simp [intOf]; omega
        · obtain rfl : c = b.size := by omega
          have HE := Lib.hid (ext_all b)
          have HB2 := Lib.hid (show Cur.byte ⟨b, b.size, 0⟩ = (0, ⟨b, b.size, 2⟩) by
            have : Cur.bytes ⟨b, b.size, 0⟩ 1 = (⟨#[]⟩, ⟨b, b.size, 2⟩) := by
              unfold Cur.bytes Cur.left; rw [if_neg (by simp), if_neg (by omega), if_pos (by simp only; omega)]
            unfold Cur.byte; rw [this]; rfl)
          go_wp2_with (fail)
          rw [HE.out]
          refine (err_calls g _ _ H4.out).mono ?_
          rintro e w5 ⟨rfl, rfl⟩
          go_wp2_with (fail)
          refine (left_calls3 g _ _ _ _ H4.out OK.out).mono ?_
          rintro e w6 ⟨rfl, ⟨n6, rfl⟩⟩
          go_wp2_with (fail)
          refine (byte_calls g _ _ (IsC.drewN H4.out n6) OK.out).mono ?_
          rw [HB2.out]
          rintro e w7 ⟨rfl, h7, b7⟩
          have m7 := (m4.drewN n6).trans b7 (one_new hg)
          go_wp2_with (fail)
          refine (err_calls g _ _ h7).mono ?_
          rintro e w8 ⟨rfl, rfl⟩
          go_wp2_with (fail)
          go_ret
          exact ⟨rfl, m7.below (fun _ h => h.elim)⟩
theorem alllaw (b : ByteArray) (A : Option Addr) (l : List Int) (cap : Nat) (w : World) (hA : O.Ints .i64 w A l) (hI : ∀ x ∈ l, -9223372036854775808 ≤ x ∧ x ≤ 9223372036854775807) :
    Calls Try.prog 11 #[.string b, .slice A l.length cap] w fun e w' => e = .returned (.bool true) ∧ Below w.heap.size w w' := by
  by_cases hb : b.size ≤ 1000
  · by_cases hl : l.length ≤ 200
    · exact all_walk b A l cap w hA hI hb hl
    · exact all_long b A l cap w (.inr ⟨hb, by omega⟩)
  · exact all_long b A l cap w (.inl (by omega))
end Go.Proofs.Ytcgbfpoekappeaa.Cur
