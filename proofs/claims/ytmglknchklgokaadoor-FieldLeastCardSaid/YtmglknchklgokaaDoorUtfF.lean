/- The functions of utf, called: First, Count. -/
import Derived.Test.YtmglknchklgokaaDoorShelf
import Derived.Test.YtmglknchklgokaaDoorWMore
import Derived.Test.YtmglknchklgokaaDoorWRepsOne
import Derived.Lib.OthersKept
import Derived.Lib.Hide
import Derived.Lib.LaidU8
import Derived.LoopTactic
import Derived.Laws.IdiomStrings
import Derived.WalkKit
namespace Go.Proofs.YtmglknchklgokaaDoor.U
open Go.RowKit Go.Lib Go.Proofs.YtmglknchklgokaaDoorW.PrintWords Go.Proofs.YtmglknchklgokaaDoorW.PrintLast Go.Proofs.YtmglknchklgokaaDoorW.PrintMore
set_option linter.unusedVariables false
set_option linter.unusedSimpArgs false
/-- Go's tables stand. -/
def Tabs (w : World) : Prop := Utf8Tabs 0 1 w ∧ 1 < w.heap.size
/-- utf.First, from a place on. -/
def first (s : ByteArray) : Nat → Nat → Int
  | 0, _ => -1
  | k + 1, p => if p < s.size then (if (Utf8.decode s p).1 = 65533 then (if (decodeGo (s.extract p s.size)).2 ≤ 1 then (p : Int) else first s k (p + (Utf8.decode s p).2)) else first s k (p + (Utf8.decode s p).2)) else -1
theorem first_end (s : ByteArray) (k p : Nat) (h : ¬ p < s.size) : first s k p = -1 := by
  cases k with
  | zero => rfl
  | succ k => rw [first, if_neg h]
theorem width_pos (s : ByteArray) (pos : Nat) (h : pos < s.size) : 1 ≤ (Utf8.decode s pos).2 := by
  by_cases ha : (s[pos]'h).toNat < 128
  · rw [decode_ascii s pos h ha]
    exact Nat.le_refl _
  · exact (decode_high s pos h (by omega)).2
theorem iterPos_at (w : World) (k : Nat) (s : ByteArray) (p : Nat) (h : w.heap[k]? = some (.stringIter s p)) : w.iterPos k = p := by
  unfold World.iterPos
  rw [h]
set_option maxRecDepth 100000 in
theorem First_calls (s : ByteArray) (w : World) (ht : ∀ w', Below w.heap.size w w' → Utf8Tabs 0 1 w') (hs : s.size ≤ 140737488351232) :
    Calls Tryd.prog 47 #[.string s] w fun e w' => e = .returned (.int .i64 (first s (s.size + 1) 0)) ∧ Below w.heap.size w w' := by
  have HT := Lib.hid ht
  clear ht
  go_enter Tryd.func47, Tryd.ntmps47
  go_wp2
  go_loopw [3, 15] (fun _ _ wr => ∃ (pos b : Nat), wr.heap[w.heap.size]? = some (.stringIter s pos) ∧ Below w.heap.size w wr ∧ first s b pos = first s (s.size + 1) 0 ∧ s.size < pos + b) (fun _ _ wr => s.size - wr.iterPos w.heap.size)
  case atStart =>
    have hnew : (w.iter s 0).heap[w.heap.size]? = some (.stringIter s 0) := heap_alloc_new w (.stringIter s 0)
    have hbel : Below w.heap.size w (w.iter s 0) := below_alloc (Below.refl _ _) (.stringIter s 0)
    exact ⟨0, s.size + 1, hnew, hbel, rfl, by omega⟩
  case round =>
    obtain ⟨pos, b, hk, hB, hc, hb⟩ := hrel
    have HK := Lib.hid hk
    have HB := Lib.hid hB
    have HC := Lib.hid hc
    clear hB hc
    by_cases hp : pos < s.size
    · have hnx : ∀ ty, (Instr.next (.pointer (some ⟨w.heap.size, 0, none⟩)) true ty).run Tryd.prog wr = _ := fun ty => run_next_any_at wr _ s pos ty hk hp
      clear hk
      have hwd := width_pos s pos hp
      have HW := Lib.hid (iterAt_heap wr w.heap.size s pos (pos + (Utf8.decode s pos).2) HK.out)
      have HX := Lib.hid (below_iterAt HB.out (Nat.le_refl _) s (pos + (Utf8.decode s pos).2))
      have hpos := Lib.hid (iterPos_at wr w.heap.size s pos HK.out)
      obtain ⟨b, rfl⟩ : ∃ j, b = j + 1 := ⟨b - 1, by omega⟩
      have hst := HC.out
      rw [first, if_pos hp] at hst
      by_cases he : (Utf8.decode s pos).1 = 65533
      · have t1 : (((Utf8.decode s pos).1 : Int) != 65533) = false := bne_eq_false_iff_eq.mpr (by omega)
        rw [if_pos he] at hst
        have HS := Lib.hid hst
        clear hst he
        go_wp2_with (fail)
        refine (Tryd.utf8_DecodeRuneInString (s.extract pos s.size) _ (HT.out _ HX.out)).mono ?_
        rintro e w2 ⟨rfl, hb2⟩
        have HB2 := Lib.hid (below_step HX.out hb2)
        have HK2 := Lib.hid ((hb2.block w.heap.size (Array.getElem?_eq_some_iff.1 HW.out).1).trans HW.out)
        clear hb2
        by_cases hz : (decodeGo (s.extract pos s.size)).2 ≤ 1
        · have t2 : decide (((decodeGo (s.extract pos s.size)).2 : Int) ≤ 1) = true := decide_eq_true (by omega)
          have hst := HS.out
          rw [if_pos hz] at hst
          have HS2 := Lib.hid hst
          clear hst hz
          go_wp2_with (fail)
          go_ret
          exact ⟨by rw [← HS2.out]; rfl, HB2.out⟩
        · have t2 : decide (((decodeGo (s.extract pos s.size)).2 : Int) ≤ 1) = false := decide_eq_false (by omega)
          have hst := HS.out
          rw [if_neg hz] at hst
          have HS2 := Lib.hid hst
          clear hst hz
          go_wp2_with (fail)
          go_roundw
          case rel => exact ⟨_, b, HK2.out, HB2.out, HS2.out, by omega⟩
          case measure => rw [iterPos_at _ _ _ _ HK2.out, hpos.out]; omega
      · have t1 : (((Utf8.decode s pos).1 : Int) != 65533) = true := bne_iff_ne.mpr (by omega)
        rw [if_neg he] at hst
        have HS := Lib.hid hst
        clear hst he
        go_wp2_with (fail)
        go_roundw
        case rel => exact ⟨_, b, HW.out, HX.out, HS.out, by omega⟩
        case measure => rw [iterPos_at _ _ _ _ HW.out, hpos.out]; omega
    · have hnx : ∀ ty, (Instr.next (.pointer (some ⟨w.heap.size, 0, none⟩)) true ty).run Tryd.prog wr = _ := fun ty => run_next_end_at wr _ s pos ty hk hp
      clear hk
      go_wp2_with (fail)
      go_ret
      exact ⟨by rw [← HC.out, first_end s b pos hp]; rfl, HB.out⟩
end Go.Proofs.YtmglknchklgokaaDoor.U
