/- The functions of utf, called: First, Count. -/
import Derived.Test.YtkojplbbliagcaaDoorShelf
import Derived.Test.YtkojplbbliagcaaDoorWMore
import Derived.Test.YtkojplbbliagcaaDoorWRepsOne
import Derived.Lib.OthersKept
import Derived.Lib.Hide
import Derived.Lib.LaidU8
import Derived.LoopTactic
import Derived.Laws.IdiomStrings
import Derived.WalkKit
namespace Go.Proofs.YtkojplbbliagcaaDoor.U
open Go.RowKit Go.Lib Go.Proofs.YtkojplbbliagcaaDoorW.PrintWords Go.Proofs.YtkojplbbliagcaaDoorW.PrintLast Go.Proofs.YtkojplbbliagcaaDoorW.PrintMore
set_option linter.unusedVariables false
set_option linter.unusedSimpArgs false
/-- Go's tables stand. -/
def Tabs (w : World) : Prop := Utf8Tabs 0 1 w ∧ 1 < w.heap.size
/-- utf.First, from a place on. -/
def first (s : ByteArray) : Nat → Nat → Int
  | 0, _ => -1
  | k + 1, p => if p < s.size then (if (Utf8.decode s p).1 = 65533 then (if (decodeGo (s.extract p s.size)).2 ≤ 1 then (p : Int) else first s k (p + (Utf8.decode s p).2)) else first s k (p + (Utf8.decode s p).2)) else -1
theorem first_end (s : ByteArray) (k p : Nat) (h : ¬ p < s.size) : first s k p = -1 := by
  cases k with
  | zero => rfl
  | succ k => rw [first, if_neg h]
theorem width_pos (s : ByteArray) (pos : Nat) (h : pos < s.size) : 1 ≤ (Utf8.decode s pos).2 := by
  by_cases ha : (s[pos]'h).toNat < 128
  · rw [decode_ascii s pos h ha]
    exact Nat.le_refl _
  · exact (decode_high s pos h (by omega)).2
theorem iterPos_at (w : World) (k : Nat) (s : ByteArray) (p : Nat) (h : w.heap[k]? = some (.stringIter s p)) : w.iterPos k = p := by
  unfold World.iterPos
  rw [h]
set_option maxRecDepth 100000 in
theorem First_calls (s : ByteArray) (w : World) (ht : ∀ w', Below w.heap.size w w' → Utf8Tabs 0 1 w') (hs : s.size ≤ 140737488351232) :
    Calls Tryd.prog 10 #[.string s] w fun e w' => e = .returned (.int .i64 (first s (s.size + 1) 0)) ∧ Below w.heap.size w w' := by
  have HT := Lib.hid ht
  clear ht
  go_enter Tryd.func10, Tryd.ntmps10
  go_wp2
  go_loopw [3, 15] (fun _ _ wr => ∃ (pos b : Nat), wr.heap[w.heap.size]? = some (.stringIter s pos) ∧ Below w.heap.size w wr ∧ first s b pos = first s (s.size + 1) 0 ∧ s.size < pos + b) (fun _ _ wr => s.size - wr.iterPos w.heap.size)
  case atStart =>
    have hnew : (w.iter s 0).heap[w.heap.size]? = some (.stringIter s 0) := heap_alloc_new w (.stringIter s 0)
    have hbel : Below w.heap.size w (w.iter s 0) := below_alloc (Below.refl _ _) (.stringIter s 0)
    exact ⟨0, s.size + 1, hnew, hbel, rfl, by omega⟩
  case round =>
    obtain ⟨pos, b, hk, hB, hc, hb⟩ := hrel
    have HK := Lib.hid hk
    have HB := Lib.hid hB
    have HC := Lib.hid hc
    clear hB hc
    by_cases hp : pos < s.size
    · have hnx : ∀ ty, (Instr.next (.pointer (some ⟨w.heap.size, 0, none⟩)) true ty).run Tryd.prog wr = _ := fun ty => run_next_any_at wr _ s pos ty hk hp
      clear hk
      have hwd := width_pos s pos hp
      have HW := Lib.hid (iterAt_heap wr w.heap.size s pos (pos + (Utf8.decode s pos).2) HK.out)
      have HX := Lib.hid (below_iterAt HB.out (Nat.le_refl _) s (pos + (Utf8.decode s pos).2))
      have hpos := Lib.hid (iterPos_at wr w.heap.size s pos HK.out)
      obtain ⟨b, rfl⟩ : ∃ j, b = j + 1 := ⟨b - 1, by omega⟩
      have hst := HC.out
      rw [first, if_pos hp] at hst
      by_cases he : (Utf8.decode s pos).1 = 65533
      · have t1 : (((Utf8.decode s pos).1 : Int) != 65533) = false := bne_eq_false_iff_eq.mpr (by omega)
        rw [if_pos he] at hst
        have HS := Lib.hid hst
        clear hst he
        go_wp2_with (fail)
        refine (Tryd.utf8_DecodeRuneInString (s.extract pos s.size) _ (HT.out _ HX.out)).mono ?_
        rintro e w2 ⟨rfl, hb2⟩
        have HB2 := Lib.hid (below_step HX.out hb2)
        have HK2 := Lib.hid ((hb2.block w.heap.size (Array.getElem?_eq_some_iff.1 HW.out).1).trans HW.out)
        clear hb2
        by_cases hz : (decodeGo (s.extract pos s.size)).2 ≤ 1
        · have t2 : decide (((decodeGo (s.extract pos s.size)).2 : Int) ≤ 1) = true := decide_eq_true (by omega)
          have hst := HS.out
          rw [if_pos hz] at hst
          have HS2 := Lib.hid hst
          clear hst hz
          go_wp2_with (fail)
          go_ret
          exact ⟨by rw [← HS2.out]; rfl, HB2.out⟩
        · have t2 : decide (((decodeGo (s.extract pos s.size)).2 : Int) ≤ 1) = false := decide_eq_false (by omega)
          have hst := HS.out
          rw [if_neg hz] at hst
          have HS2 := Lib.hid hst
          clear hst hz
          go_wp2_with (fail)
          go_roundw
          case rel => exact ⟨_, b, HK2.out, HB2.out, HS2.out, by omega⟩
          case measure => rw [iterPos_at _ _ _ _ HK2.out, hpos.out]; omega
      · have t1 : (((Utf8.decode s pos).1 : Int) != 65533) = true := bne_iff_ne.mpr (by omega)
        rw [if_neg he] at hst
        have HS := Lib.hid hst
        clear hst he
        go_wp2_with (fail)
        go_roundw
        case rel => exact ⟨_, b, HW.out, HX.out, HS.out, by omega⟩
        case measure => rw [iterPos_at _ _ _ _ HW.out, hpos.out]; omega
    · have hnx : ∀ ty, (Instr.next (.pointer (some ⟨w.heap.size, 0, none⟩)) true ty).run Tryd.prog wr = _ := fun ty => run_next_end_at wr _ s pos ty hk hp
      clear hk
      go_wp2_with (fail)
      go_ret
      exact ⟨by rw [← HC.out, first_end s b pos hp]; rfl, HB.out⟩
/-- How many runes, from a place on. -/
def count (s : ByteArray) : Nat → Nat → Nat → Nat
  | 0, _, n => n
  | k + 1, p, n => if p < s.size then count s k (p + (Utf8.decode s p).2) (n + 1) else n
theorem count_end (s : ByteArray) (k p n : Nat) (h : ¬ p < s.size) : count s k p n = n := by
  cases k with
  | zero => rfl
  | succ k => rw [count, if_neg h]
def countOf (s : ByteArray) : Int := if first s (s.size + 1) 0 ≥ 0 then -1 else (count s (s.size + 1) 0 0 : Int)
set_option maxRecDepth 100000 in
theorem Count_calls (s : ByteArray) (w : World) (ht : ∀ w', Below w.heap.size w w' → Utf8Tabs 0 1 w') (hs : s.size ≤ 140737488351232) :
    Calls Tryd.prog 11 #[.string s] w fun e w' => e = .returned (.int .i64 (countOf s)) ∧ Below w.heap.size w w' := by
  have HT := Lib.hid ht
  clear ht
  go_enter Tryd.func11, Tryd.ntmps11
  go_wp2_with (fail)
  refine (First_calls s _ HT.out hs).mono ?_
  rintro e w0 ⟨rfl, hb0⟩
  have HB0 := Lib.hid hb0
  clear hb0
  by_cases hf : first s (s.size + 1) 0 ≥ 0
  · have t : decide (0 ≤ first s (s.size + 1) 0) = true := decide_eq_true hf
    have HF := Lib.hid hf
    clear hf
    go_wp2_with (fail)
    go_ret
    exact ⟨by rw [countOf, if_pos HF.out]; rfl, HB0.out⟩
  · have t : decide (0 ≤ first s (s.size + 1) 0) = false := decide_eq_false hf
    have HF := Lib.hid hf
    clear hf
    go_wp2_with (fail)
    clear t
    go_loopw [3] (fun v wr => ∃ (pos b n : Nat), v = .int .i64 n ∧ wr.heap[w0.heap.size]? = some (.stringIter s pos) ∧ Below w.heap.size w wr ∧ count s b pos n = count s (s.size + 1) 0 0 ∧ s.size < pos + b ∧ n ≤ pos) (fun _ wr => s.size - wr.iterPos w0.heap.size)
    case atStart =>
      have hnew : (w0.iter s 0).heap[w0.heap.size]? = some (.stringIter s 0) := heap_alloc_new w0 (.stringIter s 0)
      have hbel : Below w.heap.size w (w0.iter s 0) := below_alloc HB0.out (.stringIter s 0)
      exact ⟨0, s.size + 1, 0, rfl, hnew, hbel, rfl, by omega, Nat.le_refl _⟩
    case round =>
      obtain ⟨pos, b, n, rfl, hk, hB, hc, hb, hn⟩ := hrel
      have HK := Lib.hid hk
      have HB := Lib.hid hB
      have HC := Lib.hid hc
      clear hB hc
      by_cases hp : pos < s.size
      · have hnx : ∀ ty, (Instr.next (.pointer (some ⟨w0.heap.size, 0, none⟩)) true ty).run Tryd.prog wr = _ := fun ty => run_next_any_at wr _ s pos ty hk hp
        clear hk
        have hwd := width_pos s pos hp
        have HW := Lib.hid (iterAt_heap wr w0.heap.size s pos (pos + (Utf8.decode s pos).2) HK.out)
        have HX := Lib.hid (below_iterAt HB.out HB0.out.size s (pos + (Utf8.decode s pos).2))
        have hpos := Lib.hid (iterPos_at wr w0.heap.size s pos HK.out)
        obtain ⟨b, rfl⟩ : ∃ j, b = j + 1 := ⟨b - 1, by omega⟩
        have hst := HC.out
        rw [count, if_pos hp] at hst
        have HS := Lib.hid hst
        clear hst
        go_wp2_with (fail)
        go_roundw
        case rel => exact ⟨_, b, n + 1, by first | rfl | omega | (congr 1; omega), HW.out, HX.out, HS.out, by omega, by omega⟩
        case measure => rw [iterPos_at _ _ _ _ HW.out, hpos.out]; omega
      · have hnx : ∀ ty, (Instr.next (.pointer (some ⟨w0.heap.size, 0, none⟩)) true ty).run Tryd.prog wr = _ := fun ty => run_next_end_at wr _ s pos ty hk hp
        clear hk
        go_wp2_with (fail)
        go_ret
        exact ⟨by rw [countOf, if_neg (by have := HF.out; omega), ← HC.out, count_end s b pos n hp]; rfl, HB.out⟩
/-- The runes, from a place on. -/
def runes (s : ByteArray) : Nat → Nat → List Int
  | 0, _ => []
  | k + 1, p => if p < s.size then ((Utf8.decode s p).1 : Int) :: runes s k (p + (Utf8.decode s p).2) else []
theorem runesFrom_eq (s : ByteArray) : ∀ (k p : Nat) (acc : Array Value), Conv.runesFrom s k p acc = acc ++ ((runes s k p).map (Value.int .i32)).toArray
  | 0, _, acc => by simp [Conv.runesFrom, runes]
  | k + 1, p, acc => by
    by_cases h : p < s.size
    · simp only [Conv.runesFrom, h, if_true, runes]
      rw [runesFrom_eq s k]
      simp
    · simp [Conv.runesFrom, runes, h]
theorem runes_len (s : ByteArray) : ∀ (k p : Nat), (runes s k p).length ≤ k
  | 0, _ => Nat.le_refl _
  | k + 1, p => by
    unfold runes
    by_cases h : p < s.size
    · rw [if_pos h]
      have := runes_len s k (p + (Utf8.decode s p).2)
      simp only [List.length_cons]
      omega
    · rw [if_neg h]; exact Nat.zero_le _
def runesOf (s : ByteArray) : List Int := if first s (s.size + 1) 0 ≥ 0 then [] else runes s s.size 0
theorem reps_runes (R : Int → List Value → Prop) (h : ∀ c, R c [.int .i32 c]) : ∀ l : List Int, Reps R 1 l (l.map (Value.int .i32))
  | [] => Reps.none _ _
  | c :: l => Reps.one (h c) (reps_runes R h l)
set_option maxRecDepth 100000 in
theorem Runes_calls (s : ByteArray) (w : World) (ht : ∀ w', Below w.heap.size w w' → Utf8Tabs 0 1 w') (hs : s.size ≤ 70368744177664) :
    Calls Tryd.prog 12 #[.string s] w fun e w' => ∃ v0_ : Value, e = .returned v0_ ∧ Kd.R (Kd.int .i32) 21 w' w.heap.size (fun _ => True) v0_ (runesOf s) ∧ Below w.heap.size w w' := by
  have HT := Lib.hid ht
  clear ht
  go_enter Tryd.func12, Tryd.ntmps12
  go_wp2_with (fail)
  refine (First_calls s _ HT.out (by omega)).mono ?_
  rintro e w0 ⟨rfl, hb0⟩
  have HB0 := Lib.hid hb0
  clear hb0
  by_cases hf : first s (s.size + 1) 0 ≥ 0
  · have t : decide (0 ≤ first s (s.size + 1) 0) = true := decide_eq_true hf
    have HF := Lib.hid hf
    clear hf
    go_wp2_with (fail)
    go_ret
    exact ⟨_, rfl, by rw [runesOf, if_pos HF.out]; exact Kd.R_nil _ _ _ _ _, HB0.out⟩
  · have t : decide (0 ≤ first s (s.size + 1) 0) = false := decide_eq_false hf
    have HF := Lib.hid (show ¬ first s (s.size + 1) 0 ≥ 0 from hf)
    clear hf
    have hlen := runes_len s s.size 0
    have hcv := run_runes_of_string (P := Tryd.prog) w0 9 23 21 s Tryd.underlying9 Tryd.underlying23 Tryd.underlying21 (by rw [runesFrom_eq]; simp; omega)
    rw [runesFrom_eq s s.size 0 #[]] at hcv
    simp only [Array.empty_append, List.size_toArray, List.length_map] at hcv
    go_wp2_with (fail)
    go_ret
    have hcap := grownCap_ge w0 (runes s s.size 0).length 0 21
    have hmax := grownCap_le_maxLen w0 (runes s s.size 0).length 0 21 (by simp [maxLen]; omega)
    have hblk := heap_alloc_new w0 (.cells ((List.map (Value.int IntKind.i32) (runes s s.size 0)).toArray ++ Array.replicate (grownCap w0 (runes s s.size 0).length 0 21 - (runes s s.size 0).length) (Value.int IntKind.i32 0)) 21)
    generalize grownCap w0 (runes s s.size 0).length 0 21 = cap at *
    refine ⟨_, rfl, ?_, ?_⟩
    · apply Kd.R_drew
      rw [runesOf, if_neg (by have := HF.out; omega)]
      refine ⟨fun _ _ => trivial, (runes s s.size 0).map (Value.int .i32), ⟨by simp [Kd.int, Kd.scalar], .inr ⟨w0.heap.size, cap, _, rfl, HB0.out.size, hblk, hcap, hmax, ?_, ?_⟩⟩, reps_runes ((Kd.int .i32).M _ _ _) (fun _ => rfl) _⟩
      · simp [Kd.int, Kd.scalar]; omega
      · simp [Kd.int, Kd.scalar]
    · apply below_drew1
      exact below_alloc HB0.out _
end Go.Proofs.YtkojplbbliagcaaDoor.U
