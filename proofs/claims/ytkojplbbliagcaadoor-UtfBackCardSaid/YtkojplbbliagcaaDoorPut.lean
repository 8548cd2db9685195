/- utf.Put, called: the text of characters, or none. -/
import Derived.Test.YtkojplbbliagcaaDoorShelf
import Derived.Test.YtkojplbbliagcaaDoorWMore
import Derived.Test.YtkojplbbliagcaaDoorWRepsOne
import Derived.Lib.OthersKept
import Derived.Lib.Builder
import Derived.Lib.Hide
import Derived.LoopTactic
import Derived.WalkKit
namespace Go.Proofs.YtkojplbbliagcaaDoor.U
open Go.RowKit Go.Lib Go.Proofs.YtkojplbbliagcaaDoorW.PrintWords Go.Proofs.YtkojplbbliagcaaDoorW.PrintLast Go.Proofs.YtkojplbbliagcaaDoorW.PrintMore
set_option linter.unusedVariables false
set_option linter.unusedSimpArgs false
theorem check_used (b : Nat) (w : World) (v : Value) (hb : w.heap[b]? = some (.cells #[.pointer (some ⟨b, 0, none⟩), v] 42 (0, 0))) :
    Calls Tryd.prog 23 #[.pointer (some ⟨b, 0, none⟩)] w fun e w' => e = .returned (.tuple #[]) ∧ w' = w := by
  have c0 : w.cell? ⟨b, 0, none⟩ = some (.pointer (some ⟨b, 0, none⟩)) := (blk_cell hb 0).trans rfl
  obtain ⟨j, hj, _⟩ := Option.map_eq_some_iff.1 (show (Tryd.prog.info? 42).map (·.size) = some 2 from by kernel_rfl)
  clear hb
  go_enter Tryd.func23, Tryd.ntmps23
  go_wp2
  rw [Lib.run_neq_ptr_same w _ Tryd.underlying39 hj]
  go_wp2
  go_end0
  exact ⟨rfl, rfl⟩
theorem check_fresh (b : Nat) (w : World) (v : Value) (hb : w.heap[b]? = some (.cells #[.pointer none, v] 42 (0, 0))) :
    Calls Tryd.prog 23 #[.pointer (some ⟨b, 0, none⟩)] w fun e w' => e = .returned (.tuple #[]) ∧ w' = w.setCell ⟨b, 0, none⟩ (.pointer (some ⟨b, 0, none⟩)) := by
  have c0 : w.cell? ⟨b, 0, none⟩ = some (.pointer none) := (blk_cell hb 0).trans rfl
  have f0 := blk_frozen hb 0
  have hsh : w.shape? b = some (42, 2) := by simp [World.shape?, hb]
  obtain ⟨j, hj, hjs⟩ := Option.map_eq_some_iff.1 (show (Tryd.prog.info? 42).map (·.size) = some 2 from by kernel_rfl)
  clear hb
  go_enter Tryd.func23, Tryd.ntmps23
  go_wp2
  rw [Lib.run_to_unsafe w ⟨b, 0, none⟩ Tryd.underlying39 Tryd.underlying57 hj (by rw [hjs]; decide) hsh (Nat.zero_lt_succ 1)]
  simp only [Result.andThen]
  rw [Oper.upon_value]
  go_wp2
  rw [run_callFunc_extern Tryd.func25 (by kernel_rfl) (by kernel_rfl) (by kernel_rfl) (e := Extern.AbiNoEscape.same) (by kernel_rfl)]
  rw [Lib.run_noEscape]
  simp only [Result.andThen]
  rw [Oper.upon_value]
  go_wp2
  rw [Lib.run_from_unsafe w ⟨b, 0, none⟩ Tryd.underlying57 Tryd.underlying39 hj hsh (by kernel_rfl)]
  simp only [Result.andThen]
  rw [Oper.upon_value]
  go_wp2
  go_end0
  exact ⟨rfl, rfl⟩
/-- A builder at block b that holds these bytes: fresh or written. -/
def IsB (B b : Nat) (bs : List Value) (w : World) : Prop := Lib.IsBuilder 42 5 B b bs w
theorem check_calls (B b : Nat) (bs : List Value) (w : World) (h : IsB B b bs w) :
    Calls Tryd.prog 23 #[.pointer (some ⟨b, 0, none⟩)] w fun e w' => e = .returned (.tuple #[]) ∧ Lib.BuilderAt 42 5 B b (.pointer (some ⟨b, 0, none⟩)) bs w' ∧ Go.RowKit.Below B w w' := by
  rcases h with h | h
  · obtain ⟨hB, v, hb, ho, hn⟩ := id h
    refine (check_fresh b w v hb).mono ?_
    rintro e w' ⟨rfl, rfl⟩
    exact ⟨rfl, h.used _, (Below.refl B w).setCell (p := ⟨b, 0, none⟩) hB _⟩
  · obtain ⟨hB, v, hb, ho, hn⟩ := id h
    refine (check_used b w v hb).mono ?_
    rintro e w' ⟨rfl, rfl⟩
    exact ⟨rfl, h, Below.refl B _⟩
set_option maxHeartbeats 4000000 in
set_option maxRecDepth 100000 in
theorem WriteRune_calls (B b : Nat) (bs : List Value) (r : Int) (hr0 : -2147483648 ≤ r) (hr1 : r ≤ 2147483647) (w : World) (h : IsB B b bs w) (hlen : bs.length + 4 ≤ 140737488355328) (hBw : B ≤ w.heap.size) :
    Calls Tryd.prog 19 #[.pointer (some ⟨b, 0, none⟩), .int .i32 r] w fun e w' => e = .returned (.tuple #[.int .i64 (Lib.runeCells r).length, .nilIface]) ∧ IsB B b (bs ++ Lib.runeCells r) w' ∧ Go.RowKit.Below B w w' := by
  have hk4 := Lib.runeCells_le r
  go_enter Tryd.func19, Tryd.ntmps19
  go_wp2_with (fail)
  refine (check_calls B b bs _ h).mono ?_
  rintro e w1 ⟨rfl, h1, hb1⟩
  obtain ⟨hB, v, hbk, hown, hne⟩ := h1
  obtain ⟨ao, cap, rfl⟩ : ∃ ao cap, v = .slice ao bs.length cap := by
    rcases hown.2 with ⟨hv, h0⟩ | ⟨g, cap, cur, hv, _⟩
    · exact ⟨none, 0, by rw [hv, h0]⟩
    · exact ⟨_, _, hv⟩
  have c0 : w1.cell? ⟨b, 0, none⟩ = some (.pointer (some ⟨b, 0, none⟩)) := (blk_cell hbk 0).trans rfl
  have c1 : w1.cell? ⟨b, 1, none⟩ = some (.slice ao bs.length cap) := (blk_cell hbk 1).trans rfl
  go_wp2_with (fail)
  refine (Tryd.utf8_AppendRune_plain B _ bs.length bs r hr0 hr1 _ hown hlen (Nat.le_trans hBw hb1.size)).mono ?_
  rintro e w2 ⟨v', rfl, hown', o, hgrow⟩
  have hlt : b < w1.heap.size := blk_lt hbk
  have hb2 : w2.heap[b]? = some (.cells #[.pointer (some ⟨b, 0, none⟩), .slice ao bs.length cap] 42 (0, 0)) := by
    rw [hgrow.block b (by simp; omega) (fun e => hne e.symm)]
    exact blk_alloc hbk o
  have d0 : w2.cell? ⟨b, 0, none⟩ = some (.pointer (some ⟨b, 0, none⟩)) := (blk_cell hb2 0).trans rfl
  have d1 : w2.cell? ⟨b, 1, none⟩ = some (.slice ao bs.length cap) := (blk_cell hb2 1).trans rfl
  have f1 : w2.frozen? ⟨b, 1, none⟩ = false := blk_frozen hb2 1
  obtain ⟨g, cap', rfl⟩ : ∃ g cap', v' = .slice (some ⟨g, 0, none⟩) (bs.length + (Lib.runeCells r).length) cap' := by
    rcases hown'.2 with ⟨_, h0⟩ | ⟨g, cap', cur, hv, _⟩
    · omega
    · exact ⟨g, cap', hv⟩
  have HB2 := Lib.hid hb2
  have HO := Lib.hid hown'
  have HG := Lib.hid hgrow
  have HN := Lib.hid hne
  have HW := Lib.hid hown
  clear hb2 hown' hgrow hbk hne hown
  go_wp2_with (fail)
  go_ret2
  refine ⟨?_, ?_, ?_⟩
  · have e : ((bs.length : Int) + ((Lib.runeCells r).length : Int) - (bs.length : Int)) = ((Lib.runeCells r).length : Int) := by omega
    simp [e]
  · exact .inr (Lib.BuilderAt.put (T := 42) (e := 5) hB HB2.out (bs' := bs ++ Lib.runeCells r) (by simpa using HO.out) (by decide))
  · exact ((hb1.alloc (Nat.le_trans hBw hb1.size) _).grown HG.out (by have := hb1.size; simp; omega) (fun k hk => by rcases HW.out.2 with ⟨e, _⟩ | ⟨g2, c2, cur2, e, hg2, _⟩ <;> simp [e, Value.ownBlock] at hk; subst hk; exact hg2)).setCell (p := ⟨b, 1, none⟩) hB _
/-- The text of characters; none. -/
def putL : List Int → List UInt8 → List UInt8 × Bool
  | [], acc => (acc, true)
  | x :: l, acc => if Lib.validRune x = true then putL l (acc ++ Lib.encodeRune x) else ([], false)
theorem enc_len (x : Int) : (Lib.encodeRune x).length ≤ 4 := by
  have h := (Lib.runeCells_le x).2
  rw [← Lib.byteCells_encodeRune] at h
  simpa [Lib.byteCells] using h
set_option maxHeartbeats 4000000 in
set_option maxRecDepth 100000 in
theorem Put_calls (A : Option Addr) (c : Nat) (l : List Int) (w : World) (hr : Kd.C (Kd.int .i32) w A l.length l) (hl : l.length ≤ 1000000) :
    Calls Tryd.prog 14 #[.slice A l.length c] w fun e w' => e = .returned (.tuple #[.string ⟨(putL l []).1.toArray⟩, .bool (putL l []).2]) ∧ Go.RowKit.Below w.heap.size w w' := by
  have HR := Lib.hid hr
  clear hr
  go_enter Tryd.func14, Tryd.ntmps14
  go_wp2_with (fail)
  go_loopw [6, 9] (fun _ v wr => ∃ (k : Nat) (acc : List UInt8), k ≤ l.length ∧ v = .int .i64 k ∧ acc.length ≤ 4 * k ∧ IsB w.heap.size w.heap.size (Lib.byteCells acc) wr ∧ Go.RowKit.Below w.heap.size w wr ∧ w.heap.size < wr.heap.size ∧ putL (l.drop k) acc = putL l []) (fun _ v _ => l.length - (Go.RowKit.intOf v).toNat)
  case atStart =>
    have hnew := heap_alloc_new w (.cells #[.pointer none, .slice none 0 0] 42)
    exact ⟨0, [], Nat.zero_le _, rfl, Nat.zero_le _, .inl ⟨Nat.le_refl _, _, hnew, ⟨by simp [Lib.byteCells], .inl ⟨rfl, rfl⟩⟩, by simp [Value.ownBlock]⟩, below_alloc (Go.RowKit.Below.refl _ _) _, by simp, by simp⟩
  case round =>
    obtain ⟨k, acc, hk, rfl, ha, hB, hb, hsz, hp⟩ := hrel
    have HB := Lib.hid hB
    have HW := Lib.hid hb
    have HP := Lib.hid hp
    clear hB hb hp
    by_cases hlt : k < l.length
    · have t1 : decide ((k : Int) < l.length) = true := decide_eq_true (by omega)
      obtain ⟨ad, cs, rfl, _, hK, hc0⟩ := Kd.C_get (Kd.C_below HR.out HW.out) (0 : Int) (k : Int) (by omega) (by omega)
      obtain rfl : cs = [.int .i32 (l.getD (k : Int).toNat 0)] := hK
      have c0 : wr.cell? (ad.add k) = some (.int .i32 (l.getD k 0)) := by
        have := hc0 0 _ rfl
        rw [show (Kd.int IntKind.i32).sz = 1 from rfl, Nat.mul_one, Nat.add_zero, Int.toNat_natCast] at this
        exact this
      have hd : l.drop k = l.getD k 0 :: l.drop (k + 1) := by
        rw [List.drop_eq_getElem_cons hlt, List.getD_eq_getElem?_getD, List.getElem?_eq_getElem hlt]
        rfl
      have hp := HP.out
      rw [hd, putL] at hp
      clear hc0 hd
      generalize l.getD k 0 = x at *
      go_wp2_with (fail)
      refine (Tryd.utf8_ValidRune x _).mono ?_
      rintro e w1 ⟨rfl, rfl⟩
      by_cases hv : Lib.validRune x = true
      · rw [if_pos hv] at hp
        have HP1 := Lib.hid hp
        have hx : -2147483648 ≤ x ∧ x ≤ 2147483647 := by
          have := of_decide_eq_true hv
          omega
        clear hp
        have el := enc_len x
        rw [hv]
        go_wp2_with (fail)
        refine (WriteRune_calls w.heap.size w.heap.size (Lib.byteCells acc) x hx.1 hx.2 _ HB.out (by simp [Lib.byteCells]; omega) HW.out.size).mono ?_
        rintro e w2 ⟨rfl, h2, hb2⟩
        have H2 := Lib.hid h2
        have HB2 := Lib.hid hb2
        clear h2 hb2
        go_wp2_with (fail)
        go_roundw
        case rel => exact ⟨k + 1, acc ++ Lib.encodeRune x, by omega, by first | rfl | (congr 1; omega), by rw [List.length_append]; omega, by have := H2.out; rwa [← Lib.byteCells_encodeRune, show Lib.byteCells acc ++ Lib.byteCells (Lib.encodeRune x) = Lib.byteCells (acc ++ Lib.encodeRune x) from by simp [Lib.byteCells]] at this, HW.out.trans HB2.out, Nat.lt_of_lt_of_le hsz HB2.out.size, HP1.out⟩
        case measure => simp only [Go.RowKit.intOf]; omega
      · rw [if_neg hv] at hp
        have hv2 : Lib.validRune x = false := by simpa using hv
        rw [hv2]
        have HP1 := Lib.hid hp
        clear hp
        go_wp2_with (fail)
        go_ret2
        exact ⟨by rw [← HP1.out]; rfl, HW.out⟩
    · have t1 : decide ((k : Int) < l.length) = false := decide_eq_false (by omega)
      obtain rfl : k = l.length := by omega
      have hp := HP.out
      rw [List.drop_length, putL] at hp
      go_wp2_with (fail)
      refine (Tryd.Builder_String_any w.heap.size w.heap.size acc _ HB.out HW.out.size).mono ?_
      rintro e w2 ⟨rfl, hb2⟩
      go_wp2_with (fail)
      go_ret2
      exact ⟨by rw [← hp]; rfl, HW.out.trans hb2⟩
end Go.Proofs.YtkojplbbliagcaaDoor.U
