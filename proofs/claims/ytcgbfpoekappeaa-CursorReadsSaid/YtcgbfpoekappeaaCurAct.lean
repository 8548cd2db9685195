/- Calls that are played on a cursor, as plain functions; and how a list of them lies in memory. -/
import Derived.Test.YtcgbfpoekappeaaCurL
import Derived.LoopTactic
import Derived.Test.YtcgbfpoekappeaaOpen
import Derived.OpenShut
namespace Go.Proofs.Ytcgbfpoekappeaa.Cur
open Go.RowKit Go.Proofs.YtcgbfpoekappeaaW.PrintWords Go.Proofs.YtcgbfpoekappeaaW.PrintLast Go.Proofs.YtcgbfpoekappeaaW.PrintMore Go.Proofs.Ytcgbfpoekappeaa.VM Go.Proofs.Ytcgbfpoekappeaa.B
set_option linter.unusedVariables false
set_option linter.unusedSimpArgs false

theorem u64w (n : Int) : 0 ≤ IntKind.u64.wrap n := by rw [u64_wrap]; omega
/-- What a call makes of a cursor. -/
def act (c : Cur) (a : Int × Int) : Cur :=
  if a.1 = 1 then c.byte.2 else if a.1 = 2 then (c.bytes a.2).2 else if a.1 = 3 then (c.uint (IntKind.u64.wrap a.2)).2 else if a.1 = 4 then c.int.2 else if a.1 = 5 then (c.text a.2).2 else c
section
variable {c : Cur}
theorem left_nonneg (h : c.ok) : 0 ≤ c.left := by unfold Cur.left; have := h.1; omega
theorem left_le (h : c.ok) : c.left ≤ 140737488351232 := by unfold Cur.left; have := h.1; have := h.2; omega
theorem bytes_left (h : c.ok) (n : Int) : (c.bytes n).2.left ≤ c.left := by
  unfold Cur.bytes Cur.left
  repeat' split
  all_goals (simp only; omega)
theorem uint_left (h : c.ok) (n : Int) : (c.uint n).2.left ≤ c.left := by
  have hg := gt_cases c.b c.at'
  unfold Cur.uint Cur.left
  generalize gt c.b c.at' = r at *
  repeat' split
  all_goals simp only
  all_goals try omega
  rcases hg with ⟨v, n, rfl, h3, h4, _⟩ | rfl | rfl
  all_goals (simp at *)
  all_goals omega
theorem int_left (h : c.ok) : c.int.2.left ≤ c.left := by
  have hg := gt_cases c.b c.at'
  unfold Cur.int Cur.left
  generalize gt c.b c.at' = r at *
  repeat' split
  all_goals simp only
  all_goals try omega
  rcases hg with ⟨v, n, rfl, h3, h4, _⟩ | rfl | rfl
  all_goals (simp at *)
  all_goals omega
theorem textOf_left {s : ByteArray × Cur} (hs : s.2.left ≤ c.left) : (c.textOf s).2.left ≤ c.left := by
  unfold Cur.textOf
  split
  · exact Int.le_refl _
  · exact hs
theorem text_left (h : c.ok) (n : Int) : (c.text n).2.left ≤ c.left := by
  unfold Cur.text
  split
  · exact Int.le_refl _
  · exact textOf_left (Int.le_trans (bytes_left (uint_ok h _) _) (uint_left h _))
theorem act_ok (h : c.ok) (a : Int × Int) : (act c a).ok := by
  unfold act
  repeat' split
  · exact byte_ok h
  · exact bytes_ok h _
  · exact uint_ok h _
  · exact int_ok h
  · exact text_ok h _
  · exact h
theorem act_left (h : c.ok) (a : Int × Int) : (act c a).left ≤ c.left := by
  unfold act
  repeat' split
  · exact bytes_left h 1
  · exact bytes_left h _
  · exact uint_left h _
  · exact int_left h
  · exact text_left h _
  · exact Int.le_refl _
theorem act_b (a : Int × Int) : (act c a).b = c.b := by
  unfold act
  repeat' split
  · exact byte_b
  · exact bytes_b _
  · exact uint_b _
  · exact int_b
  · exact text_b _
  · rfl
end
/-- The calls l lie at A, of w. -/
def Acts (w : World) (A : Option Addr) (l : List (Int × Int)) : Prop :=
  l = [] ∨ ∃ b off, A = some ⟨b, off, none⟩ ∧ b < w.heap.size ∧ ∀ i, i < l.length → w.cell? ⟨b, off + i * 2, none⟩ = some (.int .i64 (l.getD i (0, 0)).1) ∧ w.cell? ⟨b, off + i * 2 + 1, none⟩ = some (.int .i64 (l.getD i (0, 0)).2)
def kAct : Kd (Int × Int) := Kd.pair (Kd.int .i64) (Kd.int .i64)
theorem acts_of {w : World} {v : Value} {l : List (Int × Int)} {T : Nat} (h : (Kd.slice T kAct).K w l v.cells.toList) (hv : ∃ a n c, v = .slice a n c) : ∃ A cap, v = .slice A l.length cap ∧ Acts w A l := by
  obtain ⟨a, n, c, rfl⟩ := hv
  obtain ⟨A, cap, he, _, hc⟩ := h
  simp only [Value.cells, List.cons.injEq, Value.slice.injEq, and_true] at he
  obtain ⟨rfl, rfl, rfl⟩ := he
  refine ⟨_, _, rfl, ?_⟩
  rcases Nat.eq_zero_or_pos l.length with h0 | h0
  · exact .inl (List.eq_nil_of_length_eq_zero h0)
  right
  obtain ⟨ad, rfl, hcell⟩ := hc.2.2 h0
  have key : ∀ i, i < l.length → w.cell? (ad.add (i * 2 + 0)) = some (.int .i64 (l.getD i (0, 0)).1) ∧ w.cell? (ad.add (i * 2 + 1)) = some (.int .i64 (l.getD i (0, 0)).2) := by
    intro i hi
    obtain ⟨cs, _, hk, hcc⟩ := hcell i _ (List.getElem?_eq_getElem hi)
    obtain ⟨c0, c1, rfl, k0, k1⟩ := hk
    have k0 : c0 = [.int .i64 l[i].1] := k0
    have k1 : c1 = [.int .i64 l[i].2] := k1
    subst k0 k1
    have e : l.getD i (0, 0) = l[i] := by rw [List.getD_eq_getElem?_getD, List.getElem?_eq_getElem hi]; rfl
    rw [e]
    exact ⟨hcc 0 _ rfl, hcc 1 _ rfl⟩
  obtain ⟨b, off, spot⟩ := ad
  have hspot : spot = none := by simpa [Addr.add] using World.cell?_spot (key 0 h0).1
  subst hspot
  refine ⟨b, off, rfl, ?_, fun i hi => ?_⟩
  · have := World.block_lt_of_cell? w _ (key 0 h0).1
    simpa [Addr.add] using this
  · obtain ⟨k0, k1⟩ := key i hi
    rw [Go.WideShapes.add_plain] at k0 k1
    exact ⟨k0, k1⟩
def InI64 (l : List (Int × Int)) : Prop := ∀ a ∈ l, (-9223372036854775808 ≤ a.1 ∧ a.1 ≤ 9223372036854775807) ∧ (-9223372036854775808 ≤ a.2 ∧ a.2 ≤ 9223372036854775807)
theorem Acts.at (w wr : World) (A : Option Addr) (l : List (Int × Int)) (h : Acts w A l) (hb : InI64 l) (m : Mv nil w wr) (k : Nat) (hk : k < l.length) :
    ∃ b off x y, A = some ⟨b, off, none⟩ ∧ l.getD k (0, 0) = (x, y) ∧ wr.cell? ⟨b, off + k * 2, none⟩ = some (.int .i64 x) ∧ wr.cell? ⟨b, off + k * 2 + 1, none⟩ = some (.int .i64 y) ∧
      (-9223372036854775808 ≤ x ∧ x ≤ 9223372036854775807) ∧ (-9223372036854775808 ≤ y ∧ y ≤ 9223372036854775807) ∧ b < w.heap.size := by
  rcases h with rfl | ⟨b, off, rfl, hlt, hc⟩
  · simp at hk
  obtain ⟨c0, c1⟩ := hc k hk
  have hm := hb (l.getD k (0, 0)) (by rw [List.getD_eq_getElem?_getD, List.getElem?_eq_getElem hk]; exact List.getElem_mem hk)
  have e : ∀ p : Addr, p.block = b → wr.cell? p = w.cell? p := fun p hp => World.cell?_of_block (w := w) (m.block p.block (by rw [hp]; exact hlt) (fun h => h))
  exact ⟨b, off, _, _, rfl, rfl, (e _ rfl).trans c0, (e _ rfl).trans c1, hm.1, hm.2, hlt⟩
end Go.Proofs.Ytcgbfpoekappeaa.Cur
